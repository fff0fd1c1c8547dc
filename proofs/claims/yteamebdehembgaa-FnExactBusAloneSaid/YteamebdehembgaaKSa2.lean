/-
  AtmDo of the reference (printed by wip/gen_sad.py).
-/
import Derived.Test.YteamebdehembgaaJSa0
import Derived.Outline
set_option linter.unusedVariables false
set_option linter.unusedSimpArgs false
namespace Go.Proofs.Yteamebdehembgaa
open Go.RowKit

/-- What l4Do has told, as a value: all its memory new behind w0. -/
def RF (w0 w : World) (v : Value) (x : List Int × List Int × Rs) : Prop :=
  ∃ a b d, v = .tuple #[.agg #[a, b], .agg #[.int .i64 x.2.2.id, .int .i64 x.2.2.code, d]] ∧ Owns w w0.heap.size 3 1 rowI a x.1 ∧ Owns w w0.heap.size 3 1 rowI b x.2.1 ∧ Owns w w0.heap.size 3 1 rowI d x.2.2.data ∧ Apart a b
theorem RF.below {w0 w w' : World} {v : Value} {x : List Int × List Int × Rs} (h : RF w0 w v x) (hb : Below w.heap.size w w') : RF w0 w' v x := by
  obtain ⟨a, b, d, e, o1, o2, o3, i⟩ := h; exact ⟨a, b, d, e, o1.below hb, o2.below hb, o3.below hb, i⟩
theorem RF.boxA {w0 w w' : World} {v : Value} {x : List Int × List Int × Rs} {g : Nat} {p q : Value} (h : RF w0 w v x) (hA : BoxA w g p q) (ht : Touch g w w') : RF w0 w' v x := by
  obtain ⟨a, b, d, e, o1, o2, o3, i⟩ := h; exact ⟨a, b, d, e, o1.boxA hA ht, o2.boxA hA ht, o3.boxA hA ht, i⟩
theorem RF.boxR {w0 w w' : World} {v : Value} {x : List Int × List Int × Rs} {g : Nat} {p q : Int} {d : Value} (h : RF w0 w v x) (hA : BoxR w g p q d) (ht : Touch g w w') : RF w0 w' v x := by
  obtain ⟨a, b, d, e, o1, o2, o3, i⟩ := h; exact ⟨a, b, d, e, o1.boxR hA ht, o2.boxR hA ht, o3.boxR hA ht, i⟩
theorem BoxA.ne {w : World} {g g' : Nat} {a b d : Value} {i c : Int} (h : BoxA w g a b) (h' : BoxR w g' i c d) : g' ≠ g := by
  intro e; subst e
  unfold BoxA at h; unfold BoxR at h'
  rw [h] at h'
  simp at h'
theorem SIn.below {w w' : World} {B gw ow cw gh oh ch : Nat} {ws hs : List Int} (h : SIn w B gw ow cw gh oh ch ws hs) (hb : Below w.heap.size w w') : SIn w' B gw ow cw gh oh ch ws hs :=
  ⟨h.ww.below hb, h.hh.below hb, h.ne, h.lw, h.lh, h.c1, h.c2⟩
theorem sin_of {w : World} {base : Nat} {wv hv : Value} {ws hs : List Int} (h1 : Owns w base 3 1 rowI wv ws) (h2 : Owns w base 3 1 rowI hv hs) (ha : Apart wv hv) (lw : ws.length = 64) (lh : hs.length = 6) :
    ∃ gw ow cw gh oh ch, wv = .slice (some ⟨gw, ow, none⟩) 64 cw ∧ hv = .slice (some ⟨gh, oh, none⟩) 6 ch ∧ SIn w base gw ow cw gh oh ch ws hs := by
  obtain ⟨gw, ow, cw, rfl, c1, g1, g2⟩ := h1.someI (by omega)
  obtain ⟨gh, oh, ch, rfl, c2, k1, k2⟩ := h2.someI (by omega)
  have hne : gw ≠ gh := by
    intro e; exact ha gw rfl (by rw [e]; rfl)
  rw [lw] at c1; rw [lh] at c2
  simp only [lw, lh] at h1 h2 ⊢
  exact ⟨gw, ow, cw, gh, oh, ch, rfl, rfl, ⟨h1, h2, hne, lw, lh, c1, c2⟩⟩
theorem boxes_new (w : World) (o p : Obj) :
    BoxA ((((w.alloc o).alloc p).alloc (.cells #[.slice none 0 0, .slice none 0 0] 40)).alloc (.cells #[.int .i64 0, .int .i64 0, .slice none 0 0] 66)) (w.heap.size + 1 + 1) (.slice none 0 0) (.slice none 0 0) ∧
    BoxR ((((w.alloc o).alloc p).alloc (.cells #[.slice none 0 0, .slice none 0 0] 40)).alloc (.cells #[.int .i64 0, .int .i64 0, .slice none 0 0] 66)) (w.heap.size + 1 + 1 + 1) 0 0 (.slice none 0 0) := by
  refine ⟨?_, ?_⟩
  · have h := BoxA.new ((w.alloc o).alloc p) (.slice none 0 0) (.slice none 0 0)
    have h2 := h.below ((Below.refl _ _).alloc (Nat.le_refl _) (.cells #[.int .i64 0, .int .i64 0, .slice none 0 0] 66)) (by simp)
    simpa using h2
  · have h := BoxR.new (((w.alloc o).alloc p).alloc (.cells #[.slice none 0 0, .slice none 0 0] 40)) 0 0 (.slice none 0 0)
    simpa using h
theorem Touch2.transN {a b x : Nat} {u v w : World} (h : Touch2 a b u v) (ht : Touch x v w) (hx : x = a ∨ x = b ∨ u.heap.size ≤ x) : Touch2 a b u w :=
  ⟨ht.os.trans h.os, ht.tape.trans h.tape, ht.output.trans h.output, Nat.le_trans h.size ht.size, fun k hk h1 h2 => (ht.block k (Nat.lt_of_lt_of_le hk h.size) (by omega)).trans (h.block k hk h1 h2)⟩

theorem Owns.touch2 {w w' : World} {base p q : Nat} {v : Value} {xs : List Int} (h : Owns w base 3 1 rowI v xs) (ht : Touch2 p q w w') (hg : ∀ k, v.ownBlock = some k → k ≠ p ∧ k ≠ q) : Owns w' base 3 1 rowI v xs :=
  OwnR.kept h fun k hk => ht.block k (OwnR.lt h k hk).2 (hg k hk).1 (hg k hk).2
def adA (v wv hv2 : Value) (who id kind addr many : Int) (wp : Bool) (dv lv : Value) (s sA s1 s2 : Nat) (u10 u11 u12 u13 u14 u15 u16 u17 u18 u19 u20 u21 u22 u23 u24 u25 u26 u27 u28 u29 u32 u33 u34 u35 u36 u37 u38 u39 u40 : Value) : Act := { tmps := #[v, .agg #[wv, hv2], .int .i64 who, .agg #[.int .i64 id, .int .i64 kind, .int .i64 addr, .int .i64 many, .bool wp, dv, lv], undef, .pointer (some ⟨s, 0, none⟩), undef, .pointer (some ⟨sA, 0, none⟩), .pointer (some ⟨s1, 0, none⟩), .pointer (some ⟨s2, 0, none⟩), u10, u11, u12, u13, u14, u15, u16, u17, u18, u19, u20, u21, u22, u23, u24, u25, u26, u27, u28, u29, undef, undef, u32, u33, u34, u35, u36, u37, u38, u39, u40, undef, undef, undef, undef, undef, undef, undef, undef, undef, undef], defers := [] }
def adI (v wv hv2 : Value) (who id kind addr many : Int) (wp : Bool) (dv lv : Value) (s sA s1 s2 : Nat) (ws hs : List Int) (x : List Int × List Int × Rs) (w0 : World) (listed : Array Bool) (a : Act) (w' : World) : Prop :=
  ∃ u10 u11 u12 u13 u14 u15 u16 u17 u18 u19 u20 u21 u22 u23 u24 u25 u26 u27 u28 u29 u32 u33 u34 u35 u36 u37 u38 u39 u40 : Value, a = adA v wv hv2 who id kind addr many wp dv lv s sA s1 s2 u10 u11 u12 u13 u14 u15 u16 u17 u18 u19 u20 u21 u22 u23 u24 u25 u26 u27 u28 u29 u32 u33 u34 u35 u36 u37 u38 u39 u40 ∧
      (listed.getD 0 false = true → u33 = v) ∧
      (listed.getD 1 false = true → u34 = .agg #[wv, hv2]) ∧
      (listed.getD 2 false = true → listed.getD 5 false = false → ∃ gw ow cw gh oh ch, u35 = .agg #[.slice (some ⟨gw, ow, none⟩) 64 cw, .slice (some ⟨gh, oh, none⟩) 6 ch] ∧ SIn w' w0.heap.size gw ow cw gh oh ch ws hs) ∧
      (listed.getD 3 false = true → u36 = .int .i64 who) ∧
      (listed.getD 4 false = true → u37 = .agg #[.int .i64 id, .int .i64 kind, .int .i64 addr, .int .i64 many, .bool wp, dv, lv]) ∧
      (listed.getD 5 false = true → RF w0 w' u38 x) ∧
      (listed.getD 6 false = true → RF w0 w' u32 x) ∧
      (listed.getD 7 false = true → ∃ y, u32 = .tuple #[u39, y]) ∧
      (listed.getD 8 false = true → ∃ y, u32 = .tuple #[y, u40]) ∧
      (listed.getD 9 false = true → listed.getD 11 false = false → ∃ g, u10 = .pointer (some ⟨g, 0, none⟩) ∧ w0.heap.size ≤ g ∧ BoxA w' g (.slice none 0 0) (.slice none 0 0)) ∧
      (listed.getD 10 false = true → listed.getD 12 false = false → ∃ g, u11 = .pointer (some ⟨g, 0, none⟩) ∧ w0.heap.size ≤ g ∧ BoxR w' g 0 0 (.slice none 0 0)) ∧
      (listed.getD 11 false = true → ∃ g a b, u10 = .pointer (some ⟨g, 0, none⟩) ∧ w0.heap.size ≤ g ∧ BoxA w' g a b ∧ u39 = .agg #[a, b]) ∧
      (listed.getD 12 false = true → ∃ g i c d, u11 = .pointer (some ⟨g, 0, none⟩) ∧ w0.heap.size ≤ g ∧ BoxR w' g i c d ∧ u40 = .agg #[.int .i64 i, .int .i64 c, d]) ∧
      Below w0.heap.size w0 w'
def aeA (v wv hv2 : Value) (who id kind addr many : Int) (wp : Bool) (dv lv : Value) (s sA s1 s2 : Nat) (ga gr : Nat) (u12 u13 u14 u15 u16 u17 u18 u19 u20 u21 u22 u23 u24 u25 u26 u27 u28 u29 u30 u31 u32 u33 u34 u35 u36 u37 u38 u39 u40 u41 u42 u43 u44 u45 u46 u47 u48 u49 u50 : Value) : Act := { tmps := #[v, .agg #[wv, hv2], .int .i64 who, .agg #[.int .i64 id, .int .i64 kind, .int .i64 addr, .int .i64 many, .bool wp, dv, lv], undef, .pointer (some ⟨s, 0, none⟩), undef, .pointer (some ⟨sA, 0, none⟩), .pointer (some ⟨s1, 0, none⟩), .pointer (some ⟨s2, 0, none⟩), .pointer (some ⟨ga, 0, none⟩), .pointer (some ⟨gr, 0, none⟩), u12, u13, u14, u15, u16, u17, u18, u19, u20, u21, u22, u23, u24, u25, u26, u27, u28, u29, u30, u31, u32, u33, u34, u35, u36, u37, u38, u39, u40, u41, u42, u43, u44, u45, u46, u47, u48, u49, u50], defers := [] }
def aeI (v wv hv2 : Value) (who id kind addr many : Int) (wp : Bool) (dv lv : Value) (s sA s1 s2 : Nat) (ga gr : Nat) (va vb vd : Value) (x : List Int × List Int × Rs) (wq : World) (listed : Array Bool) (a : Act) (w' : World) : Prop :=
  ∃ u12 u13 u14 u15 u16 u17 u18 u19 u20 u21 u22 u23 u24 u25 u26 u27 u28 u29 u30 u31 u32 u33 u34 u35 u36 u37 u38 u39 u40 u41 u42 u43 u44 u45 u46 u47 u48 u49 u50 : Value, a = aeA v wv hv2 who id kind addr many wp dv lv s sA s1 s2 ga gr u12 u13 u14 u15 u16 u17 u18 u19 u20 u21 u22 u23 u24 u25 u26 u27 u28 u29 u30 u31 u32 u33 u34 u35 u36 u37 u38 u39 u40 u41 u42 u43 u44 u45 u46 u47 u48 u49 u50 ∧
      (listed.getD 0 false = true → u41 = .agg #[va, vb]) ∧
      (listed.getD 1 false = true → u42 = .pointer (some ⟨gr, 0, none⟩)) ∧
      (listed.getD 2 false = true → u43 = .int .i64 x.2.2.id) ∧
      (listed.getD 3 false = true → u44 = .pointer (some ⟨gr, 1, none⟩)) ∧
      (listed.getD 4 false = true → u45 = .int .i64 x.2.2.code) ∧
      (listed.getD 5 false = true → listed.getD 8 false = false → ∃ g, u46 = .slice (some ⟨g, 0, none⟩) 0 0 ∧ wq.heap.size ≤ g ∧ w'.heap[g]? = some (.cells #[] 3 (0, 0))) ∧
      (listed.getD 6 false = true → u47 = .pointer (some ⟨gr, 2, none⟩)) ∧
      (listed.getD 7 false = true → u48 = vd) ∧
      (listed.getD 8 false = true → Owns w' wq.heap.size 3 1 rowI u49 x.2.2.data) ∧
      (listed.getD 9 false = true → ∃ d, u50 = .agg #[.int .i64 x.2.2.id, .int .i64 x.2.2.code, d] ∧ Owns w' wq.heap.size 3 1 rowI d x.2.2.data) ∧
      (listed.getD 10 false = true → BoxA w' s1 va vb) ∧
      (listed.getD 11 false = true → ∃ d, BoxR w' s2 x.2.2.id x.2.2.code d ∧ Owns w' wq.heap.size 3 1 rowI d x.2.2.data) ∧
      (listed.getD 10 false = false → BoxA w' s1 (.slice none 0 0) (.slice none 0 0)) ∧
      (listed.getD 11 false = false → BoxR w' s2 0 0 (.slice none 0 0)) ∧
      Touch2 s1 s2 wq w'
set_option maxRecDepth 4000 in
set_option maxHeartbeats 8000000 in
theorem specAtmDo_no (v sv u : Value) (ms : List MR) (B : Nat) (ws hs : List Int) (who : Int) (r : Rq) (w : World) (hv : Maps w B v ms) (hs1 : AtmV w B sv ws hs) (hu : ReqV w B u r) (hB : B ≤ w.heap.size)
    (hno : (mapOk ms && atmOk ws hs && inB who 0 2 && reqOk r) = false) :
    Calls Try.prog 29 #[v, sv, .int .i64 who, u] w (AtmDoP ([], [], ⟨0, 0, []⟩) w) := by
  have HV := hid hv; have HS := hid hs1; have HU := hid hu
  obtain ⟨wv, hv2, rfl, s1, s2⟩ := hs1
  obtain ⟨dv, lv, rfl, k1, k2, k3⟩ := hu
  have hc : mapOk ms = false ∨ (mapOk ms = true ∧ atmOk ws hs = false) ∨ (mapOk ms = true ∧ atmOk ws hs = true ∧ inB who 0 2 = false) ∨ (mapOk ms = true ∧ atmOk ws hs = true ∧ inB who 0 2 = true ∧ reqOk r = false) := by
    rcases h1 : mapOk ms with _ | _ <;> rcases h2 : atmOk ws hs with _ | _ <;> rcases h3 : inB who 0 2 with _ | _ <;> simp_all
  clear hv k1 k2 k3 hno s1 s2
  obtain ⟨id, kind, addr, many, wp, data, lanes⟩ := r
  have HAB := hid (fun T U V X => ad_open w wv hv2 id kind addr many wp dv lv T U V X)
  have h4 := hid (show ∀ (T U V X : TypeId), Below w.heap.size w ((((w.alloc (.cells #[wv, hv2] T)).alloc (.cells #[.int .i64 id, .int .i64 kind, .int .i64 addr, .int .i64 many, .bool wp, dv, lv] U)).alloc (.cells #[.slice none 0 0, .slice none 0 0] V)).alloc (.cells #[.int .i64 0, .int .i64 0, .slice none 0 0] X)) from fun T U V X => ((((Below.refl _ _).alloc (Nat.le_refl _) _).alloc (by simp) _).alloc (by simp; omega) _).alloc (by simp; omega) _)
  go_enter Try.func29, Try.ntmps29
  rcases hc with h1 | ⟨h1, h2⟩ | ⟨h1, h2, h3⟩ | ⟨h1, h2, h3, h5⟩
  all_goals
    go_wp2_with (first
      | (go_at_call 61; refine (specMapOk_any _ ms B _ (HV.out.below ((h4.out _ _ _ _).mono hB)) (by first | (simp; done) | (simp; omega))).mono ?_; rw [h1]; rintro e w1 ⟨rfl, hb1⟩; have HAB1 := hid ((HAB.out _ _ _ _).below hb1 (by first | (simp; done) | (simp; omega))); obtain ⟨⟨a0, a1⟩, ⟨f0, f1, f2, f3, f4, f5, f6⟩, ⟨g0, g1, g2, g3⟩, ⟨r0, r1, r2, r3, r4, r5⟩⟩ := HAB1.out; have HB := hid ((h4.out _ _ _ _).trans (hb1.mono (by first | (simp; done) | (simp; omega)))); clear hb1)
      | (go_at_call 100; refine (specAtmOk_any _ ws hs B _ (HS.out.below (HB.out.mono hB)) (Nat.le_trans hB HB.out.size)).mono ?_; rw [h2]; rintro e w1 ⟨rfl, hb1⟩; have HAB1 := hid (HAB1.out.below hb1 HAB1.out.lt); obtain ⟨⟨a0, a1⟩, ⟨f0, f1, f2, f3, f4, f5, f6⟩, ⟨g0, g1, g2, g3⟩, ⟨r0, r1, r2, r3, r4, r5⟩⟩ := HAB1.out; have HB := hid (HB.out.trans (hb1.mono HB.out.size)); clear hb1)
      | (go_at_call 60; refine (l1In_any _ _ _ _).mono ?_; rw [h3]; rintro e w' ⟨rfl, rfl⟩)
      | (go_at_call 101; refine (specReqOk_any _ _ B _ (HU.out.below (HB.out.mono hB)) (Nat.le_trans hB HB.out.size)).mono ?_; rw [h5]; rintro e w1 ⟨rfl, hb1⟩; have HAB1 := hid (HAB1.out.below hb1 HAB1.out.lt); obtain ⟨⟨a0, a1⟩, ⟨f0, f1, f2, f3, f4, f5, f6⟩, ⟨g0, g1, g2, g3⟩, ⟨r0, r1, r2, r3, r4, r5⟩⟩ := HAB1.out; have HB := hid (HB.out.trans (hb1.mono HB.out.size)); clear hb1))
    have hbE := hid (((((HB.out.setCell (p := ⟨w.heap.size + 1 + 1, 0, none⟩) (by simp; try omega) (.slice none 0 0)).setCell (p := ⟨w.heap.size + 1 + 1, 1, none⟩) (by simp; try omega) (.slice none 0 0)).setCell (p := ⟨w.heap.size + 1 + 1 + 1, 0, none⟩) (by simp; try omega) (.int .i64 0)).setCell (p := ⟨w.heap.size + 1 + 1 + 1, 1, none⟩) (by simp; try omega) (.int .i64 0)).setCell (p := ⟨w.heap.size + 1 + 1 + 1, 2, none⟩) (by simp; try omega) (.slice none 0 0))
    refine bodyPost_ret (results_c2 Try.results29 _ _ ⟨w.heap.size + 1 + 1, 0, none⟩ ⟨w.heap.size + 1 + 1 + 1, 0, none⟩ (.agg #[.slice none 0 0, .slice none 0 0]) (.agg #[.int .i64 0, .int .i64 0, .slice none 0 0]) rfl rfl ?_ ?_) rfl ?_
    · exact loadVar_atm _ _ _ _ (by simp [go_sem, g0]) (by simp [go_sem, g1])
    · exact loadVar_rsp _ _ _ _ _ (by simp [go_sem, r0]) (by simp [go_sem, r1]) (by simp [go_sem, r2])
    exact ⟨_, _, _, rfl, Owns.zero, Owns.zero, Owns.zero, fun k hk => by simp [Value.ownBlock] at hk, fun k hk => by simp [Value.ownBlock] at hk, fun k hk => by simp [Value.ownBlock] at hk, hbE.out⟩


set_option maxRecDepth 4000 in
set_option maxHeartbeats 8000000 in
theorem specAtmDo_yes (v sv u : Value) (ms : List MR) (B : Nat) (ws hs : List Int) (who : Int) (r : Rq) (w : World) (hv : Maps w B v ms) (hs1 : AtmV w B sv ws hs) (hu : ReqV w B u r) (hB : B ≤ w.heap.size)
    (h1 : mapOk ms = true) (h2 : atmOk ws hs = true) (h3 : inB who 0 2 = true) (h5 : reqOk r = true) :
    Calls Try.prog 29 #[v, sv, .int .i64 who, u] w (AtmDoP (doReq ms ws hs who r) w) := by
  have HV := hid hv; have HS := hid hs1; have HU := hid hu
  obtain ⟨wv, hv2, rfl, s1, s2⟩ := hs1
  obtain ⟨dv, lv, rfl, k1, k2, k3⟩ := hu
  have hl : ws.length = 64 ∧ hs.length = 6 ∧ ws.all wordOk = true := by
    have h2' := h2
    simp only [atmOk, memOk, Bool.and_eq_true, beq_iff_eq] at h2'
    exact ⟨h2'.1.1.1, h2'.1.2, h2'.1.1.2⟩
  have HL := hid hl
  clear hv k1 k2 k3 s1 s2 hl
  obtain ⟨x, hx⟩ : ∃ x, x = doReq ms ws hs who r := ⟨_, rfl⟩
  rw [← hx]
  have HX := hid hx; clear hx
  have HSM := hid (show Small x by rw [HX.out]; have := atmDo_small ms ws hs who r; rwa [atmDo, if_pos (by simp [h1, h2, h3, h5])] at this)
  have HWHO := hid h3; have HRQ := hid h5
  obtain ⟨id, kind, addr, many, wp, data, lanes⟩ := r
  have HAB := hid (fun T U V X => ad_open w wv hv2 id kind addr many wp dv lv T U V X)
  have h4 := hid (show ∀ (T U V X : TypeId), Below w.heap.size w ((((w.alloc (.cells #[wv, hv2] T)).alloc (.cells #[.int .i64 id, .int .i64 kind, .int .i64 addr, .int .i64 many, .bool wp, dv, lv] U)).alloc (.cells #[.slice none 0 0, .slice none 0 0] V)).alloc (.cells #[.int .i64 0, .int .i64 0, .slice none 0 0] X)) from fun T U V X => ((((Below.refl _ _).alloc (Nat.le_refl _) _).alloc (by simp) _).alloc (by simp; omega) _).alloc (by simp; omega) _)
  go_enter Try.func29, Try.ntmps29
  go_wp2_with (first
      | (go_at_call 61; refine (specMapOk_any _ ms B _ (HV.out.below ((h4.out _ _ _ _).mono hB)) (by first | (simp; done) | (simp; omega))).mono ?_; rw [h1]; rintro e w1 ⟨rfl, hb1⟩; have HAB1 := hid ((HAB.out _ _ _ _).below hb1 (by first | (simp; done) | (simp; omega))); obtain ⟨⟨a0, a1⟩, ⟨f0, f1, f2, f3, f4, f5, f6⟩, ⟨g0, g1, g2, g3⟩, ⟨r0, r1, r2, r3, r4, r5⟩⟩ := HAB1.out; have HB := hid ((h4.out _ _ _ _).trans (hb1.mono (by first | (simp; done) | (simp; omega)))); have HW4 := hid hb1; clear hb1)
      | (go_at_call 100; refine (specAtmOk_any _ ws hs B _ (HS.out.below (HB.out.mono hB)) (Nat.le_trans hB HB.out.size)).mono ?_; rw [h2]; rintro e w1 ⟨rfl, hb1⟩; have HAB1 := hid (HAB1.out.below hb1 HAB1.out.lt); obtain ⟨⟨a0, a1⟩, ⟨f0, f1, f2, f3, f4, f5, f6⟩, ⟨g0, g1, g2, g3⟩, ⟨r0, r1, r2, r3, r4, r5⟩⟩ := HAB1.out; have HB := hid (HB.out.trans (hb1.mono HB.out.size)); have HW4 := hid (HW4.out.trans (hb1.mono HW4.out.size)); clear hb1)
      | (go_at_call 60; refine (l1In_any _ _ _ _).mono ?_; rw [h3]; rintro e w' ⟨rfl, rfl⟩)
      | (go_at_call 101; refine (specReqOk_any _ _ B _ (HU.out.below (HB.out.mono hB)) (Nat.le_trans hB HB.out.size)).mono ?_; rw [h5]; rintro e w1 ⟨rfl, hb1⟩; have HAB1 := hid (HAB1.out.below hb1 HAB1.out.lt); obtain ⟨⟨a0, a1⟩, ⟨f0, f1, f2, f3, f4, f5, f6⟩, ⟨g0, g1, g2, g3⟩, ⟨r0, r1, r2, r3, r4, r5⟩⟩ := HAB1.out; have HB := hid (HB.out.trans (hb1.mono HB.out.size)); have HW4 := hid (HW4.out.trans (hb1.mono HW4.out.size)); clear hb1))
  have hNA := (boxes_new w _ _).1.below HW4.out (by simp)
  have hNR := (boxes_new w _ _).2.below HW4.out (by simp)
  have hlt : w.heap.size + 1 + 1 + 1 < w1.heap.size := by have := HAB1.out.lt; omega
  obtain ⟨hc1, hc2, _, _⟩ := HAB1.out
  have HBW := HB.out
  clear a0 a1 f0 f1 f2 f3 f4 f5 f6 g0 g1 g2 g3 r0 r1 r2 r3 r4 r5 HW4 HAB1 HB h4 HAB
  obtain ⟨w0, hw0⟩ : ∃ z, z = w1 := ⟨_, rfl⟩
  subst hw0
  have HV0 := HV.out.below (HBW.mono hB); have HS0 := HS.out.below (HBW.mono hB); have HU0 := HU.out.below (HBW.mono hB)
  obtain ⟨hlw, hlh, hws⟩ := HL.out
  have HWS := hid hws
  have HX2 := hid HX.out
  clear hws
  obtain ⟨s2, hs2⟩ : ∃ s2, s2 = w.heap.size + 1 + 1 + 1 := ⟨_, rfl⟩
  obtain ⟨s1, hs1⟩ : ∃ s1, s1 = w.heap.size + 1 + 1 := ⟨_, rfl⟩
  obtain ⟨sA, hsA⟩ : ∃ sA, sA = w.heap.size + 1 := ⟨_, rfl⟩
  obtain ⟨s, hs'⟩ : ∃ s, s = w.heap.size := ⟨_, rfl⟩
  have hB0 : B ≤ w0.heap.size := by omega
  have q1 : s < sA := by omega
  have q2 : sA < s1 := by omega
  have q3 : s1 < s2 := by omega
  have q4 : s2 < w0.heap.size := by omega
  rw [← hs2] at hNR; rw [← hs1] at hNA; rw [← hsA] at hc2; rw [← hs'] at hc1
  simp only [← hs2]
  simp only [← hs1]
  simp only [← hsA]
  simp only [← hs'] at HBW ⊢
  have HSE := hid hs'
  clear hs2 hs1 hsA hs' hlt
  have hd4 := HSM.out.ld
  have hdl : x.2.2.data.length ≤ 140737488351232 := by omega
  have hd64 := HSM.out.d
  refine wp_region_inv2 (adI v wv hv2 who id kind addr many wp dv lv s sA s1 s2 ws hs x w0) (by kernel_rfl) (by kernel_rfl) ?_ ?_ ?_
  · exact ⟨_, _, _, _, _, _, _, _, _, _, _, _, _, _, _, _, _, _, _, _, _, _, _, _, _, _, _, _, _, rfl, (fun h => absurd h (by rw [getD_replicate_false]; simp)), (fun h => absurd h (by rw [getD_replicate_false]; simp)), (fun h _ => absurd h (by rw [getD_replicate_false]; simp)), (fun h => absurd h (by rw [getD_replicate_false]; simp)), (fun h => absurd h (by rw [getD_replicate_false]; simp)), (fun h => absurd h (by rw [getD_replicate_false]; simp)), (fun h => absurd h (by rw [getD_replicate_false]; simp)), (fun h => absurd h (by rw [getD_replicate_false]; simp)), (fun h => absurd h (by rw [getD_replicate_false]; simp)), (fun h _ => absurd h (by rw [getD_replicate_false]; simp)), (fun h _ => absurd h (by rw [getD_replicate_false]; simp)), (fun h => absurd h (by rw [getD_replicate_false]; simp)), (fun h => absurd h (by rw [getD_replicate_false]; simp)), Below.refl _ _ |>.drew⟩
  · intro listed a w' i o hI hsz ho hl he hcl
    have hi : i < 13 := (Array.getElem?_eq_some_iff.1 ho).1
    have e : i = 0 ∨ i = 1 ∨ i = 2 ∨ i = 3 ∨ i = 4 ∨ i = 5 ∨ i = 6 ∨ i = 7 ∨ i = 8 ∨ i = 9 ∨ i = 10 ∨ i = 11 ∨ i = 12 := by omega
    clear hi
    rcases e with rfl | rfl | rfl | rfl | rfl | rfl | rfl | rfl | rfl | rfl | rfl | rfl | rfl
    all_goals (have ho2 := ho; obtain rfl := Option.some.inj ho2.symm; clear ho2)
    · as_aux_lemma =>
        obtain ⟨u10, u11, u12, u13, u14, u15, u16, u17, u18, u19, u20, u21, u22, u23, u24, u25, u26, u27, u28, u29, u32, u33, u34, u35, u36, u37, u38, u39, u40, rfl, F0, F1, F2, F3, F4, F5, F6, F7, F8, F9, F10, F11, F12, hx⟩ := hI
        refine wpOp_stepx ho rfl (fun K hK => ?_)
        unfold adA
        go_simp
        exact hK _ _ ⟨_, _, _, _, _, _, _, _, _, _, _, _, _, _, _, _, _, _, _, _, _, _, _, _, _, _, _, _, _, rfl, fun _ => rfl, fun hj => (by first | exact (F1 (by rwa [sgx (by decide)] at hj)) | rfl), fun hj hu => (F2 (by rwa [sgx (by decide)] at hj) (by rwa [sgx (by decide)] at hu)), fun hj => (by first | exact (F3 (by rwa [sgx (by decide)] at hj)) | rfl), fun hj => (by first | exact (F4 (by rwa [sgx (by decide)] at hj)) | rfl), fun hj => (F5 (by rwa [sgx (by decide)] at hj)), fun hj => (F6 (by rwa [sgx (by decide)] at hj)), fun hj => (F7 (by rwa [sgx (by decide)] at hj)), fun hj => (F8 (by rwa [sgx (by decide)] at hj)), fun hj hu => (F9 (by rwa [sgx (by decide)] at hj) (by rwa [sgx (by decide)] at hu)), fun hj hu => (F10 (by rwa [sgx (by decide)] at hj) (by rwa [sgx (by decide)] at hu)), fun hj => (F11 (by rwa [sgx (by decide)] at hj)), fun hj => (F12 (by rwa [sgx (by decide)] at hj)), hx⟩
    · as_aux_lemma =>
        obtain ⟨u10, u11, u12, u13, u14, u15, u16, u17, u18, u19, u20, u21, u22, u23, u24, u25, u26, u27, u28, u29, u32, u33, u34, u35, u36, u37, u38, u39, u40, rfl, F0, F1, F2, F3, F4, F5, F6, F7, F8, F9, F10, F11, F12, hx⟩ := hI
        have k0 := (hx.cell (p := ⟨s, 0, none⟩) (show s < _ by omega)).trans hc1.1
        have k1 := (hx.cell (p := ⟨s, 1, none⟩) (show s < _ by omega)).trans hc1.2
        refine wpOp_stepx ho rfl (fun K hK => ?_)
        unfold adA
        go_simp
        exact hK _ _ ⟨_, _, _, _, _, _, _, _, _, _, _, _, _, _, _, _, _, _, _, _, _, _, _, _, _, _, _, _, _, rfl, fun hj => (by first | exact (F0 (by rwa [sgx (by decide)] at hj)) | rfl), fun _ => rfl, fun hj hu => (F2 (by rwa [sgx (by decide)] at hj) (by rwa [sgx (by decide)] at hu)), fun hj => (by first | exact (F3 (by rwa [sgx (by decide)] at hj)) | rfl), fun hj => (by first | exact (F4 (by rwa [sgx (by decide)] at hj)) | rfl), fun hj => (F5 (by rwa [sgx (by decide)] at hj)), fun hj => (F6 (by rwa [sgx (by decide)] at hj)), fun hj => (F7 (by rwa [sgx (by decide)] at hj)), fun hj => (F8 (by rwa [sgx (by decide)] at hj)), fun hj hu => (F9 (by rwa [sgx (by decide)] at hj) (by rwa [sgx (by decide)] at hu)), fun hj hu => (F10 (by rwa [sgx (by decide)] at hj) (by rwa [sgx (by decide)] at hu)), fun hj => (F11 (by rwa [sgx (by decide)] at hj)), fun hj => (F12 (by rwa [sgx (by decide)] at hj)), hx⟩
    · as_aux_lemma =>
        obtain ⟨u10, u11, u12, u13, u14, u15, u16, u17, u18, u19, u20, u21, u22, u23, u24, u25, u26, u27, u28, u29, u32, u33, u34, u35, u36, u37, u38, u39, u40, rfl, F0, F1, F2, F3, F4, F5, F6, F7, F8, F9, F10, F11, F12, hx⟩ := hI
        have l1 := he ⟨1, .data⟩ (by simp) rfl
        have e := F1 l1; subst e
        refine wpOp_stepx ho rfl (fun K hK => ?_)
        unfold adA
        go_simp
        (with_reducible refine (l4Copy_any _ ws hs B w' (HS0.below (hx.mono hB0)) (Nat.le_trans hB0 hx.size) (by rw [hlw]; omega) (by rw [hlh]; omega) (by rw [hlw]; omega)).mono ?_)
        rintro e w'' ⟨wv', hv', rfl, ho1, ho2, hap, hb1⟩
        obtain ⟨gw, ow, cw, gh, oh, ch, rfl, rfl, hSI⟩ := sin_of (ho1.rebase hx.size) (ho2.rebase hx.size) hap hlw hlh
        go_wp2_with fail
        exact ⟨_, _, _, _, _, _, _, _, _, _, _, _, _, _, _, _, _, _, _, _, _, _, _, _, _, _, _, _, _, rfl, fun hj => (by first | exact (F0 (by rwa [sgx (by decide)] at hj)) | rfl), fun hj => (by first | exact (F1 (by rwa [sgx (by decide)] at hj)) | rfl), fun _ _ => ⟨gw, ow, cw, gh, oh, ch, rfl, hSI⟩, fun hj => (by first | exact (F3 (by rwa [sgx (by decide)] at hj)) | rfl), fun hj => (by first | exact (F4 (by rwa [sgx (by decide)] at hj)) | rfl), fun hj => absurd (hcl 5 _ rfl (by rwa [sgx (by decide)] at hj) ⟨2, .data⟩ (by simp) rfl) (by rw [getD_both hl]; simp), fun hj => absurd (hcl 5 _ rfl (hcl 6 _ rfl (by rwa [sgx (by decide)] at hj) ⟨5, .data⟩ (by simp) rfl) ⟨2, .data⟩ (by simp) rfl) (by rw [getD_both hl]; simp), fun hj => (F7 (by rwa [sgx (by decide)] at hj)), fun hj => (F8 (by rwa [sgx (by decide)] at hj)), fun hj hu => (let ⟨g, e1, e2, e3⟩ := (F9 (by rwa [sgx (by decide)] at hj) (by rwa [sgx (by decide)] at hu)); ⟨g, e1, e2, e3.below hb1 e3.lt⟩), fun hj hu => (let ⟨g, e1, e2, e3⟩ := (F10 (by rwa [sgx (by decide)] at hj) (by rwa [sgx (by decide)] at hu)); ⟨g, e1, e2, e3.below hb1 e3.lt⟩), fun hj => absurd (hcl 11 _ rfl (by rwa [sgx (by decide)] at hj) ⟨2, .phase⟩ (by simp) rfl) (by rw [getD_both hl]; simp), fun hj => absurd (hcl 12 _ rfl (by rwa [sgx (by decide)] at hj) ⟨2, .phase⟩ (by simp) rfl) (by rw [getD_both hl]; simp), hx.trans (hb1.mono hx.size)⟩
    · as_aux_lemma =>
        obtain ⟨u10, u11, u12, u13, u14, u15, u16, u17, u18, u19, u20, u21, u22, u23, u24, u25, u26, u27, u28, u29, u32, u33, u34, u35, u36, u37, u38, u39, u40, rfl, F0, F1, F2, F3, F4, F5, F6, F7, F8, F9, F10, F11, F12, hx⟩ := hI
        refine wpOp_stepx ho rfl (fun K hK => ?_)
        unfold adA
        go_simp
        exact hK _ _ ⟨_, _, _, _, _, _, _, _, _, _, _, _, _, _, _, _, _, _, _, _, _, _, _, _, _, _, _, _, _, rfl, fun hj => (by first | exact (F0 (by rwa [sgx (by decide)] at hj)) | rfl), fun hj => (by first | exact (F1 (by rwa [sgx (by decide)] at hj)) | rfl), fun hj hu => (F2 (by rwa [sgx (by decide)] at hj) (by rwa [sgx (by decide)] at hu)), fun _ => rfl, fun hj => (by first | exact (F4 (by rwa [sgx (by decide)] at hj)) | rfl), fun hj => (F5 (by rwa [sgx (by decide)] at hj)), fun hj => (F6 (by rwa [sgx (by decide)] at hj)), fun hj => (F7 (by rwa [sgx (by decide)] at hj)), fun hj => (F8 (by rwa [sgx (by decide)] at hj)), fun hj hu => (F9 (by rwa [sgx (by decide)] at hj) (by rwa [sgx (by decide)] at hu)), fun hj hu => (F10 (by rwa [sgx (by decide)] at hj) (by rwa [sgx (by decide)] at hu)), fun hj => (F11 (by rwa [sgx (by decide)] at hj)), fun hj => (F12 (by rwa [sgx (by decide)] at hj)), hx⟩
    · as_aux_lemma =>
        obtain ⟨u10, u11, u12, u13, u14, u15, u16, u17, u18, u19, u20, u21, u22, u23, u24, u25, u26, u27, u28, u29, u32, u33, u34, u35, u36, u37, u38, u39, u40, rfl, F0, F1, F2, F3, F4, F5, F6, F7, F8, F9, F10, F11, F12, hx⟩ := hI
        obtain ⟨f0, f1, f2, f3, f4, f5, f6⟩ := hc2.below hx (by omega)
        refine wpOp_stepx ho rfl (fun K hK => ?_)
        unfold adA
        go_simp
        exact hK _ _ ⟨_, _, _, _, _, _, _, _, _, _, _, _, _, _, _, _, _, _, _, _, _, _, _, _, _, _, _, _, _, rfl, fun hj => (by first | exact (F0 (by rwa [sgx (by decide)] at hj)) | rfl), fun hj => (by first | exact (F1 (by rwa [sgx (by decide)] at hj)) | rfl), fun hj hu => (F2 (by rwa [sgx (by decide)] at hj) (by rwa [sgx (by decide)] at hu)), fun hj => (by first | exact (F3 (by rwa [sgx (by decide)] at hj)) | rfl), fun _ => rfl, fun hj => (F5 (by rwa [sgx (by decide)] at hj)), fun hj => (F6 (by rwa [sgx (by decide)] at hj)), fun hj => (F7 (by rwa [sgx (by decide)] at hj)), fun hj => (F8 (by rwa [sgx (by decide)] at hj)), fun hj hu => (F9 (by rwa [sgx (by decide)] at hj) (by rwa [sgx (by decide)] at hu)), fun hj hu => (F10 (by rwa [sgx (by decide)] at hj) (by rwa [sgx (by decide)] at hu)), fun hj => (F11 (by rwa [sgx (by decide)] at hj)), fun hj => (F12 (by rwa [sgx (by decide)] at hj)), hx⟩
    · as_aux_lemma =>
        obtain ⟨u10, u11, u12, u13, u14, u15, u16, u17, u18, u19, u20, u21, u22, u23, u24, u25, u26, u27, u28, u29, u32, u33, u34, u35, u36, u37, u38, u39, u40, rfl, F0, F1, F2, F3, F4, F5, F6, F7, F8, F9, F10, F11, F12, hx⟩ := hI
        have l0 := he ⟨0, .data⟩ (by simp) rfl
        have l2 := he ⟨2, .data⟩ (by simp) rfl
        have l3 := he ⟨3, .data⟩ (by simp) rfl
        have l4 := he ⟨4, .data⟩ (by simp) rfl
        have e := F0 l0; subst e
        obtain ⟨gw, ow, cw, gh, oh, ch, rfl, hSI⟩ := F2 l2 (getD_both hl)
        have e := F3 l3; subst e
        have e := F4 l4; subst e
        refine wpOp_stepx ho rfl (fun K hK => ?_)
        unfold adA
        go_simp
        (with_reducible refine (sdo_any _ ms w0.heap.size gw ow cw gh oh ch ws hs who ⟨id, kind, addr, many, wp, data, lanes⟩ _ w' ((HV0.below (hx.mono hB0)).mono hB0) hSI ((HU0.below (hx.mono hB0)).mono hB0) HWHO.out HRQ.out HWS.out).mono ?_)
        rw [← HX.out]
        rintro e w'' ⟨dv', rfl, o3, o1, o2, ht2⟩
        obtain ⟨q1, q2⟩ := hSI.ww.ltI
        obtain ⟨q3, q4⟩ := hSI.hh.ltI
        have hne := hSI.ne
        go_wp2_with fail
        exact ⟨_, _, _, _, _, _, _, _, _, _, _, _, _, _, _, _, _, _, _, _, _, _, _, _, _, _, _, _, _, rfl, fun hj => (by first | exact (F0 (by rwa [sgx (by decide)] at hj)) | rfl), fun hj => (by first | exact (F1 (by rwa [sgx (by decide)] at hj)) | rfl), fun _ hu => absurd hu (by rw [sgix hl]; simp), fun hj => (by first | exact (F3 (by rwa [sgx (by decide)] at hj)) | rfl), fun hj => (by first | exact (F4 (by rwa [sgx (by decide)] at hj)) | rfl), fun _ => ⟨_, _, dv', rfl, o1, o2, o3.rebase hx.size, fun k hk hk2 => by simp [Value.ownBlock] at hk hk2; omega⟩, fun hj => absurd (hcl 6 _ rfl (by rwa [sgx (by decide)] at hj) ⟨5, .data⟩ (by simp) rfl) (by rw [getD_both hl]; simp), fun hj => (F7 (by rwa [sgx (by decide)] at hj)), fun hj => (F8 (by rwa [sgx (by decide)] at hj)), fun hj hu => (let ⟨g, e1, e2, e3⟩ := (F9 (by rwa [sgx (by decide)] at hj) (by rwa [sgx (by decide)] at hu)); ⟨g, e1, e2, e3.keep (ht2.block g e3.lt (Ne.symm (hSI.ww.notBox e3 (by decide) gw rfl)) (Ne.symm (hSI.hh.notBox e3 (by decide) gh rfl)))⟩), fun hj hu => (let ⟨g, e1, e2, e3⟩ := (F10 (by rwa [sgx (by decide)] at hj) (by rwa [sgx (by decide)] at hu)); ⟨g, e1, e2, e3.keep (ht2.block g e3.lt (Ne.symm (hSI.ww.notBox e3 (by decide) gw rfl)) (Ne.symm (hSI.hh.notBox e3 (by decide) gh rfl)))⟩), fun hj => absurd (hcl 11 _ rfl (by rwa [sgx (by decide)] at hj) ⟨5, .chain⟩ (by simp) rfl) (by rw [getD_both hl]; simp), fun hj => absurd (hcl 12 _ rfl (by rwa [sgx (by decide)] at hj) ⟨5, .phase⟩ (by simp) rfl) (by rw [getD_both hl]; simp), hx.trans (ht2.below q1 q3 hx.size)⟩
    · as_aux_lemma =>
        obtain ⟨u10, u11, u12, u13, u14, u15, u16, u17, u18, u19, u20, u21, u22, u23, u24, u25, u26, u27, u28, u29, u32, u33, u34, u35, u36, u37, u38, u39, u40, rfl, F0, F1, F2, F3, F4, F5, F6, F7, F8, F9, F10, F11, F12, hx⟩ := hI
        have l5 := he ⟨5, .data⟩ (by simp) rfl
        have l := F5 l5
        refine wpOp_stepx ho rfl (fun K hK => ?_)
        unfold adA
        go_simp
        exact hK _ _ ⟨_, _, _, _, _, _, _, _, _, _, _, _, _, _, _, _, _, _, _, _, _, _, _, _, _, _, _, _, _, rfl, fun hj => (by first | exact (F0 (by rwa [sgx (by decide)] at hj)) | rfl), fun hj => (by first | exact (F1 (by rwa [sgx (by decide)] at hj)) | rfl), fun hj hu => (F2 (by rwa [sgx (by decide)] at hj) (by rwa [sgx (by decide)] at hu)), fun hj => (by first | exact (F3 (by rwa [sgx (by decide)] at hj)) | rfl), fun hj => (by first | exact (F4 (by rwa [sgx (by decide)] at hj)) | rfl), fun hj => (F5 (by rwa [sgx (by decide)] at hj)), fun _ => l, fun hj => absurd (hcl 7 _ rfl (by rwa [sgx (by decide)] at hj) ⟨6, .data⟩ (by simp) rfl) (by rw [getD_both hl]; simp), fun hj => absurd (hcl 8 _ rfl (by rwa [sgx (by decide)] at hj) ⟨6, .data⟩ (by simp) rfl) (by rw [getD_both hl]; simp), fun hj hu => (F9 (by rwa [sgx (by decide)] at hj) (by rwa [sgx (by decide)] at hu)), fun hj hu => (F10 (by rwa [sgx (by decide)] at hj) (by rwa [sgx (by decide)] at hu)), fun hj => (F11 (by rwa [sgx (by decide)] at hj)), fun hj => (F12 (by rwa [sgx (by decide)] at hj)), hx⟩
    · as_aux_lemma =>
        obtain ⟨u10, u11, u12, u13, u14, u15, u16, u17, u18, u19, u20, u21, u22, u23, u24, u25, u26, u27, u28, u29, u32, u33, u34, u35, u36, u37, u38, u39, u40, rfl, F0, F1, F2, F3, F4, F5, F6, F7, F8, F9, F10, F11, F12, hx⟩ := hI
        have l6 := he ⟨6, .data⟩ (by simp) rfl
        obtain ⟨a, b, d, rfl, o1, o2, o3, oa⟩ := F6 l6
        refine wpOp_stepx ho rfl (fun K hK => ?_)
        unfold adA
        go_simp
        exact hK _ _ ⟨_, _, _, _, _, _, _, _, _, _, _, _, _, _, _, _, _, _, _, _, _, _, _, _, _, _, _, _, _, rfl, fun hj => (by first | exact (F0 (by rwa [sgx (by decide)] at hj)) | rfl), fun hj => (by first | exact (F1 (by rwa [sgx (by decide)] at hj)) | rfl), fun hj hu => (F2 (by rwa [sgx (by decide)] at hj) (by rwa [sgx (by decide)] at hu)), fun hj => (by first | exact (F3 (by rwa [sgx (by decide)] at hj)) | rfl), fun hj => (by first | exact (F4 (by rwa [sgx (by decide)] at hj)) | rfl), fun hj => (F5 (by rwa [sgx (by decide)] at hj)), fun hj => ⟨a, b, d, rfl, o1, o2, o3, oa⟩, fun _ => ⟨_, rfl⟩, fun hj => (F8 (by rwa [sgx (by decide)] at hj)), fun hj hu => (F9 (by rwa [sgx (by decide)] at hj) (by rwa [sgx (by decide)] at hu)), fun hj hu => (F10 (by rwa [sgx (by decide)] at hj) (by rwa [sgx (by decide)] at hu)), fun hj => absurd (hcl 11 _ rfl (by rwa [sgx (by decide)] at hj) ⟨7, .data⟩ (by simp) rfl) (by rw [getD_both hl]; simp), fun hj => (F12 (by rwa [sgx (by decide)] at hj)), hx⟩
    · as_aux_lemma =>
        obtain ⟨u10, u11, u12, u13, u14, u15, u16, u17, u18, u19, u20, u21, u22, u23, u24, u25, u26, u27, u28, u29, u32, u33, u34, u35, u36, u37, u38, u39, u40, rfl, F0, F1, F2, F3, F4, F5, F6, F7, F8, F9, F10, F11, F12, hx⟩ := hI
        have l6 := he ⟨6, .data⟩ (by simp) rfl
        obtain ⟨a, b, d, rfl, o1, o2, o3, oa⟩ := F6 l6
        refine wpOp_stepx ho rfl (fun K hK => ?_)
        unfold adA
        go_simp
        exact hK _ _ ⟨_, _, _, _, _, _, _, _, _, _, _, _, _, _, _, _, _, _, _, _, _, _, _, _, _, _, _, _, _, rfl, fun hj => (by first | exact (F0 (by rwa [sgx (by decide)] at hj)) | rfl), fun hj => (by first | exact (F1 (by rwa [sgx (by decide)] at hj)) | rfl), fun hj hu => (F2 (by rwa [sgx (by decide)] at hj) (by rwa [sgx (by decide)] at hu)), fun hj => (by first | exact (F3 (by rwa [sgx (by decide)] at hj)) | rfl), fun hj => (by first | exact (F4 (by rwa [sgx (by decide)] at hj)) | rfl), fun hj => (F5 (by rwa [sgx (by decide)] at hj)), fun hj => ⟨a, b, d, rfl, o1, o2, o3, oa⟩, fun hj => (F7 (by rwa [sgx (by decide)] at hj)), fun _ => ⟨_, rfl⟩, fun hj hu => (F9 (by rwa [sgx (by decide)] at hj) (by rwa [sgx (by decide)] at hu)), fun hj hu => (F10 (by rwa [sgx (by decide)] at hj) (by rwa [sgx (by decide)] at hu)), fun hj => (F11 (by rwa [sgx (by decide)] at hj)), fun hj => absurd (hcl 12 _ rfl (by rwa [sgx (by decide)] at hj) ⟨8, .data⟩ (by simp) rfl) (by rw [getD_both hl]; simp), hx⟩
    · as_aux_lemma =>
        obtain ⟨u10, u11, u12, u13, u14, u15, u16, u17, u18, u19, u20, u21, u22, u23, u24, u25, u26, u27, u28, u29, u32, u33, u34, u35, u36, u37, u38, u39, u40, rfl, F0, F1, F2, F3, F4, F5, F6, F7, F8, F9, F10, F11, F12, hx⟩ := hI
        refine wpOp_stepx ho rfl (fun K hK => ?_)
        unfold adA
        have hb1 : Below w'.heap.size w' (w'.alloc (.cells #[.slice none 0 0, .slice none 0 0] 40)) := (Below.refl _ _).alloc (Nat.le_refl _) _
        go_simp
        exact hK _ _ ⟨_, _, _, _, _, _, _, _, _, _, _, _, _, _, _, _, _, _, _, _, _, _, _, _, _, _, _, _, _, rfl, fun hj => (by first | exact (F0 (by rwa [sgx (by decide)] at hj)) | rfl), fun hj => (by first | exact (F1 (by rwa [sgx (by decide)] at hj)) | rfl), fun hj hu => (let ⟨gw, ow, cw, gh, oh, ch, e1, e2⟩ := (F2 (by rwa [sgx (by decide)] at hj) (by rwa [sgx (by decide)] at hu)); ⟨gw, ow, cw, gh, oh, ch, e1, e2.below hb1⟩), fun hj => (by first | exact (F3 (by rwa [sgx (by decide)] at hj)) | rfl), fun hj => (by first | exact (F4 (by rwa [sgx (by decide)] at hj)) | rfl), fun hj => (F5 (by rwa [sgx (by decide)] at hj)).below hb1, fun hj => (F6 (by rwa [sgx (by decide)] at hj)).below hb1, fun hj => (F7 (by rwa [sgx (by decide)] at hj)), fun hj => (F8 (by rwa [sgx (by decide)] at hj)), fun _ _ => ⟨_, rfl, hx.size, BoxA.new _ _ _⟩, fun hj hu => (let ⟨g, e1, e2, e3⟩ := (F10 (by rwa [sgx (by decide)] at hj) (by rwa [sgx (by decide)] at hu)); ⟨g, e1, e2, e3.below hb1 e3.lt⟩), fun hj => absurd (hcl 11 _ rfl (by rwa [sgx (by decide)] at hj) ⟨9, .data⟩ (by simp) rfl) (by rw [getD_both hl]; simp), fun hj => (let ⟨g, a, b, c, e1, e2, e3, e4⟩ := (F12 (by rwa [sgx (by decide)] at hj)); ⟨g, a, b, c, e1, e2, e3.below hb1 e3.lt, e4⟩), hx.trans (hb1.mono hx.size)⟩
    · as_aux_lemma =>
        obtain ⟨u10, u11, u12, u13, u14, u15, u16, u17, u18, u19, u20, u21, u22, u23, u24, u25, u26, u27, u28, u29, u32, u33, u34, u35, u36, u37, u38, u39, u40, rfl, F0, F1, F2, F3, F4, F5, F6, F7, F8, F9, F10, F11, F12, hx⟩ := hI
        refine wpOp_stepx ho rfl (fun K hK => ?_)
        unfold adA
        have hb1 : Below w'.heap.size w' (w'.alloc (.cells #[.int .i64 0, .int .i64 0, .slice none 0 0] 66)) := (Below.refl _ _).alloc (Nat.le_refl _) _
        go_simp
        exact hK _ _ ⟨_, _, _, _, _, _, _, _, _, _, _, _, _, _, _, _, _, _, _, _, _, _, _, _, _, _, _, _, _, rfl, fun hj => (by first | exact (F0 (by rwa [sgx (by decide)] at hj)) | rfl), fun hj => (by first | exact (F1 (by rwa [sgx (by decide)] at hj)) | rfl), fun hj hu => (let ⟨gw, ow, cw, gh, oh, ch, e1, e2⟩ := (F2 (by rwa [sgx (by decide)] at hj) (by rwa [sgx (by decide)] at hu)); ⟨gw, ow, cw, gh, oh, ch, e1, e2.below hb1⟩), fun hj => (by first | exact (F3 (by rwa [sgx (by decide)] at hj)) | rfl), fun hj => (by first | exact (F4 (by rwa [sgx (by decide)] at hj)) | rfl), fun hj => (F5 (by rwa [sgx (by decide)] at hj)).below hb1, fun hj => (F6 (by rwa [sgx (by decide)] at hj)).below hb1, fun hj => (F7 (by rwa [sgx (by decide)] at hj)), fun hj => (F8 (by rwa [sgx (by decide)] at hj)), fun hj hu => (let ⟨g, e1, e2, e3⟩ := (F9 (by rwa [sgx (by decide)] at hj) (by rwa [sgx (by decide)] at hu)); ⟨g, e1, e2, e3.below hb1 e3.lt⟩), fun _ _ => ⟨_, rfl, hx.size, BoxR.new _ _ _ _⟩, fun hj => (let ⟨g, a, b, e1, e2, e3, e4⟩ := (F11 (by rwa [sgx (by decide)] at hj)); ⟨g, a, b, e1, e2, e3.below hb1 e3.lt, e4⟩), fun hj => absurd (hcl 12 _ rfl (by rwa [sgx (by decide)] at hj) ⟨10, .data⟩ (by simp) rfl) (by rw [getD_both hl]; simp), hx.trans (hb1.mono hx.size)⟩
    · as_aux_lemma =>
        obtain ⟨u10, u11, u12, u13, u14, u15, u16, u17, u18, u19, u20, u21, u22, u23, u24, u25, u26, u27, u28, u29, u32, u33, u34, u35, u36, u37, u38, u39, u40, rfl, F0, F1, F2, F3, F4, F5, F6, F7, F8, F9, F10, F11, F12, hx⟩ := hI
        have l9 := he ⟨9, .data⟩ (by simp) rfl
        have l7 := he ⟨7, .data⟩ (by simp) rfl
        have l6 := he ⟨6, .phase⟩ (by simp) rfl
        obtain ⟨g, rfl, g1, hA⟩ := F9 l9 (getD_both hl)
        obtain ⟨y, hy⟩ := F7 l7
        obtain ⟨a, b, d, rfl, o1, o2, o3, oa⟩ := F6 l6
        simp at hy
        obtain ⟨rfl, rfl⟩ := hy
        obtain ⟨qa, qc, rfl, _, _⟩ := o1.shape
        obtain ⟨ra, rc, rfl, _, _⟩ := o2.shape
        obtain ⟨k0, k1, m0, m1⟩ := hA.cells
        refine wpOp_stepx ho rfl (fun K hK => ?_)
        unfold adA
        have ht := touchA g w' (.slice qa x.1.length qc) (.slice ra x.2.1.length rc)
        go_simp
        exact hK _ _ ⟨_, _, _, _, _, _, _, _, _, _, _, _, _, _, _, _, _, _, _, _, _, _, _, _, _, _, _, _, _, rfl, fun hj => (by first | exact (F0 (by rwa [sgx (by decide)] at hj)) | rfl), fun hj => (by first | exact (F1 (by rwa [sgx (by decide)] at hj)) | rfl), fun hj hu => absurd (he ⟨5, .chain⟩ (by simp) rfl) (by rw [show listed.getD 5 false = false by rwa [sgx (by decide)] at hu]; simp), fun hj => (by first | exact (F3 (by rwa [sgx (by decide)] at hj)) | rfl), fun hj => (by first | exact (F4 (by rwa [sgx (by decide)] at hj)) | rfl), fun hj => (F5 (by rwa [sgx (by decide)] at hj)).boxA hA ht, fun hj => RF.boxA ⟨_, _, d, rfl, o1, o2, o3, oa⟩ hA ht, fun hj => (F7 (by rwa [sgx (by decide)] at hj)), fun hj => (F8 (by rwa [sgx (by decide)] at hj)), fun _ hu => absurd hu (by rw [sgix hl]; simp), fun hj hu => (let ⟨g, e1, e2, e3⟩ := (F10 (by rwa [sgx (by decide)] at hj) (by rwa [sgx (by decide)] at hu)); ⟨g, e1, e2, e3.touch ht (hA.ne e3)⟩), fun _ => ⟨g, _, _, rfl, g1, hA.put _ _, rfl⟩, fun hj => absurd (hcl 12 _ rfl (by rwa [sgx (by decide)] at hj) ⟨11, .chain⟩ (by simp) rfl) (by rw [getD_both hl]; simp), Below.touchN hx ht g1 (Nat.le_refl _)⟩
    · as_aux_lemma =>
        obtain ⟨u10, u11, u12, u13, u14, u15, u16, u17, u18, u19, u20, u21, u22, u23, u24, u25, u26, u27, u28, u29, u32, u33, u34, u35, u36, u37, u38, u39, u40, rfl, F0, F1, F2, F3, F4, F5, F6, F7, F8, F9, F10, F11, F12, hx⟩ := hI
        have l10 := he ⟨10, .data⟩ (by simp) rfl
        have l8 := he ⟨8, .data⟩ (by simp) rfl
        have l6 := he ⟨6, .phase⟩ (by simp) rfl
        obtain ⟨g, rfl, g1, hR⟩ := F10 l10 (getD_both hl)
        obtain ⟨y, hy⟩ := F8 l8
        obtain ⟨a, b, d, rfl, o1, o2, o3, oa⟩ := F6 l6
        simp at hy
        obtain ⟨rfl, rfl⟩ := hy
        obtain ⟨qa, qc, rfl, _, _⟩ := o3.shape
        obtain ⟨k0, k1, k2, m0, m1, m2⟩ := hR.cells
        refine wpOp_stepx ho rfl (fun K hK => ?_)
        unfold adA
        have ht := touchR g w' (.int .i64 x.2.2.id) (.int .i64 x.2.2.code) (.slice qa x.2.2.data.length qc)
        go_simp
        exact hK _ _ ⟨_, _, _, _, _, _, _, _, _, _, _, _, _, _, _, _, _, _, _, _, _, _, _, _, _, _, _, _, _, rfl, fun hj => (by first | exact (F0 (by rwa [sgx (by decide)] at hj)) | rfl), fun hj => (by first | exact (F1 (by rwa [sgx (by decide)] at hj)) | rfl), fun hj hu => absurd (he ⟨5, .phase⟩ (by simp) rfl) (by rw [show listed.getD 5 false = false by rwa [sgx (by decide)] at hu]; simp), fun hj => (by first | exact (F3 (by rwa [sgx (by decide)] at hj)) | rfl), fun hj => (by first | exact (F4 (by rwa [sgx (by decide)] at hj)) | rfl), fun hj => (F5 (by rwa [sgx (by decide)] at hj)).boxR hR ht, fun hj => RF.boxR ⟨a, b, _, rfl, o1, o2, o3, oa⟩ hR ht, fun hj => (F7 (by rwa [sgx (by decide)] at hj)), fun hj => (F8 (by rwa [sgx (by decide)] at hj)), fun hj hu => absurd (he ⟨11, .chain⟩ (by simp) rfl) (by rw [show listed.getD 11 false = false by rwa [sgx (by decide)] at hu]; simp), fun _ hu => absurd hu (by rw [sgix hl]; simp), fun hj => (let ⟨g2, a2, b2, e1, e2, e3, e4⟩ := (F11 (by rwa [sgx (by decide)] at hj)); ⟨g2, a2, b2, e1, e2, e3.touch ht (Ne.symm (e3.ne hR)), e4⟩), fun _ => ⟨g, _, _, _, rfl, g1, hR.put _ _ _, rfl⟩, Below.touchN hx ht g1 (Nat.le_refl _)⟩
  · intro listed a w' hI hd
    obtain ⟨u10, u11, u12, u13, u14, u15, u16, u17, u18, u19, u20, u21, u22, u23, u24, u25, u26, u27, u28, u29, u32, u33, u34, u35, u36, u37, u38, u39, u40, rfl, F0, F1, F2, F3, F4, F5, F6, F7, F8, F9, F10, F11, F12, hx⟩ := hI
    obtain ⟨va, vb, vd, hr, o1, o2, o3, oa⟩ := F6 (hd 6 (by show 6 < 13; omega))
    obtain ⟨y1, hy1⟩ := F7 (hd 7 (by show 7 < 13; omega))
    obtain ⟨y2, hy2⟩ := F8 (hd 8 (by show 8 < 13; omega))
    obtain ⟨ga, a', b', hp1, ga1, hA0, ha⟩ := F11 (hd 11 (by show 11 < 13; omega))
    obtain ⟨gr, i', c', d', hp2, gr1, hR0, hrr⟩ := F12 (hd 12 (by show 12 < 13; omega))
    clear F0 F1 F2 F3 F4 F5 F6 F7 F8 F9 F10 F11 F12 hd
    subst hr
    simp at hy1 hy2
    obtain ⟨hy1, hz1'⟩ := hy1
    obtain ⟨hz2', hy2⟩ := hy2
    subst hy1 hy2 hz1' hz2'
    simp at ha hrr
    obtain ⟨ha1, ha2⟩ := ha
    obtain ⟨hr1, hr2, hr3⟩ := hrr
    subst ha1 ha2 hr1 hr2 hr3 hp1 hp2
    obtain ⟨wq, hwq⟩ : ∃ z, z = w' := ⟨_, rfl⟩
    subst hwq
    have hN0 := hNA.below hx (by omega)
    have hN1 := hNR.below hx (by omega)
    have hxs := hx.size
    have HBQ := hid (HBW.trans (hx.mono (by omega)))
    have hsW : w.heap.size ≤ w0.heap.size := by rw [← HSE.out]; omega
    have hqW : w.heap.size ≤ wq.heap.size := by omega
    have hgal := hA0.lt
    have hgrl := hR0.lt
    have HA1 := hid o1; have HA2 := hid o2; have HD0 := hid o3; have HAP := hid oa
    clear o1 o2 o3 oa hx hNA hNR HV0 HS0 HU0 hc1 hc2 HBW
    unfold adA
    go_wp2_with fail
    refine wp_region_inv2 (aeI v wv hv2 who id kind addr many wp dv lv s sA s1 s2 ga gr va vb vd x wq) (by kernel_rfl) (by kernel_rfl) ?_ ?_ ?_
    · exact ⟨_, _, _, _, _, _, _, _, _, _, _, _, _, _, _, _, _, _, _, _, _, _, _, _, _, _, _, _, _, _, _, _, _, _, _, _, _, _, _, rfl, (fun h => absurd h (by rw [getD_replicate_false]; simp)), (fun h => absurd h (by rw [getD_replicate_false]; simp)), (fun h => absurd h (by rw [getD_replicate_false]; simp)), (fun h => absurd h (by rw [getD_replicate_false]; simp)), (fun h => absurd h (by rw [getD_replicate_false]; simp)), (fun h _ => absurd h (by rw [getD_replicate_false]; simp)), (fun h => absurd h (by rw [getD_replicate_false]; simp)), (fun h => absurd h (by rw [getD_replicate_false]; simp)), (fun h => absurd h (by rw [getD_replicate_false]; simp)), (fun h => absurd h (by rw [getD_replicate_false]; simp)), (fun h => absurd h (by rw [getD_replicate_false]; simp)), (fun h => absurd h (by rw [getD_replicate_false]; simp)), fun _ => hN0, fun _ => hN1, Touch2.drewd (Touch2.refl _ _ _)⟩
    · intro listed a w' i o hI hsz ho hl he hcl
      have hi : i < 12 := (Array.getElem?_eq_some_iff.1 ho).1
      have e : i = 0 ∨ i = 1 ∨ i = 2 ∨ i = 3 ∨ i = 4 ∨ i = 5 ∨ i = 6 ∨ i = 7 ∨ i = 8 ∨ i = 9 ∨ i = 10 ∨ i = 11 := by omega
      clear hi
      rcases e with rfl | rfl | rfl | rfl | rfl | rfl | rfl | rfl | rfl | rfl | rfl | rfl
      all_goals (have ho2 := ho; obtain rfl := Option.some.inj ho2.symm; clear ho2)
      · as_aux_lemma =>
          obtain ⟨u12, u13, u14, u15, u16, u17, u18, u19, u20, u21, u22, u23, u24, u25, u26, u27, u28, u29, u30, u31, u32, u33, u34, u35, u36, u37, u38, u39, u40, u41, u42, u43, u44, u45, u46, u47, u48, u49, u50, rfl, F0, F1, F2, F3, F4, F5, F6, F7, F8, F9, F10, F11, N10, N11, hx⟩ := hI
          obtain ⟨k0, k1, m0, m1⟩ := (hA0.keep (hx.block ga hA0.lt (by omega) (by omega))).cells
          refine wpOp_stepx ho rfl (fun K hK => ?_)
          unfold aeA
          go_simp
          exact hK _ _ ⟨_, _, _, _, _, _, _, _, _, _, _, _, _, _, _, _, _, _, _, _, _, _, _, _, _, _, _, _, _, _, _, _, _, _, _, _, _, _, _, rfl, fun _ => rfl, fun hj => (by first | exact (F1 (by rwa [sgx (by decide)] at hj)) | rfl), fun hj => (by first | exact (F2 (by rwa [sgx (by decide)] at hj)) | rfl), fun hj => (by first | exact (F3 (by rwa [sgx (by decide)] at hj)) | rfl), fun hj => (by first | exact (F4 (by rwa [sgx (by decide)] at hj)) | rfl), fun hj hu => (F5 (by rwa [sgx (by decide)] at hj) (by rwa [sgx (by decide)] at hu)), fun hj => (by first | exact (F6 (by rwa [sgx (by decide)] at hj)) | rfl), fun hj => (by first | exact (F7 (by rwa [sgx (by decide)] at hj)) | rfl), fun hj => (F8 (by rwa [sgx (by decide)] at hj)), fun hj => (F9 (by rwa [sgx (by decide)] at hj)), fun hj => (F10 (by rwa [sgx (by decide)] at hj)), fun hj => (F11 (by rwa [sgx (by decide)] at hj)), fun hj => (N10 (by rwa [sgx (by decide)] at hj)), fun hj => (N11 (by rwa [sgx (by decide)] at hj)), hx⟩
      · as_aux_lemma =>
          obtain ⟨u12, u13, u14, u15, u16, u17, u18, u19, u20, u21, u22, u23, u24, u25, u26, u27, u28, u29, u30, u31, u32, u33, u34, u35, u36, u37, u38, u39, u40, u41, u42, u43, u44, u45, u46, u47, u48, u49, u50, rfl, F0, F1, F2, F3, F4, F5, F6, F7, F8, F9, F10, F11, N10, N11, hx⟩ := hI
          refine wpOp_stepx ho rfl (fun K hK => ?_)
          unfold aeA
          go_simp
          exact hK _ _ ⟨_, _, _, _, _, _, _, _, _, _, _, _, _, _, _, _, _, _, _, _, _, _, _, _, _, _, _, _, _, _, _, _, _, _, _, _, _, _, _, rfl, fun hj => (by first | exact (F0 (by rwa [sgx (by decide)] at hj)) | rfl), fun _ => rfl, fun hj => (by first | exact (F2 (by rwa [sgx (by decide)] at hj)) | rfl), fun hj => (by first | exact (F3 (by rwa [sgx (by decide)] at hj)) | rfl), fun hj => (by first | exact (F4 (by rwa [sgx (by decide)] at hj)) | rfl), fun hj hu => (F5 (by rwa [sgx (by decide)] at hj) (by rwa [sgx (by decide)] at hu)), fun hj => (by first | exact (F6 (by rwa [sgx (by decide)] at hj)) | rfl), fun hj => (by first | exact (F7 (by rwa [sgx (by decide)] at hj)) | rfl), fun hj => (F8 (by rwa [sgx (by decide)] at hj)), fun hj => (F9 (by rwa [sgx (by decide)] at hj)), fun hj => (F10 (by rwa [sgx (by decide)] at hj)), fun hj => (F11 (by rwa [sgx (by decide)] at hj)), fun hj => (N10 (by rwa [sgx (by decide)] at hj)), fun hj => (N11 (by rwa [sgx (by decide)] at hj)), hx⟩
      · as_aux_lemma =>
          obtain ⟨u12, u13, u14, u15, u16, u17, u18, u19, u20, u21, u22, u23, u24, u25, u26, u27, u28, u29, u30, u31, u32, u33, u34, u35, u36, u37, u38, u39, u40, u41, u42, u43, u44, u45, u46, u47, u48, u49, u50, rfl, F0, F1, F2, F3, F4, F5, F6, F7, F8, F9, F10, F11, N10, N11, hx⟩ := hI
          have l1 := he ⟨1, .data⟩ (by simp) rfl
          have e := F1 l1; subst e
          obtain ⟨k0, k1, k2, m0, m1, m2⟩ := (hR0.keep (hx.block gr hR0.lt (by omega) (by omega))).cells
          refine wpOp_stepx ho rfl (fun K hK => ?_)
          unfold aeA
          go_simp
          exact hK _ _ ⟨_, _, _, _, _, _, _, _, _, _, _, _, _, _, _, _, _, _, _, _, _, _, _, _, _, _, _, _, _, _, _, _, _, _, _, _, _, _, _, rfl, fun hj => (by first | exact (F0 (by rwa [sgx (by decide)] at hj)) | rfl), fun hj => (by first | exact (F1 (by rwa [sgx (by decide)] at hj)) | rfl), fun _ => rfl, fun hj => (by first | exact (F3 (by rwa [sgx (by decide)] at hj)) | rfl), fun hj => (by first | exact (F4 (by rwa [sgx (by decide)] at hj)) | rfl), fun hj hu => (F5 (by rwa [sgx (by decide)] at hj) (by rwa [sgx (by decide)] at hu)), fun hj => (by first | exact (F6 (by rwa [sgx (by decide)] at hj)) | rfl), fun hj => (by first | exact (F7 (by rwa [sgx (by decide)] at hj)) | rfl), fun hj => (F8 (by rwa [sgx (by decide)] at hj)), fun hj => (F9 (by rwa [sgx (by decide)] at hj)), fun hj => (F10 (by rwa [sgx (by decide)] at hj)), fun hj => (F11 (by rwa [sgx (by decide)] at hj)), fun hj => (N10 (by rwa [sgx (by decide)] at hj)), fun hj => (N11 (by rwa [sgx (by decide)] at hj)), hx⟩
      · as_aux_lemma =>
          obtain ⟨u12, u13, u14, u15, u16, u17, u18, u19, u20, u21, u22, u23, u24, u25, u26, u27, u28, u29, u30, u31, u32, u33, u34, u35, u36, u37, u38, u39, u40, u41, u42, u43, u44, u45, u46, u47, u48, u49, u50, rfl, F0, F1, F2, F3, F4, F5, F6, F7, F8, F9, F10, F11, N10, N11, hx⟩ := hI
          refine wpOp_stepx ho rfl (fun K hK => ?_)
          unfold aeA
          go_simp
          exact hK _ _ ⟨_, _, _, _, _, _, _, _, _, _, _, _, _, _, _, _, _, _, _, _, _, _, _, _, _, _, _, _, _, _, _, _, _, _, _, _, _, _, _, rfl, fun hj => (by first | exact (F0 (by rwa [sgx (by decide)] at hj)) | rfl), fun hj => (by first | exact (F1 (by rwa [sgx (by decide)] at hj)) | rfl), fun hj => (by first | exact (F2 (by rwa [sgx (by decide)] at hj)) | rfl), fun _ => rfl, fun hj => (by first | exact (F4 (by rwa [sgx (by decide)] at hj)) | rfl), fun hj hu => (F5 (by rwa [sgx (by decide)] at hj) (by rwa [sgx (by decide)] at hu)), fun hj => (by first | exact (F6 (by rwa [sgx (by decide)] at hj)) | rfl), fun hj => (by first | exact (F7 (by rwa [sgx (by decide)] at hj)) | rfl), fun hj => (F8 (by rwa [sgx (by decide)] at hj)), fun hj => (F9 (by rwa [sgx (by decide)] at hj)), fun hj => (F10 (by rwa [sgx (by decide)] at hj)), fun hj => (F11 (by rwa [sgx (by decide)] at hj)), fun hj => (N10 (by rwa [sgx (by decide)] at hj)), fun hj => (N11 (by rwa [sgx (by decide)] at hj)), hx⟩
      · as_aux_lemma =>
          obtain ⟨u12, u13, u14, u15, u16, u17, u18, u19, u20, u21, u22, u23, u24, u25, u26, u27, u28, u29, u30, u31, u32, u33, u34, u35, u36, u37, u38, u39, u40, u41, u42, u43, u44, u45, u46, u47, u48, u49, u50, rfl, F0, F1, F2, F3, F4, F5, F6, F7, F8, F9, F10, F11, N10, N11, hx⟩ := hI
          have l3 := he ⟨3, .data⟩ (by simp) rfl
          have e := F3 l3; subst e
          obtain ⟨k0, k1, k2, m0, m1, m2⟩ := (hR0.keep (hx.block gr hR0.lt (by omega) (by omega))).cells
          refine wpOp_stepx ho rfl (fun K hK => ?_)
          unfold aeA
          go_simp
          exact hK _ _ ⟨_, _, _, _, _, _, _, _, _, _, _, _, _, _, _, _, _, _, _, _, _, _, _, _, _, _, _, _, _, _, _, _, _, _, _, _, _, _, _, rfl, fun hj => (by first | exact (F0 (by rwa [sgx (by decide)] at hj)) | rfl), fun hj => (by first | exact (F1 (by rwa [sgx (by decide)] at hj)) | rfl), fun hj => (by first | exact (F2 (by rwa [sgx (by decide)] at hj)) | rfl), fun hj => (by first | exact (F3 (by rwa [sgx (by decide)] at hj)) | rfl), fun _ => rfl, fun hj hu => (F5 (by rwa [sgx (by decide)] at hj) (by rwa [sgx (by decide)] at hu)), fun hj => (by first | exact (F6 (by rwa [sgx (by decide)] at hj)) | rfl), fun hj => (by first | exact (F7 (by rwa [sgx (by decide)] at hj)) | rfl), fun hj => (F8 (by rwa [sgx (by decide)] at hj)), fun hj => (F9 (by rwa [sgx (by decide)] at hj)), fun hj => (F10 (by rwa [sgx (by decide)] at hj)), fun hj => (F11 (by rwa [sgx (by decide)] at hj)), fun hj => (N10 (by rwa [sgx (by decide)] at hj)), fun hj => (N11 (by rwa [sgx (by decide)] at hj)), hx⟩
      · as_aux_lemma =>
          obtain ⟨u12, u13, u14, u15, u16, u17, u18, u19, u20, u21, u22, u23, u24, u25, u26, u27, u28, u29, u30, u31, u32, u33, u34, u35, u36, u37, u38, u39, u40, u41, u42, u43, u44, u45, u46, u47, u48, u49, u50, rfl, F0, F1, F2, F3, F4, F5, F6, F7, F8, F9, F10, F11, N10, N11, hx⟩ := hI
          refine wpOp_stepx ho rfl (fun K hK => ?_)
          unfold aeA
          have ht := (Touch.refl gr w').alloc (.cells #[] 3)
          go_simp
          exact hK _ _ ⟨_, _, _, _, _, _, _, _, _, _, _, _, _, _, _, _, _, _, _, _, _, _, _, _, _, _, _, _, _, _, _, _, _, _, _, _, _, _, _, rfl, fun hj => (by first | exact (F0 (by rwa [sgx (by decide)] at hj)) | rfl), fun hj => (by first | exact (F1 (by rwa [sgx (by decide)] at hj)) | rfl), fun hj => (by first | exact (F2 (by rwa [sgx (by decide)] at hj)) | rfl), fun hj => (by first | exact (F3 (by rwa [sgx (by decide)] at hj)) | rfl), fun hj => (by first | exact (F4 (by rwa [sgx (by decide)] at hj)) | rfl), fun _ _ => ⟨_, rfl, hx.size, by show (w'.heap.push _)[w'.heap.size]? = _; simp⟩, fun hj => (by first | exact (F6 (by rwa [sgx (by decide)] at hj)) | rfl), fun hj => (by first | exact (F7 (by rwa [sgx (by decide)] at hj)) | rfl), fun hj => (F8 (by rwa [sgx (by decide)] at hj)).touch ht (by omega), fun hj => (let ⟨d, e1, e2⟩ := (F9 (by rwa [sgx (by decide)] at hj)); ⟨d, e1, e2.touch ht (by omega)⟩), fun hj => (F10 (by rwa [sgx (by decide)] at hj)).touch ht (by omega), fun hj => (let ⟨d, e1, e2⟩ := (F11 (by rwa [sgx (by decide)] at hj)); ⟨d, e1.touch ht (by omega), e2.touch ht (by omega)⟩), fun hj => (N10 (by rwa [sgx (by decide)] at hj)).touch ht (by omega), fun hj => (N11 (by rwa [sgx (by decide)] at hj)).touch ht (by omega), hx.transN ((Touch.refl s1 w').alloc _) (.inl rfl)⟩
      · as_aux_lemma =>
          obtain ⟨u12, u13, u14, u15, u16, u17, u18, u19, u20, u21, u22, u23, u24, u25, u26, u27, u28, u29, u30, u31, u32, u33, u34, u35, u36, u37, u38, u39, u40, u41, u42, u43, u44, u45, u46, u47, u48, u49, u50, rfl, F0, F1, F2, F3, F4, F5, F6, F7, F8, F9, F10, F11, N10, N11, hx⟩ := hI
          refine wpOp_stepx ho rfl (fun K hK => ?_)
          unfold aeA
          go_simp
          exact hK _ _ ⟨_, _, _, _, _, _, _, _, _, _, _, _, _, _, _, _, _, _, _, _, _, _, _, _, _, _, _, _, _, _, _, _, _, _, _, _, _, _, _, rfl, fun hj => (by first | exact (F0 (by rwa [sgx (by decide)] at hj)) | rfl), fun hj => (by first | exact (F1 (by rwa [sgx (by decide)] at hj)) | rfl), fun hj => (by first | exact (F2 (by rwa [sgx (by decide)] at hj)) | rfl), fun hj => (by first | exact (F3 (by rwa [sgx (by decide)] at hj)) | rfl), fun hj => (by first | exact (F4 (by rwa [sgx (by decide)] at hj)) | rfl), fun hj hu => (F5 (by rwa [sgx (by decide)] at hj) (by rwa [sgx (by decide)] at hu)), fun _ => rfl, fun hj => (by first | exact (F7 (by rwa [sgx (by decide)] at hj)) | rfl), fun hj => (F8 (by rwa [sgx (by decide)] at hj)), fun hj => (F9 (by rwa [sgx (by decide)] at hj)), fun hj => (F10 (by rwa [sgx (by decide)] at hj)), fun hj => (F11 (by rwa [sgx (by decide)] at hj)), fun hj => (N10 (by rwa [sgx (by decide)] at hj)), fun hj => (N11 (by rwa [sgx (by decide)] at hj)), hx⟩
      · as_aux_lemma =>
          obtain ⟨u12, u13, u14, u15, u16, u17, u18, u19, u20, u21, u22, u23, u24, u25, u26, u27, u28, u29, u30, u31, u32, u33, u34, u35, u36, u37, u38, u39, u40, u41, u42, u43, u44, u45, u46, u47, u48, u49, u50, rfl, F0, F1, F2, F3, F4, F5, F6, F7, F8, F9, F10, F11, N10, N11, hx⟩ := hI
          have l6 := he ⟨6, .data⟩ (by simp) rfl
          have e := F6 l6; subst e
          obtain ⟨k0, k1, k2, m0, m1, m2⟩ := (hR0.keep (hx.block gr hR0.lt (by omega) (by omega))).cells
          refine wpOp_stepx ho rfl (fun K hK => ?_)
          unfold aeA
          go_simp
          exact hK _ _ ⟨_, _, _, _, _, _, _, _, _, _, _, _, _, _, _, _, _, _, _, _, _, _, _, _, _, _, _, _, _, _, _, _, _, _, _, _, _, _, _, rfl, fun hj => (by first | exact (F0 (by rwa [sgx (by decide)] at hj)) | rfl), fun hj => (by first | exact (F1 (by rwa [sgx (by decide)] at hj)) | rfl), fun hj => (by first | exact (F2 (by rwa [sgx (by decide)] at hj)) | rfl), fun hj => (by first | exact (F3 (by rwa [sgx (by decide)] at hj)) | rfl), fun hj => (by first | exact (F4 (by rwa [sgx (by decide)] at hj)) | rfl), fun hj hu => (F5 (by rwa [sgx (by decide)] at hj) (by rwa [sgx (by decide)] at hu)), fun hj => (by first | exact (F6 (by rwa [sgx (by decide)] at hj)) | rfl), fun _ => rfl, fun hj => (F8 (by rwa [sgx (by decide)] at hj)), fun hj => (F9 (by rwa [sgx (by decide)] at hj)), fun hj => (F10 (by rwa [sgx (by decide)] at hj)), fun hj => (F11 (by rwa [sgx (by decide)] at hj)), fun hj => (N10 (by rwa [sgx (by decide)] at hj)), fun hj => (N11 (by rwa [sgx (by decide)] at hj)), hx⟩
      · as_aux_lemma =>
          obtain ⟨u12, u13, u14, u15, u16, u17, u18, u19, u20, u21, u22, u23, u24, u25, u26, u27, u28, u29, u30, u31, u32, u33, u34, u35, u36, u37, u38, u39, u40, u41, u42, u43, u44, u45, u46, u47, u48, u49, u50, rfl, F0, F1, F2, F3, F4, F5, F6, F7, F8, F9, F10, F11, N10, N11, hx⟩ := hI
          have l5 := he ⟨5, .data⟩ (by simp) rfl
          have l7 := he ⟨7, .data⟩ (by simp) rfl
          obtain ⟨g, rfl, g1, g2⟩ := F5 l5 (getD_both hl)
          have e := F7 l7; subst e
          have hd2 : Ints w' w'.heap.size u48 x.2.2.data := (Owns.touch2 HD0.out hx (fun k hk => by have := (OwnR.lt HD0.out k hk).1; omega)).ints hdl hd64
          refine wpOp_stepx ho rfl (fun K hK => ?_)
          unfold aeA
          refine wp_catN w' (.tmp 46) (.tmp 48) rfl g (by rfl) g2 u48 x.2.2.data w'.heap.size (by rfl) hd2 (by omega) ?_
          intro v' w'' ho2 ht hbk
          exact hK _ _ ⟨_, _, _, _, _, _, _, _, _, _, _, _, _, _, _, _, _, _, _, _, _, _, _, _, _, _, _, _, _, _, _, _, _, _, _, _, _, _, _, rfl, fun hj => (by first | exact (F0 (by rwa [sgx (by decide)] at hj)) | rfl), fun hj => (by first | exact (F1 (by rwa [sgx (by decide)] at hj)) | rfl), fun hj => (by first | exact (F2 (by rwa [sgx (by decide)] at hj)) | rfl), fun hj => (by first | exact (F3 (by rwa [sgx (by decide)] at hj)) | rfl), fun hj => (by first | exact (F4 (by rwa [sgx (by decide)] at hj)) | rfl), fun _ hu => absurd hu (by rw [sgix hl]; simp), fun hj => (by first | exact (F6 (by rwa [sgx (by decide)] at hj)) | rfl), fun hj => (by first | exact (F7 (by rwa [sgx (by decide)] at hj)) | rfl), fun _ => ho2.rebase g1, fun hj => absurd (hcl 9 _ rfl (by rwa [sgx (by decide)] at hj) ⟨8, .data⟩ (by simp) rfl) (by rw [getD_both hl]; simp), fun hj => absurd (hcl 10 _ rfl (by rwa [sgx (by decide)] at hj) ⟨8, .chain⟩ (by simp) rfl) (by rw [getD_both hl]; simp), fun hj => absurd (hcl 9 _ rfl (hcl 11 _ rfl (by rwa [sgx (by decide)] at hj) ⟨9, .data⟩ (by simp) rfl) ⟨8, .data⟩ (by simp) rfl) (by rw [getD_both hl]; simp), fun hj => (N10 (by rwa [sgx (by decide)] at hj)).touch ht (by omega), fun hj => (N11 (by rwa [sgx (by decide)] at hj)).touch ht (by omega), hx.transN ht (.inr (.inr g1))⟩
      · as_aux_lemma =>
          obtain ⟨u12, u13, u14, u15, u16, u17, u18, u19, u20, u21, u22, u23, u24, u25, u26, u27, u28, u29, u30, u31, u32, u33, u34, u35, u36, u37, u38, u39, u40, u41, u42, u43, u44, u45, u46, u47, u48, u49, u50, rfl, F0, F1, F2, F3, F4, F5, F6, F7, F8, F9, F10, F11, N10, N11, hx⟩ := hI
          have l2 := he ⟨2, .data⟩ (by simp) rfl
          have l4 := he ⟨4, .data⟩ (by simp) rfl
          have l8 := he ⟨8, .data⟩ (by simp) rfl
          have e := F2 l2; subst e
          have e := F4 l4; subst e
          have hov := F8 l8
          obtain ⟨qa, qc, rfl, _, _⟩ := hov.shape
          refine wpOp_stepx ho rfl (fun K hK => ?_)
          unfold aeA
          go_simp
          exact hK _ _ ⟨_, _, _, _, _, _, _, _, _, _, _, _, _, _, _, _, _, _, _, _, _, _, _, _, _, _, _, _, _, _, _, _, _, _, _, _, _, _, _, rfl, fun hj => (by first | exact (F0 (by rwa [sgx (by decide)] at hj)) | rfl), fun hj => (by first | exact (F1 (by rwa [sgx (by decide)] at hj)) | rfl), fun hj => (by first | exact (F2 (by rwa [sgx (by decide)] at hj)) | rfl), fun hj => (by first | exact (F3 (by rwa [sgx (by decide)] at hj)) | rfl), fun hj => (by first | exact (F4 (by rwa [sgx (by decide)] at hj)) | rfl), fun hj hu => (F5 (by rwa [sgx (by decide)] at hj) (by rwa [sgx (by decide)] at hu)), fun hj => (by first | exact (F6 (by rwa [sgx (by decide)] at hj)) | rfl), fun hj => (by first | exact (F7 (by rwa [sgx (by decide)] at hj)) | rfl), fun hj => (F8 (by rwa [sgx (by decide)] at hj)), fun _ => ⟨_, rfl, hov⟩, fun hj => (F10 (by rwa [sgx (by decide)] at hj)), fun hj => (F11 (by rwa [sgx (by decide)] at hj)), fun hj => (N10 (by rwa [sgx (by decide)] at hj)), fun hj => (N11 (by rwa [sgx (by decide)] at hj)), hx⟩
      · as_aux_lemma =>
          obtain ⟨u12, u13, u14, u15, u16, u17, u18, u19, u20, u21, u22, u23, u24, u25, u26, u27, u28, u29, u30, u31, u32, u33, u34, u35, u36, u37, u38, u39, u40, u41, u42, u43, u44, u45, u46, u47, u48, u49, u50, rfl, F0, F1, F2, F3, F4, F5, F6, F7, F8, F9, F10, F11, N10, N11, hx⟩ := hI
          have l0 := he ⟨0, .data⟩ (by simp) rfl
          have e := F0 l0; subst e
          have hb := N10 (getD_both hl)
          obtain ⟨k0, k1, m0, m1⟩ := hb.cells
          refine wpOp_stepx ho rfl (fun K hK => ?_)
          unfold aeA
          have ht := touchA s1 w' va vb
          obtain ⟨qa, qc, e1, _, _⟩ := HA1.out.shape
          obtain ⟨ra, rc, e2, _, _⟩ := HA2.out.shape
          subst e1 e2
          go_simp
          exact hK _ _ ⟨_, _, _, _, _, _, _, _, _, _, _, _, _, _, _, _, _, _, _, _, _, _, _, _, _, _, _, _, _, _, _, _, _, _, _, _, _, _, _, rfl, fun hj => (by first | exact (F0 (by rwa [sgx (by decide)] at hj)) | rfl), fun hj => (by first | exact (F1 (by rwa [sgx (by decide)] at hj)) | rfl), fun hj => (by first | exact (F2 (by rwa [sgx (by decide)] at hj)) | rfl), fun hj => (by first | exact (F3 (by rwa [sgx (by decide)] at hj)) | rfl), fun hj => (by first | exact (F4 (by rwa [sgx (by decide)] at hj)) | rfl), fun hj hu => (let ⟨g, e1, e2, e3⟩ := (F5 (by rwa [sgx (by decide)] at hj) (by rwa [sgx (by decide)] at hu)); ⟨g, e1, e2, by rw [ht.block g (heap_lt e3) (by omega)]; exact e3⟩), fun hj => (by first | exact (F6 (by rwa [sgx (by decide)] at hj)) | rfl), fun hj => (by first | exact (F7 (by rwa [sgx (by decide)] at hj)) | rfl), fun hj => (F8 (by rwa [sgx (by decide)] at hj)).touch ht (by omega), fun hj => (let ⟨d, e1, e2⟩ := (F9 (by rwa [sgx (by decide)] at hj)); ⟨d, e1, e2.touch ht (by omega)⟩), fun _ => hb.put _ _, fun hj => (let ⟨d, e1, e2⟩ := (F11 (by rwa [sgx (by decide)] at hj)); ⟨d, e1.touch ht (by omega), e2.touch ht (by omega)⟩), fun hj => absurd hj (by rw [sgix hl]; simp), fun hj => (N11 (by rwa [sgx (by decide)] at hj)).touch ht (by omega), hx.transN ht (.inl rfl)⟩
      · as_aux_lemma =>
          obtain ⟨u12, u13, u14, u15, u16, u17, u18, u19, u20, u21, u22, u23, u24, u25, u26, u27, u28, u29, u30, u31, u32, u33, u34, u35, u36, u37, u38, u39, u40, u41, u42, u43, u44, u45, u46, u47, u48, u49, u50, rfl, F0, F1, F2, F3, F4, F5, F6, F7, F8, F9, F10, F11, N10, N11, hx⟩ := hI
          have l9 := he ⟨9, .data⟩ (by simp) rfl
          obtain ⟨d2, rfl, hov⟩ := F9 l9
          have hb := N11 (getD_both hl)
          obtain ⟨k0, k1, k2, m0, m1, m2⟩ := hb.cells
          obtain ⟨qa, qc, rfl, _, _⟩ := hov.shape
          refine wpOp_stepx ho rfl (fun K hK => ?_)
          unfold aeA
          have ht := touchR s2 w' (.int .i64 x.2.2.id) (.int .i64 x.2.2.code) (.slice qa x.2.2.data.length qc)
          go_simp
          exact hK _ _ ⟨_, _, _, _, _, _, _, _, _, _, _, _, _, _, _, _, _, _, _, _, _, _, _, _, _, _, _, _, _, _, _, _, _, _, _, _, _, _, _, rfl, fun hj => (by first | exact (F0 (by rwa [sgx (by decide)] at hj)) | rfl), fun hj => (by first | exact (F1 (by rwa [sgx (by decide)] at hj)) | rfl), fun hj => (by first | exact (F2 (by rwa [sgx (by decide)] at hj)) | rfl), fun hj => (by first | exact (F3 (by rwa [sgx (by decide)] at hj)) | rfl), fun hj => (by first | exact (F4 (by rwa [sgx (by decide)] at hj)) | rfl), fun hj hu => (let ⟨g, e1, e2, e3⟩ := (F5 (by rwa [sgx (by decide)] at hj) (by rwa [sgx (by decide)] at hu)); ⟨g, e1, e2, by rw [ht.block g (heap_lt e3) (by omega)]; exact e3⟩), fun hj => (by first | exact (F6 (by rwa [sgx (by decide)] at hj)) | rfl), fun hj => (by first | exact (F7 (by rwa [sgx (by decide)] at hj)) | rfl), fun hj => (F8 (by rwa [sgx (by decide)] at hj)).touch ht (by omega), fun hj => ⟨_, rfl, hov.touch ht (by omega)⟩, fun hj => (F10 (by rwa [sgx (by decide)] at hj)).touch ht (by omega), fun _ => ⟨_, hb.put _ _ _, hov.touch ht (by omega)⟩, fun hj => (N10 (by rwa [sgx (by decide)] at hj)).touch ht (by omega), fun hj => absurd hj (by rw [sgix hl]; simp), hx.transN ht (.inr (.inl rfl))⟩
    · intro listed a w' hI hd
      obtain ⟨u12, u13, u14, u15, u16, u17, u18, u19, u20, u21, u22, u23, u24, u25, u26, u27, u28, u29, u30, u31, u32, u33, u34, u35, u36, u37, u38, u39, u40, u41, u42, u43, u44, u45, u46, u47, u48, u49, u50, rfl, F0, F1, F2, F3, F4, F5, F6, F7, F8, F9, F10, F11, N10, N11, hx⟩ := hI
      have hA1 := F10 (hd 10 (by show 10 < 12; omega))
      obtain ⟨d2, hR1, hD1⟩ := F11 (hd 11 (by show 11 < 12; omega))
      obtain ⟨k0, k1, m0, m1⟩ := hA1.cells
      obtain ⟨c0, c1, c2, n0, n1, n2⟩ := hR1.cells
      have HE1 := hid (Owns.touch2 HA1.out hx (fun k hk => by have := (OwnR.lt HA1.out k hk).1; omega)); have HE2 := hid (Owns.touch2 HA2.out hx (fun k hk => by have := (OwnR.lt HA2.out k hk).1; omega)); have HE3 := hid hD1
      have HB4 := hid (show Below s w w' from HBQ.out.trans (hx.below (by omega) (by omega) (by omega)))
      clear F0 F1 F2 F3 F4 F5 F6 F7 F8 F9 F10 F11 N10 N11 hd hx hD1 hA1 hR1
      unfold aeA
      go_wp2_with fail
      refine bodyPost_ret (results_c2 Try.results29 _ _ ⟨s1, 0, none⟩ ⟨s2, 0, none⟩ (.agg #[va, vb]) (.agg #[.int .i64 x.2.2.id, .int .i64 x.2.2.code, d2]) rfl rfl ?_ ?_) rfl ?_
      · exact loadVar_atm _ _ _ _ k0 k1
      · exact loadVar_rsp _ _ _ _ _ c0 c1 c2
      exact ⟨va, vb, d2, rfl, HE1.out.rebase hsW, HE2.out.rebase hsW, HE3.out.rebase hqW, HAP.out, apart_of HA1.out HE3.out, apart_of HA2.out HE3.out, by rw [HSE.out] at HB4; exact HB4.out⟩

end Go.Proofs.Yteamebdehembgaa
