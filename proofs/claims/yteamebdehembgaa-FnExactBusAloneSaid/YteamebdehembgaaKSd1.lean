/-
  One thing at once of the reference, in a copy: where nothing is written (printed by wip/gen_sdo.py).
-/
import Derived.Test.YteamebdehembgaaJSp1
set_option linter.unusedVariables false
set_option linter.unusedSimpArgs false
namespace Go.Proofs.Yteamebdehembgaa
open Go.RowKit
attribute [local go_sem ↓] Go.wp_at_zero Go.wp_at_succ

/-- What the reference's l4Do comes to. -/
def SDoP (B gw ow cw gh oh ch : Nat) (x : List Int × List Int × Rs) (w : World) (e : Ending) (w' : World) : Prop :=
  ∃ dv, e = .returned (.tuple #[.agg #[.slice (some ⟨gw, ow, none⟩) 64 cw, .slice (some ⟨gh, oh, none⟩) 6 ch], .agg #[.int .i64 x.2.2.id, .int .i64 x.2.2.code, dv]]) ∧ Owns w' w.heap.size 3 1 rowI dv x.2.2.data ∧
    Owns w' B 3 1 rowI (.slice (some ⟨gw, ow, none⟩) 64 cw) x.1 ∧ Owns w' B 3 1 rowI (.slice (some ⟨gh, oh, none⟩) 6 ch) x.2.1 ∧ Touch2 gw gh w w'
/-- A store and what is held, in two blocks. -/
structure SIn (w : World) (B gw ow cw gh oh ch : Nat) (ws hs : List Int) : Prop where
  ww : Owns w B 3 1 rowI (.slice (some ⟨gw, ow, none⟩) 64 cw) ws
  hh : Owns w B 3 1 rowI (.slice (some ⟨gh, oh, none⟩) 6 ch) hs
  ne : gw ≠ gh
  lw : ws.length = 64
  lh : hs.length = 6
  c1 : 64 ≤ cw
  c2 : 6 ≤ ch
theorem AdBox.heap {w w' : World} {g : Nat} {wv hv : Value} {id kind addr many : Int} {wp : Bool} {dv lv : Value} (h : AdBox w g wv hv id kind addr many wp dv lv) (e : ∀ k, g ≤ k → k ≤ g + 3 → w'.heap[k]? = w.heap[k]?) : AdBox w' g wv hv id kind addr many wp dv lv := by
  simpa only [AdBox, ReqAt, RspAt, World.cell?, World.frozen?, e g (by omega) (by omega), e (g + 1) (by omega) (by omega), e (g + 2) (by omega) (by omega), e (g + 3) (by omega) (by omega)] using h
theorem four {g n : Nat} (h : g + 3 < n) : g < n ∧ g + 1 < n ∧ g + 1 + 1 < n ∧ g + 1 + 1 + 1 < n := by omega
theorem rsp_new (w : World) (id : Int) (T : TypeId) : RspAt (w.alloc (.cells #[.int .i64 id, .int .i64 1, .slice none 0 0] T)) w.heap.size id 1 (.slice none 0 0) := by
  refine ⟨?_, ?_, ?_, ?_, ?_, ?_⟩ <;> simp [go_sem]
theorem Touch2.setR {a b o : Nat} {w w' : World} (h : Touch2 a b w w') (v : Value) : Touch2 a b w (w'.setCell ⟨b, o, none⟩ v) := h.trans (Touch2.right ..)
theorem Touch2.setN {a b g o : Nat} {w w' : World} (h : Touch2 a b w w') (hg : w.heap.size ≤ g) (v : Value) : Touch2 a b w (w'.setCell ⟨g, o, none⟩ v) :=
  ⟨h.os, h.tape, h.output, by simpa [World.setCell] using h.size, fun k hk h1 h2 => by rw [Below.heap_setCell _ _ _ _ (show k ≠ g by omega)]; exact h.block k hk h1 h2⟩
theorem Touch2.drewd {a b : Nat} {w w' : World} (h : Touch2 a b w w') : Touch2 a b w w'.drew := h.trans ⟨rfl, rfl, rfl, Nat.le_refl _, fun _ _ _ _ => rfl⟩
theorem Touch2.drews {a b : Nat} {w w' : World} (h : Touch2 a b w w') (n : Nat) : Touch2 a b w (w'.drewN n) := h.trans ⟨rfl, rfl, rfl, Nat.le_refl _, fun _ _ _ _ => rfl⟩
theorem Touch2.allocd {a b : Nat} {w w' : World} (h : Touch2 a b w w') (o : Obj) : Touch2 a b w (w'.alloc o) := h.trans (Touch2.of_below ((Below.refl _ _).alloc (Nat.le_refl _) o) (Nat.le_refl _))
theorem Touch2.bel {a b : Nat} {w w' w'' : World} (h : Touch2 a b w w') (hb : Below w'.heap.size w' w'') : Touch2 a b w w'' := h.trans (Touch2.of_below hb (Nat.le_refl _))
theorem Touch2.ofL {a b : Nat} {w w' : World} (h : Touch a w w') : Touch2 a b w w' := ⟨h.os, h.tape, h.output, h.size, fun k hk h1 _ => h.block k hk h1⟩
theorem Touch2.ofR {a b : Nat} {w w' : World} (h : Touch b w w') : Touch2 a b w w' := ⟨h.os, h.tape, h.output, h.size, fun k hk _ h2 => h.block k hk h2⟩
theorem Owns.putRow1 {w : World} {base e g off n c : Nat} {xs : List Int} (h : Owns w base e 1 rowI (.slice (some ⟨g, off, none⟩) n c) xs) (k : Nat) (hk : k < xs.length) (x : Int) {b : Nat} (hb : b = off + k) : Owns (w.setCell ⟨g, b, none⟩ (.int .i64 x)) base e 1 rowI (.slice (some ⟨g, off, none⟩) n c) (xs.set k x) := by
  subst hb; exact h.putI k hk x

set_option maxRecDepth 4000 in
set_option maxHeartbeats 8000000 in
theorem sdo_none (v : Value) (ms : List MR) (B gw ow cw gh oh ch : Nat) (ws hs : List Int) (who : Int) (id kind addr many : Int) (wp : Bool) (dv lv : Value) (data lanes xs : List Int) (hxs : xs = burst addr many wp) (w : World) (hv : Maps w B v ms) (h : SIn w B gw ow cw gh oh ch ws hs)
    (hdv : Ints w B dv data) (hlv : Ints w B lv lanes) (hwho : inB who 0 2 = true) (hid1 : inB id 0 1 = true) (hz : wholeOf ms xs < 0) :
    Calls Try.prog 102 #[v, .agg #[.slice (some ⟨gw, ow, none⟩) 64 cw, .slice (some ⟨gh, oh, none⟩) 6 ch], .int .i64 who, .agg #[.int .i64 id, .int .i64 kind, .int .i64 addr, .int .i64 many, .bool wp, dv, lv]] w (SDoP B gw ow cw gh oh ch (ws, hs, ⟨id, 4, []⟩) w) := by
  have HDV := hid hdv; have HLV := hid hlv; have HV := hid hv; have HH := hid h
  have hgw := h.ww.ltI; have hgh := h.hh.ltI; have hcw := h.c1; have hch := h.c2; have hgne := h.ne
  have hd1 : ∃ a n c, dv = .slice a n c := by obtain ⟨a, c, h, _⟩ := hdv.1; exact ⟨_, _, _, h⟩
  have hd2 : ∃ a n c, lv = .slice a n c := by obtain ⟨a, c, h, _⟩ := hlv.1; exact ⟨_, _, _, h⟩
  obtain ⟨da, dn, dc, rfl⟩ := hd1
  obtain ⟨la, ln, lc, rfl⟩ := hd2
  simp only [inB, Bool.and_eq_true, decide_eq_true_eq] at hwho hid1
  have HXS := hid hxs
  have hl4 : xs.length ≤ 4 := by rw [hxs]; exact burst_len
  have HIN := hid (show ∀ x ∈ xs, 0 ≤ x ∧ x ≤ 63 by rw [hxs]; exact burst_in)
  clear hxs
  obtain ⟨z, hzz⟩ : ∃ z, z = wholeOf ms xs := ⟨_, rfl⟩
  rw [← hzz] at hz
  have HZ := hid hzz; clear hzz
  have HAB0 := hid (ad_open w (.slice (some ⟨gw, ow, none⟩) 64 cw) (.slice (some ⟨gh, oh, none⟩) 6 ch) id kind addr many wp (.slice da dn dc) (.slice la ln lc) 40 71 40 66)
  have HFZ0 := hid (show ∀ o, ((((w.alloc (.cells #[.slice (some ⟨gw, ow, none⟩) 64 cw, .slice (some ⟨gh, oh, none⟩) 6 ch] 40)).alloc (.cells #[.int .i64 id, .int .i64 kind, .int .i64 addr, .int .i64 many, .bool wp, .slice da dn dc, .slice la ln lc] 71)).alloc (.cells #[.slice none 0 0, .slice none 0 0] 40)).alloc (.cells #[.int .i64 0, .int .i64 0, .slice none 0 0] 66)).frozen? ⟨w.heap.size, o, none⟩ = false from fun o => by simp [go_sem])
  have hb4 := hid (show Below w.heap.size w ((((w.alloc (.cells #[.slice (some ⟨gw, ow, none⟩) 64 cw, .slice (some ⟨gh, oh, none⟩) 6 ch] 40)).alloc (.cells #[.int .i64 id, .int .i64 kind, .int .i64 addr, .int .i64 many, .bool wp, .slice da dn dc, .slice la ln lc] 71)).alloc (.cells #[.slice none 0 0, .slice none 0 0] 40)).alloc (.cells #[.int .i64 0, .int .i64 0, .slice none 0 0] 66)) from ((((Below.refl _ _).alloc (Nat.le_refl _) _).alloc (by simp) _).alloc (by simp; omega) _).alloc (by simp; omega) _)
  have hB : B ≤ w.heap.size := by omega
  clear hv h hdv hlv
  go_enter Try.func102, Try.ntmps102
  go_wp2_with (first
    | (go_at_call 147; refine (specBurst_any _ _ _ _).mono ?_; rintro e w1 ⟨u, rfl, hu, hb1, hfr⟩; rw [← HXS.out] at hu; have HB := hid (hb4.out.trans (hb1.mono hb4.out.size)); have HAB := hid (HAB0.out.below hb1 (by first | (simp; done) | (simp; omega))); have HFZ := hid (fun o => (hb1.frozen (p := ⟨w.heap.size, o, none⟩) (by first | (simp; done) | (simp; omega))).trans (HFZ0.out o)); obtain ⟨ua, ucap, hue, _, _, _, _, hur⟩ := hu.opened; subst hue; have HFL := hid (show xs.length ≠ 0 → ∀ k, (Value.slice ua xs.length ucap).ownBlock = some k → k < w1.heap.size from fun h0 k hk => by obtain ⟨b, off, rfl, hb, _⟩ := hur h0; simp [Value.ownBlock] at hk; omega); clear hur; have HU := hid hu; have HFR := hid (show ∀ k, (Value.slice ua xs.length ucap).ownBlock = some k → w.heap.size + 4 ≤ k from fun k hk => by have := hfr k hk; simp at this; omega); obtain ⟨⟨a0, a1⟩, ⟨f0, f1, f2, f3, f4, f5, f6⟩, ⟨g0, g1, g2, g3⟩, ⟨r0, r1, r2, r3, r4, r5⟩⟩ := HAB.out; have hz := HAB.out.lt; obtain ⟨z1, z2, z3, z4⟩ := four hz; clear hu hfr hb1)
    | (go_at_call 148; refine (l1Whole_any _ _ ms xs w1.heap.size _ ((HV.out.below (HB.out.mono hB)).mono (Nat.le_trans hB HB.out.size)) HU.out).mono ?_; rw [← HZ.out]; rintro e w2 ⟨rfl, hdw⟩; have hbx := hdw.below w1.heap.size; have hs12 := hbx.size; have HFZ := hid (fun o => (hbx.frozen (p := ⟨w.heap.size, o, none⟩) (show w.heap.size < w1.heap.size by have := HAB.out.lt; omega)).trans (HFZ.out o)); have HAB := hid (HAB.out.below hbx HAB.out.lt); have HB := hid (HB.out.trans (hbx.mono HB.out.size)); have HU := hid ((HU.out.below hbx).mono hbx.size); obtain ⟨⟨a0, a1⟩, ⟨f0, f1, f2, f3, f4, f5, f6⟩, ⟨g0, g1, g2, g3⟩, ⟨r0, r1, r2, r3, r4, r5⟩⟩ := HAB.out; have hz := HAB.out.lt; obtain ⟨z1, z2, z3, z4⟩ := four hz; clear hdw hbx))
  go_region
  go_wp2
  have HWW := hid (OwnR.below HH.out.ww (HB.out) (fun j hj => by simp [Value.ownBlock] at hj; omega) : Owns w2 B 3 1 rowI (.slice (some ⟨gw, ow, none⟩) 64 cw) ws)
  have HHH := hid (OwnR.below HH.out.hh (HB.out) (fun j hj => by simp [Value.ownBlock] at hj; omega) : Owns w2 B 3 1 rowI (.slice (some ⟨gh, oh, none⟩) 6 ch) hs)
  have HTT := hid (Touch2.of_below HB.out (Nat.le_refl _) : Touch2 gw gh w w2)
  have HDD := hid (Owns.zero : Owns w2 w.heap.size 3 1 rowI (.slice none 0 0) ([] : List Int))
  have HDN := hid (show ∀ j, (Value.slice none 0 0).ownBlock = some j → ∀ g, g < w2.heap.size + 9 → j ≠ g from fun j hj => by simp [Value.ownBlock] at hj)
  refine bodyPost_ret (results_c2 Try.results102 _ _ ⟨w.heap.size + 1 + 1, 0, none⟩ ⟨w.heap.size + 1 + 1 + 1, 0, none⟩ (.agg #[.slice (some ⟨gw, ow, none⟩) 64 cw, .slice (some ⟨gh, oh, none⟩) 6 ch]) (.agg #[.int .i64 id, .int .i64 4, .slice none 0 0]) rfl rfl ?_ ?_) rfl ?_
  · exact loadVar_atm _ _ _ _ (by simp [go_sem, *]) (by simp [go_sem, *])
  · exact loadVar_rsp _ _ _ _ _ (by simp [go_sem, *]) (by simp [go_sem, *]) (by simp [go_sem, *])
  refine ⟨_, rfl, ?_, ?_, ?_, ?_⟩
  · repeat (first | with_reducible exact HDD.out | with_reducible refine Owns.drewd ?_ | with_reducible refine Owns.draws ?_ _ | with_reducible refine Owns.allocd ?_ _ | with_reducible refine Owns.set' ?_ _ _ _ (fun j hj => HDN.out j hj _ (by omega)))
    try exact HDD.out
  · repeat (first | with_reducible exact HWW.out | with_reducible refine Owns.drewd ?_ | with_reducible refine Owns.draws ?_ _ | with_reducible refine Owns.allocd ?_ _ | with_reducible refine Owns.set' ?_ _ _ _ (fun j hj => by simp [Value.ownBlock] at hj; omega))
    try exact HWW.out
  · repeat (first | with_reducible exact HHH.out | with_reducible refine Owns.putRow1 ?_ _ (by have := HH.out.lh; omega) _ rfl | with_reducible refine Owns.drewd ?_ | with_reducible refine Owns.draws ?_ _ | with_reducible refine Owns.allocd ?_ _ | with_reducible refine Owns.set' ?_ _ _ _ (fun j hj => by simp [Value.ownBlock] at hj; omega))
    try exact HHH.out
  · repeat (first | with_reducible exact HTT.out | with_reducible refine Touch2.drewd ?_ | with_reducible refine Touch2.drews ?_ _ | with_reducible refine Touch2.allocd ?_ _ | with_reducible refine Touch2.setR ?_ _ | with_reducible refine Touch2.setN ?_ (by first | (simp; done) | omega) _)
    try exact HTT.out

set_option maxRecDepth 4000 in
set_option maxHeartbeats 8000000 in
theorem sdo_deny (v : Value) (ms : List MR) (B gw ow cw gh oh ch : Nat) (ws hs : List Int) (who : Int) (id kind addr many : Int) (wp : Bool) (dv lv : Value) (data lanes xs : List Int) (hxs : xs = burst addr many wp) (w : World) (hv : Maps w B v ms) (h : SIn w B gw ow cw gh oh ch ws hs)
    (hdv : Ints w B dv data) (hlv : Ints w B lv lanes) (hwho : inB who 0 2 = true) (hid1 : inB id 0 1 = true) (hz : 0 ≤ wholeOf ms xs) (hw : (kind == 2 || kind == 4) = true) (hon : (ms.getD (wholeOf ms xs).toNat default).only = true) :
    Calls Try.prog 102 #[v, .agg #[.slice (some ⟨gw, ow, none⟩) 64 cw, .slice (some ⟨gh, oh, none⟩) 6 ch], .int .i64 who, .agg #[.int .i64 id, .int .i64 kind, .int .i64 addr, .int .i64 many, .bool wp, dv, lv]] w (SDoP B gw ow cw gh oh ch (ws, hs, ⟨id, 3, []⟩) w) := by
  have HDV := hid hdv; have HLV := hid hlv; have HV := hid hv; have HH := hid h
  have hgw := h.ww.ltI; have hgh := h.hh.ltI; have hcw := h.c1; have hch := h.c2; have hgne := h.ne
  have hd1 : ∃ a n c, dv = .slice a n c := by obtain ⟨a, c, h, _⟩ := hdv.1; exact ⟨_, _, _, h⟩
  have hd2 : ∃ a n c, lv = .slice a n c := by obtain ⟨a, c, h, _⟩ := hlv.1; exact ⟨_, _, _, h⟩
  obtain ⟨da, dn, dc, rfl⟩ := hd1
  obtain ⟨la, ln, lc, rfl⟩ := hd2
  simp only [inB, Bool.and_eq_true, decide_eq_true_eq] at hwho hid1
  have HXS := hid hxs
  have hl4 : xs.length ≤ 4 := by rw [hxs]; exact burst_len
  have HIN := hid (show ∀ x ∈ xs, 0 ≤ x ∧ x ≤ 63 by rw [hxs]; exact burst_in)
  clear hxs
  obtain ⟨k, hk⟩ := Int.eq_ofNat_of_zero_le (show 0 ≤ wholeOf ms xs by omega)
  have HZ := hid hk.symm
  have hkm : k < ms.length := by have := wholeOf_lt ms xs; omega
  obtain ⟨mo, mcap, rfl, hm1, hm2, hm3, hm4, hmr⟩ := hv.opened
  obtain ⟨mb, moff, rfl, hmb, hmc⟩ := hmr (by omega)
  obtain ⟨_, _, _, c3⟩ := hmc k hkm
  have HC3 := hid c3
  have HON := hid (show (ms.getD k default).only = true by rw [hk] at hon; exact hon)
  clear hon c3 hmc hmr
  have HW := hid hw; clear hw
  have HAB0 := hid (ad_open w (.slice (some ⟨gw, ow, none⟩) 64 cw) (.slice (some ⟨gh, oh, none⟩) 6 ch) id kind addr many wp (.slice da dn dc) (.slice la ln lc) 40 71 40 66)
  have HFZ0 := hid (show ∀ o, ((((w.alloc (.cells #[.slice (some ⟨gw, ow, none⟩) 64 cw, .slice (some ⟨gh, oh, none⟩) 6 ch] 40)).alloc (.cells #[.int .i64 id, .int .i64 kind, .int .i64 addr, .int .i64 many, .bool wp, .slice da dn dc, .slice la ln lc] 71)).alloc (.cells #[.slice none 0 0, .slice none 0 0] 40)).alloc (.cells #[.int .i64 0, .int .i64 0, .slice none 0 0] 66)).frozen? ⟨w.heap.size, o, none⟩ = false from fun o => by simp [go_sem])
  have hb4 := hid (show Below w.heap.size w ((((w.alloc (.cells #[.slice (some ⟨gw, ow, none⟩) 64 cw, .slice (some ⟨gh, oh, none⟩) 6 ch] 40)).alloc (.cells #[.int .i64 id, .int .i64 kind, .int .i64 addr, .int .i64 many, .bool wp, .slice da dn dc, .slice la ln lc] 71)).alloc (.cells #[.slice none 0 0, .slice none 0 0] 40)).alloc (.cells #[.int .i64 0, .int .i64 0, .slice none 0 0] 66)) from ((((Below.refl _ _).alloc (Nat.le_refl _) _).alloc (by simp) _).alloc (by simp; omega) _).alloc (by simp; omega) _)
  have hB : B ≤ w.heap.size := by omega
  clear hv h hdv hlv
  go_enter Try.func102, Try.ntmps102
  go_wp2_with (first
    | (go_at_call 147; refine (specBurst_any _ _ _ _).mono ?_; rintro e w1 ⟨u, rfl, hu, hb1, hfr⟩; rw [← HXS.out] at hu; have HB := hid (hb4.out.trans (hb1.mono hb4.out.size)); have HAB := hid (HAB0.out.below hb1 (by first | (simp; done) | (simp; omega))); have HFZ := hid (fun o => (hb1.frozen (p := ⟨w.heap.size, o, none⟩) (by first | (simp; done) | (simp; omega))).trans (HFZ0.out o)); obtain ⟨ua, ucap, hue, _, _, _, _, hur⟩ := hu.opened; subst hue; have HFL := hid (show xs.length ≠ 0 → ∀ k, (Value.slice ua xs.length ucap).ownBlock = some k → k < w1.heap.size from fun h0 k hk => by obtain ⟨b, off, rfl, hb, _⟩ := hur h0; simp [Value.ownBlock] at hk; omega); clear hur; have HU := hid hu; have HFR := hid (show ∀ k, (Value.slice ua xs.length ucap).ownBlock = some k → w.heap.size + 4 ≤ k from fun k hk => by have := hfr k hk; simp at this; omega); obtain ⟨⟨a0, a1⟩, ⟨f0, f1, f2, f3, f4, f5, f6⟩, ⟨g0, g1, g2, g3⟩, ⟨r0, r1, r2, r3, r4, r5⟩⟩ := HAB.out; have hz := HAB.out.lt; obtain ⟨z1, z2, z3, z4⟩ := four hz; clear hu hfr hb1)
    | (go_at_call 148; refine (l1Whole_any _ _ ms xs w1.heap.size _ ((HV.out.below (HB.out.mono hB)).mono (Nat.le_trans hB HB.out.size)) HU.out).mono ?_; rw [← HZ.out]; rintro e w2 ⟨rfl, hdw⟩; have hbx := hdw.below w1.heap.size; have hs12 := hbx.size; have HFZ := hid (fun o => (hbx.frozen (p := ⟨w.heap.size, o, none⟩) (show w.heap.size < w1.heap.size by have := HAB.out.lt; omega)).trans (HFZ.out o)); have HAB := hid (HAB.out.below hbx HAB.out.lt); have HB := hid (HB.out.trans (hbx.mono HB.out.size)); have HU := hid ((HU.out.below hbx).mono hbx.size); obtain ⟨⟨a0, a1⟩, ⟨f0, f1, f2, f3, f4, f5, f6⟩, ⟨g0, g1, g2, g3⟩, ⟨r0, r1, r2, r3, r4, r5⟩⟩ := HAB.out; have hz := HAB.out.lt; obtain ⟨z1, z2, z3, z4⟩ := four hz; clear hdw hbx)
    | (go_at_call 146; refine (l3Writes_val _ _ _ _ _ _ _ _).mono ?_; rw [HW.out]; rintro e w3 ⟨rfl, hbx⟩; have hb23 := hid (show Below w2.heap.size w2 w3 from ((Below.refl _ _).alloc (Nat.le_refl _) _).trans (hbx.mono (by simp))); have HR := hid ((rsp_new w2 id 66).below hbx (by simp)); have HFZ := hid (fun o => (hb23.out.frozen (p := ⟨w.heap.size, o, none⟩) (show w.heap.size < w2.heap.size by have := HAB.out.lt; omega)).trans (HFZ.out o)); have HAB := hid (HAB.out.below hb23.out HAB.out.lt); have HB := hid (HB.out.trans (hb23.out.mono HB.out.size)); have HU := hid ((HU.out.below hb23.out).mono hb23.out.size); have hgo4 : w.heap.size + 4 ≤ w2.heap.size := (by omega); obtain ⟨o0, o1, o2, o3, o4, o5⟩ := HR.out; have hgl := HR.out.lt; obtain ⟨⟨a0, a1⟩, ⟨f0, f1, f2, f3, f4, f5, f6⟩, ⟨g0, g1, g2, g3⟩, ⟨r0, r1, r2, r3, r4, r5⟩⟩ := HAB.out; have hz := HAB.out.lt; obtain ⟨z1, z2, z3, z4⟩ := four hz; have c3 : w3.cell? ⟨mb, moff + k * 4 + 3, none⟩ = some (.bool true) := (by rw [HB.out.cell (p := ⟨mb, moff + k * 4 + 3, none⟩) (by show mb < _; omega)]; rw [← HON.out]; exact HC3.out); clear hbx))
  go_region
  go_wp2
  have HWW := hid (OwnR.below HH.out.ww (HB.out) (fun j hj => by simp [Value.ownBlock] at hj; omega) : Owns w3 B 3 1 rowI (.slice (some ⟨gw, ow, none⟩) 64 cw) ws)
  have HHH := hid (OwnR.below HH.out.hh (HB.out) (fun j hj => by simp [Value.ownBlock] at hj; omega) : Owns w3 B 3 1 rowI (.slice (some ⟨gh, oh, none⟩) 6 ch) hs)
  have HTT := hid (Touch2.of_below HB.out (Nat.le_refl _) : Touch2 gw gh w w3)
  have HDD := hid (Owns.zero : Owns w3 w.heap.size 3 1 rowI (.slice none 0 0) ([] : List Int))
  have HDN := hid (show ∀ j, (Value.slice none 0 0).ownBlock = some j → ∀ g, g < w3.heap.size → j ≠ g from fun j hj => by simp [Value.ownBlock] at hj)
  refine bodyPost_ret (results_c2 Try.results102 _ _ ⟨w.heap.size + 1 + 1, 0, none⟩ ⟨w.heap.size + 1 + 1 + 1, 0, none⟩ (.agg #[.slice (some ⟨gw, ow, none⟩) 64 cw, .slice (some ⟨gh, oh, none⟩) 6 ch]) (.agg #[.int .i64 id, .int .i64 3, .slice none 0 0]) rfl rfl ?_ ?_) rfl ?_
  · exact loadVar_atm _ _ _ _ (by simp [go_sem, *]) (by simp [go_sem, *])
  · exact loadVar_rsp _ _ _ _ _ (by simp [go_sem, *]) (by simp [go_sem, *]) (by simp [go_sem, *])
  refine ⟨_, rfl, ?_, ?_, ?_, ?_⟩
  · repeat (first | with_reducible exact HDD.out | with_reducible refine Owns.drewd ?_ | with_reducible refine Owns.draws ?_ _ | with_reducible refine Owns.allocd ?_ _ | with_reducible refine Owns.set' ?_ _ _ _ (fun j hj => HDN.out j hj _ (by omega)))
    try exact HDD.out
  · repeat (first | with_reducible exact HWW.out | with_reducible refine Owns.drewd ?_ | with_reducible refine Owns.draws ?_ _ | with_reducible refine Owns.allocd ?_ _ | with_reducible refine Owns.set' ?_ _ _ _ (fun j hj => by simp [Value.ownBlock] at hj; omega))
    try exact HWW.out
  · repeat (first | with_reducible exact HHH.out | with_reducible refine Owns.putRow1 ?_ _ (by have := HH.out.lh; omega) _ rfl | with_reducible refine Owns.drewd ?_ | with_reducible refine Owns.draws ?_ _ | with_reducible refine Owns.allocd ?_ _ | with_reducible refine Owns.set' ?_ _ _ _ (fun j hj => by simp [Value.ownBlock] at hj; omega))
    try exact HHH.out
  · repeat (first | with_reducible exact HTT.out | with_reducible refine Touch2.drewd ?_ | with_reducible refine Touch2.drews ?_ _ | with_reducible refine Touch2.allocd ?_ _ | with_reducible refine Touch2.setR ?_ _ | with_reducible refine Touch2.setN ?_ (by first | (simp; done) | omega) _)
    try exact HTT.out

set_option maxRecDepth 4000 in
set_option maxHeartbeats 8000000 in
theorem sdo_read (v : Value) (ms : List MR) (B gw ow cw gh oh ch : Nat) (ws hs : List Int) (who : Int) (id kind addr many : Int) (wp : Bool) (dv lv : Value) (data lanes xs : List Int) (hxs : xs = burst addr many wp) (w : World) (hv : Maps w B v ms) (h : SIn w B gw ow cw gh oh ch ws hs)
    (hdv : Ints w B dv data) (hlv : Ints w B lv lanes) (hwho : inB who 0 2 = true) (hid1 : inB id 0 1 = true) (hz : 0 ≤ wholeOf ms xs) (hk1 : kind = 1) (hws : ws.all wordOk = true) :
    Calls Try.prog 102 #[v, .agg #[.slice (some ⟨gw, ow, none⟩) 64 cw, .slice (some ⟨gh, oh, none⟩) 6 ch], .int .i64 who, .agg #[.int .i64 id, .int .i64 kind, .int .i64 addr, .int .i64 many, .bool wp, dv, lv]] w (SDoP B gw ow cw gh oh ch (ws, hs, ⟨id, 1, getAll ws xs⟩) w) := by
  have HDV := hid hdv; have HLV := hid hlv; have HV := hid hv; have HH := hid h
  have hgw := h.ww.ltI; have hgh := h.hh.ltI; have hcw := h.c1; have hch := h.c2; have hgne := h.ne
  have hd1 : ∃ a n c, dv = .slice a n c := by obtain ⟨a, c, h, _⟩ := hdv.1; exact ⟨_, _, _, h⟩
  have hd2 : ∃ a n c, lv = .slice a n c := by obtain ⟨a, c, h, _⟩ := hlv.1; exact ⟨_, _, _, h⟩
  obtain ⟨da, dn, dc, rfl⟩ := hd1
  obtain ⟨la, ln, lc, rfl⟩ := hd2
  simp only [inB, Bool.and_eq_true, decide_eq_true_eq] at hwho hid1
  have HXS := hid hxs
  have hl4 : xs.length ≤ 4 := by rw [hxs]; exact burst_len
  have HIN := hid (show ∀ x ∈ xs, 0 ≤ x ∧ x ≤ 63 by rw [hxs]; exact burst_in)
  clear hxs
  obtain ⟨k, hk⟩ := Int.eq_ofNat_of_zero_le (show 0 ≤ wholeOf ms xs by omega)
  have HZ := hid hk.symm
  have hkm : k < ms.length := by have := wholeOf_lt ms xs; omega
  have HWI := hid (show ∀ x ∈ ws, I64 x from fun x hx => by
    have := List.all_eq_true.1 hws x hx
    simp only [wordOk, inB, Bool.and_eq_true, decide_eq_true_eq] at this
    unfold I64; omega)
  have hw : (kind == 2 || kind == 4) = false := by rw [hk1]; rfl
  have HW := hid hw; clear hw hws
  have hk1b : (kind == 1) = true := by rw [hk1]; rfl
  have hk3b : (kind == 3) = false := by rw [hk1]; rfl
  have hk4b : (kind == 4) = false := by rw [hk1]; rfl
  clear hk1
  have HAB0 := hid (ad_open w (.slice (some ⟨gw, ow, none⟩) 64 cw) (.slice (some ⟨gh, oh, none⟩) 6 ch) id kind addr many wp (.slice da dn dc) (.slice la ln lc) 40 71 40 66)
  have HFZ0 := hid (show ∀ o, ((((w.alloc (.cells #[.slice (some ⟨gw, ow, none⟩) 64 cw, .slice (some ⟨gh, oh, none⟩) 6 ch] 40)).alloc (.cells #[.int .i64 id, .int .i64 kind, .int .i64 addr, .int .i64 many, .bool wp, .slice da dn dc, .slice la ln lc] 71)).alloc (.cells #[.slice none 0 0, .slice none 0 0] 40)).alloc (.cells #[.int .i64 0, .int .i64 0, .slice none 0 0] 66)).frozen? ⟨w.heap.size, o, none⟩ = false from fun o => by simp [go_sem])
  have hb4 := hid (show Below w.heap.size w ((((w.alloc (.cells #[.slice (some ⟨gw, ow, none⟩) 64 cw, .slice (some ⟨gh, oh, none⟩) 6 ch] 40)).alloc (.cells #[.int .i64 id, .int .i64 kind, .int .i64 addr, .int .i64 many, .bool wp, .slice da dn dc, .slice la ln lc] 71)).alloc (.cells #[.slice none 0 0, .slice none 0 0] 40)).alloc (.cells #[.int .i64 0, .int .i64 0, .slice none 0 0] 66)) from ((((Below.refl _ _).alloc (Nat.le_refl _) _).alloc (by simp) _).alloc (by simp; omega) _).alloc (by simp; omega) _)
  have hB : B ≤ w.heap.size := by omega
  clear hv h hdv hlv
  go_enter Try.func102, Try.ntmps102
  go_wp2_with (first
    | (go_at_call 147; refine (specBurst_any _ _ _ _).mono ?_; rintro e w1 ⟨u, rfl, hu, hb1, hfr⟩; rw [← HXS.out] at hu; have HB := hid (hb4.out.trans (hb1.mono hb4.out.size)); have HAB := hid (HAB0.out.below hb1 (by first | (simp; done) | (simp; omega))); have HFZ := hid (fun o => (hb1.frozen (p := ⟨w.heap.size, o, none⟩) (by first | (simp; done) | (simp; omega))).trans (HFZ0.out o)); obtain ⟨ua, ucap, hue, _, _, _, _, hur⟩ := hu.opened; subst hue; have HFL := hid (show xs.length ≠ 0 → ∀ k, (Value.slice ua xs.length ucap).ownBlock = some k → k < w1.heap.size from fun h0 k hk => by obtain ⟨b, off, rfl, hb, _⟩ := hur h0; simp [Value.ownBlock] at hk; omega); clear hur; have HU := hid hu; have HFR := hid (show ∀ k, (Value.slice ua xs.length ucap).ownBlock = some k → w.heap.size + 4 ≤ k from fun k hk => by have := hfr k hk; simp at this; omega); obtain ⟨⟨a0, a1⟩, ⟨f0, f1, f2, f3, f4, f5, f6⟩, ⟨g0, g1, g2, g3⟩, ⟨r0, r1, r2, r3, r4, r5⟩⟩ := HAB.out; have hz := HAB.out.lt; obtain ⟨z1, z2, z3, z4⟩ := four hz; clear hu hfr hb1)
    | (go_at_call 148; refine (l1Whole_any _ _ ms xs w1.heap.size _ ((HV.out.below (HB.out.mono hB)).mono (Nat.le_trans hB HB.out.size)) HU.out).mono ?_; rw [← HZ.out]; rintro e w2 ⟨rfl, hdw⟩; have hbx := hdw.below w1.heap.size; have hs12 := hbx.size; have HFZ := hid (fun o => (hbx.frozen (p := ⟨w.heap.size, o, none⟩) (show w.heap.size < w1.heap.size by have := HAB.out.lt; omega)).trans (HFZ.out o)); have HAB := hid (HAB.out.below hbx HAB.out.lt); have HB := hid (HB.out.trans (hbx.mono HB.out.size)); have HU := hid ((HU.out.below hbx).mono hbx.size); obtain ⟨⟨a0, a1⟩, ⟨f0, f1, f2, f3, f4, f5, f6⟩, ⟨g0, g1, g2, g3⟩, ⟨r0, r1, r2, r3, r4, r5⟩⟩ := HAB.out; have hz := HAB.out.lt; obtain ⟨z1, z2, z3, z4⟩ := four hz; clear hdw hbx)
    | (go_at_call 146; refine (l3Writes_val _ _ _ _ _ _ _ _).mono ?_; rw [HW.out]; rintro e w3 ⟨rfl, hbx⟩; have hb23 := hid (show Below w2.heap.size w2 w3 from ((Below.refl _ _).alloc (Nat.le_refl _) _).trans (hbx.mono (by simp))); have HR := hid ((rsp_new w2 id 66).below hbx (by simp)); have HFZ := hid (fun o => (hb23.out.frozen (p := ⟨w.heap.size, o, none⟩) (show w.heap.size < w2.heap.size by have := HAB.out.lt; omega)).trans (HFZ.out o)); have HAB := hid (HAB.out.below hb23.out HAB.out.lt); have HB := hid (HB.out.trans (hb23.out.mono HB.out.size)); have HU := hid ((HU.out.below hb23.out).mono hb23.out.size); have hgo4 : w.heap.size + 4 ≤ w2.heap.size := (by omega); obtain ⟨o0, o1, o2, o3, o4, o5⟩ := HR.out; have hgl := HR.out.lt; obtain ⟨⟨a0, a1⟩, ⟨f0, f1, f2, f3, f4, f5, f6⟩, ⟨g0, g1, g2, g3⟩, ⟨r0, r1, r2, r3, r4, r5⟩⟩ := HAB.out; have hz := HAB.out.lt; obtain ⟨z1, z2, z3, z4⟩ := four hz; clear hbx)
    | (go_at_call 149; obtain ⟨w4, hw4⟩ : ∃ w4, w4 = w3 := ⟨_, rfl⟩; refine (l2Get_any gw ow cw w3.heap.size _ ws xs _ (Owns.ints (OwnR.below HH.out.ww (HB.out) (fun j hj => by simp [Value.ownBlock] at hj; omega) : Owns w3 B 3 1 rowI (.slice (some ⟨gw, ow, none⟩) 64 cw) ws) (by rw [HH.out.lw]; omega) HWI.out) HU.out (Nat.le_refl _) HIN.out hl4 HH.out.lw).mono ?_; clear hw4 w4; rintro e w4 ⟨dv2, rfl, hod, hbx⟩; obtain ⟨qa, qc, rfl, hqc, hqm⟩ := hod.shape; have HAB := hid (HAB.out.below hbx HAB.out.lt); have hgl3 := HR.out.lt; have HR := hid (HR.out.below hbx HR.out.lt); have HB := hid (HB.out.trans (hbx.mono HB.out.size)); have hs34 := hbx.size; obtain ⟨o0, o1, o2, o3, o4, o5⟩ := HR.out; have hgl := HR.out.lt; obtain ⟨⟨a0, a1⟩, ⟨f0, f1, f2, f3, f4, f5, f6⟩, ⟨g0, g1, g2, g3⟩, ⟨r0, r1, r2, r3, r4, r5⟩⟩ := HAB.out; have hz := HAB.out.lt; obtain ⟨z1, z2, z3, z4⟩ := four hz; have HDD := hid (hod.rebase (show w.heap.size ≤ w3.heap.size by omega)); have HDN := hid (show ∀ j, (Value.slice qa (getAll ws xs).length qc).ownBlock = some j → ∀ g, g < w3.heap.size → j ≠ g from fun j hj g hg => by have := (OwnR.lt hod j hj).1; omega); clear hod hbx))
  go_region
  go_wp2
  have HWW := hid (OwnR.below HH.out.ww (HB.out) (fun j hj => by simp [Value.ownBlock] at hj; omega) : Owns w4 B 3 1 rowI (.slice (some ⟨gw, ow, none⟩) 64 cw) ws)
  have HHH := hid (OwnR.below HH.out.hh (HB.out) (fun j hj => by simp [Value.ownBlock] at hj; omega) : Owns w4 B 3 1 rowI (.slice (some ⟨gh, oh, none⟩) 6 ch) hs)
  have HTT := hid (Touch2.of_below HB.out (Nat.le_refl _) : Touch2 gw gh w w4)
  refine bodyPost_ret (results_c2 Try.results102 _ _ ⟨w.heap.size + 1 + 1, 0, none⟩ ⟨w.heap.size + 1 + 1 + 1, 0, none⟩ (.agg #[.slice (some ⟨gw, ow, none⟩) 64 cw, .slice (some ⟨gh, oh, none⟩) 6 ch]) (.agg #[.int .i64 id, .int .i64 1, .slice qa (getAll ws xs).length qc]) rfl rfl ?_ ?_) rfl ?_
  · exact loadVar_atm _ _ _ _ (by simp [go_sem, *]) (by simp [go_sem, *])
  · exact loadVar_rsp _ _ _ _ _ (by simp [go_sem, *]) (by simp [go_sem, *]) (by simp [go_sem, *])
  refine ⟨_, rfl, ?_, ?_, ?_, ?_⟩
  · repeat (first | with_reducible exact HDD.out | with_reducible refine Owns.drewd ?_ | with_reducible refine Owns.draws ?_ _ | with_reducible refine Owns.allocd ?_ _ | with_reducible refine Owns.set' ?_ _ _ _ (fun j hj => HDN.out j hj _ (by omega)))
    try exact HDD.out
  · repeat (first | with_reducible exact HWW.out | with_reducible refine Owns.drewd ?_ | with_reducible refine Owns.draws ?_ _ | with_reducible refine Owns.allocd ?_ _ | with_reducible refine Owns.set' ?_ _ _ _ (fun j hj => by simp [Value.ownBlock] at hj; omega))
    try exact HWW.out
  · repeat (first | with_reducible exact HHH.out | with_reducible refine Owns.putRow1 ?_ _ (by have := HH.out.lh; omega) _ rfl | with_reducible refine Owns.drewd ?_ | with_reducible refine Owns.draws ?_ _ | with_reducible refine Owns.allocd ?_ _ | with_reducible refine Owns.set' ?_ _ _ _ (fun j hj => by simp [Value.ownBlock] at hj; omega))
    try exact HHH.out
  · repeat (first | with_reducible exact HTT.out | with_reducible refine Touch2.drewd ?_ | with_reducible refine Touch2.drews ?_ _ | with_reducible refine Touch2.allocd ?_ _ | with_reducible refine Touch2.setR ?_ _ | with_reducible refine Touch2.setN ?_ (by first | (simp; done) | omega) _)
    try exact HTT.out

set_option maxRecDepth 4000 in
set_option maxHeartbeats 8000000 in
theorem sdo_hold (v : Value) (ms : List MR) (B gw ow cw gh oh ch : Nat) (ws hs : List Int) (who : Int) (id kind addr many : Int) (wp : Bool) (dv lv : Value) (data lanes xs : List Int) (hxs : xs = burst addr many wp) (w : World) (hv : Maps w B v ms) (h : SIn w B gw ow cw gh oh ch ws hs)
    (hdv : Ints w B dv data) (hlv : Ints w B lv lanes) (hwho : inB who 0 2 = true) (hid1 : inB id 0 1 = true) (hz : 0 ≤ wholeOf ms xs) (hk1 : kind = 3) (hws : ws.all wordOk = true) :
    Calls Try.prog 102 #[v, .agg #[.slice (some ⟨gw, ow, none⟩) 64 cw, .slice (some ⟨gh, oh, none⟩) 6 ch], .int .i64 who, .agg #[.int .i64 id, .int .i64 kind, .int .i64 addr, .int .i64 many, .bool wp, dv, lv]] w (SDoP B gw ow cw gh oh ch (ws, hs.set (who * 2 + id).toNat addr, ⟨id, 2, getAll ws xs⟩) w) := by
  have HDV := hid hdv; have HLV := hid hlv; have HV := hid hv; have HH := hid h
  have hgw := h.ww.ltI; have hgh := h.hh.ltI; have hcw := h.c1; have hch := h.c2; have hgne := h.ne
  have hd1 : ∃ a n c, dv = .slice a n c := by obtain ⟨a, c, h, _⟩ := hdv.1; exact ⟨_, _, _, h⟩
  have hd2 : ∃ a n c, lv = .slice a n c := by obtain ⟨a, c, h, _⟩ := hlv.1; exact ⟨_, _, _, h⟩
  obtain ⟨da, dn, dc, rfl⟩ := hd1
  obtain ⟨la, ln, lc, rfl⟩ := hd2
  simp only [inB, Bool.and_eq_true, decide_eq_true_eq] at hwho hid1
  have HXS := hid hxs
  have hl4 : xs.length ≤ 4 := by rw [hxs]; exact burst_len
  have HIN := hid (show ∀ x ∈ xs, 0 ≤ x ∧ x ≤ 63 by rw [hxs]; exact burst_in)
  clear hxs
  obtain ⟨k, hk⟩ := Int.eq_ofNat_of_zero_le (show 0 ≤ wholeOf ms xs by omega)
  have HZ := hid hk.symm
  have hkm : k < ms.length := by have := wholeOf_lt ms xs; omega
  have HWI := hid (show ∀ x ∈ ws, I64 x from fun x hx => by
    have := List.all_eq_true.1 hws x hx
    simp only [wordOk, inB, Bool.and_eq_true, decide_eq_true_eq] at this
    unfold I64; omega)
  have hw : (kind == 2 || kind == 4) = false := by rw [hk1]; rfl
  have HW := hid hw; clear hw hws
  have hk1b : (kind == 1) = false := by rw [hk1]; rfl
  have hk3b : (kind == 3) = true := by rw [hk1]; rfl
  have hk4b : (kind == 4) = false := by rw [hk1]; rfl
  clear hk1
  obtain ⟨a, ha6, hae, hat⟩ := do_at hwho hid1
  rw [hat]
  have hd0 : (0 : Int) ≤ who * 2 + id := by omega
  have hd6 : who * 2 + id < 6 := by omega
  have HAE := hid hae
  have HAB0 := hid (ad_open w (.slice (some ⟨gw, ow, none⟩) 64 cw) (.slice (some ⟨gh, oh, none⟩) 6 ch) id kind addr many wp (.slice da dn dc) (.slice la ln lc) 40 71 40 66)
  have HFZ0 := hid (show ∀ o, ((((w.alloc (.cells #[.slice (some ⟨gw, ow, none⟩) 64 cw, .slice (some ⟨gh, oh, none⟩) 6 ch] 40)).alloc (.cells #[.int .i64 id, .int .i64 kind, .int .i64 addr, .int .i64 many, .bool wp, .slice da dn dc, .slice la ln lc] 71)).alloc (.cells #[.slice none 0 0, .slice none 0 0] 40)).alloc (.cells #[.int .i64 0, .int .i64 0, .slice none 0 0] 66)).frozen? ⟨w.heap.size, o, none⟩ = false from fun o => by simp [go_sem])
  have hb4 := hid (show Below w.heap.size w ((((w.alloc (.cells #[.slice (some ⟨gw, ow, none⟩) 64 cw, .slice (some ⟨gh, oh, none⟩) 6 ch] 40)).alloc (.cells #[.int .i64 id, .int .i64 kind, .int .i64 addr, .int .i64 many, .bool wp, .slice da dn dc, .slice la ln lc] 71)).alloc (.cells #[.slice none 0 0, .slice none 0 0] 40)).alloc (.cells #[.int .i64 0, .int .i64 0, .slice none 0 0] 66)) from ((((Below.refl _ _).alloc (Nat.le_refl _) _).alloc (by simp) _).alloc (by simp; omega) _).alloc (by simp; omega) _)
  have hB : B ≤ w.heap.size := by omega
  clear hv h hdv hlv
  go_enter Try.func102, Try.ntmps102
  go_wp2_with (first
    | (go_at_call 147; refine (specBurst_any _ _ _ _).mono ?_; rintro e w1 ⟨u, rfl, hu, hb1, hfr⟩; rw [← HXS.out] at hu; have HB := hid (hb4.out.trans (hb1.mono hb4.out.size)); have HAB := hid (HAB0.out.below hb1 (by first | (simp; done) | (simp; omega))); have HFZ := hid (fun o => (hb1.frozen (p := ⟨w.heap.size, o, none⟩) (by first | (simp; done) | (simp; omega))).trans (HFZ0.out o)); obtain ⟨ua, ucap, hue, _, _, _, _, hur⟩ := hu.opened; subst hue; have HFL := hid (show xs.length ≠ 0 → ∀ k, (Value.slice ua xs.length ucap).ownBlock = some k → k < w1.heap.size from fun h0 k hk => by obtain ⟨b, off, rfl, hb, _⟩ := hur h0; simp [Value.ownBlock] at hk; omega); clear hur; have HU := hid hu; have HFR := hid (show ∀ k, (Value.slice ua xs.length ucap).ownBlock = some k → w.heap.size + 4 ≤ k from fun k hk => by have := hfr k hk; simp at this; omega); obtain ⟨⟨a0, a1⟩, ⟨f0, f1, f2, f3, f4, f5, f6⟩, ⟨g0, g1, g2, g3⟩, ⟨r0, r1, r2, r3, r4, r5⟩⟩ := HAB.out; have hz := HAB.out.lt; obtain ⟨z1, z2, z3, z4⟩ := four hz; clear hu hfr hb1)
    | (go_at_call 148; refine (l1Whole_any _ _ ms xs w1.heap.size _ ((HV.out.below (HB.out.mono hB)).mono (Nat.le_trans hB HB.out.size)) HU.out).mono ?_; rw [← HZ.out]; rintro e w2 ⟨rfl, hdw⟩; have hbx := hdw.below w1.heap.size; have hs12 := hbx.size; have HFZ := hid (fun o => (hbx.frozen (p := ⟨w.heap.size, o, none⟩) (show w.heap.size < w1.heap.size by have := HAB.out.lt; omega)).trans (HFZ.out o)); have HAB := hid (HAB.out.below hbx HAB.out.lt); have HB := hid (HB.out.trans (hbx.mono HB.out.size)); have HU := hid ((HU.out.below hbx).mono hbx.size); obtain ⟨⟨a0, a1⟩, ⟨f0, f1, f2, f3, f4, f5, f6⟩, ⟨g0, g1, g2, g3⟩, ⟨r0, r1, r2, r3, r4, r5⟩⟩ := HAB.out; have hz := HAB.out.lt; obtain ⟨z1, z2, z3, z4⟩ := four hz; clear hdw hbx)
    | (go_at_call 146; refine (l3Writes_val _ _ _ _ _ _ _ _).mono ?_; rw [HW.out]; rintro e w3 ⟨rfl, hbx⟩; have hb23 := hid (show Below w2.heap.size w2 w3 from ((Below.refl _ _).alloc (Nat.le_refl _) _).trans (hbx.mono (by simp))); have HR := hid ((rsp_new w2 id 66).below hbx (by simp)); have HFZ := hid (fun o => (hb23.out.frozen (p := ⟨w.heap.size, o, none⟩) (show w.heap.size < w2.heap.size by have := HAB.out.lt; omega)).trans (HFZ.out o)); have HAB := hid (HAB.out.below hb23.out HAB.out.lt); have HB := hid (HB.out.trans (hb23.out.mono HB.out.size)); have HU := hid ((HU.out.below hb23.out).mono hb23.out.size); have hgo4 : w.heap.size + 4 ≤ w2.heap.size := (by omega); obtain ⟨o0, o1, o2, o3, o4, o5⟩ := HR.out; have hgl := HR.out.lt; obtain ⟨⟨a0, a1⟩, ⟨f0, f1, f2, f3, f4, f5, f6⟩, ⟨g0, g1, g2, g3⟩, ⟨r0, r1, r2, r3, r4, r5⟩⟩ := HAB.out; have hz := HAB.out.lt; obtain ⟨z1, z2, z3, z4⟩ := four hz; clear hbx)
    | (go_at_call 149; obtain ⟨w4, hw4⟩ : ∃ w4, w4 = w3 := ⟨_, rfl⟩; refine (l2Get_any gw ow cw w3.heap.size _ ws xs _ (Owns.ints (OwnR.below HH.out.ww (HB.out) (fun j hj => by simp [Value.ownBlock] at hj; omega) : Owns w3 B 3 1 rowI (.slice (some ⟨gw, ow, none⟩) 64 cw) ws) (by rw [HH.out.lw]; omega) HWI.out) HU.out (Nat.le_refl _) HIN.out hl4 HH.out.lw).mono ?_; clear hw4 w4; rintro e w4 ⟨dv2, rfl, hod, hbx⟩; obtain ⟨qa, qc, rfl, hqc, hqm⟩ := hod.shape; have HAB := hid (HAB.out.below hbx HAB.out.lt); have hgl3 := HR.out.lt; have HR := hid (HR.out.below hbx HR.out.lt); have HB := hid (HB.out.trans (hbx.mono HB.out.size)); have hs34 := hbx.size; obtain ⟨o0, o1, o2, o3, o4, o5⟩ := HR.out; have hgl := HR.out.lt; obtain ⟨⟨a0, a1⟩, ⟨f0, f1, f2, f3, f4, f5, f6⟩, ⟨g0, g1, g2, g3⟩, ⟨r0, r1, r2, r3, r4, r5⟩⟩ := HAB.out; have hz := HAB.out.lt; obtain ⟨z1, z2, z3, z4⟩ := four hz; have HDD := hid (hod.rebase (show w.heap.size ≤ w3.heap.size by omega)); have HDN := hid (show ∀ j, (Value.slice qa (getAll ws xs).length qc).ownBlock = some j → ∀ g, g < w3.heap.size → j ≠ g from fun j hj g hg => by have := (OwnR.lt hod j hj).1; omega); have hcl : Owns w4 B 3 1 rowI (.slice (some ⟨gh, oh, none⟩) 6 ch) hs := OwnR.below HH.out.hh (HB.out) (fun j hj => by simp [Value.ownBlock] at hj; omega); have i1 := hcl.cellI a (by rw [HH.out.lh]; exact ha6); have i2 := hcl.frozenI a; clear hcl hod hbx))
  go_region
  go_wp2
  have HWW := hid (OwnR.below HH.out.ww (HB.out) (fun j hj => by simp [Value.ownBlock] at hj; omega) : Owns w4 B 3 1 rowI (.slice (some ⟨gw, ow, none⟩) 64 cw) ws)
  have HHH := hid (OwnR.below HH.out.hh (HB.out) (fun j hj => by simp [Value.ownBlock] at hj; omega) : Owns w4 B 3 1 rowI (.slice (some ⟨gh, oh, none⟩) 6 ch) hs)
  have HTT := hid (Touch2.of_below HB.out (Nat.le_refl _) : Touch2 gw gh w w4)
  refine bodyPost_ret (results_c2 Try.results102 _ _ ⟨w.heap.size + 1 + 1, 0, none⟩ ⟨w.heap.size + 1 + 1 + 1, 0, none⟩ (.agg #[.slice (some ⟨gw, ow, none⟩) 64 cw, .slice (some ⟨gh, oh, none⟩) 6 ch]) (.agg #[.int .i64 id, .int .i64 2, .slice qa (getAll ws xs).length qc]) rfl rfl ?_ ?_) rfl ?_
  · exact loadVar_atm _ _ _ _ (by simp [go_sem, *]) (by simp [go_sem, *])
  · exact loadVar_rsp _ _ _ _ _ (by simp [go_sem, *]) (by simp [go_sem, *]) (by simp [go_sem, *])
  refine ⟨_, rfl, ?_, ?_, ?_, ?_⟩
  · repeat (first | with_reducible exact HDD.out | with_reducible refine Owns.drewd ?_ | with_reducible refine Owns.draws ?_ _ | with_reducible refine Owns.allocd ?_ _ | with_reducible refine Owns.set' ?_ _ _ _ (fun j hj => HDN.out j hj _ (by omega)))
    try exact HDD.out
  · repeat (first | with_reducible exact HWW.out | with_reducible refine Owns.drewd ?_ | with_reducible refine Owns.draws ?_ _ | with_reducible refine Owns.allocd ?_ _ | with_reducible refine Owns.set' ?_ _ _ _ (fun j hj => by simp [Value.ownBlock] at hj; omega))
    try exact HWW.out
  · repeat (first | with_reducible exact HHH.out | with_reducible refine Owns.putRow1 ?_ _ (by have := HH.out.lh; omega) _ rfl | with_reducible refine Owns.drewd ?_ | with_reducible refine Owns.draws ?_ _ | with_reducible refine Owns.allocd ?_ _ | with_reducible refine Owns.set' ?_ _ _ _ (fun j hj => by simp [Value.ownBlock] at hj; omega))
    try exact HHH.out
  · repeat (first | with_reducible exact HTT.out | with_reducible refine Touch2.drewd ?_ | with_reducible refine Touch2.drews ?_ _ | with_reducible refine Touch2.allocd ?_ _ | with_reducible refine Touch2.setR ?_ _ | with_reducible refine Touch2.setN ?_ (by first | (simp; done) | omega) _)
    try exact HTT.out

end Go.Proofs.Yteamebdehembgaa
