/-
  Draws: ranges, a store, who asks, and what: DrawAtmDo (printed by wip/gen_da.py).
-/
import Derived.Test.YtjlnnnnpdagnpaaKDq1
import Derived.Test.YtjlnnnnpdagnpaaJDr5
import Derived.Test.YtjlnnnnpdagnpaaJCr1
set_option linter.unusedVariables false
set_option linter.unusedSimpArgs false
namespace Go.Proofs.Ytjlnnnnpdagnpaa
open Go.RowKit
attribute [local go_sem ↓] Go.wp_at_zero Go.wp_at_succ

def bdn (m : Nat) (b : Bool) : Nat := if b = true then 0 else m
theorem bdn_true (m : Nat) : bdn m true = 0 := rfl
theorem bdn_false (m : Nat) : bdn m false = m := rfl
theorem RdAt.touchO {w w' : World} {r B p x : Nat} {bs : List Nat} (h : RdAt w r B bs p) (ht : Touch x w w') (hB : B ≤ x) (hr : x ≠ r) : RdAt w' r B bs p := by
  have hl := h.lt
  obtain ⟨bv, hh, hy, hB2, hn⟩ := h
  exact ⟨bv, by rw [ht.block r hl (Ne.symm hr)]; exact hh, hy.below (ht.below hB (by omega)), hB2, hn⟩
/-- But for block r and the two boxes at s (and new blocks) the world is as it was. -/
structure TX (r s : Nat) (w w' : World) : Prop where
  os : w'.os = w.os
  tape : w'.tape = w.tape
  output : w'.output = w.output
  size : w.heap.size ≤ w'.heap.size
  block : ∀ k, k < w.heap.size → k ≠ r → k ≠ s → k ≠ s + 1 → w'.heap[k]? = w.heap[k]?
theorem TX.refl (r s : Nat) (w : World) : TX r s w w := ⟨rfl, rfl, rfl, Nat.le_refl _, fun _ _ _ _ _ => rfl⟩
theorem TX.touch {r s x : Nat} {w w' w'' : World} (h : TX r s w w') (ht : Touch x w' w'') (hx : x = r ∨ x = s ∨ x = s + 1) : TX r s w w'' :=
  ⟨ht.os.trans h.os, ht.tape.trans h.tape, ht.output.trans h.output, Nat.le_trans h.size ht.size, fun k hk h1 h2 h3 => (ht.block k (Nat.lt_of_lt_of_le hk h.size) (by omega)).trans (h.block k hk h1 h2 h3)⟩
theorem TX.below {r s B : Nat} {w w' : World} (h : TX r s w w') (hr : B ≤ r) (hs : B ≤ s) (hB : B ≤ w.heap.size) : Below B w w' :=
  ⟨h.os, h.tape, h.output, h.size, fun k hk => h.block k (by omega) (by omega) (by omega) (by omega)⟩
def MapF (w0 w : World) (v : Value) : Prop := ∃ ms, Owns w w0.heap.size 36 4 rowM v ms ∧ (∀ x ∈ ms, MR64 x) ∧ ms.length ≤ 7
theorem MapF.touch {w0 w w' : World} {v : Value} {x : Nat} (h : MapF w0 w v) (ht : Touch x w w') (hx : x < w0.heap.size) : MapF w0 w' v := by
  obtain ⟨ms, o, a, b⟩ := h; exact ⟨ms, o.touch ht hx, a, b⟩
def AtmF (w0 w : World) (v : Value) : Prop := ∃ wv hv ws hs, v = .agg #[wv, hv] ∧ Owns w w0.heap.size 3 1 rowI wv ws ∧ Owns w w0.heap.size 3 1 rowI hv hs ∧ (∀ x ∈ ws, I64 x) ∧ (∀ x ∈ hs, I64 x) ∧ ws.length ≤ 65 ∧ hs.length ≤ 6
theorem AtmF.touch {w0 w w' : World} {v : Value} {x : Nat} (h : AtmF w0 w v) (ht : Touch x w w') (hx : x < w0.heap.size) : AtmF w0 w' v := by
  obtain ⟨wv, hv, ws, hs, e, o1, o2, i⟩ := h; exact ⟨wv, hv, ws, hs, e, o1.touch ht hx, o2.touch ht hx, i⟩
def ReqF (w0 w : World) (v : Value) : Prop := ∃ dv lv rq, v = .agg #[.int .i64 (Rq.id rq), .int .i64 rq.kind, .int .i64 rq.addr, .int .i64 rq.many, .bool rq.wrap, dv, lv] ∧ Owns w w0.heap.size 3 1 rowI dv rq.data ∧ Owns w w0.heap.size 3 1 rowI lv rq.lanes ∧
    (I64 rq.id ∧ I64 rq.kind ∧ I64 rq.addr ∧ I64 rq.many ∧ (∀ x ∈ rq.data, I64 x) ∧ (∀ x ∈ rq.lanes, I64 x)) ∧ rq.data.length ≤ 9 ∧ rq.lanes.length ≤ 9
theorem ReqF.touch {w0 w w' : World} {v : Value} {x : Nat} (h : ReqF w0 w v) (ht : Touch x w w') (hx : x < w0.heap.size) : ReqF w0 w' v := by
  obtain ⟨dv, lv, rq, e, o1, o2, i⟩ := h; exact ⟨dv, lv, rq, e, o1.touch ht hx, o2.touch ht hx, i⟩
theorem MapF.maps {w0 w : World} {v : Value} (h : MapF w0 w v) : ∃ ms, Maps w w.heap.size v ms := by
  obtain ⟨ms, o, a, b⟩ := h; exact ⟨ms, o.arr rowM_len (by omega), a⟩
theorem AtmF.atm {w0 w : World} {v : Value} (h : AtmF w0 w v) : ∃ ws hs, AtmV w w.heap.size v ws hs := by
  obtain ⟨wv, hv, ws, hs, rfl, o1, o2, i1, i2, n1, n2⟩ := h; exact ⟨ws, hs, wv, hv, rfl, o1.ints (by omega) i1, o2.ints (by omega) i2⟩
theorem ReqF.req {w0 w : World} {v : Value} (h : ReqF w0 w v) : ∃ rq, ReqV w w.heap.size v rq := by
  obtain ⟨dv, lv, rq, rfl, o1, o2, ⟨a, b, c, d, e, f⟩, n1, n2⟩ := h; exact ⟨rq, dv, lv, rfl, o1.ints (by omega) e, o2.ints (by omega) f, a, b, c, d⟩
/-- The box of a store, and what is held. -/
def BA (w : World) (s : Nat) (a b : Value) : Prop := w.heap[s]? = some (.cells #[a, b] 28 (0, 0))
theorem BA.touch {w w' : World} {s x : Nat} {a b : Value} (h : BA w s a b) (ht : Touch x w w') (hx : s ≠ x) : BA w' s a b := by
  have hl := lt_of_heap h
  unfold BA at h ⊢; rw [ht.block s hl hx]; exact h
theorem BA.cells {w : World} {s : Nat} {a b : Value} (h : BA w s a b) : w.cell? ⟨s, 0, none⟩ = some a ∧ w.cell? ⟨s, 1, none⟩ = some b ∧ w.frozen? ⟨s, 0, none⟩ = false ∧ w.frozen? ⟨s, 1, none⟩ = false := by
  unfold BA at h
  refine ⟨?_, ?_, ?_, ?_⟩ <;> simp [World.cell?, World.frozen?, h]
theorem BA.put {w : World} {s : Nat} {a b : Value} (h : BA w s a b) (c d : Value) : BA ((w.setCell ⟨s, 0, none⟩ c).setCell ⟨s, 1, none⟩ d) s c d := by
  unfold BA at h ⊢; simp [World.setCell, Array.getElem?_modify, h]
set_option maxRecDepth 20000 in
theorem wp_lit7 {a : Act} {w : World} {K : Act → World → Prop} {Q : Exit → Act → World → Prop} (d : Option Nat) (ty : Nat) (pos : String) (aft : Array Edge)
    (h : K (a.put d (.slice (some ⟨w.heap.size, 0, none⟩) 7 7)) (w.alloc (.cells #[.int .i64 0, .int .i64 0, .int .i64 0, .int .i64 0, .int .i64 0, .int .i64 1, .int .i64 2] 3))) :
    Oper.wp Try.prog { dst := d, op := .buildSlice 24 7 #[(0, .const (.int .i64 0)), (1, .const (.int .i64 0)), (2, .const (.int .i64 0)), (3, .const (.int .i64 0)), (4, .const (.int .i64 0)), (5, .const (.int .i64 1)), (6, .const (.int .i64 2))], type := ty, pos := pos, after := aft, guard := none } a w K Q := by
  go_simp
  exact h
set_option maxRecDepth 20000 in
theorem wp_storeQ {a : Act} {w : World} {K : Act → World → Prop} {Q : Exit → Act → World → Prop} (ty : Nat) (pos : String) (aft : Array Edge) {g : Nat} {i0 k0 a0 m0 : Int} {b0 : Bool} {d0 l0 : Value} (hQ : QW w g i0 k0 a0 m0 b0 d0 l0) {id kind addr many : Int} {wp : Bool} {da la : Option Addr} {dn dc ln lc : Nat}
    (hp : a.tmps.getD 5 undef = .pointer (some ⟨g, 0, none⟩)) (hv : a.tmps.getD 24 undef = .agg #[.int .i64 id, .int .i64 kind, .int .i64 addr, .int .i64 many, .bool wp, .slice da dn dc, .slice la ln lc])
    (h : K a (((((((w.setCell ⟨g, 0, none⟩ (.int .i64 id)).setCell ⟨g, 1, none⟩ (.int .i64 kind)).setCell ⟨g, 2, none⟩ (.int .i64 addr)).setCell ⟨g, 3, none⟩ (.int .i64 many)).setCell ⟨g, 4, none⟩ (.bool wp)).setCell ⟨g, 5, none⟩ (.slice da dn dc)).setCell ⟨g, 6, none⟩ (.slice la ln lc))) :
    Oper.wp Try.prog { dst := none, op := .store 30 (.tmp 5) (.tmp 24), type := ty, pos := pos, after := aft, guard := none } a w K Q := by
  obtain ⟨k0, k1, k2, k3, k4, k5, k6⟩ := hQ.cells
  obtain ⟨m0, m1, m2, m3, m4, m5, m6⟩ := hQ.unfrozen
  obtain ⟨tmps, defers⟩ := a
  simp only at hp hv
  simp only [Array.getD_eq_getD_getElem?] at hp hv
  go_simp
  exact h
theorem da_box1 (w : World) {w0 : World} {o : Obj} {C : Nat} (hb : Below C ((w.alloc (.cells #[.slice none 0 0, .slice none 0 0] 28)).alloc o) w0) (hC : w.heap.size < C := by first | (simp; done) | (simp; omega)) : BA w0 w.heap.size (.slice none 0 0) (.slice none 0 0) := by
  have h : BA (w.alloc (.cells #[.slice none 0 0, .slice none 0 0] 28)) w.heap.size (.slice none 0 0) (.slice none 0 0) := by
    show (w.heap.push _)[w.heap.size]? = _; simp
  have h2 : BA ((w.alloc (.cells #[.slice none 0 0, .slice none 0 0] 28)).alloc o) w.heap.size (.slice none 0 0) (.slice none 0 0) := by
    unfold BA at h ⊢; rw [((Below.refl _ _).alloc (Nat.le_refl _) o).block _ (by simp)]; exact h
  unfold BA at h2 ⊢; rw [hb.block _ hC]; exact h2
theorem da_box2 (w : World) {w0 : World} {o : Obj} {C : Nat} (hb : Below C ((w.alloc o).alloc (.cells #[.int .i64 0, .int .i64 0, .int .i64 0, .int .i64 0, .bool false, .slice none 0 0, .slice none 0 0] 30)) w0) (hC : w.heap.size + 1 < C := by first | (simp; done) | (simp; omega)) : qz w0 (w.heap.size + 1) := by
  have h := QW.new (w.alloc o) (id := 0) (kind := 0) (addr := 0) (many := 0) (wp := false) (dv := .slice none 0 0) (lv := .slice none 0 0)
  have h2 : QW ((w.alloc o).alloc (.cells #[.int .i64 0, .int .i64 0, .int .i64 0, .int .i64 0, .bool false, .slice none 0 0, .slice none 0 0] 30)) (w.heap.size + 1) 0 0 0 0 false (.slice none 0 0) (.slice none 0 0) := by simpa using h
  exact h2.below hb hC
theorem tabW {n : Nat} (h : n < 7) : ∃ y : Nat, ([Value.int .i64 0, .int .i64 0, .int .i64 0, .int .i64 0, .int .i64 0, .int .i64 1, .int .i64 2] : List Value)[n]? = some (.int .i64 y) ∧ y < 3 := by
  rcases (show n = 0 ∨ n = 1 ∨ n = 2 ∨ n = 3 ∨ n = 4 ∨ n = 5 ∨ n = 6 by omega) with rfl | rfl | rfl | rfl | rfl | rfl | rfl
  · exact ⟨0, rfl, by omega⟩
  · exact ⟨0, rfl, by omega⟩
  · exact ⟨0, rfl, by omega⟩
  · exact ⟨0, rfl, by omega⟩
  · exact ⟨0, rfl, by omega⟩
  · exact ⟨1, rfl, by omega⟩
  · exact ⟨2, rfl, by omega⟩
theorem results_tctc {fn : Func} {t1 t2 t3 t4 : Tmp} {T U : TypeId} (h : fn.results = #[.tmp t1, .cell t2 T, .tmp t3, .cell t4 U]) (tmps : Array Value) (w : World) (p q : Addr) (v x : Value) (ht : tmps.getD t2 undef = .pointer (some p)) (hu : tmps.getD t4 undef = .pointer (some q))
    (hl : (loadVar T p).run Try.prog w = .ok v w) (hm : (loadVar U q).run Try.prog w = .ok x w) : (results fn tmps).run Try.prog w = .ok (.tuple #[tmps.getD t1 undef, v, tmps.getD t3 undef, x]) w := by
  simp only [Array.getD_eq_getD_getElem?] at ht hu
  simp only [results, h]
  simp [ht, hu, asAddr, hl, hm]
def daA (ao : Option Addr) (n cap r s : Nat) (u2 u4 u9 u10 u11 u12 u13 u14 u15 u16 u17 u18 u19 u20 u21 u22 u23 u24 : Value) : Act := { tmps := #[.slice ao n cap, undef, u2, .pointer (some ⟨s, 0, none⟩), u4, .pointer (some ⟨s + 1, 0, none⟩), .pointer (some ⟨r, 0, none⟩), .slice ao n cap, .pointer (some ⟨r, 0, none⟩), u9, u10, u11, u12, u13, u14, u15, u16, u17, u18, u19, u20, u21, u22, u23, u24], defers := [] }
def daI (ao : Option Addr) (n cap r s B : Nat) (bs : List Nat) (w0 : World) (listed : Array Bool) (a : Act) (w' : World) : Prop :=
  ∃ u2 u4 u9 u10 u11 u12 u13 u14 u15 u16 u17 u18 u19 u20 u21 u22 u23 u24 : Value, a = daA ao n cap r s u2 u4 u9 u10 u11 u12 u13 u14 u15 u16 u17 u18 u19 u20 u21 u22 u23 u24 ∧
      (listed.getD 0 false = true → u9 = .pointer (some ⟨r, 0, none⟩)) ∧
      (listed.getD 1 false = true → MapF w0 w' u10) ∧
      (listed.getD 2 false = true → u11 = .pointer (some ⟨r, 0, none⟩)) ∧
      (listed.getD 3 false = true → AtmF w0 w' u12) ∧
      (listed.getD 4 false = true → u13 = .pointer (some ⟨r, 0, none⟩)) ∧
      (listed.getD 5 false = true → ∃ x : Int, u14 = .int .i64 x ∧ 0 ≤ x ∧ x < 3) ∧
      (listed.getD 6 false = true → ∃ (g : Nat) (x : Int), u15 = .slice (some ⟨g, 0, none⟩) 3 3 ∧ 0 ≤ x ∧ x < 3 ∧ w0.heap.size ≤ g ∧ TW w' g #[.int .i64 x, .int .i64 (-1), .int .i64 3]) ∧
      (listed.getD 7 false = true → ∃ g : Nat, u16 = .slice (some ⟨g, 0, none⟩) 7 7 ∧ w0.heap.size ≤ g ∧ TW w' g #[.int .i64 0, .int .i64 0, .int .i64 0, .int .i64 0, .int .i64 0, .int .i64 1, .int .i64 2]) ∧
      (listed.getD 8 false = true → u17 = .pointer (some ⟨r, 0, none⟩)) ∧
      (listed.getD 9 false = true → ∃ z : Nat, u18 = .int .i64 z ∧ z < 7) ∧
      (listed.getD 10 false = true → ∃ g z : Nat, u19 = .pointer (some ⟨g, z, none⟩) ∧ z < 7 ∧ w0.heap.size ≤ g ∧ TW w' g #[.int .i64 0, .int .i64 0, .int .i64 0, .int .i64 0, .int .i64 0, .int .i64 1, .int .i64 2]) ∧
      (listed.getD 11 false = true → ∃ y : Nat, u20 = .int .i64 y ∧ y < 3) ∧
      (listed.getD 12 false = true → ∃ (g z : Nat) (x : Int), u21 = .pointer (some ⟨g, z, none⟩) ∧ z < 3 ∧ 0 ≤ x ∧ x < 3 ∧ w0.heap.size ≤ g ∧ TW w' g #[.int .i64 x, .int .i64 (-1), .int .i64 3]) ∧
      (listed.getD 13 false = true → ∃ y : Int, u22 = .int .i64 y ∧ -1 ≤ y ∧ y ≤ 3) ∧
      (listed.getD 14 false = true → u23 = .pointer (some ⟨r, 0, none⟩)) ∧
      (listed.getD 15 false = true → ReqF w0 w' u24) ∧
      (listed.getD 16 false = true → MapF w0 w' u2) ∧
      (listed.getD 17 false = true → ∃ a b, BA w' s a b ∧ AtmF w0 w' (.agg #[a, b])) ∧
      (listed.getD 18 false = true → ∃ y : Int, u4 = .int .i64 y ∧ -1 ≤ y ∧ y ≤ 3) ∧
      (listed.getD 19 false = true → ∃ (dv lv : Value) (rq : Rq), QW w' (s + 1) rq.id rq.kind rq.addr rq.many rq.wrap dv lv ∧ ReqF w0 w' (.agg #[.int .i64 rq.id, .int .i64 rq.kind, .int .i64 rq.addr, .int .i64 rq.many, .bool rq.wrap, dv, lv])) ∧
      (listed.getD 17 false = false → BA w' s (.slice none 0 0) (.slice none 0 0)) ∧
      (listed.getD 19 false = false → qz w' (s + 1)) ∧
      (∃ q, RdAt w' r B bs q ∧ q + bdn 400 (listed.getD 1 false) + bdn 400 (listed.getD 3 false) + bdn 400 (listed.getD 5 false) + bdn 400 (listed.getD 9 false) + bdn 400 (listed.getD 15 false) ≤ 2000) ∧
      TX r s w0 w'

set_option maxRecDepth 20000 in
set_option maxHeartbeats 16000000 in
theorem drawAtmDo_any (v : Value) (bz : List Nat) (B : Nat) (w : World) (h : Bytes w B v bz) (hB : B ≤ w.heap.size) :
    Calls Try.prog 7 #[v] w (DrawDoP w) := by
  obtain ⟨ao, cap, rfl, hlc, hcap, hln, hni, hr⟩ := h.opened
  clear hr
  go_enter Try.func7, Try.ntmps7
  go_wp2_with (go_at_call 41; refine (open_any _ bz B _ ((h.below (((Below.refl w.heap.size w).alloc (Nat.le_refl _) _).alloc (by simp) _ |>.mono hB))) (by simp; omega)).mono ?_; rintro e w0 ⟨bs, rfl, hrd, hb1⟩)
  rename_i K hK
  have hA0 : BA w0 w.heap.size (.slice none 0 0) (.slice none 0 0) := da_box1 w hb1
  have hQ0 : qz w0 (w.heap.size + 1) := da_box2 w hb1
  have hz1 := hb1.size
  simp only [World.size_alloc] at hz1
  have HBW := hid (show Below w.heap.size w w0 from (((Below.refl w.heap.size w).alloc (Nat.le_refl _) _).alloc (by simp) _).trans (hb1.mono (by simp; omega)))
  obtain ⟨r, hr⟩ : ∃ r, r = w.heap.size + 1 + 1 := ⟨_, rfl⟩
  have hrd2 : RdAt w0 r B bs 0 := by rw [hr]; simpa using hrd
  simp only [← hr]
  obtain ⟨s, hs⟩ : ∃ s, s = w.heap.size := ⟨_, rfl⟩
  simp only [← hs] at hA0 hQ0 hr hz1 hB
  simp only [← hs]
  have hrw : r < w0.heap.size := hrd2.lt
  have hrs : s + 1 < r := by omega
  have hsw : s + 1 < w0.heap.size := by omega
  have hBs : B ≤ s := by omega
  have HSE := hid hs
  clear hrd hb1 h hs hr hz1 hlc hcap hln hni
  refine wp_region_inv (daI ao bz.length cap r s B bs w0) (by kernel_rfl) (by kernel_rfl) ?_ ?_ ?_
  · refine ⟨_, _, _, _, _, _, _, _, _, _, _, _, _, _, _, _, _, _, rfl, (fun h => absurd h (by rw [getD_replicate_false]; simp)), (fun h => absurd h (by rw [getD_replicate_false]; simp)), (fun h => absurd h (by rw [getD_replicate_false]; simp)), (fun h => absurd h (by rw [getD_replicate_false]; simp)), (fun h => absurd h (by rw [getD_replicate_false]; simp)), (fun h => absurd h (by rw [getD_replicate_false]; simp)), (fun h => absurd h (by rw [getD_replicate_false]; simp)), (fun h => absurd h (by rw [getD_replicate_false]; simp)), (fun h => absurd h (by rw [getD_replicate_false]; simp)), (fun h => absurd h (by rw [getD_replicate_false]; simp)), (fun h => absurd h (by rw [getD_replicate_false]; simp)), (fun h => absurd h (by rw [getD_replicate_false]; simp)), (fun h => absurd h (by rw [getD_replicate_false]; simp)), (fun h => absurd h (by rw [getD_replicate_false]; simp)), (fun h => absurd h (by rw [getD_replicate_false]; simp)), (fun h => absurd h (by rw [getD_replicate_false]; simp)), (fun h => absurd h (by rw [getD_replicate_false]; simp)), (fun h => absurd h (by rw [getD_replicate_false]; simp)), (fun h => absurd h (by rw [getD_replicate_false]; simp)), (fun h => absurd h (by rw [getD_replicate_false]; simp)), fun _ => hA0, fun _ => hQ0, ⟨0, hrd2.drewd, by simp only [getD_replicate_false, bdn_false]; omega⟩, ⟨rfl, rfl, rfl, Nat.le_refl _, fun _ _ _ _ _ => rfl⟩⟩
  · intro listed a w' i o hI hsz ho hl he
    have hi : i < 20 := (Array.getElem?_eq_some_iff.1 ho).1
    have e : i = 0 ∨ i = 1 ∨ i = 2 ∨ i = 3 ∨ i = 4 ∨ i = 5 ∨ i = 6 ∨ i = 7 ∨ i = 8 ∨ i = 9 ∨ i = 10 ∨ i = 11 ∨ i = 12 ∨ i = 13 ∨ i = 14 ∨ i = 15 ∨ i = 16 ∨ i = 17 ∨ i = 18 ∨ i = 19 := by omega
    rcases e with rfl | rfl | rfl | rfl | rfl | rfl | rfl | rfl | rfl | rfl | rfl | rfl | rfl | rfl | rfl | rfl | rfl | rfl | rfl | rfl
    all_goals (have ho2 := ho; conv at ho2 => { lhs; whnf }; conv at ho2 => { lhs; arg 1; whnf }; obtain rfl := Option.some.inj ho2; clear ho2)
    · as_aux_lemma =>
        obtain ⟨u2, u4, u9, u10, u11, u12, u13, u14, u15, u16, u17, u18, u19, u20, u21, u22, u23, u24, rfl, F0, F1, F2, F3, F4, F5, F6, F7, F8, F9, F10, F11, F12, F13, F14, F15, F16, F17, F18, F19, N17, N19, ⟨q, hq, hqb⟩, hx⟩ := hI
        refine wpOp_step ho rfl (fun K hK => ?_)
        unfold daA
        go_simp
        exact hK _ _ ⟨_, _, _, _, _, _, _, _, _, _, _, _, _, _, _, _, _, _, rfl, fun _ => rfl, fun hj => (F1 (by rwa [sg (by decide)] at hj)), fun hj => (by first | exact (F2 (by rwa [sg (by decide)] at hj)) | rfl), fun hj => (F3 (by rwa [sg (by decide)] at hj)), fun hj => (by first | exact (F4 (by rwa [sg (by decide)] at hj)) | rfl), fun hj => (F5 (by rwa [sg (by decide)] at hj)), fun hj => (F6 (by rwa [sg (by decide)] at hj)), fun hj => (F7 (by rwa [sg (by decide)] at hj)), fun hj => (by first | exact (F8 (by rwa [sg (by decide)] at hj)) | rfl), fun hj => (F9 (by rwa [sg (by decide)] at hj)), fun hj => (F10 (by rwa [sg (by decide)] at hj)), fun hj => (F11 (by rwa [sg (by decide)] at hj)), fun hj => (F12 (by rwa [sg (by decide)] at hj)), fun hj => (F13 (by rwa [sg (by decide)] at hj)), fun hj => (by first | exact (F14 (by rwa [sg (by decide)] at hj)) | rfl), fun hj => (F15 (by rwa [sg (by decide)] at hj)), fun hj => (F16 (by rwa [sg (by decide)] at hj)), fun hj => (F17 (by rwa [sg (by decide)] at hj)), fun hj => (F18 (by rwa [sg (by decide)] at hj)), fun hj => (F19 (by rwa [sg (by decide)] at hj)), fun hj => (N17 (by rwa [sg (by decide)] at hj)), fun hj => (N19 (by rwa [sg (by decide)] at hj)), ⟨q, hq, by rw [sg (i := 0) (j := 1) (by decide), sg (i := 0) (j := 3) (by decide), sg (i := 0) (j := 5) (by decide), sg (i := 0) (j := 9) (by decide), sg (i := 0) (j := 15) (by decide)]; exact hqb⟩, hx⟩
    · as_aux_lemma =>
        obtain ⟨u2, u4, u9, u10, u11, u12, u13, u14, u15, u16, u17, u18, u19, u20, u21, u22, u23, u24, rfl, F0, F1, F2, F3, F4, F5, F6, F7, F8, F9, F10, F11, F12, F13, F14, F15, F16, F17, F18, F19, N17, N19, ⟨q, hq, hqb⟩, hx⟩ := hI
        have l0 := he ⟨0, .data⟩ (by simp) rfl
        have e := F0 l0; subst e
        refine wpOp_step ho rfl (fun K hK => ?_)
        unfold daA
        go_simp
        (with_reducible refine (l20Map_any r B bs q 20 w' hq (by omega) (by omega) (by omega)).mono ?_)
        rintro e w'' ⟨mv, ms, q2, rfl, mo, m64, ml, _, hq2, hq, ht⟩
        go_wp2_with fail
        exact ⟨_, _, _, _, _, _, _, _, _, _, _, _, _, _, _, _, _, _, rfl, fun hj => (by first | exact (F0 (by rwa [sg (by decide)] at hj)) | rfl), fun _ => ⟨ms, mo.rebase hx.size, m64, ml⟩, fun hj => (by first | exact (F2 (by rwa [sg (by decide)] at hj)) | rfl), fun hj => (F3 (by rwa [sg (by decide)] at hj)).touch ht (by omega), fun hj => (by first | exact (F4 (by rwa [sg (by decide)] at hj)) | rfl), fun hj => (F5 (by rwa [sg (by decide)] at hj)), fun hj => (let ⟨g, x, e1, e2, e3, e4, e5⟩ := (F6 (by rwa [sg (by decide)] at hj)); ⟨g, x, e1, e2, e3, e4, e5.touch ht (by omega)⟩), fun hj => (let ⟨g, e1, e2, e3⟩ := (F7 (by rwa [sg (by decide)] at hj)); ⟨g, e1, e2, e3.touch ht (by omega)⟩), fun hj => (by first | exact (F8 (by rwa [sg (by decide)] at hj)) | rfl), fun hj => (F9 (by rwa [sg (by decide)] at hj)), fun hj => (let ⟨g, z, e1, e0, e2, e3⟩ := (F10 (by rwa [sg (by decide)] at hj)); ⟨g, z, e1, e0, e2, e3.touch ht (by omega)⟩), fun hj => (F11 (by rwa [sg (by decide)] at hj)), fun hj => (let ⟨g, z, x, e1, e0, a0, a1, e2, e3⟩ := (F12 (by rwa [sg (by decide)] at hj)); ⟨g, z, x, e1, e0, a0, a1, e2, e3.touch ht (by omega)⟩), fun hj => (F13 (by rwa [sg (by decide)] at hj)), fun hj => (by first | exact (F14 (by rwa [sg (by decide)] at hj)) | rfl), fun hj => (F15 (by rwa [sg (by decide)] at hj)).touch ht (by omega), fun hj => (F16 (by rwa [sg (by decide)] at hj)).touch ht (by omega), fun hj => (let ⟨a, b, e1, e2⟩ := (F17 (by rwa [sg (by decide)] at hj)); ⟨a, b, e1.touch ht (by omega), e2.touch ht (by omega)⟩), fun hj => (F18 (by rwa [sg (by decide)] at hj)), fun hj => (let ⟨a, b, c, e1, e2⟩ := (F19 (by rwa [sg (by decide)] at hj)); ⟨a, b, c, e1.touch ht (by omega), e2.touch ht (by omega)⟩), fun hj => (N17 (by rwa [sg (by decide)] at hj)).touch ht (by omega), fun hj => (N19 (by rwa [sg (by decide)] at hj)).touch ht (by omega), ⟨_, hq, by rw [sgi hl, sg (i := 1) (j := 3) (by decide), sg (i := 1) (j := 5) (by decide), sg (i := 1) (j := 9) (by decide), sg (i := 1) (j := 15) (by decide)]; rw [getD_both hl] at hqb; simp only [bdn_true, bdn_false] at hqb ⊢; omega⟩, hx.touch ht (by omega)⟩
    · as_aux_lemma =>
        obtain ⟨u2, u4, u9, u10, u11, u12, u13, u14, u15, u16, u17, u18, u19, u20, u21, u22, u23, u24, rfl, F0, F1, F2, F3, F4, F5, F6, F7, F8, F9, F10, F11, F12, F13, F14, F15, F16, F17, F18, F19, N17, N19, ⟨q, hq, hqb⟩, hx⟩ := hI
        refine wpOp_step ho rfl (fun K hK => ?_)
        unfold daA
        go_simp
        exact hK _ _ ⟨_, _, _, _, _, _, _, _, _, _, _, _, _, _, _, _, _, _, rfl, fun hj => (by first | exact (F0 (by rwa [sg (by decide)] at hj)) | rfl), fun hj => (F1 (by rwa [sg (by decide)] at hj)), fun _ => rfl, fun hj => (F3 (by rwa [sg (by decide)] at hj)), fun hj => (by first | exact (F4 (by rwa [sg (by decide)] at hj)) | rfl), fun hj => (F5 (by rwa [sg (by decide)] at hj)), fun hj => (F6 (by rwa [sg (by decide)] at hj)), fun hj => (F7 (by rwa [sg (by decide)] at hj)), fun hj => (by first | exact (F8 (by rwa [sg (by decide)] at hj)) | rfl), fun hj => (F9 (by rwa [sg (by decide)] at hj)), fun hj => (F10 (by rwa [sg (by decide)] at hj)), fun hj => (F11 (by rwa [sg (by decide)] at hj)), fun hj => (F12 (by rwa [sg (by decide)] at hj)), fun hj => (F13 (by rwa [sg (by decide)] at hj)), fun hj => (by first | exact (F14 (by rwa [sg (by decide)] at hj)) | rfl), fun hj => (F15 (by rwa [sg (by decide)] at hj)), fun hj => (F16 (by rwa [sg (by decide)] at hj)), fun hj => (F17 (by rwa [sg (by decide)] at hj)), fun hj => (F18 (by rwa [sg (by decide)] at hj)), fun hj => (F19 (by rwa [sg (by decide)] at hj)), fun hj => (N17 (by rwa [sg (by decide)] at hj)), fun hj => (N19 (by rwa [sg (by decide)] at hj)), ⟨q, hq, by rw [sg (i := 2) (j := 1) (by decide), sg (i := 2) (j := 3) (by decide), sg (i := 2) (j := 5) (by decide), sg (i := 2) (j := 9) (by decide), sg (i := 2) (j := 15) (by decide)]; exact hqb⟩, hx⟩
    · as_aux_lemma =>
        obtain ⟨u2, u4, u9, u10, u11, u12, u13, u14, u15, u16, u17, u18, u19, u20, u21, u22, u23, u24, rfl, F0, F1, F2, F3, F4, F5, F6, F7, F8, F9, F10, F11, F12, F13, F14, F15, F16, F17, F18, F19, N17, N19, ⟨q, hq, hqb⟩, hx⟩ := hI
        have l2 := he ⟨2, .data⟩ (by simp) rfl
        have e := F2 l2; subst e
        refine wpOp_step ho rfl (fun K hK => ?_)
        unfold daA
        go_simp
        (with_reducible refine (l20Atm_any r B bs q 20 w' hq (by omega) (by omega) (by omega)).mono ?_)
        rintro e w'' ⟨wv, hv, ws, hs, q2, rfl, o1, o2, i1, i2, n1, n2, _, hq2, hq, ht⟩
        go_wp2_with fail
        exact ⟨_, _, _, _, _, _, _, _, _, _, _, _, _, _, _, _, _, _, rfl, fun hj => (by first | exact (F0 (by rwa [sg (by decide)] at hj)) | rfl), fun hj => (F1 (by rwa [sg (by decide)] at hj)).touch ht (by omega), fun hj => (by first | exact (F2 (by rwa [sg (by decide)] at hj)) | rfl), fun _ => ⟨wv, hv, ws, hs, rfl, o1.rebase hx.size, o2.rebase hx.size, i1, i2, n1, n2⟩, fun hj => (by first | exact (F4 (by rwa [sg (by decide)] at hj)) | rfl), fun hj => (F5 (by rwa [sg (by decide)] at hj)), fun hj => (let ⟨g, x, e1, e2, e3, e4, e5⟩ := (F6 (by rwa [sg (by decide)] at hj)); ⟨g, x, e1, e2, e3, e4, e5.touch ht (by omega)⟩), fun hj => (let ⟨g, e1, e2, e3⟩ := (F7 (by rwa [sg (by decide)] at hj)); ⟨g, e1, e2, e3.touch ht (by omega)⟩), fun hj => (by first | exact (F8 (by rwa [sg (by decide)] at hj)) | rfl), fun hj => (F9 (by rwa [sg (by decide)] at hj)), fun hj => (let ⟨g, z, e1, e0, e2, e3⟩ := (F10 (by rwa [sg (by decide)] at hj)); ⟨g, z, e1, e0, e2, e3.touch ht (by omega)⟩), fun hj => (F11 (by rwa [sg (by decide)] at hj)), fun hj => (let ⟨g, z, x, e1, e0, a0, a1, e2, e3⟩ := (F12 (by rwa [sg (by decide)] at hj)); ⟨g, z, x, e1, e0, a0, a1, e2, e3.touch ht (by omega)⟩), fun hj => (F13 (by rwa [sg (by decide)] at hj)), fun hj => (by first | exact (F14 (by rwa [sg (by decide)] at hj)) | rfl), fun hj => (F15 (by rwa [sg (by decide)] at hj)).touch ht (by omega), fun hj => (F16 (by rwa [sg (by decide)] at hj)).touch ht (by omega), fun hj => (let ⟨a, b, e1, e2⟩ := (F17 (by rwa [sg (by decide)] at hj)); ⟨a, b, e1.touch ht (by omega), e2.touch ht (by omega)⟩), fun hj => (F18 (by rwa [sg (by decide)] at hj)), fun hj => (let ⟨a, b, c, e1, e2⟩ := (F19 (by rwa [sg (by decide)] at hj)); ⟨a, b, c, e1.touch ht (by omega), e2.touch ht (by omega)⟩), fun hj => (N17 (by rwa [sg (by decide)] at hj)).touch ht (by omega), fun hj => (N19 (by rwa [sg (by decide)] at hj)).touch ht (by omega), ⟨_, hq, by rw [sgi hl, sg (i := 3) (j := 1) (by decide), sg (i := 3) (j := 5) (by decide), sg (i := 3) (j := 9) (by decide), sg (i := 3) (j := 15) (by decide)]; rw [getD_both hl] at hqb; simp only [bdn_true, bdn_false] at hqb ⊢; omega⟩, hx.touch ht (by omega)⟩
    · as_aux_lemma =>
        obtain ⟨u2, u4, u9, u10, u11, u12, u13, u14, u15, u16, u17, u18, u19, u20, u21, u22, u23, u24, rfl, F0, F1, F2, F3, F4, F5, F6, F7, F8, F9, F10, F11, F12, F13, F14, F15, F16, F17, F18, F19, N17, N19, ⟨q, hq, hqb⟩, hx⟩ := hI
        refine wpOp_step ho rfl (fun K hK => ?_)
        unfold daA
        go_simp
        exact hK _ _ ⟨_, _, _, _, _, _, _, _, _, _, _, _, _, _, _, _, _, _, rfl, fun hj => (by first | exact (F0 (by rwa [sg (by decide)] at hj)) | rfl), fun hj => (F1 (by rwa [sg (by decide)] at hj)), fun hj => (by first | exact (F2 (by rwa [sg (by decide)] at hj)) | rfl), fun hj => (F3 (by rwa [sg (by decide)] at hj)), fun _ => rfl, fun hj => (F5 (by rwa [sg (by decide)] at hj)), fun hj => (F6 (by rwa [sg (by decide)] at hj)), fun hj => (F7 (by rwa [sg (by decide)] at hj)), fun hj => (by first | exact (F8 (by rwa [sg (by decide)] at hj)) | rfl), fun hj => (F9 (by rwa [sg (by decide)] at hj)), fun hj => (F10 (by rwa [sg (by decide)] at hj)), fun hj => (F11 (by rwa [sg (by decide)] at hj)), fun hj => (F12 (by rwa [sg (by decide)] at hj)), fun hj => (F13 (by rwa [sg (by decide)] at hj)), fun hj => (by first | exact (F14 (by rwa [sg (by decide)] at hj)) | rfl), fun hj => (F15 (by rwa [sg (by decide)] at hj)), fun hj => (F16 (by rwa [sg (by decide)] at hj)), fun hj => (F17 (by rwa [sg (by decide)] at hj)), fun hj => (F18 (by rwa [sg (by decide)] at hj)), fun hj => (F19 (by rwa [sg (by decide)] at hj)), fun hj => (N17 (by rwa [sg (by decide)] at hj)), fun hj => (N19 (by rwa [sg (by decide)] at hj)), ⟨q, hq, by rw [sg (i := 4) (j := 1) (by decide), sg (i := 4) (j := 3) (by decide), sg (i := 4) (j := 5) (by decide), sg (i := 4) (j := 9) (by decide), sg (i := 4) (j := 15) (by decide)]; exact hqb⟩, hx⟩
    · as_aux_lemma =>
        obtain ⟨u2, u4, u9, u10, u11, u12, u13, u14, u15, u16, u17, u18, u19, u20, u21, u22, u23, u24, rfl, F0, F1, F2, F3, F4, F5, F6, F7, F8, F9, F10, F11, F12, F13, F14, F15, F16, F17, F18, F19, N17, N19, ⟨q, hq, hqb⟩, hx⟩ := hI
        have l4 := he ⟨4, .data⟩ (by simp) rfl
        have e := F4 l4; subst e
        refine wpOp_step ho rfl (fun K hK => ?_)
        unfold daA
        go_simp
        (with_reducible refine (pick_p r B bs q 3 w' hq (by omega) (by omega) (by omega)).mono ?_)
        rintro e w'' ⟨x, rfl, x0, x1, hq, ht⟩
        go_wp2_with fail
        exact ⟨_, _, _, _, _, _, _, _, _, _, _, _, _, _, _, _, _, _, rfl, fun hj => (by first | exact (F0 (by rwa [sg (by decide)] at hj)) | rfl), fun hj => (F1 (by rwa [sg (by decide)] at hj)).touch ht (by omega), fun hj => (by first | exact (F2 (by rwa [sg (by decide)] at hj)) | rfl), fun hj => (F3 (by rwa [sg (by decide)] at hj)).touch ht (by omega), fun hj => (by first | exact (F4 (by rwa [sg (by decide)] at hj)) | rfl), fun _ => ⟨x, rfl, x0, x1⟩, fun hj => (let ⟨g, x, e1, e2, e3, e4, e5⟩ := (F6 (by rwa [sg (by decide)] at hj)); ⟨g, x, e1, e2, e3, e4, e5.touch ht (by omega)⟩), fun hj => (let ⟨g, e1, e2, e3⟩ := (F7 (by rwa [sg (by decide)] at hj)); ⟨g, e1, e2, e3.touch ht (by omega)⟩), fun hj => (by first | exact (F8 (by rwa [sg (by decide)] at hj)) | rfl), fun hj => (F9 (by rwa [sg (by decide)] at hj)), fun hj => (let ⟨g, z, e1, e0, e2, e3⟩ := (F10 (by rwa [sg (by decide)] at hj)); ⟨g, z, e1, e0, e2, e3.touch ht (by omega)⟩), fun hj => (F11 (by rwa [sg (by decide)] at hj)), fun hj => (let ⟨g, z, x, e1, e0, a0, a1, e2, e3⟩ := (F12 (by rwa [sg (by decide)] at hj)); ⟨g, z, x, e1, e0, a0, a1, e2, e3.touch ht (by omega)⟩), fun hj => (F13 (by rwa [sg (by decide)] at hj)), fun hj => (by first | exact (F14 (by rwa [sg (by decide)] at hj)) | rfl), fun hj => (F15 (by rwa [sg (by decide)] at hj)).touch ht (by omega), fun hj => (F16 (by rwa [sg (by decide)] at hj)).touch ht (by omega), fun hj => (let ⟨a, b, e1, e2⟩ := (F17 (by rwa [sg (by decide)] at hj)); ⟨a, b, e1.touch ht (by omega), e2.touch ht (by omega)⟩), fun hj => (F18 (by rwa [sg (by decide)] at hj)), fun hj => (let ⟨a, b, c, e1, e2⟩ := (F19 (by rwa [sg (by decide)] at hj)); ⟨a, b, c, e1.touch ht (by omega), e2.touch ht (by omega)⟩), fun hj => (N17 (by rwa [sg (by decide)] at hj)).touch ht (by omega), fun hj => (N19 (by rwa [sg (by decide)] at hj)).touch ht (by omega), ⟨_, hq, by rw [sgi hl, sg (i := 5) (j := 1) (by decide), sg (i := 5) (j := 3) (by decide), sg (i := 5) (j := 9) (by decide), sg (i := 5) (j := 15) (by decide)]; rw [getD_both hl] at hqb; simp only [bdn_true, bdn_false] at hqb ⊢; omega⟩, hx.touch ht (by omega)⟩
    · as_aux_lemma =>
        obtain ⟨u2, u4, u9, u10, u11, u12, u13, u14, u15, u16, u17, u18, u19, u20, u21, u22, u23, u24, rfl, F0, F1, F2, F3, F4, F5, F6, F7, F8, F9, F10, F11, F12, F13, F14, F15, F16, F17, F18, F19, N17, N19, ⟨q, hq, hqb⟩, hx⟩ := hI
        have l5 := he ⟨5, .data⟩ (by simp) rfl
        obtain ⟨x, rfl, x0, x1⟩ := F5 l5
        refine wpOp_step ho rfl (fun K hK => ?_)
        unfold daA
        have ht := (Touch.refl r w').alloc (.cells #[.int .i64 x, .int .i64 (-1), .int .i64 3] 3)
        have hsz := hx.size
        have hq := hq.alloc (.cells #[.int .i64 x, .int .i64 (-1), .int .i64 3] 3)
        go_simp
        exact hK _ _ ⟨_, _, _, _, _, _, _, _, _, _, _, _, _, _, _, _, _, _, rfl, fun hj => (by first | exact (F0 (by rwa [sg (by decide)] at hj)) | rfl), fun hj => (F1 (by rwa [sg (by decide)] at hj)).touch ht (by omega), fun hj => (by first | exact (F2 (by rwa [sg (by decide)] at hj)) | rfl), fun hj => (F3 (by rwa [sg (by decide)] at hj)).touch ht (by omega), fun hj => (by first | exact (F4 (by rwa [sg (by decide)] at hj)) | rfl), fun hj => (F5 (by rwa [sg (by decide)] at hj)), fun _ => ⟨_, x, rfl, x0, x1, hsz, by show (w'.heap.push _)[w'.heap.size]? = _; exact Array.getElem?_push_size⟩, fun hj => (let ⟨g, e1, e2, e3⟩ := (F7 (by rwa [sg (by decide)] at hj)); ⟨g, e1, e2, e3.touch ht (by omega)⟩), fun hj => (by first | exact (F8 (by rwa [sg (by decide)] at hj)) | rfl), fun hj => (F9 (by rwa [sg (by decide)] at hj)), fun hj => (let ⟨g, z, e1, e0, e2, e3⟩ := (F10 (by rwa [sg (by decide)] at hj)); ⟨g, z, e1, e0, e2, e3.touch ht (by omega)⟩), fun hj => (F11 (by rwa [sg (by decide)] at hj)), fun hj => (let ⟨g, z, x, e1, e0, a0, a1, e2, e3⟩ := (F12 (by rwa [sg (by decide)] at hj)); ⟨g, z, x, e1, e0, a0, a1, e2, e3.touch ht (by omega)⟩), fun hj => (F13 (by rwa [sg (by decide)] at hj)), fun hj => (by first | exact (F14 (by rwa [sg (by decide)] at hj)) | rfl), fun hj => (F15 (by rwa [sg (by decide)] at hj)).touch ht (by omega), fun hj => (F16 (by rwa [sg (by decide)] at hj)).touch ht (by omega), fun hj => (let ⟨a, b, e1, e2⟩ := (F17 (by rwa [sg (by decide)] at hj)); ⟨a, b, e1.touch ht (by omega), e2.touch ht (by omega)⟩), fun hj => (F18 (by rwa [sg (by decide)] at hj)), fun hj => (let ⟨a, b, c, e1, e2⟩ := (F19 (by rwa [sg (by decide)] at hj)); ⟨a, b, c, e1.touch ht (by omega), e2.touch ht (by omega)⟩), fun hj => (N17 (by rwa [sg (by decide)] at hj)).touch ht (by omega), fun hj => (N19 (by rwa [sg (by decide)] at hj)).touch ht (by omega), ⟨q, hq, by rw [sg (i := 6) (j := 1) (by decide), sg (i := 6) (j := 3) (by decide), sg (i := 6) (j := 5) (by decide), sg (i := 6) (j := 9) (by decide), sg (i := 6) (j := 15) (by decide)]; exact hqb⟩, hx.touch ht (by omega)⟩
    · as_aux_lemma =>
        obtain ⟨u2, u4, u9, u10, u11, u12, u13, u14, u15, u16, u17, u18, u19, u20, u21, u22, u23, u24, rfl, F0, F1, F2, F3, F4, F5, F6, F7, F8, F9, F10, F11, F12, F13, F14, F15, F16, F17, F18, F19, N17, N19, ⟨q, hq, hqb⟩, hx⟩ := hI
        refine wpOp_step ho rfl (fun K hK => ?_)
        unfold daA
        have ht := (Touch.refl r w').alloc (.cells #[.int .i64 0, .int .i64 0, .int .i64 0, .int .i64 0, .int .i64 0, .int .i64 1, .int .i64 2] 3)
        have hsz := hx.size
        have hq := hq.alloc (.cells #[.int .i64 0, .int .i64 0, .int .i64 0, .int .i64 0, .int .i64 0, .int .i64 1, .int .i64 2] 3)
        refine wp_lit7 _ _ _ _ ?_
        exact hK _ _ ⟨_, _, _, _, _, _, _, _, _, _, _, _, _, _, _, _, _, _, rfl, fun hj => (by first | exact (F0 (by rwa [sg (by decide)] at hj)) | rfl), fun hj => (F1 (by rwa [sg (by decide)] at hj)).touch ht (by omega), fun hj => (by first | exact (F2 (by rwa [sg (by decide)] at hj)) | rfl), fun hj => (F3 (by rwa [sg (by decide)] at hj)).touch ht (by omega), fun hj => (by first | exact (F4 (by rwa [sg (by decide)] at hj)) | rfl), fun hj => (F5 (by rwa [sg (by decide)] at hj)), fun hj => (let ⟨g, x, e1, e2, e3, e4, e5⟩ := (F6 (by rwa [sg (by decide)] at hj)); ⟨g, x, e1, e2, e3, e4, e5.touch ht (by omega)⟩), fun _ => ⟨_, rfl, hsz, by show (w'.heap.push _)[w'.heap.size]? = _; exact Array.getElem?_push_size⟩, fun hj => (by first | exact (F8 (by rwa [sg (by decide)] at hj)) | rfl), fun hj => (F9 (by rwa [sg (by decide)] at hj)), fun hj => (let ⟨g, z, e1, e0, e2, e3⟩ := (F10 (by rwa [sg (by decide)] at hj)); ⟨g, z, e1, e0, e2, e3.touch ht (by omega)⟩), fun hj => (F11 (by rwa [sg (by decide)] at hj)), fun hj => (let ⟨g, z, x, e1, e0, a0, a1, e2, e3⟩ := (F12 (by rwa [sg (by decide)] at hj)); ⟨g, z, x, e1, e0, a0, a1, e2, e3.touch ht (by omega)⟩), fun hj => (F13 (by rwa [sg (by decide)] at hj)), fun hj => (by first | exact (F14 (by rwa [sg (by decide)] at hj)) | rfl), fun hj => (F15 (by rwa [sg (by decide)] at hj)).touch ht (by omega), fun hj => (F16 (by rwa [sg (by decide)] at hj)).touch ht (by omega), fun hj => (let ⟨a, b, e1, e2⟩ := (F17 (by rwa [sg (by decide)] at hj)); ⟨a, b, e1.touch ht (by omega), e2.touch ht (by omega)⟩), fun hj => (F18 (by rwa [sg (by decide)] at hj)), fun hj => (let ⟨a, b, c, e1, e2⟩ := (F19 (by rwa [sg (by decide)] at hj)); ⟨a, b, c, e1.touch ht (by omega), e2.touch ht (by omega)⟩), fun hj => (N17 (by rwa [sg (by decide)] at hj)).touch ht (by omega), fun hj => (N19 (by rwa [sg (by decide)] at hj)).touch ht (by omega), ⟨q, hq, by rw [sg (i := 7) (j := 1) (by decide), sg (i := 7) (j := 3) (by decide), sg (i := 7) (j := 5) (by decide), sg (i := 7) (j := 9) (by decide), sg (i := 7) (j := 15) (by decide)]; exact hqb⟩, hx.touch ht (by omega)⟩
    · as_aux_lemma =>
        obtain ⟨u2, u4, u9, u10, u11, u12, u13, u14, u15, u16, u17, u18, u19, u20, u21, u22, u23, u24, rfl, F0, F1, F2, F3, F4, F5, F6, F7, F8, F9, F10, F11, F12, F13, F14, F15, F16, F17, F18, F19, N17, N19, ⟨q, hq, hqb⟩, hx⟩ := hI
        refine wpOp_step ho rfl (fun K hK => ?_)
        unfold daA
        go_simp
        exact hK _ _ ⟨_, _, _, _, _, _, _, _, _, _, _, _, _, _, _, _, _, _, rfl, fun hj => (by first | exact (F0 (by rwa [sg (by decide)] at hj)) | rfl), fun hj => (F1 (by rwa [sg (by decide)] at hj)), fun hj => (by first | exact (F2 (by rwa [sg (by decide)] at hj)) | rfl), fun hj => (F3 (by rwa [sg (by decide)] at hj)), fun hj => (by first | exact (F4 (by rwa [sg (by decide)] at hj)) | rfl), fun hj => (F5 (by rwa [sg (by decide)] at hj)), fun hj => (F6 (by rwa [sg (by decide)] at hj)), fun hj => (F7 (by rwa [sg (by decide)] at hj)), fun _ => rfl, fun hj => (F9 (by rwa [sg (by decide)] at hj)), fun hj => (F10 (by rwa [sg (by decide)] at hj)), fun hj => (F11 (by rwa [sg (by decide)] at hj)), fun hj => (F12 (by rwa [sg (by decide)] at hj)), fun hj => (F13 (by rwa [sg (by decide)] at hj)), fun hj => (by first | exact (F14 (by rwa [sg (by decide)] at hj)) | rfl), fun hj => (F15 (by rwa [sg (by decide)] at hj)), fun hj => (F16 (by rwa [sg (by decide)] at hj)), fun hj => (F17 (by rwa [sg (by decide)] at hj)), fun hj => (F18 (by rwa [sg (by decide)] at hj)), fun hj => (F19 (by rwa [sg (by decide)] at hj)), fun hj => (N17 (by rwa [sg (by decide)] at hj)), fun hj => (N19 (by rwa [sg (by decide)] at hj)), ⟨q, hq, by rw [sg (i := 8) (j := 1) (by decide), sg (i := 8) (j := 3) (by decide), sg (i := 8) (j := 5) (by decide), sg (i := 8) (j := 9) (by decide), sg (i := 8) (j := 15) (by decide)]; exact hqb⟩, hx⟩
    · as_aux_lemma =>
        obtain ⟨u2, u4, u9, u10, u11, u12, u13, u14, u15, u16, u17, u18, u19, u20, u21, u22, u23, u24, rfl, F0, F1, F2, F3, F4, F5, F6, F7, F8, F9, F10, F11, F12, F13, F14, F15, F16, F17, F18, F19, N17, N19, ⟨q, hq, hqb⟩, hx⟩ := hI
        have l8 := he ⟨8, .data⟩ (by simp) rfl
        have e := F8 l8; subst e
        refine wpOp_step ho rfl (fun K hK => ?_)
        unfold daA
        go_simp
        (with_reducible refine (pick_p r B bs q 7 w' hq (by omega) (by omega) (by omega)).mono ?_)
        rintro e w'' ⟨x, rfl, x0, x1, hq, ht⟩
        obtain ⟨x, rfl⟩ := Int.eq_ofNat_of_zero_le x0
        go_wp2_with fail
        exact ⟨_, _, _, _, _, _, _, _, _, _, _, _, _, _, _, _, _, _, rfl, fun hj => (by first | exact (F0 (by rwa [sg (by decide)] at hj)) | rfl), fun hj => (F1 (by rwa [sg (by decide)] at hj)).touch ht (by omega), fun hj => (by first | exact (F2 (by rwa [sg (by decide)] at hj)) | rfl), fun hj => (F3 (by rwa [sg (by decide)] at hj)).touch ht (by omega), fun hj => (by first | exact (F4 (by rwa [sg (by decide)] at hj)) | rfl), fun hj => (F5 (by rwa [sg (by decide)] at hj)), fun hj => (let ⟨g, x, e1, e2, e3, e4, e5⟩ := (F6 (by rwa [sg (by decide)] at hj)); ⟨g, x, e1, e2, e3, e4, e5.touch ht (by omega)⟩), fun hj => (let ⟨g, e1, e2, e3⟩ := (F7 (by rwa [sg (by decide)] at hj)); ⟨g, e1, e2, e3.touch ht (by omega)⟩), fun hj => (by first | exact (F8 (by rwa [sg (by decide)] at hj)) | rfl), fun _ => ⟨x, rfl, by omega⟩, fun hj => (let ⟨g, z, e1, e0, e2, e3⟩ := (F10 (by rwa [sg (by decide)] at hj)); ⟨g, z, e1, e0, e2, e3.touch ht (by omega)⟩), fun hj => (F11 (by rwa [sg (by decide)] at hj)), fun hj => (let ⟨g, z, x, e1, e0, a0, a1, e2, e3⟩ := (F12 (by rwa [sg (by decide)] at hj)); ⟨g, z, x, e1, e0, a0, a1, e2, e3.touch ht (by omega)⟩), fun hj => (F13 (by rwa [sg (by decide)] at hj)), fun hj => (by first | exact (F14 (by rwa [sg (by decide)] at hj)) | rfl), fun hj => (F15 (by rwa [sg (by decide)] at hj)).touch ht (by omega), fun hj => (F16 (by rwa [sg (by decide)] at hj)).touch ht (by omega), fun hj => (let ⟨a, b, e1, e2⟩ := (F17 (by rwa [sg (by decide)] at hj)); ⟨a, b, e1.touch ht (by omega), e2.touch ht (by omega)⟩), fun hj => (F18 (by rwa [sg (by decide)] at hj)), fun hj => (let ⟨a, b, c, e1, e2⟩ := (F19 (by rwa [sg (by decide)] at hj)); ⟨a, b, c, e1.touch ht (by omega), e2.touch ht (by omega)⟩), fun hj => (N17 (by rwa [sg (by decide)] at hj)).touch ht (by omega), fun hj => (N19 (by rwa [sg (by decide)] at hj)).touch ht (by omega), ⟨_, hq, by rw [sgi hl, sg (i := 9) (j := 1) (by decide), sg (i := 9) (j := 3) (by decide), sg (i := 9) (j := 5) (by decide), sg (i := 9) (j := 15) (by decide)]; rw [getD_both hl] at hqb; simp only [bdn_true, bdn_false] at hqb ⊢; omega⟩, hx.touch ht (by omega)⟩
    · as_aux_lemma =>
        obtain ⟨u2, u4, u9, u10, u11, u12, u13, u14, u15, u16, u17, u18, u19, u20, u21, u22, u23, u24, rfl, F0, F1, F2, F3, F4, F5, F6, F7, F8, F9, F10, F11, F12, F13, F14, F15, F16, F17, F18, F19, N17, N19, ⟨q, hq, hqb⟩, hx⟩ := hI
        have l7 := he ⟨7, .data⟩ (by simp) rfl
        have l9 := he ⟨9, .data⟩ (by simp) rfl
        obtain ⟨g, rfl, g1, g2⟩ := F7 l7
        obtain ⟨z, rfl, z1⟩ := F9 l9
        refine wpOp_step ho rfl (fun K hK => ?_)
        unfold daA
        have hz0 : (0 : Int) ≤ (z : Int) := by omega
        have hz1 : (z : Int) < 7 := by omega
        go_simp
        exact hK _ _ ⟨_, _, _, _, _, _, _, _, _, _, _, _, _, _, _, _, _, _, rfl, fun hj => (by first | exact (F0 (by rwa [sg (by decide)] at hj)) | rfl), fun hj => (F1 (by rwa [sg (by decide)] at hj)), fun hj => (by first | exact (F2 (by rwa [sg (by decide)] at hj)) | rfl), fun hj => (F3 (by rwa [sg (by decide)] at hj)), fun hj => (by first | exact (F4 (by rwa [sg (by decide)] at hj)) | rfl), fun hj => (F5 (by rwa [sg (by decide)] at hj)), fun hj => (F6 (by rwa [sg (by decide)] at hj)), fun hj => (F7 (by rwa [sg (by decide)] at hj)), fun hj => (by first | exact (F8 (by rwa [sg (by decide)] at hj)) | rfl), fun hj => (F9 (by rwa [sg (by decide)] at hj)), fun _ => ⟨g, z, rfl, z1, g1, g2⟩, fun hj => (F11 (by rwa [sg (by decide)] at hj)), fun hj => (F12 (by rwa [sg (by decide)] at hj)), fun hj => (F13 (by rwa [sg (by decide)] at hj)), fun hj => (by first | exact (F14 (by rwa [sg (by decide)] at hj)) | rfl), fun hj => (F15 (by rwa [sg (by decide)] at hj)), fun hj => (F16 (by rwa [sg (by decide)] at hj)), fun hj => (F17 (by rwa [sg (by decide)] at hj)), fun hj => (F18 (by rwa [sg (by decide)] at hj)), fun hj => (F19 (by rwa [sg (by decide)] at hj)), fun hj => (N17 (by rwa [sg (by decide)] at hj)), fun hj => (N19 (by rwa [sg (by decide)] at hj)), ⟨q, hq, by rw [sg (i := 10) (j := 1) (by decide), sg (i := 10) (j := 3) (by decide), sg (i := 10) (j := 5) (by decide), sg (i := 10) (j := 9) (by decide), sg (i := 10) (j := 15) (by decide)]; exact hqb⟩, hx⟩
    · as_aux_lemma =>
        obtain ⟨u2, u4, u9, u10, u11, u12, u13, u14, u15, u16, u17, u18, u19, u20, u21, u22, u23, u24, rfl, F0, F1, F2, F3, F4, F5, F6, F7, F8, F9, F10, F11, F12, F13, F14, F15, F16, F17, F18, F19, N17, N19, ⟨q, hq, hqb⟩, hx⟩ := hI
        have l10 := he ⟨10, .data⟩ (by simp) rfl
        obtain ⟨g, z, rfl, z1, g1, g2⟩ := F10 l10
        obtain ⟨y, hl1, hy⟩ := tabW z1
        have tc := g2.at_ z _ (tab_arr hl1)
        refine wpOp_step ho rfl (fun K hK => ?_)
        unfold daA
        go_simp
        exact hK _ _ ⟨_, _, _, _, _, _, _, _, _, _, _, _, _, _, _, _, _, _, rfl, fun hj => (by first | exact (F0 (by rwa [sg (by decide)] at hj)) | rfl), fun hj => (F1 (by rwa [sg (by decide)] at hj)), fun hj => (by first | exact (F2 (by rwa [sg (by decide)] at hj)) | rfl), fun hj => (F3 (by rwa [sg (by decide)] at hj)), fun hj => (by first | exact (F4 (by rwa [sg (by decide)] at hj)) | rfl), fun hj => (F5 (by rwa [sg (by decide)] at hj)), fun hj => (F6 (by rwa [sg (by decide)] at hj)), fun hj => (F7 (by rwa [sg (by decide)] at hj)), fun hj => (by first | exact (F8 (by rwa [sg (by decide)] at hj)) | rfl), fun hj => (F9 (by rwa [sg (by decide)] at hj)), fun hj => (F10 (by rwa [sg (by decide)] at hj)), fun _ => ⟨y, rfl, hy⟩, fun hj => (F12 (by rwa [sg (by decide)] at hj)), fun hj => (F13 (by rwa [sg (by decide)] at hj)), fun hj => (by first | exact (F14 (by rwa [sg (by decide)] at hj)) | rfl), fun hj => (F15 (by rwa [sg (by decide)] at hj)), fun hj => (F16 (by rwa [sg (by decide)] at hj)), fun hj => (F17 (by rwa [sg (by decide)] at hj)), fun hj => (F18 (by rwa [sg (by decide)] at hj)), fun hj => (F19 (by rwa [sg (by decide)] at hj)), fun hj => (N17 (by rwa [sg (by decide)] at hj)), fun hj => (N19 (by rwa [sg (by decide)] at hj)), ⟨q, hq, by rw [sg (i := 11) (j := 1) (by decide), sg (i := 11) (j := 3) (by decide), sg (i := 11) (j := 5) (by decide), sg (i := 11) (j := 9) (by decide), sg (i := 11) (j := 15) (by decide)]; exact hqb⟩, hx⟩
    · as_aux_lemma =>
        obtain ⟨u2, u4, u9, u10, u11, u12, u13, u14, u15, u16, u17, u18, u19, u20, u21, u22, u23, u24, rfl, F0, F1, F2, F3, F4, F5, F6, F7, F8, F9, F10, F11, F12, F13, F14, F15, F16, F17, F18, F19, N17, N19, ⟨q, hq, hqb⟩, hx⟩ := hI
        have l6 := he ⟨6, .data⟩ (by simp) rfl
        have l11 := he ⟨11, .data⟩ (by simp) rfl
        obtain ⟨g, x, rfl, x0, x1, g1, g2⟩ := F6 l6
        obtain ⟨z, rfl, z1⟩ := F11 l11
        refine wpOp_step ho rfl (fun K hK => ?_)
        unfold daA
        have hz0 : (0 : Int) ≤ (z : Int) := by omega
        have hz1 : (z : Int) < 3 := by omega
        go_simp
        exact hK _ _ ⟨_, _, _, _, _, _, _, _, _, _, _, _, _, _, _, _, _, _, rfl, fun hj => (by first | exact (F0 (by rwa [sg (by decide)] at hj)) | rfl), fun hj => (F1 (by rwa [sg (by decide)] at hj)), fun hj => (by first | exact (F2 (by rwa [sg (by decide)] at hj)) | rfl), fun hj => (F3 (by rwa [sg (by decide)] at hj)), fun hj => (by first | exact (F4 (by rwa [sg (by decide)] at hj)) | rfl), fun hj => (F5 (by rwa [sg (by decide)] at hj)), fun hj => (F6 (by rwa [sg (by decide)] at hj)), fun hj => (F7 (by rwa [sg (by decide)] at hj)), fun hj => (by first | exact (F8 (by rwa [sg (by decide)] at hj)) | rfl), fun hj => (F9 (by rwa [sg (by decide)] at hj)), fun hj => (F10 (by rwa [sg (by decide)] at hj)), fun hj => (F11 (by rwa [sg (by decide)] at hj)), fun _ => ⟨g, z, x, rfl, z1, x0, x1, g1, g2⟩, fun hj => (F13 (by rwa [sg (by decide)] at hj)), fun hj => (by first | exact (F14 (by rwa [sg (by decide)] at hj)) | rfl), fun hj => (F15 (by rwa [sg (by decide)] at hj)), fun hj => (F16 (by rwa [sg (by decide)] at hj)), fun hj => (F17 (by rwa [sg (by decide)] at hj)), fun hj => (F18 (by rwa [sg (by decide)] at hj)), fun hj => (F19 (by rwa [sg (by decide)] at hj)), fun hj => (N17 (by rwa [sg (by decide)] at hj)), fun hj => (N19 (by rwa [sg (by decide)] at hj)), ⟨q, hq, by rw [sg (i := 12) (j := 1) (by decide), sg (i := 12) (j := 3) (by decide), sg (i := 12) (j := 5) (by decide), sg (i := 12) (j := 9) (by decide), sg (i := 12) (j := 15) (by decide)]; exact hqb⟩, hx⟩
    · as_aux_lemma =>
        obtain ⟨u2, u4, u9, u10, u11, u12, u13, u14, u15, u16, u17, u18, u19, u20, u21, u22, u23, u24, rfl, F0, F1, F2, F3, F4, F5, F6, F7, F8, F9, F10, F11, F12, F13, F14, F15, F16, F17, F18, F19, N17, N19, ⟨q, hq, hqb⟩, hx⟩ := hI
        have l12 := he ⟨12, .data⟩ (by simp) rfl
        obtain ⟨g, z, x, rfl, z1, x0, x1, g1, g2⟩ := F12 l12
        obtain ⟨y, hl1, hy⟩ := tab3 x (-1) 3 z1
        have tc := g2.at_ z _ (tab_arr hl1)
        refine wpOp_step ho rfl (fun K hK => ?_)
        unfold daA
        go_simp
        exact hK _ _ ⟨_, _, _, _, _, _, _, _, _, _, _, _, _, _, _, _, _, _, rfl, fun hj => (by first | exact (F0 (by rwa [sg (by decide)] at hj)) | rfl), fun hj => (F1 (by rwa [sg (by decide)] at hj)), fun hj => (by first | exact (F2 (by rwa [sg (by decide)] at hj)) | rfl), fun hj => (F3 (by rwa [sg (by decide)] at hj)), fun hj => (by first | exact (F4 (by rwa [sg (by decide)] at hj)) | rfl), fun hj => (F5 (by rwa [sg (by decide)] at hj)), fun hj => (F6 (by rwa [sg (by decide)] at hj)), fun hj => (F7 (by rwa [sg (by decide)] at hj)), fun hj => (by first | exact (F8 (by rwa [sg (by decide)] at hj)) | rfl), fun hj => (F9 (by rwa [sg (by decide)] at hj)), fun hj => (F10 (by rwa [sg (by decide)] at hj)), fun hj => (F11 (by rwa [sg (by decide)] at hj)), fun hj => (F12 (by rwa [sg (by decide)] at hj)), fun _ => ⟨y, rfl, by omega, by omega⟩, fun hj => (by first | exact (F14 (by rwa [sg (by decide)] at hj)) | rfl), fun hj => (F15 (by rwa [sg (by decide)] at hj)), fun hj => (F16 (by rwa [sg (by decide)] at hj)), fun hj => (F17 (by rwa [sg (by decide)] at hj)), fun hj => (F18 (by rwa [sg (by decide)] at hj)), fun hj => (F19 (by rwa [sg (by decide)] at hj)), fun hj => (N17 (by rwa [sg (by decide)] at hj)), fun hj => (N19 (by rwa [sg (by decide)] at hj)), ⟨q, hq, by rw [sg (i := 13) (j := 1) (by decide), sg (i := 13) (j := 3) (by decide), sg (i := 13) (j := 5) (by decide), sg (i := 13) (j := 9) (by decide), sg (i := 13) (j := 15) (by decide)]; exact hqb⟩, hx⟩
    · as_aux_lemma =>
        obtain ⟨u2, u4, u9, u10, u11, u12, u13, u14, u15, u16, u17, u18, u19, u20, u21, u22, u23, u24, rfl, F0, F1, F2, F3, F4, F5, F6, F7, F8, F9, F10, F11, F12, F13, F14, F15, F16, F17, F18, F19, N17, N19, ⟨q, hq, hqb⟩, hx⟩ := hI
        refine wpOp_step ho rfl (fun K hK => ?_)
        unfold daA
        go_simp
        exact hK _ _ ⟨_, _, _, _, _, _, _, _, _, _, _, _, _, _, _, _, _, _, rfl, fun hj => (by first | exact (F0 (by rwa [sg (by decide)] at hj)) | rfl), fun hj => (F1 (by rwa [sg (by decide)] at hj)), fun hj => (by first | exact (F2 (by rwa [sg (by decide)] at hj)) | rfl), fun hj => (F3 (by rwa [sg (by decide)] at hj)), fun hj => (by first | exact (F4 (by rwa [sg (by decide)] at hj)) | rfl), fun hj => (F5 (by rwa [sg (by decide)] at hj)), fun hj => (F6 (by rwa [sg (by decide)] at hj)), fun hj => (F7 (by rwa [sg (by decide)] at hj)), fun hj => (by first | exact (F8 (by rwa [sg (by decide)] at hj)) | rfl), fun hj => (F9 (by rwa [sg (by decide)] at hj)), fun hj => (F10 (by rwa [sg (by decide)] at hj)), fun hj => (F11 (by rwa [sg (by decide)] at hj)), fun hj => (F12 (by rwa [sg (by decide)] at hj)), fun hj => (F13 (by rwa [sg (by decide)] at hj)), fun _ => rfl, fun hj => (F15 (by rwa [sg (by decide)] at hj)), fun hj => (F16 (by rwa [sg (by decide)] at hj)), fun hj => (F17 (by rwa [sg (by decide)] at hj)), fun hj => (F18 (by rwa [sg (by decide)] at hj)), fun hj => (F19 (by rwa [sg (by decide)] at hj)), fun hj => (N17 (by rwa [sg (by decide)] at hj)), fun hj => (N19 (by rwa [sg (by decide)] at hj)), ⟨q, hq, by rw [sg (i := 14) (j := 1) (by decide), sg (i := 14) (j := 3) (by decide), sg (i := 14) (j := 5) (by decide), sg (i := 14) (j := 9) (by decide), sg (i := 14) (j := 15) (by decide)]; exact hqb⟩, hx⟩
    · as_aux_lemma =>
        obtain ⟨u2, u4, u9, u10, u11, u12, u13, u14, u15, u16, u17, u18, u19, u20, u21, u22, u23, u24, rfl, F0, F1, F2, F3, F4, F5, F6, F7, F8, F9, F10, F11, F12, F13, F14, F15, F16, F17, F18, F19, N17, N19, ⟨q, hq, hqb⟩, hx⟩ := hI
        have l14 := he ⟨14, .data⟩ (by simp) rfl
        have e := F14 l14; subst e
        refine wpOp_step ho rfl (fun K hK => ?_)
        unfold daA
        go_simp
        (with_reducible refine (l20Req_any r B bs q 16 w' hq (by omega) (by omega) (by omega)).mono ?_)
        rintro e w'' ⟨dv, lv, rq, q2, rfl, o1, o2, i0, n1, n2, _, hq2, hq, ht⟩
        go_wp2_with fail
        exact ⟨_, _, _, _, _, _, _, _, _, _, _, _, _, _, _, _, _, _, rfl, fun hj => (by first | exact (F0 (by rwa [sg (by decide)] at hj)) | rfl), fun hj => (F1 (by rwa [sg (by decide)] at hj)).touch ht (by omega), fun hj => (by first | exact (F2 (by rwa [sg (by decide)] at hj)) | rfl), fun hj => (F3 (by rwa [sg (by decide)] at hj)).touch ht (by omega), fun hj => (by first | exact (F4 (by rwa [sg (by decide)] at hj)) | rfl), fun hj => (F5 (by rwa [sg (by decide)] at hj)), fun hj => (let ⟨g, x, e1, e2, e3, e4, e5⟩ := (F6 (by rwa [sg (by decide)] at hj)); ⟨g, x, e1, e2, e3, e4, e5.touch ht (by omega)⟩), fun hj => (let ⟨g, e1, e2, e3⟩ := (F7 (by rwa [sg (by decide)] at hj)); ⟨g, e1, e2, e3.touch ht (by omega)⟩), fun hj => (by first | exact (F8 (by rwa [sg (by decide)] at hj)) | rfl), fun hj => (F9 (by rwa [sg (by decide)] at hj)), fun hj => (let ⟨g, z, e1, e0, e2, e3⟩ := (F10 (by rwa [sg (by decide)] at hj)); ⟨g, z, e1, e0, e2, e3.touch ht (by omega)⟩), fun hj => (F11 (by rwa [sg (by decide)] at hj)), fun hj => (let ⟨g, z, x, e1, e0, a0, a1, e2, e3⟩ := (F12 (by rwa [sg (by decide)] at hj)); ⟨g, z, x, e1, e0, a0, a1, e2, e3.touch ht (by omega)⟩), fun hj => (F13 (by rwa [sg (by decide)] at hj)), fun hj => (by first | exact (F14 (by rwa [sg (by decide)] at hj)) | rfl), fun _ => ⟨dv, lv, rq, rfl, o1.rebase hx.size, o2.rebase hx.size, i0, n1, n2⟩, fun hj => (F16 (by rwa [sg (by decide)] at hj)).touch ht (by omega), fun hj => (let ⟨a, b, e1, e2⟩ := (F17 (by rwa [sg (by decide)] at hj)); ⟨a, b, e1.touch ht (by omega), e2.touch ht (by omega)⟩), fun hj => (F18 (by rwa [sg (by decide)] at hj)), fun hj => (let ⟨a, b, c, e1, e2⟩ := (F19 (by rwa [sg (by decide)] at hj)); ⟨a, b, c, e1.touch ht (by omega), e2.touch ht (by omega)⟩), fun hj => (N17 (by rwa [sg (by decide)] at hj)).touch ht (by omega), fun hj => (N19 (by rwa [sg (by decide)] at hj)).touch ht (by omega), ⟨_, hq, by rw [sgi hl, sg (i := 15) (j := 1) (by decide), sg (i := 15) (j := 3) (by decide), sg (i := 15) (j := 5) (by decide), sg (i := 15) (j := 9) (by decide)]; rw [getD_both hl] at hqb; simp only [bdn_true, bdn_false] at hqb ⊢; omega⟩, hx.touch ht (by omega)⟩
    · as_aux_lemma =>
        obtain ⟨u2, u4, u9, u10, u11, u12, u13, u14, u15, u16, u17, u18, u19, u20, u21, u22, u23, u24, rfl, F0, F1, F2, F3, F4, F5, F6, F7, F8, F9, F10, F11, F12, F13, F14, F15, F16, F17, F18, F19, N17, N19, ⟨q, hq, hqb⟩, hx⟩ := hI
        have l1 := he ⟨1, .data⟩ (by simp) rfl
        have l := F1 l1
        refine wpOp_step ho rfl (fun K hK => ?_)
        unfold daA
        go_simp
        exact hK _ _ ⟨_, _, _, _, _, _, _, _, _, _, _, _, _, _, _, _, _, _, rfl, fun hj => (by first | exact (F0 (by rwa [sg (by decide)] at hj)) | rfl), fun hj => (F1 (by rwa [sg (by decide)] at hj)), fun hj => (by first | exact (F2 (by rwa [sg (by decide)] at hj)) | rfl), fun hj => (F3 (by rwa [sg (by decide)] at hj)), fun hj => (by first | exact (F4 (by rwa [sg (by decide)] at hj)) | rfl), fun hj => (F5 (by rwa [sg (by decide)] at hj)), fun hj => (F6 (by rwa [sg (by decide)] at hj)), fun hj => (F7 (by rwa [sg (by decide)] at hj)), fun hj => (by first | exact (F8 (by rwa [sg (by decide)] at hj)) | rfl), fun hj => (F9 (by rwa [sg (by decide)] at hj)), fun hj => (F10 (by rwa [sg (by decide)] at hj)), fun hj => (F11 (by rwa [sg (by decide)] at hj)), fun hj => (F12 (by rwa [sg (by decide)] at hj)), fun hj => (F13 (by rwa [sg (by decide)] at hj)), fun hj => (by first | exact (F14 (by rwa [sg (by decide)] at hj)) | rfl), fun hj => (F15 (by rwa [sg (by decide)] at hj)), fun _ => l, fun hj => (F17 (by rwa [sg (by decide)] at hj)), fun hj => (F18 (by rwa [sg (by decide)] at hj)), fun hj => (F19 (by rwa [sg (by decide)] at hj)), fun hj => (N17 (by rwa [sg (by decide)] at hj)), fun hj => (N19 (by rwa [sg (by decide)] at hj)), ⟨q, hq, by rw [sg (i := 16) (j := 1) (by decide), sg (i := 16) (j := 3) (by decide), sg (i := 16) (j := 5) (by decide), sg (i := 16) (j := 9) (by decide), sg (i := 16) (j := 15) (by decide)]; exact hqb⟩, hx⟩
    · as_aux_lemma =>
        obtain ⟨u2, u4, u9, u10, u11, u12, u13, u14, u15, u16, u17, u18, u19, u20, u21, u22, u23, u24, rfl, F0, F1, F2, F3, F4, F5, F6, F7, F8, F9, F10, F11, F12, F13, F14, F15, F16, F17, F18, F19, N17, N19, ⟨q, hq, hqb⟩, hx⟩ := hI
        have l3 := he ⟨3, .data⟩ (by simp) rfl
        obtain ⟨wv, hv, ws, hs, rfl, o1, o2, i1, i2, n1, n2⟩ := F3 l3
        obtain ⟨qa, qc, rfl, _, _⟩ := o1.shape
        obtain ⟨ra, rc, rfl, _, _⟩ := o2.shape
        have hz := N17 (getD_both hl)
        obtain ⟨k0, k1, m0, m1⟩ := hz.cells
        refine wpOp_step ho rfl (fun K hK => ?_)
        unfold daA
        have ht : Touch s w' ((w'.setCell ⟨s, 0, none⟩ (.slice qa ws.length qc)).setCell ⟨s, 1, none⟩ (.slice ra hs.length rc)) := (Touch.setCell s 0 w' _).trans (Touch.setCell s 1 _ _)
        go_simp
        exact hK _ _ ⟨_, _, _, _, _, _, _, _, _, _, _, _, _, _, _, _, _, _, rfl, fun hj => (by first | exact (F0 (by rwa [sg (by decide)] at hj)) | rfl), fun hj => (F1 (by rwa [sg (by decide)] at hj)).touch ht (by omega), fun hj => (by first | exact (F2 (by rwa [sg (by decide)] at hj)) | rfl), fun hj => (F3 (by rwa [sg (by decide)] at hj)).touch ht (by omega), fun hj => (by first | exact (F4 (by rwa [sg (by decide)] at hj)) | rfl), fun hj => (F5 (by rwa [sg (by decide)] at hj)), fun hj => (let ⟨g, x, e1, e2, e3, e4, e5⟩ := (F6 (by rwa [sg (by decide)] at hj)); ⟨g, x, e1, e2, e3, e4, e5.touch ht (by omega)⟩), fun hj => (let ⟨g, e1, e2, e3⟩ := (F7 (by rwa [sg (by decide)] at hj)); ⟨g, e1, e2, e3.touch ht (by omega)⟩), fun hj => (by first | exact (F8 (by rwa [sg (by decide)] at hj)) | rfl), fun hj => (F9 (by rwa [sg (by decide)] at hj)), fun hj => (let ⟨g, z, e1, e0, e2, e3⟩ := (F10 (by rwa [sg (by decide)] at hj)); ⟨g, z, e1, e0, e2, e3.touch ht (by omega)⟩), fun hj => (F11 (by rwa [sg (by decide)] at hj)), fun hj => (let ⟨g, z, x, e1, e0, a0, a1, e2, e3⟩ := (F12 (by rwa [sg (by decide)] at hj)); ⟨g, z, x, e1, e0, a0, a1, e2, e3.touch ht (by omega)⟩), fun hj => (F13 (by rwa [sg (by decide)] at hj)), fun hj => (by first | exact (F14 (by rwa [sg (by decide)] at hj)) | rfl), fun hj => (F15 (by rwa [sg (by decide)] at hj)).touch ht (by omega), fun hj => (F16 (by rwa [sg (by decide)] at hj)).touch ht (by omega), fun _ => ⟨_, _, hz.put _ _, AtmF.touch ⟨_, _, ws, hs, rfl, o1, o2, i1, i2, n1, n2⟩ ht (by omega)⟩, fun hj => (F18 (by rwa [sg (by decide)] at hj)), fun hj => (let ⟨a, b, c, e1, e2⟩ := (F19 (by rwa [sg (by decide)] at hj)); ⟨a, b, c, e1.touch ht (by omega), e2.touch ht (by omega)⟩), fun hj => absurd hj (by rw [sgi hl]; simp), fun hj => (N19 (by rwa [sg (by decide)] at hj)).touch ht (by omega), ⟨q, hq.touchO ht (by omega) (by omega), by rw [sg (i := 17) (j := 1) (by decide), sg (i := 17) (j := 3) (by decide), sg (i := 17) (j := 5) (by decide), sg (i := 17) (j := 9) (by decide), sg (i := 17) (j := 15) (by decide)]; exact hqb⟩, hx.touch ht (by omega)⟩
    · as_aux_lemma =>
        obtain ⟨u2, u4, u9, u10, u11, u12, u13, u14, u15, u16, u17, u18, u19, u20, u21, u22, u23, u24, rfl, F0, F1, F2, F3, F4, F5, F6, F7, F8, F9, F10, F11, F12, F13, F14, F15, F16, F17, F18, F19, N17, N19, ⟨q, hq, hqb⟩, hx⟩ := hI
        have l13 := he ⟨13, .data⟩ (by simp) rfl
        obtain ⟨y, rfl, y0, y1⟩ := F13 l13
        refine wpOp_step ho rfl (fun K hK => ?_)
        unfold daA
        go_simp
        exact hK _ _ ⟨_, _, _, _, _, _, _, _, _, _, _, _, _, _, _, _, _, _, rfl, fun hj => (by first | exact (F0 (by rwa [sg (by decide)] at hj)) | rfl), fun hj => (F1 (by rwa [sg (by decide)] at hj)), fun hj => (by first | exact (F2 (by rwa [sg (by decide)] at hj)) | rfl), fun hj => (F3 (by rwa [sg (by decide)] at hj)), fun hj => (by first | exact (F4 (by rwa [sg (by decide)] at hj)) | rfl), fun hj => (F5 (by rwa [sg (by decide)] at hj)), fun hj => (F6 (by rwa [sg (by decide)] at hj)), fun hj => (F7 (by rwa [sg (by decide)] at hj)), fun hj => (by first | exact (F8 (by rwa [sg (by decide)] at hj)) | rfl), fun hj => (F9 (by rwa [sg (by decide)] at hj)), fun hj => (F10 (by rwa [sg (by decide)] at hj)), fun hj => (F11 (by rwa [sg (by decide)] at hj)), fun hj => (F12 (by rwa [sg (by decide)] at hj)), fun hj => (F13 (by rwa [sg (by decide)] at hj)), fun hj => (by first | exact (F14 (by rwa [sg (by decide)] at hj)) | rfl), fun hj => (F15 (by rwa [sg (by decide)] at hj)), fun hj => (F16 (by rwa [sg (by decide)] at hj)), fun hj => (F17 (by rwa [sg (by decide)] at hj)), fun _ => ⟨y, rfl, y0, y1⟩, fun hj => (F19 (by rwa [sg (by decide)] at hj)), fun hj => (N17 (by rwa [sg (by decide)] at hj)), fun hj => (N19 (by rwa [sg (by decide)] at hj)), ⟨q, hq, by rw [sg (i := 18) (j := 1) (by decide), sg (i := 18) (j := 3) (by decide), sg (i := 18) (j := 5) (by decide), sg (i := 18) (j := 9) (by decide), sg (i := 18) (j := 15) (by decide)]; exact hqb⟩, hx⟩
    · as_aux_lemma =>
        obtain ⟨u2, u4, u9, u10, u11, u12, u13, u14, u15, u16, u17, u18, u19, u20, u21, u22, u23, u24, rfl, F0, F1, F2, F3, F4, F5, F6, F7, F8, F9, F10, F11, F12, F13, F14, F15, F16, F17, F18, F19, N17, N19, ⟨q, hq, hqb⟩, hx⟩ := hI
        have l15 := he ⟨15, .data⟩ (by simp) rfl
        obtain ⟨dv, lv, rq, rfl, o1, o2, i0, n1, n2⟩ := F15 l15
        obtain ⟨qa, qc, rfl, _, _⟩ := o1.shape
        obtain ⟨ra, rc, rfl, _, _⟩ := o2.shape
        have hz := N19 (getD_both hl)
        obtain ⟨k0, k1, k2, k3, k4, k5, k6⟩ := hz.cells
        obtain ⟨m0, m1, m2, m3, m4, m5, m6⟩ := hz.unfrozen
        refine wpOp_step ho rfl (fun K hK => ?_)
        unfold daA
        have ht : Touch (s + 1) w' (((((((w'.setCell ⟨s + 1, 0, none⟩ (.int .i64 rq.id)).setCell ⟨s + 1, 1, none⟩ (.int .i64 rq.kind)).setCell ⟨s + 1, 2, none⟩ (.int .i64 rq.addr)).setCell ⟨s + 1, 3, none⟩ (.int .i64 rq.many)).setCell ⟨s + 1, 4, none⟩ (.bool rq.wrap)).setCell ⟨s + 1, 5, none⟩ (.slice qa rq.data.length qc)).setCell ⟨s + 1, 6, none⟩ (.slice ra rq.lanes.length rc)) := ((((((Touch.setCell _ _ _ _).trans (Touch.setCell _ _ _ _)).trans (Touch.setCell _ _ _ _)).trans (Touch.setCell _ _ _ _)).trans (Touch.setCell _ _ _ _)).trans (Touch.setCell _ _ _ _)).trans (Touch.setCell _ _ _ _)
        refine wp_storeQ _ _ _ hz rfl rfl ?_
        exact hK _ _ ⟨_, _, _, _, _, _, _, _, _, _, _, _, _, _, _, _, _, _, rfl, fun hj => (by first | exact (F0 (by rwa [sg (by decide)] at hj)) | rfl), fun hj => (F1 (by rwa [sg (by decide)] at hj)).touch ht (by omega), fun hj => (by first | exact (F2 (by rwa [sg (by decide)] at hj)) | rfl), fun hj => (F3 (by rwa [sg (by decide)] at hj)).touch ht (by omega), fun hj => (by first | exact (F4 (by rwa [sg (by decide)] at hj)) | rfl), fun hj => (F5 (by rwa [sg (by decide)] at hj)), fun hj => (let ⟨g, x, e1, e2, e3, e4, e5⟩ := (F6 (by rwa [sg (by decide)] at hj)); ⟨g, x, e1, e2, e3, e4, e5.touch ht (by omega)⟩), fun hj => (let ⟨g, e1, e2, e3⟩ := (F7 (by rwa [sg (by decide)] at hj)); ⟨g, e1, e2, e3.touch ht (by omega)⟩), fun hj => (by first | exact (F8 (by rwa [sg (by decide)] at hj)) | rfl), fun hj => (F9 (by rwa [sg (by decide)] at hj)), fun hj => (let ⟨g, z, e1, e0, e2, e3⟩ := (F10 (by rwa [sg (by decide)] at hj)); ⟨g, z, e1, e0, e2, e3.touch ht (by omega)⟩), fun hj => (F11 (by rwa [sg (by decide)] at hj)), fun hj => (let ⟨g, z, x, e1, e0, a0, a1, e2, e3⟩ := (F12 (by rwa [sg (by decide)] at hj)); ⟨g, z, x, e1, e0, a0, a1, e2, e3.touch ht (by omega)⟩), fun hj => (F13 (by rwa [sg (by decide)] at hj)), fun hj => (by first | exact (F14 (by rwa [sg (by decide)] at hj)) | rfl), fun hj => (F15 (by rwa [sg (by decide)] at hj)).touch ht (by omega), fun hj => (F16 (by rwa [sg (by decide)] at hj)).touch ht (by omega), fun hj => (let ⟨a, b, e1, e2⟩ := (F17 (by rwa [sg (by decide)] at hj)); ⟨a, b, e1.touch ht (by omega), e2.touch ht (by omega)⟩), fun hj => (F18 (by rwa [sg (by decide)] at hj)), fun _ => ⟨_, _, rq, ((((((hz.set0 _).set1 _).set2 _).set3 _).set4 _).set5 _).set6 _, ReqF.touch ⟨_, _, rq, rfl, o1, o2, i0, n1, n2⟩ ht (by omega)⟩, fun hj => (N17 (by rwa [sg (by decide)] at hj)).touch ht (by omega), fun hj => absurd hj (by rw [sgi hl]; simp), ⟨q, hq.touchO ht (by omega) (by omega), by rw [sg (i := 19) (j := 1) (by decide), sg (i := 19) (j := 3) (by decide), sg (i := 19) (j := 5) (by decide), sg (i := 19) (j := 9) (by decide), sg (i := 19) (j := 15) (by decide)]; exact hqb⟩, hx.touch ht (by omega)⟩
  · intro listed a w' hI hd
    obtain ⟨u2, u4, u9, u10, u11, u12, u13, u14, u15, u16, u17, u18, u19, u20, u21, u22, u23, u24, rfl, F0, F1, F2, F3, F4, F5, F6, F7, F8, F9, F10, F11, F12, F13, F14, F15, F16, F17, F18, F19, N17, N19, ⟨q, hq, hqb⟩, hx⟩ := hI
    have hMF := F16 (hd 16 (by show 16 < 20; omega))
    obtain ⟨a, b, hBA, hAF⟩ := F17 (hd 17 (by show 17 < 20; omega))
    obtain ⟨who, rfl, hw0, hw3⟩ := F18 (hd 18 (by show 18 < 20; omega))
    obtain ⟨dv, lv, rq, hQW, hRF⟩ := F19 (hd 19 (by show 19 < 20; omega))
    clear F0 F1 F2 F3 F4 F5 F6 F7 F8 F9 F10 F11 F12 F13 F14 F15 F16 F17 F18 F19 N17 N19 hd hq hqb q
    obtain ⟨ms, hMV⟩ := hMF.maps
    obtain ⟨ws, hs, hAV⟩ := hAF.atm
    obtain ⟨rq2, hRV⟩ := hRF.req
    obtain ⟨k0, k1, m0, m1⟩ := hBA.cells
    obtain ⟨c0, c1, c2, c3, c4, c5, c6⟩ := hQW.cells
    have hBW : Below w.heap.size w w' := HBW.out.trans (hx.below (by rw [← HSE.out]; omega) (by rw [← HSE.out]; omega) HBW.out.size)
    have HM := hid hMV; have HA := hid hAV; have HR := hid hRV; have HB := hid hBW
    clear hMF hAF hRF hMV hAV hRV hBW hBA hQW hx
    unfold daA
    go_wp2_with fail
    refine bodyPost_ret (results_tctc Try.results7 _ _ ⟨s, 0, none⟩ ⟨s + 1, 0, none⟩ (.agg #[a, b]) (.agg #[.int .i64 rq.id, .int .i64 rq.kind, .int .i64 rq.addr, .int .i64 rq.many, .bool rq.wrap, dv, lv]) rfl rfl ?_ ?_) rfl ?_
    · simp [loadVar, go_sem, k0, k1]
    · simp [loadVar, go_sem, c0, c1, c2, c3, c4, c5, c6]
    exact ⟨_, ms, _, ws, hs, who, _, rq2, rfl, HM.out, HA.out, hw0, hw3, HR.out, HB.out⟩

end Go.Proofs.Ytjlnnnnpdagnpaa
