/-
  Draws: a store, and what is held.
-/
import Derived.Test.YteamebdehembgaaKDr4
set_option linter.unusedVariables false
set_option linter.unusedSimpArgs false
namespace Go.Proofs.Yteamebdehembgaa
open Go.RowKit
attribute [local go_sem ↓] Go.wp_at_zero Go.wp_at_succ

/-- Two boxes of two cells each, not frozen: s0 holds a0, a1; gs holds wv, hv. -/
def AB (w : World) (s0 gs : Nat) (a0 a1 wv hv : Value) : Prop :=
  w.cell? ⟨gs, 0, none⟩ = some wv ∧ w.cell? ⟨gs, 1, none⟩ = some hv ∧ w.frozen? ⟨gs, 0, none⟩ = false ∧ w.frozen? ⟨gs, 1, none⟩ = false ∧
  w.cell? ⟨s0, 0, none⟩ = some a0 ∧ w.cell? ⟨s0, 1, none⟩ = some a1 ∧ w.frozen? ⟨s0, 0, none⟩ = false ∧ w.frozen? ⟨s0, 1, none⟩ = false ∧ gs < w.heap.size ∧ s0 < w.heap.size
theorem AB.touch {w w' : World} {r s0 gs : Nat} {a0 a1 wv hv : Value} (h : AB w s0 gs a0 a1 wv hv) (ht : Touch r w w') (h1 : gs ≠ r) (h2 : s0 ≠ r) : AB w' s0 gs a0 a1 wv hv := by
  obtain ⟨a, b, c, d, a', b', c', d', e, f⟩ := h
  exact ⟨(ht.cell (p := ⟨gs, 0, none⟩) h1 e).trans a, (ht.cell (p := ⟨gs, 1, none⟩) h1 e).trans b, (ht.frozen (p := ⟨gs, 0, none⟩) h1 e).trans c, (ht.frozen (p := ⟨gs, 1, none⟩) h1 e).trans d,
    (ht.cell (p := ⟨s0, 0, none⟩) h2 f).trans a', (ht.cell (p := ⟨s0, 1, none⟩) h2 f).trans b', (ht.frozen (p := ⟨s0, 0, none⟩) h2 f).trans c', (ht.frozen (p := ⟨s0, 1, none⟩) h2 f).trans d', Nat.lt_of_lt_of_le e ht.size, Nat.lt_of_lt_of_le f ht.size⟩
theorem AB.setc {w : World} {s0 gs : Nat} {a0 a1 wv hv : Value} (h : AB w s0 gs a0 a1 wv hv) (g o : Nat) (u : Value) (h1 : gs ≠ g) (h2 : s0 ≠ g) : AB (w.setCell ⟨g, o, none⟩ u) s0 gs a0 a1 wv hv := h.touch (Touch.setCell g o w u) h1 h2
theorem AB.drewd {w : World} {s0 gs : Nat} {a0 a1 wv hv : Value} (h : AB w s0 gs a0 a1 wv hv) : AB w.drew s0 gs a0 a1 wv hv := h
theorem AB.below {w w' : World} {s0 gs C : Nat} {a0 a1 wv hv : Value} (h : AB w s0 gs a0 a1 wv hv) (hb : Below C w w') (h1 : gs < C) (h2 : s0 < C) : AB w' s0 gs a0 a1 wv hv := by
  obtain ⟨a, b, c, d, a', b', c', d', e, f⟩ := h
  exact ⟨(hb.cell (p := ⟨gs, 0, none⟩) h1).trans a, (hb.cell (p := ⟨gs, 1, none⟩) h1).trans b, (hb.frozen (p := ⟨gs, 0, none⟩) h1).trans c, (hb.frozen (p := ⟨gs, 1, none⟩) h1).trans d,
    (hb.cell (p := ⟨s0, 0, none⟩) h2).trans a', (hb.cell (p := ⟨s0, 1, none⟩) h2).trans b', (hb.frozen (p := ⟨s0, 0, none⟩) h2).trans c', (hb.frozen (p := ⟨s0, 1, none⟩) h2).trans d', Nat.lt_of_lt_of_le e hb.size, Nat.lt_of_lt_of_le f hb.size⟩
theorem AB.alloc {w : World} {s0 gs : Nat} {a0 a1 wv hv : Value} (h : AB w s0 gs a0 a1 wv hv) (o : Obj) : AB (w.alloc o) s0 gs a0 a1 wv hv := h.below ((Below.refl w.heap.size w).alloc (Nat.le_refl _) o) h.2.2.2.2.2.2.2.2.1 h.2.2.2.2.2.2.2.2.2
theorem AB.setA {w : World} {s0 gs : Nat} {a0 a1 wv hv : Value} (h : AB w s0 gs a0 a1 wv hv) (u : Value) (hne : s0 ≠ gs) : AB (w.setCell ⟨gs, 0, none⟩ u) s0 gs a0 a1 u hv := by
  have ht := Touch.setCell gs 0 w u
  obtain ⟨a, b, c, d, a', b', c', d', e, f⟩ := h
  exact ⟨by simp [go_sem, a], by simp [go_sem, b], by simp [go_sem, c], by simp [go_sem, d], (ht.cell (p := ⟨s0, 0, none⟩) hne f).trans a', (ht.cell (p := ⟨s0, 1, none⟩) hne f).trans b', (ht.frozen (p := ⟨s0, 0, none⟩) hne f).trans c', (ht.frozen (p := ⟨s0, 1, none⟩) hne f).trans d', by simpa [World.setCell] using e, by simpa [World.setCell] using f⟩
theorem AB.setB {w : World} {s0 gs : Nat} {a0 a1 wv hv : Value} (h : AB w s0 gs a0 a1 wv hv) (u : Value) (hne : s0 ≠ gs) : AB (w.setCell ⟨gs, 1, none⟩ u) s0 gs a0 a1 wv u := by
  have ht := Touch.setCell gs 1 w u
  obtain ⟨a, b, c, d, a', b', c', d', e, f⟩ := h
  exact ⟨by simp [go_sem, a], by simp [go_sem, b], by simp [go_sem, c], by simp [go_sem, d], (ht.cell (p := ⟨s0, 0, none⟩) hne f).trans a', (ht.cell (p := ⟨s0, 1, none⟩) hne f).trans b', (ht.frozen (p := ⟨s0, 0, none⟩) hne f).trans c', (ht.frozen (p := ⟨s0, 1, none⟩) hne f).trans d', by simpa [World.setCell] using e, by simpa [World.setCell] using f⟩
/-- A new box behind what left the old one as it was. -/
theorem AB.fresh {w : World} {s0 : Nat} {a0 a1 : Value} (hc : w.cell? ⟨s0, 0, none⟩ = some a0) (hd : w.cell? ⟨s0, 1, none⟩ = some a1) (hf : w.frozen? ⟨s0, 0, none⟩ = false) (hg : w.frozen? ⟨s0, 1, none⟩ = false) (hl : s0 < w.heap.size) (wv hv : Value) (T : TypeId) :
    AB (w.alloc (.cells #[wv, hv] T)) s0 w.heap.size a0 a1 wv hv := by
  refine ⟨by simp [go_sem], by simp [go_sem], by simp [go_sem], by simp [go_sem], ?_, ?_, ?_, ?_, by simp, by simp; omega⟩
  · rw [World.cell?_alloc_past _ _ _ hl]; exact hc
  · rw [World.cell?_alloc_past _ _ _ hl]; exact hd
  · rw [World.frozen?_alloc_past _ _ _ hl]; exact hf
  · rw [World.frozen?_alloc_past _ _ _ hl]; exact hg

def AtmNewP (w : World) (e : Ending) (w' : World) : Prop :=
  ∃ wa wc ga go gc, e = .returned (.agg #[.slice wa 64 wc, .slice (some ⟨ga, go, none⟩) 6 gc]) ∧ Owns w' w.heap.size 3 1 rowI (.slice (some ⟨ga, go, none⟩) 6 gc) (List.replicate 6 (-1)) ∧
    6 ≤ gc ∧ gc ≤ 9223372036854775807 ∧ Below w.heap.size w w'
set_option maxHeartbeats 4000000 in
theorem atmNew_any (w : World) : Calls Try.prog 76 #[] w (AtmNewP w) := by
  go_enter Try.func76, Try.ntmps76
  go_wp2_with (first
    | (go_at_call 131; refine (memNew_any _).mono ?_; rintro e w1 ⟨g, off, c, rfl, hown, hc1, hc2, hb⟩; have hz1 := hb.size; simp only [World.size_alloc] at hz1; have d0 : w1.cell? ⟨w.heap.size, 0, none⟩ = some (.slice none 0 0) := (by rw [hb.cell (p := ⟨w.heap.size, 0, none⟩) (by simp)]; simp [go_sem]); have d1 : w1.frozen? ⟨w.heap.size, 0, none⟩ = false := (by rw [hb.frozen (p := ⟨w.heap.size, 0, none⟩) (by simp)]; simp [go_sem]); have d2 : w1.cell? ⟨w.heap.size, 1, none⟩ = some (.slice none 0 0) := (by rw [hb.cell (p := ⟨w.heap.size, 1, none⟩) (by simp)]; simp [go_sem]); have d3 : w1.frozen? ⟨w.heap.size, 1, none⟩ = false := (by rw [hb.frozen (p := ⟨w.heap.size, 1, none⟩) (by simp)]; simp [go_sem])))
  have HAB := hid (AB.fresh d0 d2 d1 d3 (by omega) (.slice (some ⟨g, off, none⟩) 64 c) (.slice none 0 0) 40)
  have HB := hid (show Below w.heap.size w w1 from ((Below.refl _ _).alloc (Nat.le_refl _) _).trans (hb.mono (by simp)))
  obtain ⟨gs, hgs⟩ : ∃ gs, gs = w1.heap.size := ⟨_, rfl⟩
  obtain ⟨W2, hW2⟩ : ∃ W2, W2 = w1.alloc (.cells #[.slice (some ⟨g, off, none⟩) 64 c, .slice none 0 0] 40) := ⟨_, rfl⟩
  rw [← hW2, ← hgs] at HAB
  have HB2 := hid (show Below w.heap.size w1 W2 by rw [hW2]; exact (Below.refl _ _).alloc (by omega) _)
  have hz2 : W2.heap.size = gs + 1 := by rw [hW2, hgs]; simp
  rw [← hW2, ← hgs]
  have hgs2 : w.heap.size + 1 ≤ gs := by omega
  have HGS := hid hgs
  clear hown hb hW2 hgs hz1 d0 d1 d2 d3
  go_loopw [2] (fun i wr => ∃ (k : Nat) (u : Value), i = .int .i64 k ∧ k ≤ 6 ∧ Owns wr (gs + 1) 3 1 rowI u (List.replicate k (-1 : Int)) ∧ Below gs W2 wr ∧ AB wr w.heap.size gs (.slice none 0 0) (.slice none 0 0) (.slice (some ⟨g, off, none⟩) 64 c) u) (fun i _ => 6 - (intOf i).toNat)
  case atStart => exact ⟨0, _, rfl, by omega, Owns.zero, Below.refl _ _, HAB.out⟩
  case round =>
    clear HAB
    obtain ⟨k, u, rfl, hk6, hown, hbl, hab⟩ := hrel
    have HOW := hid hown; have HBL := hid hbl; have HAB := hid hab
    obtain ⟨q0, q1, q2, q3, e0, e1, e2, e3, hgl2, hsl⟩ := hab
    have hrep := hid (show List.replicate k (-1 : Int) ++ [-1] = List.replicate (k + 1) (-1) from by rw [List.replicate_succ'])
    have hlr := hid (show (List.replicate k (-1 : Int)).length = k from by simp)
    clear hown hbl
    by_cases hlt : k < 6
    · go_wp2_with (at_builtin; go_must (refine wpList_push elem_int rowI rowI_len rowI_one wr rfl _ _ rfl (gs + 1) _ _ (-1) (by rfl) HOW.out _ (by rfl) (by rfl) (by rw [hlr.out]; omega) (by rw [hlr.out]; omega) (by omega) ?_); intro v' w3 hown1 hb1; rw [hrep.out] at hown1; obtain ⟨va, vc, hv', hvc1, hvc2⟩ := hown1.shape; rw [List.length_replicate] at hv'; subst hv'; have HAB3 := hid (HAB.out.below hb1 (by omega) (by omega)); obtain ⟨q0, q1, q2, q3, e0, e1, e2, e3, hgl3, hsl3⟩ := HAB3.out; have HO1 := hid hown1; have HB1 := hid hb1; clear hown1 hb1)
      go_roundw
      case rel => exact ⟨k + 1, _, by go_num, by omega, HO1.out.set gs 1 _ (by omega), (HBL.out.trans (HB1.out.mono (by omega))).setCell (by exact Nat.le_refl _) _, HAB3.out.setB _ (by omega)⟩
      case measure => simp [intOf]; omega
    · obtain rfl : k = 6 := by omega
      obtain ⟨ga, go, gc, rfl, hc1, hc2, hg1, hg2⟩ := HOW.out.someR (by simp)
      simp only [List.length_replicate] at hc1
      go_wp2_with fail
      refine bodyPost_ret (results_c1 Try.results76 _ _ ⟨w.heap.size, 0, none⟩ (.agg #[.slice (some ⟨g, off, none⟩) 64 c, .slice (some ⟨ga, go, none⟩) 6 gc]) rfl (loadVar_atm _ _ _ _ (by simp [go_sem, *]) (by simp [go_sem, *]))) rfl ⟨_, _, _, _, _, rfl, ?_, hc1, hc2, ?_⟩
      · have X := HOW.out.rebase (show w.heap.size ≤ gs + 1 by omega)
        simp only [List.length_replicate] at X
        repeat (first | with_reducible exact X | with_reducible refine Owns.set' ?_ _ _ _ (fun j hj => by simp [Value.ownBlock] at hj; omega))
      · exact (((HB.out.trans HB2.out).trans (HBL.out.mono (by omega))).setCell (by exact Nat.le_refl _) _).setCell (by exact Nat.le_refl _) _

end Go.Proofs.Yteamebdehembgaa
