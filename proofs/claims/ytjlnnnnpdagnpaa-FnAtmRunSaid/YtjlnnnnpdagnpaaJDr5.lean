/-
  Draws: a store, and what is held: l20Atm.
-/
import Derived.Test.YtjlnnnnpdagnpaaKDr4
set_option linter.unusedVariables false
set_option linter.unusedSimpArgs false
namespace Go.Proofs.Ytjlnnnnpdagnpaa
open Go.RowKit
attribute [local go_sem ↓] Go.wp_at_zero Go.wp_at_succ

/-- Two boxes of two cells each, not frozen: s0 holds a0, a1; gs holds wv, hv. -/
def AB (w : World) (s0 gs : Nat) (a0 a1 wv hv : Value) : Prop :=
  w.cell? ⟨gs, 0, none⟩ = some wv ∧ w.cell? ⟨gs, 1, none⟩ = some hv ∧ w.frozen? ⟨gs, 0, none⟩ = false ∧ w.frozen? ⟨gs, 1, none⟩ = false ∧
  w.cell? ⟨s0, 0, none⟩ = some a0 ∧ w.cell? ⟨s0, 1, none⟩ = some a1 ∧ w.frozen? ⟨s0, 0, none⟩ = false ∧ w.frozen? ⟨s0, 1, none⟩ = false ∧ gs < w.heap.size ∧ s0 < w.heap.size
theorem AB.touch {w w' : World} {r s0 gs : Nat} {a0 a1 wv hv : Value} (h : AB w s0 gs a0 a1 wv hv) (ht : Touch r w w') (h1 : gs ≠ r) (h2 : s0 ≠ r) : AB w' s0 gs a0 a1 wv hv := by
  obtain ⟨a, b, c, d, a', b', c', d', e, f⟩ := h
  exact ⟨(ht.cell (p := ⟨gs, 0, none⟩) h1 e).trans a, (ht.cell (p := ⟨gs, 1, none⟩) h1 e).trans b, (ht.frozen (p := ⟨gs, 0, none⟩) h1 e).trans c, (ht.frozen (p := ⟨gs, 1, none⟩) h1 e).trans d,
    (ht.cell (p := ⟨s0, 0, none⟩) h2 f).trans a', (ht.cell (p := ⟨s0, 1, none⟩) h2 f).trans b', (ht.frozen (p := ⟨s0, 0, none⟩) h2 f).trans c', (ht.frozen (p := ⟨s0, 1, none⟩) h2 f).trans d', Nat.lt_of_lt_of_le e ht.size, Nat.lt_of_lt_of_le f ht.size⟩
theorem AB.setc {w : World} {s0 gs : Nat} {a0 a1 wv hv : Value} (h : AB w s0 gs a0 a1 wv hv) (g o : Nat) (u : Value) (h1 : gs ≠ g) (h2 : s0 ≠ g) : AB (w.setCell ⟨g, o, none⟩ u) s0 gs a0 a1 wv hv := h.touch (Touch.setCell g o w u) h1 h2
theorem AB.drewd {w : World} {s0 gs : Nat} {a0 a1 wv hv : Value} (h : AB w s0 gs a0 a1 wv hv) : AB w.drew s0 gs a0 a1 wv hv := h
theorem AB.below {w w' : World} {s0 gs C : Nat} {a0 a1 wv hv : Value} (h : AB w s0 gs a0 a1 wv hv) (hb : Below C w w') (h1 : gs < C) (h2 : s0 < C) : AB w' s0 gs a0 a1 wv hv := by
  obtain ⟨a, b, c, d, a', b', c', d', e, f⟩ := h
  exact ⟨(hb.cell (p := ⟨gs, 0, none⟩) h1).trans a, (hb.cell (p := ⟨gs, 1, none⟩) h1).trans b, (hb.frozen (p := ⟨gs, 0, none⟩) h1).trans c, (hb.frozen (p := ⟨gs, 1, none⟩) h1).trans d,
    (hb.cell (p := ⟨s0, 0, none⟩) h2).trans a', (hb.cell (p := ⟨s0, 1, none⟩) h2).trans b', (hb.frozen (p := ⟨s0, 0, none⟩) h2).trans c', (hb.frozen (p := ⟨s0, 1, none⟩) h2).trans d', Nat.lt_of_lt_of_le e hb.size, Nat.lt_of_lt_of_le f hb.size⟩
theorem AB.alloc {w : World} {s0 gs : Nat} {a0 a1 wv hv : Value} (h : AB w s0 gs a0 a1 wv hv) (o : Obj) : AB (w.alloc o) s0 gs a0 a1 wv hv := h.below ((Below.refl w.heap.size w).alloc (Nat.le_refl _) o) h.2.2.2.2.2.2.2.2.1 h.2.2.2.2.2.2.2.2.2
theorem AB.setA {w : World} {s0 gs : Nat} {a0 a1 wv hv : Value} (h : AB w s0 gs a0 a1 wv hv) (u : Value) (hne : s0 ≠ gs) : AB (w.setCell ⟨gs, 0, none⟩ u) s0 gs a0 a1 u hv := by
  have ht := Touch.setCell gs 0 w u
  obtain ⟨a, b, c, d, a', b', c', d', e, f⟩ := h
  exact ⟨by simp [go_sem, a], by simp [go_sem, b], by simp [go_sem, c], by simp [go_sem, d], (ht.cell (p := ⟨s0, 0, none⟩) hne f).trans a', (ht.cell (p := ⟨s0, 1, none⟩) hne f).trans b', (ht.frozen (p := ⟨s0, 0, none⟩) hne f).trans c', (ht.frozen (p := ⟨s0, 1, none⟩) hne f).trans d', by simpa [World.setCell] using e, by simpa [World.setCell] using f⟩
theorem AB.setB {w : World} {s0 gs : Nat} {a0 a1 wv hv : Value} (h : AB w s0 gs a0 a1 wv hv) (u : Value) (hne : s0 ≠ gs) : AB (w.setCell ⟨gs, 1, none⟩ u) s0 gs a0 a1 wv u := by
  have ht := Touch.setCell gs 1 w u
  obtain ⟨a, b, c, d, a', b', c', d', e, f⟩ := h
  exact ⟨by simp [go_sem, a], by simp [go_sem, b], by simp [go_sem, c], by simp [go_sem, d], (ht.cell (p := ⟨s0, 0, none⟩) hne f).trans a', (ht.cell (p := ⟨s0, 1, none⟩) hne f).trans b', (ht.frozen (p := ⟨s0, 0, none⟩) hne f).trans c', (ht.frozen (p := ⟨s0, 1, none⟩) hne f).trans d', by simpa [World.setCell] using e, by simpa [World.setCell] using f⟩
/-- A new box behind what left the old one as it was. -/
theorem AB.fresh {w : World} {s0 : Nat} {a0 a1 : Value} (hc : w.cell? ⟨s0, 0, none⟩ = some a0) (hd : w.cell? ⟨s0, 1, none⟩ = some a1) (hf : w.frozen? ⟨s0, 0, none⟩ = false) (hg : w.frozen? ⟨s0, 1, none⟩ = false) (hl : s0 < w.heap.size) (wv hv : Value) (T : TypeId) :
    AB (w.alloc (.cells #[wv, hv] T)) s0 w.heap.size a0 a1 wv hv := by
  refine ⟨by simp [go_sem], by simp [go_sem], by simp [go_sem], by simp [go_sem], ?_, ?_, ?_, ?_, by simp, by simp; omega⟩
  · rw [World.cell?_alloc_past _ _ _ hl]; exact hc
  · rw [World.cell?_alloc_past _ _ _ hl]; exact hd
  · rw [World.frozen?_alloc_past _ _ _ hl]; exact hf
  · rw [World.frozen?_alloc_past _ _ _ hl]; exact hg

def AtmNewP (w : World) (e : Ending) (w' : World) : Prop :=
  ∃ wa wc ga go gc, e = .returned (.agg #[.slice wa 64 wc, .slice (some ⟨ga, go, none⟩) 6 gc]) ∧ Owns w' w.heap.size 3 1 rowI (.slice (some ⟨ga, go, none⟩) 6 gc) (List.replicate 6 (-1)) ∧
    6 ≤ gc ∧ gc ≤ 9223372036854775807 ∧ Below w.heap.size w w'
set_option maxHeartbeats 4000000 in
theorem atmNew_any (w : World) : Calls Try.prog 81 #[] w (AtmNewP w) := by
  go_enter Try.func81, Try.ntmps81
  go_wp2_with (first
    | (go_at_call 104; refine (memNew_any _).mono ?_; rintro e w1 ⟨g, off, c, rfl, hown, hc1, hc2, hb⟩; have hz1 := hb.size; simp only [World.size_alloc] at hz1; have d0 : w1.cell? ⟨w.heap.size, 0, none⟩ = some (.slice none 0 0) := (by rw [hb.cell (p := ⟨w.heap.size, 0, none⟩) (by simp)]; simp [go_sem]); have d1 : w1.frozen? ⟨w.heap.size, 0, none⟩ = false := (by rw [hb.frozen (p := ⟨w.heap.size, 0, none⟩) (by simp)]; simp [go_sem]); have d2 : w1.cell? ⟨w.heap.size, 1, none⟩ = some (.slice none 0 0) := (by rw [hb.cell (p := ⟨w.heap.size, 1, none⟩) (by simp)]; simp [go_sem]); have d3 : w1.frozen? ⟨w.heap.size, 1, none⟩ = false := (by rw [hb.frozen (p := ⟨w.heap.size, 1, none⟩) (by simp)]; simp [go_sem])))
  have HAB := hid (AB.fresh d0 d2 d1 d3 (by omega) (.slice (some ⟨g, off, none⟩) 64 c) (.slice none 0 0) 28)
  have HB := hid (show Below w.heap.size w w1 from ((Below.refl _ _).alloc (Nat.le_refl _) _).trans (hb.mono (by simp)))
  obtain ⟨gs, hgs⟩ : ∃ gs, gs = w1.heap.size := ⟨_, rfl⟩
  obtain ⟨W2, hW2⟩ : ∃ W2, W2 = w1.alloc (.cells #[.slice (some ⟨g, off, none⟩) 64 c, .slice none 0 0] 28) := ⟨_, rfl⟩
  rw [← hW2, ← hgs] at HAB
  have HB2 := hid (show Below w.heap.size w1 W2 by rw [hW2]; exact (Below.refl _ _).alloc (by omega) _)
  have hz2 : W2.heap.size = gs + 1 := by rw [hW2, hgs]; simp
  rw [← hW2, ← hgs]
  have hgs2 : w.heap.size + 1 ≤ gs := by omega
  have HGS := hid hgs
  clear hown hb hW2 hgs hz1 d0 d1 d2 d3
  go_loopw [2] (fun i wr => ∃ (k : Nat) (u : Value), i = .int .i64 k ∧ k ≤ 6 ∧ Owns wr (gs + 1) 3 1 rowI u (List.replicate k (-1 : Int)) ∧ Below gs W2 wr ∧ AB wr w.heap.size gs (.slice none 0 0) (.slice none 0 0) (.slice (some ⟨g, off, none⟩) 64 c) u) (fun i _ => 6 - (intOf i).toNat)
  case atStart => exact ⟨0, _, rfl, by omega, Owns.zero, Below.refl _ _, HAB.out⟩
  case round =>
    clear HAB
    obtain ⟨k, u, rfl, hk6, hown, hbl, hab⟩ := hrel
    have HOW := hid hown; have HBL := hid hbl; have HAB := hid hab
    obtain ⟨q0, q1, q2, q3, e0, e1, e2, e3, hgl2, hsl⟩ := hab
    have hrep := hid (show List.replicate k (-1 : Int) ++ [-1] = List.replicate (k + 1) (-1) from by rw [List.replicate_succ'])
    have hlr := hid (show (List.replicate k (-1 : Int)).length = k from by simp)
    clear hown hbl
    by_cases hlt : k < 6
    · go_wp2_with (at_builtin; go_must (refine wpList_push elem_int rowI rowI_len rowI_one wr rfl _ _ rfl (gs + 1) _ _ (-1) (by rfl) HOW.out _ (by rfl) (by rfl) (by rw [hlr.out]; omega) (by rw [hlr.out]; omega) (by omega) ?_); intro v' w3 hown1 hb1; rw [hrep.out] at hown1; obtain ⟨va, vc, hv', hvc1, hvc2⟩ := hown1.shape; rw [List.length_replicate] at hv'; subst hv'; have HAB3 := hid (HAB.out.below hb1 (by omega) (by omega)); obtain ⟨q0, q1, q2, q3, e0, e1, e2, e3, hgl3, hsl3⟩ := HAB3.out; have HO1 := hid hown1; have HB1 := hid hb1; clear hown1 hb1)
      go_roundw
      case rel => exact ⟨k + 1, _, by go_num, by omega, HO1.out.set gs 1 _ (by omega), (HBL.out.trans (HB1.out.mono (by omega))).setCell (by exact Nat.le_refl _) _, HAB3.out.setB _ (by omega)⟩
      case measure => simp [intOf]; omega
    · obtain rfl : k = 6 := by omega
      obtain ⟨ga, go, gc, rfl, hc1, hc2, hg1, hg2⟩ := HOW.out.someR (by simp)
      simp only [List.length_replicate] at hc1
      go_wp2_with fail
      refine bodyPost_ret (results_c1 Try.results81 _ _ ⟨w.heap.size, 0, none⟩ (.agg #[.slice (some ⟨g, off, none⟩) 64 c, .slice (some ⟨ga, go, none⟩) 6 gc]) rfl (loadVar_atm _ _ _ _ (by simp [go_sem, *]) (by simp [go_sem, *]))) rfl ⟨_, _, _, _, _, rfl, ?_, hc1, hc2, ?_⟩
      · have X := HOW.out.rebase (show w.heap.size ≤ gs + 1 by omega)
        simp only [List.length_replicate] at X
        repeat (first | with_reducible exact X | with_reducible refine Owns.set' ?_ _ _ _ (fun j hj => by simp [Value.ownBlock] at hj; omega))
      · exact (((HB.out.trans HB2.out).trans (HBL.out.mono (by omega))).setCell (by exact Nat.le_refl _) _).setCell (by exact Nat.le_refl _) _

end Go.Proofs.Ytjlnnnnpdagnpaa

namespace Go.Proofs.Ytjlnnnnpdagnpaa
open Go.RowKit
attribute [local go_sem ↓] Go.wp_at_zero Go.wp_at_succ

theorem tab5 (a b c d e : Int) {n : Nat} (h : n < 5) : ∃ y : Int, ([Value.int .i64 a, .int .i64 b, .int .i64 c, .int .i64 d, .int .i64 e] : List Value)[n]? = some (.int .i64 y) ∧ (y = a ∨ y = b ∨ y = c ∨ y = d ∨ y = e) := by
  rcases (show n = 0 ∨ n = 1 ∨ n = 2 ∨ n = 3 ∨ n = 4 by omega) with rfl | rfl | rfl | rfl | rfl
  · exact ⟨a, rfl, .inl rfl⟩
  · exact ⟨b, rfl, .inr (.inl rfl)⟩
  · exact ⟨c, rfl, .inr (.inr (.inl rfl))⟩
  · exact ⟨d, rfl, .inr (.inr (.inr (.inl rfl)))⟩
  · exact ⟨e, rfl, .inr (.inr (.inr (.inr rfl)))⟩
theorem holds64 {hs : List Int} (h : hs.all (fun x => inB x (-1) 63) = true) : ∀ x ∈ hs, I64 x := fun x hx => by
  have := List.all_eq_true.1 h x hx
  simp only [inB, Bool.and_eq_true, decide_eq_true_eq] at this
  unfold I64; omega

def AtmP (r B : Nat) (bs : List Nat) (p : Nat) (n : Int) (w : World) (e : Ending) (w' : World) : Prop :=
  ∃ wv hv ws hs q, e = .returned (.agg #[wv, hv]) ∧ Owns w' w.heap.size 3 1 rowI wv ws ∧ Owns w' w.heap.size 3 1 rowI hv hs ∧ (∀ x ∈ ws, I64 x) ∧ (∀ x ∈ hs, I64 x) ∧ ws.length ≤ 65 ∧ hs.length ≤ 6 ∧ (9000 ≤ n → atmOk ws hs = true) ∧ q ≤ p + 200 ∧ RdAt w' r B bs q ∧ Touch r w w'

set_option maxRecDepth 4000 in
set_option maxHeartbeats 8000000 in
theorem l20Atm_any (r B : Nat) (bs : List Nat) (p : Nat) (n : Int) (w : World) (h : RdAt w r B bs p) (hp : p ≤ 800000000) (h1 : 1 ≤ n) (hn : n ≤ 1099511627776) :
    Calls Try.prog 43 #[.pointer (some ⟨r, 0, none⟩), .int .i64 n] w (AtmP r B bs p n w) := by
  have hrw := h.lt
  have h0 := h
  go_enter Try.func43, Try.ntmps43
  go_wp2_with (first
    | (go_at_call 81; refine (atmNew_any _).mono ?_; rintro e w1 ⟨wa, wc, ga, go, gc, rfl, hown, hc1, hc2, hb⟩; have hz1 := hb.size; simp only [World.size_alloc] at hz1; have d0 : w1.cell? ⟨w.heap.size, 0, none⟩ = some (.slice none 0 0) := (by rw [hb.cell (p := ⟨w.heap.size, 0, none⟩) (by simp)]; simp [go_sem]); have d1 : w1.frozen? ⟨w.heap.size, 0, none⟩ = false := (by rw [hb.frozen (p := ⟨w.heap.size, 0, none⟩) (by simp)]; simp [go_sem]); have d2 : w1.cell? ⟨w.heap.size, 1, none⟩ = some (.slice none 0 0) := (by rw [hb.cell (p := ⟨w.heap.size, 1, none⟩) (by simp)]; simp [go_sem]); have d3 : w1.frozen? ⟨w.heap.size, 1, none⟩ = false := (by rw [hb.frozen (p := ⟨w.heap.size, 1, none⟩) (by simp)]; simp [go_sem]); have HAB1 := hid (AB.fresh d0 d2 d1 d3 (by omega) (.slice wa 64 wc) (.slice (some ⟨ga, go, none⟩) 6 gc) 28); have hga := hown.ltI.1; have hgb := hown.ltI.2; simp only [World.size_alloc] at hga; have HOWN := hid (hown.rebase (show w.heap.size ≤ (w.alloc (.cells #[.slice none 0 0, .slice none 0 0] 28)).heap.size by simp)); have HB1 := hid (show Below w.heap.size w w1 from ((Below.refl _ _).alloc (Nat.le_refl _) _).trans (hb.mono (by simp))); have h := h0.kept HB1.out hrw; clear hown hb h0)
    | (go_at_call 82; go_must ((with_reducible refine (l20Mem_any r B bs p 99999 (w1.alloc _) (h.alloc _) (by omega) (by omega) (by omega)).mono ?_)); rintro e w2 ⟨mv, ws, q, rfl, hom, _, _, hmo, hq, h2, ht2⟩; obtain ⟨ma, mc, rfl, _, _⟩ := hom.shape; have HAB2 := hid (HAB1.out.touch ht2 (by omega) (by omega)); obtain ⟨q0, q1, q2, q3, e0, e1, e2, e3, hgl2, hsl2⟩ := HAB2.out)
    | fail)
  have hmo := hmo (by omega)
  obtain ⟨gs, hgs⟩ : ∃ gs, gs = w1.heap.size := ⟨_, rfl⟩
  have hga2 : ga < gs := by omega
  have hwgs : w.heap.size + 1 ≤ gs := by omega
  have HNW := hid (show ∀ j, (Value.slice ma ws.length mc).ownBlock = some j → ∀ g, g ≤ gs → j ≠ g from fun j hj g hg => by have := (OwnR.lt hom j hj).1; simp at this; omega)
  have HMW := hid (show Owns (w2.setCell ⟨gs, 0, none⟩ (.slice ma ws.length mc)) w.heap.size 3 1 rowI (.slice ma ws.length mc) ws from Owns.set' (hom.rebase (by simp; omega)) _ _ _ (fun j hj => HNW.out j hj _ (Nat.le_refl _)))
  have HAB := hid (show AB (w2.setCell ⟨gs, 0, none⟩ (.slice ma ws.length mc)) w.heap.size gs (.slice none 0 0) (.slice none 0 0) (.slice ma ws.length mc) (.slice (some ⟨ga, go, none⟩) 6 gc) by rw [hgs]; exact HAB2.out.setA _ (by omega))
  have HT := hid (show Touch r w (w2.setCell ⟨gs, 0, none⟩ (.slice ma ws.length mc)) from (((Touch.of_below HB1.out (Nat.le_refl _)).alloc _).trans ht2).setNew (by omega) _)
  have HO := hid (show Owns (w2.setCell ⟨gs, 0, none⟩ (.slice ma ws.length mc)) w.heap.size 3 1 rowI (.slice (some ⟨ga, go, none⟩) 6 gc) (List.replicate 6 (-1)) from Owns.set' ((HOWN.out.allocd _).touch ht2 hrw) _ _ _ (fun j hj => by simp [Value.ownBlock] at hj; omega))
  have H := hid (show RdAt (w2.setCell ⟨gs, 0, none⟩ (.slice ma ws.length mc)) r B bs q from h2.setNew hrw (by omega) _ _)
  have HMO := hid hmo
  rw [← hgs]
  obtain ⟨W3, hW3⟩ : ∃ W3, W3 = w2.setCell ⟨gs, 0, none⟩ (.slice ma ws.length mc) := ⟨_, rfl⟩
  rw [← hW3] at HMW HAB HT HO H
  rw [← hW3]
  clear hW3 hgs hom hmo ht2 h2 HOWN HB1 HAB1 HAB2 q0 q1 q2 q3 e0 e1 e2 e3 hgl2 hsl2 hgb hz1 d0 d1 d2 d3 h
  go_loopw [6] (fun i wr => ∃ (k : Nat) (hs : List Int) (q' : Nat), i = .int .i64 k ∧ k ≤ 6 ∧ q' ≤ q + k ∧ hs.length = 6 ∧ hs.all (fun x => inB x (-1) 63) = true ∧ Owns wr w.heap.size 3 1 rowI (.slice ma ws.length mc) ws ∧ Owns wr w.heap.size 3 1 rowI (.slice (some ⟨ga, go, none⟩) 6 gc) hs ∧ RdAt wr r B bs q' ∧ Touch r w wr ∧
      AB wr w.heap.size gs (.slice none 0 0) (.slice none 0 0) (.slice ma ws.length mc) (.slice (some ⟨ga, go, none⟩) 6 gc)) (fun i _ => 6 - (intOf i).toNat)
  case atStart => exact ⟨0, _, q, rfl, by omega, by omega, List.length_replicate, by decide, HMW.out, HO.out, H.out, HT.out, HAB.out⟩
  case round =>
    clear HMW HAB HT HO H
    obtain ⟨k, hs, q', rfl, hk6, hq', hl, hall, hmw, ho, h, ht, hab⟩ := hrel
    have HL := hid hl; have HALL := hid hall; have HMW := hid hmw; have HO := hid ho; have HT := hid ht; have HAB := hid hab
    obtain ⟨q0, q1, q2, q3, e0, e1, e2, e3, hgl, hsl⟩ := hab
    clear hl hall hmw ho ht
    by_cases hlt : k < 6
    · have hki : (k : Int) < 6 := by omega
      go_wp2_with fail
      go_region_with (first
        | (go_at_call 44; (with_reducible refine (pick_p r B bs q' 5 wr.drew h.drewd (by omega) (by omega) (by omega)).mono ?_); rintro e w3 ⟨z', rfl, z0, z1, h3, ht3⟩; have hs3 : wr.heap.size ≤ w3.heap.size := (by have := ht3.size; first | omega | (simp at this; omega)); obtain ⟨z, rfl⟩ := Int.eq_ofNat_of_zero_le z0; have hz : z < 5 := (by omega); obtain ⟨y, hl1, hy⟩ := tab5 (-1) 0 1 16 32 hz; have hl2 := tab_arr hl1; clear hz; have hzi : (z : Int) < 5 := z1; clear z1; have HAB3 := hid (HAB.out.drewd.touch ht3 (by omega) (by omega)); obtain ⟨q0, q1, q2, q3, e0, e1, e2, e3, hgl3, hsl3⟩ := HAB3.out; have HO3 := hid (HO.out.drewd.touch ht3 hrw); have HMW3 := hid (HMW.out.drewd.touch ht3 hrw); have HT3 := hid (HT.out.drewd.trans ht3); have zc := HO3.out.cellI k (by rw [HL.out]; omega); have zf := HO3.out.frozenI k; have hg6 : ga < w3.heap.size := (by omega))
        | (go_at_call 44; (with_reducible refine (pick_p r B bs q' 5 (wr.alloc _).drew (h.alloc _).drewd (by omega) (by omega) (by omega)).mono ?_); rintro e w3 ⟨z', rfl, z0, z1, h3, ht3⟩; have hs3 : wr.heap.size ≤ w3.heap.size := (by have := ht3.size; first | omega | (simp at this; omega)); obtain ⟨z, rfl⟩ := Int.eq_ofNat_of_zero_le z0; have hz : z < 5 := (by omega); obtain ⟨y, hl1, hy⟩ := tab5 (-1) 0 1 16 32 hz; have hl2 := tab_arr hl1; clear hz; have hzi : (z : Int) < 5 := z1; clear z1; have HAB3 := hid ((HAB.out.alloc _).drewd.touch ht3 (by omega) (by omega)); obtain ⟨q0, q1, q2, q3, e0, e1, e2, e3, hgl3, hsl3⟩ := HAB3.out; have HO3 := hid ((HO.out.allocd _).drewd.touch ht3 hrw); have HMW3 := hid ((HMW.out.allocd _).drewd.touch ht3 hrw); have HT3 := hid ((HT.out.alloc _).drewd.trans ht3); have zc := HO3.out.cellI k (by rw [HL.out]; omega); have zf := HO3.out.frozenI k; have hg6 : ga < w3.heap.size := (by omega); have tB := Touch.tab ht3.ofDrew h.lt z _ hl2))
      all_goals
        go_wp2_with fail
        go_roundw
        case rel =>
          refine ⟨k + 1, hs.set k y, q' + 1, by go_num, by omega, by omega, by simp [HL.out], all_set HALL.out (by simp [inB]; omega), ?ow, ?oh, ?r, ?t, ?ab⟩
          case ow => repeat (first | with_reducible exact HMW3.out | with_reducible refine Owns.drewd ?_ | with_reducible refine Owns.allocd ?_ _ | with_reducible refine Owns.set' ?_ _ _ _ (fun j hj => HNW.out j hj _ (by omega)))
          case oh => repeat (first | with_reducible exact HO3.out | with_reducible refine Owns.drewd ?_ | with_reducible refine Owns.allocd ?_ _ | with_reducible refine Owns.putRow1' ?_ _ (by rw [HL.out]; omega) _ rfl)
          case r => repeat (first | with_reducible exact h3 | with_reducible refine RdAt.drewd ?_ | with_reducible refine RdAt.alloc ?_ _ | with_reducible refine RdAt.setNew ?_ hrw (by omega) _ _)
          case t => repeat (first | with_reducible exact HT3.out | with_reducible refine Touch.drewd ?_ | with_reducible refine Touch.alloc ?_ _ | with_reducible refine Touch.setNew ?_ (by omega) _)
          case ab => repeat (first | with_reducible exact HAB3.out | with_reducible refine AB.drewd ?_ | with_reducible refine AB.alloc ?_ _ | with_reducible refine AB.setc ?_ _ _ _ (by omega) (by omega))
        case measure => simp [intOf]; omega
    · obtain rfl : k = 6 := by omega
      have hqp : q' ≤ p + 76 := by omega
      have HWS := hid (words64 HMO.out)
      have HHS := hid (holds64 HALL.out)
      have hwl : ws.length = 64 := (memOk_parts HMO.out).1
      have HWL := hid hwl
      clear hlt hq' hq hwl
      go_wp2_with (first
        | (go_at_call 60; (with_reducible refine (odd_any r B bs q' n wr h (by omega) h1 hn).mono ?_); rintro e w3 ⟨b, q9, rfl, hb9, hq9, h3, ht3⟩; have HAB3 := hid (HAB.out.touch ht3 (by omega) (by omega)); obtain ⟨q0, q1, q2, q3, e0, e1, e2, e3, hgl3, hsl3⟩ := HAB3.out; have HO3 := hid (HO.out.touch ht3 hrw); have HMW3 := hid (HMW.out.touch ht3 hrw); have HT3 := hid (HT.out.trans ht3); have hs3 := ht3.size; have HB9 := hid hb9; clear hb9 ht3; cases b)
        | (go_at_call 44; (with_reducible refine (pick_p r B bs q9 3 w3 h3 (by omega) (by omega) (by omega)).mono ?_); rintro e w4 ⟨y, rfl, y0, y1, h4, ht4⟩; have HAB4 := hid (HAB3.out.touch ht4 (by omega) (by omega)); obtain ⟨q0, q1, q2, q3, e0, e1, e2, e3, hgl4, hsl4⟩ := HAB4.out; have HO4 := hid (HO3.out.touch ht4 hrw); have HMW4 := hid (HMW3.out.touch ht4 hrw); have HT4 := hid (HT3.out.trans ht4); have hs4 := ht4.size; clear ht4; rcases (show y = 0 ∨ y = 1 ∨ y = 2 by omega) with rfl | rfl | rfl)
        | (go_at_call 82; (with_reducible refine (l20Mem_any r B bs (q9 + 1) 1 w4 h4 (by omega) (by omega) (by omega)).mono ?_); rintro e w5 ⟨mv, xs, q5, rfl, hom, hx64, hxl, _, hq5, h5, ht5⟩; obtain ⟨na, nc, rfl, _, _⟩ := hom.shape; have HAB5 := hid (HAB4.out.touch ht5 (by omega) (by omega)); obtain ⟨q0, q1, q2, q3, e0, e1, e2, e3, hgl5, hsl5⟩ := HAB5.out; have HO5 := hid (HO4.out.touch ht5 hrw); have HT5 := hid (HT4.out.trans ht5); have HX := hid hx64; have HNX := hid (show ∀ j, (Value.slice na xs.length nc).ownBlock = some j → ∀ g, g < w4.heap.size → j ≠ g from fun j hj g hg => by have := (OwnR.lt hom j hj).1; omega); have HMW5 := hid (hom.rebase (show w.heap.size ≤ w4.heap.size by omega)); clear hom hx64)
        | fail)
      · refine bodyPost_ret (results_c1 Try.results43 _ _ ⟨w.heap.size, 0, none⟩ (.agg #[.slice ma ws.length mc, .slice (some ⟨ga, go, none⟩) 6 gc]) rfl (loadVar_atm _ _ _ _ (by simp [go_sem, *]) (by simp [go_sem, *]))) rfl ⟨_, _, ws, hs, q9, rfl, ?ow, ?oh, HWS.out, HHS.out, by rw [HWL.out]; omega, by rw [HL.out]; omega, fun _ => by simp only [atmOk, Bool.and_eq_true, beq_iff_eq]; exact ⟨⟨HMO.out, HL.out⟩, HALL.out⟩, by omega, ?r, ?t⟩
        case ow => repeat (first | with_reducible exact HMW3.out | with_reducible refine Owns.drewd ?_ | with_reducible refine Owns.allocd ?_ _ | with_reducible refine Owns.set' ?_ _ _ _ (fun j hj => HNW.out j hj _ (by omega)))
        case oh => repeat (first | with_reducible exact HO3.out | with_reducible refine Owns.drewd ?_ | with_reducible refine Owns.allocd ?_ _ | with_reducible refine Owns.putRow1' ?_ _ (by rw [HL.out]; omega) _ rfl | with_reducible refine Owns.set' ?_ _ _ _ (fun j hj => by simp [Value.ownBlock] at hj; omega))
        case r => repeat (first | with_reducible exact h3 | with_reducible refine RdAt.drewd ?_ | with_reducible refine RdAt.alloc ?_ _ | with_reducible refine RdAt.setNew ?_ hrw (by omega) _ _)
        case t => repeat (first | with_reducible exact HT3.out | with_reducible refine Touch.drewd ?_ | with_reducible refine Touch.alloc ?_ _ | with_reducible refine Touch.setNew ?_ (by omega) _)
      · refine bodyPost_ret (results_c1 Try.results43 _ _ ⟨w.heap.size, 0, none⟩ (.agg #[.slice na xs.length nc, .slice (some ⟨ga, go, none⟩) 6 gc]) rfl (loadVar_atm _ _ _ _ (by simp [go_sem, *]) (by simp [go_sem, *]))) rfl ⟨_, _, xs, hs, q5, rfl, ?ow, ?oh, HX.out, HHS.out, hxl, by rw [HL.out]; omega, fun h9 => absurd (HB9.out h9) (by simp), by omega, ?r, ?t⟩
        case ow => repeat (first | with_reducible exact HMW5.out | with_reducible refine Owns.drewd ?_ | with_reducible refine Owns.allocd ?_ _ | with_reducible refine Owns.set' ?_ _ _ _ (fun j hj => HNX.out j hj _ (by omega)))
        case oh => repeat (first | with_reducible exact HO5.out | with_reducible refine Owns.drewd ?_ | with_reducible refine Owns.allocd ?_ _ | with_reducible refine Owns.putRow1' ?_ _ (by rw [HL.out]; omega) _ rfl | with_reducible refine Owns.set' ?_ _ _ _ (fun j hj => by simp [Value.ownBlock] at hj; omega))
        case r => repeat (first | with_reducible exact h5 | with_reducible refine RdAt.drewd ?_ | with_reducible refine RdAt.alloc ?_ _ | with_reducible refine RdAt.setNew ?_ hrw (by omega) _ _)
        case t => repeat (first | with_reducible exact HT5.out | with_reducible refine Touch.drewd ?_ | with_reducible refine Touch.alloc ?_ _ | with_reducible refine Touch.setNew ?_ (by omega) _)
      · refine bodyPost_ret (results_c1 Try.results43 _ _ ⟨w.heap.size, 0, none⟩ (.agg #[.slice ma ws.length mc, .slice (some ⟨ga, go + 1, none⟩) 5 (gc - 1)]) rfl (loadVar_atm _ _ _ _ (by simp [go_sem, *]) (by simp [go_sem, *]))) rfl ⟨_, _, ws, hs.tail, q9 + 1, rfl, ?ow, ?oh, HWS.out, fun x hx => HHS.out x (List.mem_of_mem_tail hx), by rw [HWL.out]; omega, by simp [HL.out], fun h9 => absurd (HB9.out h9) (by simp), by omega, ?r, ?t⟩
        case ow => repeat (first | with_reducible exact HMW4.out | with_reducible refine Owns.drewd ?_ | with_reducible refine Owns.allocd ?_ _ | with_reducible refine Owns.set' ?_ _ _ _ (fun j hj => HNW.out j hj _ (by omega)))
        case oh => repeat (first | with_reducible exact (HO4.out.tail rowI_len (by omega)) | with_reducible refine Owns.drewd ?_ | with_reducible refine Owns.allocd ?_ _ | with_reducible refine Owns.putRow1' ?_ _ (by rw [HL.out]; omega) _ rfl | with_reducible refine Owns.set' ?_ _ _ _ (fun j hj => by simp [Value.ownBlock] at hj; omega))
        case r => repeat (first | with_reducible exact h4 | with_reducible refine RdAt.drewd ?_ | with_reducible refine RdAt.alloc ?_ _ | with_reducible refine RdAt.setNew ?_ hrw (by omega) _ _)
        case t => repeat (first | with_reducible exact HT4.out | with_reducible refine Touch.drewd ?_ | with_reducible refine Touch.alloc ?_ _ | with_reducible refine Touch.setNew ?_ (by omega) _)
      · go_region_with (first
          | (go_at_call 44; (with_reducible refine (pick_p r B bs (q9 + 1) 2 w4.drew h4.drewd (by omega) (by omega) (by omega)).mono ?_); rintro e w5 ⟨z', rfl, z0, z1, h5, ht5⟩; have hs5 : w4.heap.size ≤ w5.heap.size := (by have := ht5.size; first | omega | (simp at this; omega)); obtain ⟨z, rfl⟩ := Int.eq_ofNat_of_zero_le z0; have hz : z < 2 := (by omega); obtain ⟨y, hl1, hy⟩ := tab2 (-2) 64 hz; have hl2 := tab_arr hl1; clear hz; have hzi : (z : Int) < 2 := z1; clear z1; have HAB5 := hid (HAB4.out.drewd.touch ht5 (by omega) (by omega)); obtain ⟨q0, q1, q2, q3, e0, e1, e2, e3, hgl5, hsl5⟩ := HAB5.out; have HO5 := hid (HO4.out.drewd.touch ht5 hrw); have HMW5 := hid (HMW4.out.drewd.touch ht5 hrw); have HT5 := hid (HT4.out.drewd.trans ht5); have zc : w5.cell? ⟨ga, go, none⟩ = _ := HO5.out.cellI 0 (by rw [HL.out]; omega); have zf : w5.frozen? ⟨ga, go, none⟩ = false := HO5.out.frozenI 0; have hg6 : ga < w5.heap.size := (by omega))
          | (go_at_call 44; (with_reducible refine (pick_p r B bs (q9 + 1) 2 (w4.alloc _).drew (h4.alloc _).drewd (by omega) (by omega) (by omega)).mono ?_); rintro e w5 ⟨z', rfl, z0, z1, h5, ht5⟩; have hs5 : w4.heap.size ≤ w5.heap.size := (by have := ht5.size; first | omega | (simp at this; omega)); obtain ⟨z, rfl⟩ := Int.eq_ofNat_of_zero_le z0; have hz : z < 2 := (by omega); obtain ⟨y, hl1, hy⟩ := tab2 (-2) 64 hz; have hl2 := tab_arr hl1; clear hz; have hzi : (z : Int) < 2 := z1; clear z1; have HAB5 := hid ((HAB4.out.alloc _).drewd.touch ht5 (by omega) (by omega)); obtain ⟨q0, q1, q2, q3, e0, e1, e2, e3, hgl5, hsl5⟩ := HAB5.out; have HO5 := hid ((HO4.out.allocd _).drewd.touch ht5 hrw); have HMW5 := hid ((HMW4.out.allocd _).drewd.touch ht5 hrw); have HT5 := hid ((HT4.out.alloc _).drewd.trans ht5); have zc : w5.cell? ⟨ga, go, none⟩ = _ := HO5.out.cellI 0 (by rw [HL.out]; omega); have zf : w5.frozen? ⟨ga, go, none⟩ = false := HO5.out.frozenI 0; have hg6 : ga < w5.heap.size := (by omega); have tB := Touch.tab ht5.ofDrew h4.lt z _ hl2))
        all_goals
          go_wp2_with fail
          refine bodyPost_ret (results_c1 Try.results43 _ _ ⟨w.heap.size, 0, none⟩ (.agg #[.slice ma ws.length mc, .slice (some ⟨ga, go, none⟩) 6 gc]) rfl (loadVar_atm _ _ _ _ (by simp [go_sem, *]) (by simp [go_sem, *]))) rfl ⟨_, _, ws, hs.set 0 y, q9 + 1 + 1, rfl, ?ow, ?oh, HWS.out, set64I HHS.out (by unfold I64; omega), by rw [HWL.out]; omega, by simp [HL.out], fun h9 => absurd (HB9.out h9) (by simp), by omega, ?r, ?t⟩
          case ow => repeat (first | with_reducible exact HMW5.out | with_reducible refine Owns.drewd ?_ | with_reducible refine Owns.allocd ?_ _ | with_reducible refine Owns.set' ?_ _ _ _ (fun j hj => HNW.out j hj _ (by omega)))
          case oh => repeat (first | with_reducible exact HO5.out | with_reducible refine Owns.drewd ?_ | with_reducible refine Owns.allocd ?_ _ | with_reducible refine Owns.putRow1' ?_ _ (by rw [HL.out]; omega) _ rfl | with_reducible refine Owns.set' ?_ _ _ _ (fun j hj => by simp [Value.ownBlock] at hj; omega))
          case r => repeat (first | with_reducible exact h5 | with_reducible refine RdAt.drewd ?_ | with_reducible refine RdAt.alloc ?_ _ | with_reducible refine RdAt.setNew ?_ hrw (by omega) _ _)
          case t => repeat (first | with_reducible exact HT5.out | with_reducible refine Touch.drewd ?_ | with_reducible refine Touch.alloc ?_ _ | with_reducible refine Touch.setNew ?_ (by omega) _)

end Go.Proofs.Ytjlnnnnpdagnpaa
