/-
  Counts copied from the law's own type; CntOk of both (printed by wip/gen_ck.py).
-/
import Derived.Test.YtjcpnlnajimjaaaCk2
namespace Go.Proofs.Ytjcpnlnajimjaaa
open Go.RowKit

def ToP (c : Int) (x1 x2 x3 x4 x5 x6 : List Int) (w : World) (e : Ending) (w' : World) : Prop :=
  ∃ u1 u2 u3 u4 u5 u6, e = .returned (.agg #[.int .i64 c, u1, u2, u3, u4, u5, u6]) ∧ SixI w' w'.heap.size u1 u2 u3 u4 u5 u6 x1 x2 x3 x4 x5 x6 ∧ Below w.heap.size w w'
set_option maxRecDepth 4000 in
set_option maxHeartbeats 8000000 in
theorem toCnt_any (c : Int) (v1 v2 v3 v4 v5 v6 : Value) (x1 x2 x3 x4 x5 x6 : List Int) (B : Nat) (w : World) (h : SixI w B v1 v2 v3 v4 v5 v6 x1 x2 x3 x4 x5 x6) (hB : B ≤ w.heap.size)
    (l1 : x1.length ≤ 1048576) (l2 : x2.length ≤ 1048576) (l3 : x3.length ≤ 1048576) (l4 : x4.length ≤ 1048576) (l5 : x5.length ≤ 1048576) (l6 : x6.length ≤ 1048576) :
    Calls Try.prog 21 #[.agg #[.int .i64 c, v1, v2, v3, v4, v5, v6]] w (ToP c x1 x2 x3 x4 x5 x6 w) := by
  have HS := hid h
  obtain ⟨⟨a1, c1, rfl⟩, ⟨a2, c2, rfl⟩, ⟨a3, c3, rfl⟩, ⟨a4, c4, rfl⟩, ⟨a5, c5, rfl⟩, ⟨a6, c6, rfl⟩⟩ := h.shape
  clear h
  go_enter Try.func21, Try.ntmps21
  go_wp2_with fail
  refine at_world (ToSt w w.heap.size [.int .i64 c, .slice a1 x1.length c1, .slice a2 x2.length c2, .slice a3 x3.length c3, .slice a4 x4.length c4, .slice a5 x5.length c5, .slice a6 x6.length c6] [.int .i64 c, .slice none 0 0, .slice none 0 0, .slice none 0 0, .slice none 0 0, .slice none 0 0, .slice none 0 0]) ⟨?_, ?_, ?_, ?_, ?_, ?_, ?_⟩ ?_
  · intro j hj
    have : j = 0 ∨ j = 1 ∨ j = 2 ∨ j = 3 ∨ j = 4 ∨ j = 5 ∨ j = 6 := by omega
    rcases this with rfl | rfl | rfl | rfl | rfl | rfl | rfl <;> simp [go_sem]
  · intro j hj
    have : j = 0 ∨ j = 1 ∨ j = 2 ∨ j = 3 ∨ j = 4 ∨ j = 5 ∨ j = 6 := by omega
    rcases this with rfl | rfl | rfl | rfl | rfl | rfl | rfl <;> simp [go_sem]
  · intro j hj
    simp [go_sem]
  · intro j hj
    have : j = 0 ∨ j = 1 ∨ j = 2 ∨ j = 3 ∨ j = 4 ∨ j = 5 ∨ j = 6 := by omega
    rcases this with rfl | rfl | rfl | rfl | rfl | rfl | rfl <;> simp [go_sem, zero7]
  · intro j hj
    simp [go_sem]
  · exact (((Below.refl _ _).alloc (Nat.le_refl _) _).alloc (by simp) _).alloc (by simp; omega) _
  · simp
  intro W1 hst
  have ST := hid hst; clear hst
  refine (toIntS_any (.slice a1 x1.length c1) x1 B W1 (HS.out.1.below (ST.out.b.mono hB)) (Nat.le_trans hB ST.out.b.size) l1).mono ?_
  rintro e w1 ⟨u, rfl, ho, hb⟩
  obtain ⟨q1, e1, rfl, _, _⟩ := ho.shape
  have hl0 := ST.out.l
  have ST := hid (ST.out.below hb)
  have OW1 := hid (ho.rebase (show w.heap.size + 1 + 1 + 1 ≤ W1.heap.size by omega))
  clear ho hb
  have hl := ST.out.l
  have g1 : w.heap.size < w1.heap.size := by omega
  have g2 : w.heap.size + 1 < w1.heap.size := by omega
  have p2 := ST.out.a 2 (by omega); simp only [List.getElem?_cons_zero, List.getElem?_cons_succ] at p2
  have o1 := ST.out.o 1 (by omega); simp only [List.getElem?_cons_zero, List.getElem?_cons_succ] at o1
  have fz := ST.out.f 1 (by omega)
  go_wp2_with fail
  refine at_world (fun W => ToSt w w.heap.size [.int .i64 c, .slice a1 x1.length c1, .slice a2 x2.length c2, .slice a3 x3.length c3, .slice a4 x4.length c4, .slice a5 x5.length c5, .slice a6 x6.length c6] [.int .i64 c, .slice q1 x1.length e1, .slice none 0 0, .slice none 0 0, .slice none 0 0, .slice none 0 0, .slice none 0 0] W ∧ Owns W (w.heap.size + 1 + 1 + 1) 3 1 rowI (.slice q1 x1.length e1) x1) ⟨ST.out.set 1 (by omega) (by rfl) (.slice q1 x1.length e1), OW1.out.set _ _ _ (by omega)⟩ ?_
  rintro W2 ⟨hst, ow1⟩
  have ST := hid hst; have OW1 := hid ow1
  clear hst ow1 p2 o1 fz g1 g2 hl0 hl
  refine (toIntS_any (.slice a2 x2.length c2) x2 B W2 (HS.out.2.1.below (ST.out.b.mono hB)) (Nat.le_trans hB ST.out.b.size) l2).mono ?_
  rintro e w2 ⟨u, rfl, ho, hb⟩
  obtain ⟨q2, e2, rfl, _, _⟩ := ho.shape
  have hl0 := ST.out.l
  have ST := hid (ST.out.below hb)
  have OW1 := hid (OW1.out.below hb)
  have OW2 := hid (ho.rebase (show w.heap.size + 1 + 1 + 1 ≤ W2.heap.size by omega))
  clear ho hb
  have hl := ST.out.l
  have g1 : w.heap.size < w2.heap.size := by omega
  have g2 : w.heap.size + 1 < w2.heap.size := by omega
  have p3 := ST.out.a 3 (by omega); simp only [List.getElem?_cons_zero, List.getElem?_cons_succ] at p3
  have o2 := ST.out.o 2 (by omega); simp only [List.getElem?_cons_zero, List.getElem?_cons_succ] at o2
  have fz := ST.out.f 2 (by omega)
  go_wp2_with fail
  refine at_world (fun W => ToSt w w.heap.size [.int .i64 c, .slice a1 x1.length c1, .slice a2 x2.length c2, .slice a3 x3.length c3, .slice a4 x4.length c4, .slice a5 x5.length c5, .slice a6 x6.length c6] [.int .i64 c, .slice q1 x1.length e1, .slice q2 x2.length e2, .slice none 0 0, .slice none 0 0, .slice none 0 0, .slice none 0 0] W ∧ Owns W (w.heap.size + 1 + 1 + 1) 3 1 rowI (.slice q1 x1.length e1) x1 ∧ Owns W (w.heap.size + 1 + 1 + 1) 3 1 rowI (.slice q2 x2.length e2) x2) ⟨ST.out.set 2 (by omega) (by rfl) (.slice q2 x2.length e2), OW1.out.set _ _ _ (by omega), OW2.out.set _ _ _ (by omega)⟩ ?_
  rintro W3 ⟨hst, ow1, ow2⟩
  have ST := hid hst; have OW1 := hid ow1; have OW2 := hid ow2
  clear hst ow1 ow2 p3 o2 fz g1 g2 hl0 hl
  refine (toIntS_any (.slice a3 x3.length c3) x3 B W3 (HS.out.2.2.1.below (ST.out.b.mono hB)) (Nat.le_trans hB ST.out.b.size) l3).mono ?_
  rintro e w3 ⟨u, rfl, ho, hb⟩
  obtain ⟨q3, e3, rfl, _, _⟩ := ho.shape
  have hl0 := ST.out.l
  have ST := hid (ST.out.below hb)
  have OW1 := hid (OW1.out.below hb)
  have OW2 := hid (OW2.out.below hb)
  have OW3 := hid (ho.rebase (show w.heap.size + 1 + 1 + 1 ≤ W3.heap.size by omega))
  clear ho hb
  have hl := ST.out.l
  have g1 : w.heap.size < w3.heap.size := by omega
  have g2 : w.heap.size + 1 < w3.heap.size := by omega
  have p4 := ST.out.a 4 (by omega); simp only [List.getElem?_cons_zero, List.getElem?_cons_succ] at p4
  have o3 := ST.out.o 3 (by omega); simp only [List.getElem?_cons_zero, List.getElem?_cons_succ] at o3
  have fz := ST.out.f 3 (by omega)
  go_wp2_with fail
  refine at_world (fun W => ToSt w w.heap.size [.int .i64 c, .slice a1 x1.length c1, .slice a2 x2.length c2, .slice a3 x3.length c3, .slice a4 x4.length c4, .slice a5 x5.length c5, .slice a6 x6.length c6] [.int .i64 c, .slice q1 x1.length e1, .slice q2 x2.length e2, .slice q3 x3.length e3, .slice none 0 0, .slice none 0 0, .slice none 0 0] W ∧ Owns W (w.heap.size + 1 + 1 + 1) 3 1 rowI (.slice q1 x1.length e1) x1 ∧ Owns W (w.heap.size + 1 + 1 + 1) 3 1 rowI (.slice q2 x2.length e2) x2 ∧ Owns W (w.heap.size + 1 + 1 + 1) 3 1 rowI (.slice q3 x3.length e3) x3) ⟨ST.out.set 3 (by omega) (by rfl) (.slice q3 x3.length e3), OW1.out.set _ _ _ (by omega), OW2.out.set _ _ _ (by omega), OW3.out.set _ _ _ (by omega)⟩ ?_
  rintro W4 ⟨hst, ow1, ow2, ow3⟩
  have ST := hid hst; have OW1 := hid ow1; have OW2 := hid ow2; have OW3 := hid ow3
  clear hst ow1 ow2 ow3 p4 o3 fz g1 g2 hl0 hl
  refine (toIntS_any (.slice a4 x4.length c4) x4 B W4 (HS.out.2.2.2.1.below (ST.out.b.mono hB)) (Nat.le_trans hB ST.out.b.size) l4).mono ?_
  rintro e w4 ⟨u, rfl, ho, hb⟩
  obtain ⟨q4, e4, rfl, _, _⟩ := ho.shape
  have hl0 := ST.out.l
  have ST := hid (ST.out.below hb)
  have OW1 := hid (OW1.out.below hb)
  have OW2 := hid (OW2.out.below hb)
  have OW3 := hid (OW3.out.below hb)
  have OW4 := hid (ho.rebase (show w.heap.size + 1 + 1 + 1 ≤ W4.heap.size by omega))
  clear ho hb
  have hl := ST.out.l
  have g1 : w.heap.size < w4.heap.size := by omega
  have g2 : w.heap.size + 1 < w4.heap.size := by omega
  have p5 := ST.out.a 5 (by omega); simp only [List.getElem?_cons_zero, List.getElem?_cons_succ] at p5
  have o4 := ST.out.o 4 (by omega); simp only [List.getElem?_cons_zero, List.getElem?_cons_succ] at o4
  have fz := ST.out.f 4 (by omega)
  go_wp2_with fail
  refine at_world (fun W => ToSt w w.heap.size [.int .i64 c, .slice a1 x1.length c1, .slice a2 x2.length c2, .slice a3 x3.length c3, .slice a4 x4.length c4, .slice a5 x5.length c5, .slice a6 x6.length c6] [.int .i64 c, .slice q1 x1.length e1, .slice q2 x2.length e2, .slice q3 x3.length e3, .slice q4 x4.length e4, .slice none 0 0, .slice none 0 0] W ∧ Owns W (w.heap.size + 1 + 1 + 1) 3 1 rowI (.slice q1 x1.length e1) x1 ∧ Owns W (w.heap.size + 1 + 1 + 1) 3 1 rowI (.slice q2 x2.length e2) x2 ∧ Owns W (w.heap.size + 1 + 1 + 1) 3 1 rowI (.slice q3 x3.length e3) x3 ∧ Owns W (w.heap.size + 1 + 1 + 1) 3 1 rowI (.slice q4 x4.length e4) x4) ⟨ST.out.set 4 (by omega) (by rfl) (.slice q4 x4.length e4), OW1.out.set _ _ _ (by omega), OW2.out.set _ _ _ (by omega), OW3.out.set _ _ _ (by omega), OW4.out.set _ _ _ (by omega)⟩ ?_
  rintro W5 ⟨hst, ow1, ow2, ow3, ow4⟩
  have ST := hid hst; have OW1 := hid ow1; have OW2 := hid ow2; have OW3 := hid ow3; have OW4 := hid ow4
  clear hst ow1 ow2 ow3 ow4 p5 o4 fz g1 g2 hl0 hl
  refine (toIntS_any (.slice a5 x5.length c5) x5 B W5 (HS.out.2.2.2.2.1.below (ST.out.b.mono hB)) (Nat.le_trans hB ST.out.b.size) l5).mono ?_
  rintro e w5 ⟨u, rfl, ho, hb⟩
  obtain ⟨q5, e5, rfl, _, _⟩ := ho.shape
  have hl0 := ST.out.l
  have ST := hid (ST.out.below hb)
  have OW1 := hid (OW1.out.below hb)
  have OW2 := hid (OW2.out.below hb)
  have OW3 := hid (OW3.out.below hb)
  have OW4 := hid (OW4.out.below hb)
  have OW5 := hid (ho.rebase (show w.heap.size + 1 + 1 + 1 ≤ W5.heap.size by omega))
  clear ho hb
  have hl := ST.out.l
  have g1 : w.heap.size < w5.heap.size := by omega
  have g2 : w.heap.size + 1 < w5.heap.size := by omega
  have p6 := ST.out.a 6 (by omega); simp only [List.getElem?_cons_zero, List.getElem?_cons_succ] at p6
  have o5 := ST.out.o 5 (by omega); simp only [List.getElem?_cons_zero, List.getElem?_cons_succ] at o5
  have fz := ST.out.f 5 (by omega)
  go_wp2_with fail
  refine at_world (fun W => ToSt w w.heap.size [.int .i64 c, .slice a1 x1.length c1, .slice a2 x2.length c2, .slice a3 x3.length c3, .slice a4 x4.length c4, .slice a5 x5.length c5, .slice a6 x6.length c6] [.int .i64 c, .slice q1 x1.length e1, .slice q2 x2.length e2, .slice q3 x3.length e3, .slice q4 x4.length e4, .slice q5 x5.length e5, .slice none 0 0] W ∧ Owns W (w.heap.size + 1 + 1 + 1) 3 1 rowI (.slice q1 x1.length e1) x1 ∧ Owns W (w.heap.size + 1 + 1 + 1) 3 1 rowI (.slice q2 x2.length e2) x2 ∧ Owns W (w.heap.size + 1 + 1 + 1) 3 1 rowI (.slice q3 x3.length e3) x3 ∧ Owns W (w.heap.size + 1 + 1 + 1) 3 1 rowI (.slice q4 x4.length e4) x4 ∧ Owns W (w.heap.size + 1 + 1 + 1) 3 1 rowI (.slice q5 x5.length e5) x5) ⟨ST.out.set 5 (by omega) (by rfl) (.slice q5 x5.length e5), OW1.out.set _ _ _ (by omega), OW2.out.set _ _ _ (by omega), OW3.out.set _ _ _ (by omega), OW4.out.set _ _ _ (by omega), OW5.out.set _ _ _ (by omega)⟩ ?_
  rintro W6 ⟨hst, ow1, ow2, ow3, ow4, ow5⟩
  have ST := hid hst; have OW1 := hid ow1; have OW2 := hid ow2; have OW3 := hid ow3; have OW4 := hid ow4; have OW5 := hid ow5
  clear hst ow1 ow2 ow3 ow4 ow5 p6 o5 fz g1 g2 hl0 hl
  refine (toIntS_any (.slice a6 x6.length c6) x6 B W6 (HS.out.2.2.2.2.2.below (ST.out.b.mono hB)) (Nat.le_trans hB ST.out.b.size) l6).mono ?_
  rintro e w6 ⟨u, rfl, ho, hb⟩
  obtain ⟨q6, e6, rfl, _, _⟩ := ho.shape
  have hl0 := ST.out.l
  have ST := hid (ST.out.below hb)
  have OW1 := hid (OW1.out.below hb)
  have OW2 := hid (OW2.out.below hb)
  have OW3 := hid (OW3.out.below hb)
  have OW4 := hid (OW4.out.below hb)
  have OW5 := hid (OW5.out.below hb)
  have OW6 := hid (ho.rebase (show w.heap.size + 1 + 1 + 1 ≤ W6.heap.size by omega))
  clear ho hb
  have hl := ST.out.l
  have g1 : w.heap.size < w6.heap.size := by omega
  have g2 : w.heap.size + 1 < w6.heap.size := by omega
  have p0 := ST.out.a 0 (by omega); simp only [List.getElem?_cons_zero, List.getElem?_cons_succ] at p0
  have o6 := ST.out.o 6 (by omega); simp only [List.getElem?_cons_zero, List.getElem?_cons_succ] at o6
  have fz := ST.out.f 6 (by omega)
  have z0 := ST.out.r 0 (by omega); have z1 := ST.out.r 1 (by omega); have z2 := ST.out.r 2 (by omega); have z3 := ST.out.r 3 (by omega); have z4 := ST.out.r 4 (by omega); have z5 := ST.out.r 5 (by omega); have z6 := ST.out.r 6 (by omega); simp only [zero7, List.getElem?_cons_zero, List.getElem?_cons_succ] at z0 z1 z2 z3 z4 z5 z6
  have rf0 := ST.out.rf 0 (by omega); have rf1 := ST.out.rf 1 (by omega); have rf2 := ST.out.rf 2 (by omega); have rf3 := ST.out.rf 3 (by omega); have rf4 := ST.out.rf 4 (by omega); have rf5 := ST.out.rf 5 (by omega); have rf6 := ST.out.rf 6 (by omega)
  have o0 := ST.out.o 0 (by omega); have o1 := ST.out.o 1 (by omega); have o2 := ST.out.o 2 (by omega); have o3 := ST.out.o 3 (by omega); have o4 := ST.out.o 4 (by omega); have o5 := ST.out.o 5 (by omega); simp only [List.getElem?_cons_zero, List.getElem?_cons_succ] at o0 o1 o2 o3 o4 o5
  go_wp2_with fail
  have hbE := hid ST.out.b
  refine bodyPost_ret (v := .agg #[.int .i64 c, .slice q1 x1.length e1, .slice q2 x2.length e2, .slice q3 x3.length e3, .slice q4 x4.length e4, .slice q5 x5.length e5, .slice q6 x6.length e6]) (by simp [results, Try.results21, go_sem, z0, z1, z2, z3, z4, z5, z6, g2]) rfl ⟨_, _, _, _, _, _, rfl, ⟨?_, ?_, ?_, ?_, ?_, ?_⟩, ?_⟩
  · refine Owns.ints (base := w.heap.size + 1 + 1 + 1) (e := 3) ?_ (by omega) HS.out.1.2
    repeat first | with_reducible exact OW1.out | with_reducible refine Owns.set ?_ _ _ _ (by omega)
  · refine Owns.ints (base := w.heap.size + 1 + 1 + 1) (e := 3) ?_ (by omega) HS.out.2.1.2
    repeat first | with_reducible exact OW2.out | with_reducible refine Owns.set ?_ _ _ _ (by omega)
  · refine Owns.ints (base := w.heap.size + 1 + 1 + 1) (e := 3) ?_ (by omega) HS.out.2.2.1.2
    repeat first | with_reducible exact OW3.out | with_reducible refine Owns.set ?_ _ _ _ (by omega)
  · refine Owns.ints (base := w.heap.size + 1 + 1 + 1) (e := 3) ?_ (by omega) HS.out.2.2.2.1.2
    repeat first | with_reducible exact OW4.out | with_reducible refine Owns.set ?_ _ _ _ (by omega)
  · refine Owns.ints (base := w.heap.size + 1 + 1 + 1) (e := 3) ?_ (by omega) HS.out.2.2.2.2.1.2
    repeat first | with_reducible exact OW5.out | with_reducible refine Owns.set ?_ _ _ _ (by omega)
  · refine Owns.ints (base := w.heap.size + 1 + 1 + 1) (e := 3) ?_ (by omega) HS.out.2.2.2.2.2.2
    repeat first | with_reducible exact OW6.out | with_reducible refine Owns.set ?_ _ _ _ (by omega)
  · repeat first | with_reducible exact hbE.out | with_reducible refine Below.setCell ?_ (by simp; try omega) _

end Go.Proofs.Ytjcpnlnajimjaaa
