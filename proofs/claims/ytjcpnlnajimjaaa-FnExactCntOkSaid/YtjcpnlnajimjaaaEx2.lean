/-
  Counts: six lists of numbers; made, held side by side, marked, held.
-/
import Derived.Test.YtjcpnlnajimjaaaEx1
namespace Go.Proofs.Ytjcpnlnajimjaaa
open Go.RowKit

theorem Owns.mkI {w : World} {base n : Nat} {v : Value} (h : w.ownsRow base 3 1 v n (List.replicate n (Value.int .i64 0))) : Owns w base 3 1 rowI v (List.replicate n (0 : Int)) := by
  unfold Owns
  have e : (List.replicate n (0 : Int)).flatMap rowI = List.replicate n (Value.int .i64 0) := by rw [flat_rowI, List.map_replicate]
  rw [e, List.length_replicate]
  exact OwnR.of_row h
def MkP (n : Nat) (w : World) (e : Ending) (w' : World) : Prop := e = .returned (.slice (some ⟨w.heap.size, 0, none⟩) n n) ∧ Owns w' w.heap.size 3 1 rowI (.slice (some ⟨w.heap.size, 0, none⟩) n n) (List.replicate n (0 : Int)) ∧ Below w.heap.size w w' ∧ w.heap.size < w'.heap.size
set_option maxHeartbeats 1000000 in
theorem mk3_any (w : World) : Calls Try.prog 28 #[] w (MkP 3 w) := by
  obtain ⟨i1, hj, jz0, jz1, jz2⟩ := info_parts infoI
  go_enter Try.func28, Try.ntmps28
  go_wp2_with (at_make; go_must (refine wpList_make_full _ rfl _ _ 31 rfl w.heap.size 3 i1 (.int .i64 0) 1 Try.underlying31 hj jz0 jz1 _ _ _ _ 3 rfl rfl rfl rfl (by rw [jz2]; omega) (by unfold maxLen; omega) (Nat.le_refl _) ?_); intro w1 hown hgrow)
  have hbx := (Below.refl _ _).grown hgrow (Nat.le_refl _) (by simp)
  rw [show madeCells (Value.int .i64 0).cells (3 * 1) = madeCells #[.int .i64 0] 3 by rfl, toList_madeCells_one] at hown
  have HO := Owns.mkI hown
  have hlt := HO.ltI
  go_ret
  exact ⟨rfl, HO, hbx, hlt.2⟩
set_option maxHeartbeats 1000000 in
theorem mk4_any (w : World) : Calls Try.prog 29 #[] w (MkP 4 w) := by
  obtain ⟨i1, hj, jz0, jz1, jz2⟩ := info_parts infoI
  go_enter Try.func29, Try.ntmps29
  go_wp2_with (at_make; go_must (refine wpList_make_full _ rfl _ _ 31 rfl w.heap.size 3 i1 (.int .i64 0) 1 Try.underlying31 hj jz0 jz1 _ _ _ _ 4 rfl rfl rfl rfl (by rw [jz2]; omega) (by unfold maxLen; omega) (Nat.le_refl _) ?_); intro w1 hown hgrow)
  have hbx := (Below.refl _ _).grown hgrow (Nat.le_refl _) (by simp)
  rw [show madeCells (Value.int .i64 0).cells (4 * 1) = madeCells #[.int .i64 0] 4 by rfl, toList_madeCells_one] at hown
  have HO := Owns.mkI hown
  have hlt := HO.ltI
  go_ret
  exact ⟨rfl, HO, hbx, hlt.2⟩

/-- Six lists, owned in six blocks that rise. -/
structure Six (w : World) (base g1 g2 g3 g4 g5 g6 : Nat) (x1 x2 x3 x4 x5 x6 : List Int) : Prop where
  o1 : Owns w base 3 1 rowI (.slice (some ⟨g1, 0, none⟩) 3 3) x1
  o2 : Owns w base 3 1 rowI (.slice (some ⟨g2, 0, none⟩) 3 3) x2
  o3 : Owns w base 3 1 rowI (.slice (some ⟨g3, 0, none⟩) 3 3) x3
  o4 : Owns w base 3 1 rowI (.slice (some ⟨g4, 0, none⟩) 4 4) x4
  o5 : Owns w base 3 1 rowI (.slice (some ⟨g5, 0, none⟩) 4 4) x5
  o6 : Owns w base 3 1 rowI (.slice (some ⟨g6, 0, none⟩) 4 4) x6
  r1 : base ≤ g1
  r2 : g1 < g2
  r3 : g2 < g3
  r4 : g3 < g4
  r5 : g4 < g5
  r6 : g5 < g6
  r7 : g6 < w.heap.size
  l1 : x1.length = 3
  l2 : x2.length = 3
  l3 : x3.length = 3
  l4 : x4.length = 4
  l5 : x5.length = 4
  l6 : x6.length = 4

def ImplCntP (w : World) (e : Ending) (w' : World) : Prop :=
  ∃ g1 g2 g3 g4 g5 g6, e = .returned (.agg #[.int .i64 0, .slice (some ⟨g1, 0, none⟩) 3 3, .slice (some ⟨g2, 0, none⟩) 3 3, .slice (some ⟨g3, 0, none⟩) 3 3, .slice (some ⟨g4, 0, none⟩) 4 4, .slice (some ⟨g5, 0, none⟩) 4 4, .slice (some ⟨g6, 0, none⟩) 4 4]) ∧ Six w' w.heap.size g1 g2 g3 g4 g5 g6 (List.replicate 3 0) (List.replicate 3 0) (List.replicate 3 0) (List.replicate 4 0) (List.replicate 4 0) (List.replicate 4 0) ∧ Below w.heap.size w w'
set_option maxHeartbeats 4000000 in
theorem implCntNew_any (w : World) : Calls Try.prog 15 #[] w (ImplCntP w) := by
  have hbA := hid (show ∀ o : Obj, Below w.heap.size w (w.alloc o) from fun o => (Below.refl _ _).alloc (Nat.le_refl _) o)
  go_enter Try.func15, Try.ntmps15
  go_wp2_with fail
  refine (mk3_any _).mono ?_
  rintro e w1 ⟨rfl, a1, b1, l1⟩
  simp only [World.size_alloc] at a1 b1 l1 ⊢
  obtain ⟨W0, hW0⟩ : ∃ W0, W0 = w.alloc (.cells #[.int .i64 0, .slice none 0 0, .slice none 0 0, .slice none 0 0, .slice none 0 0, .slice none 0 0, .slice none 0 0] 35) := ⟨_, rfl⟩
  rw [← hW0] at b1
  have A1 := hid a1; have B1 := hid b1; clear a1 b1
  go_wp2_with fail
  refine (mk3_any _).mono ?_
  rintro e w2 ⟨rfl, a2, b2, l2⟩
  have A2 := hid a2; have B2 := hid (B1.out.trans (b2.mono (by omega))); have C2 := hid b2; clear a2 b2
  go_wp2_with fail
  refine (mk3_any _).mono ?_
  rintro e w3 ⟨rfl, a3, b3, l3⟩
  have A3 := hid a3; have B3 := hid (B2.out.trans (b3.mono (by omega))); have C3 := hid b3; clear a3 b3
  go_wp2_with fail
  refine (mk4_any _).mono ?_
  rintro e w4 ⟨rfl, a4, b4, l4⟩
  have A4 := hid a4; have B4 := hid (B3.out.trans (b4.mono (by omega))); have C4 := hid b4; clear a4 b4
  go_wp2_with fail
  refine (mk4_any _).mono ?_
  rintro e w5 ⟨rfl, a5, b5, l5⟩
  have A5 := hid a5; have B5 := hid (B4.out.trans (b5.mono (by omega))); have C5 := hid b5; clear a5 b5
  go_wp2_with fail
  refine (mk4_any _).mono ?_
  rintro e w6 ⟨rfl, a6, b6, l6⟩
  have A6 := hid a6; have B6 := hid (B5.out.trans (b6.mono (by omega))); have C6 := hid b6; clear a6 b6
  have hz0 : W0.heap.size = w.heap.size + 1 := by rw [hW0]; simp
  have hc : ∀ o, w6.cell? ⟨w.heap.size, o, none⟩ = W0.cell? ⟨w.heap.size, o, none⟩ := fun o => B6.out.cell (p := ⟨w.heap.size, o, none⟩) (by simp)
  have hf : ∀ o, w6.frozen? ⟨w.heap.size, o, none⟩ = W0.frozen? ⟨w.heap.size, o, none⟩ := fun o => B6.out.frozen (p := ⟨w.heap.size, o, none⟩) (by simp)
  rw [hW0] at hc hf
  have HW0 := hid hW0; have HZ := hid hz0; clear hW0 hz0
  go_wp2_with fail
  have hBE := hid (show Below w.heap.size w w6 from (show Below w.heap.size w W0 by rw [HW0.out]; exact hbA.out _).trans (B6.out.mono (by omega)))
  refine bodyPost_ret (v := .agg #[.int .i64 0, .slice (some ⟨w.heap.size + 1, 0, none⟩) 3 3, .slice (some ⟨w1.heap.size, 0, none⟩) 3 3, .slice (some ⟨w2.heap.size, 0, none⟩) 3 3, .slice (some ⟨w3.heap.size, 0, none⟩) 4 4, .slice (some ⟨w4.heap.size, 0, none⟩) 4 4, .slice (some ⟨w5.heap.size, 0, none⟩) 4 4]) (by simp [results, Try.results15, go_sem, hc]) rfl ⟨_, _, _, _, _, _, rfl, ?_, ?_⟩
  · have D6 : Below w6.heap.size w6 w6 := Below.refl _ _
    have D5 : Below w5.heap.size w5 w6 := C6.out.trans (D6.mono (by omega))
    have D4 : Below w4.heap.size w4 w6 := C5.out.trans (D5.mono (by omega))
    have D3 : Below w3.heap.size w3 w6 := C4.out.trans (D4.mono (by omega))
    have D2 : Below w2.heap.size w2 w6 := C3.out.trans (D3.mono (by omega))
    have D1 : Below w1.heap.size w1 w6 := C2.out.trans (D2.mono (by omega))
    refine ⟨?_, ?_, ?_, ?_, ?_, ?_, by omega, by omega, by omega, by omega, by omega, by omega, by simp [World.setCell]; omega, by simp, by simp, by simp, by simp, by simp, by simp⟩
    · have X := (A1.out.below D1).rebase (show w.heap.size ≤ _ by omega)
      repeat first | with_reducible exact X | with_reducible refine Owns.set' ?_ _ _ _ (fun j hj => by simp [Value.ownBlock] at hj; omega)
    · have X := (A2.out.below D2).rebase (show w.heap.size ≤ _ by omega)
      repeat first | with_reducible exact X | with_reducible refine Owns.set' ?_ _ _ _ (fun j hj => by simp [Value.ownBlock] at hj; omega)
    · have X := (A3.out.below D3).rebase (show w.heap.size ≤ _ by omega)
      repeat first | with_reducible exact X | with_reducible refine Owns.set' ?_ _ _ _ (fun j hj => by simp [Value.ownBlock] at hj; omega)
    · have X := (A4.out.below D4).rebase (show w.heap.size ≤ _ by omega)
      repeat first | with_reducible exact X | with_reducible refine Owns.set' ?_ _ _ _ (fun j hj => by simp [Value.ownBlock] at hj; omega)
    · have X := (A5.out.below D5).rebase (show w.heap.size ≤ _ by omega)
      repeat first | with_reducible exact X | with_reducible refine Owns.set' ?_ _ _ _ (fun j hj => by simp [Value.ownBlock] at hj; omega)
    · have X := (A6.out.below D6).rebase (show w.heap.size ≤ _ by omega)
      repeat first | with_reducible exact X | with_reducible refine Owns.set' ?_ _ _ _ (fun j hj => by simp [Value.ownBlock] at hj; omega)
  · exact ((((((hBE.out.setCell (by simp) _).setCell (by simp) _).setCell (by simp) _).setCell (by simp) _).setCell (by simp) _).setCell (by simp) _).setCell (by simp) _

end Go.Proofs.Ytjcpnlnajimjaaa
