/-
  The law FnExactCntOk's walk (printed by wip/gen_ck.py).
-/
import Derived.Test.YtjcpnlnajimjaaaCk5
import Derived.Deep.RegionHeld3
import Derived.Deep.DrawnRows
namespace Go.Proofs.Ytjcpnlnajimjaaa
open Go.RowKit
attribute [local go_sem ↓] Go.wp_at_zero Go.wp_at_succ

theorem cells7 {W : World} {H G : Nat} {a0 a1 a2 a3 a4 a5 a6 b0 b1 b2 b3 b4 b5 b6 : Value} (h : CellsAt W H [a0, a1, a2, a3, a4, a5, a6]) (g : CellsAt W G [b0, b1, b2, b3, b4, b5, b6]) :
    (W.cell? ⟨H, 0, none⟩ = some a0 ∧ W.cell? ⟨H, 1, none⟩ = some a1 ∧ W.cell? ⟨H, 2, none⟩ = some a2 ∧ W.cell? ⟨H, 3, none⟩ = some a3 ∧ W.cell? ⟨H, 4, none⟩ = some a4 ∧ W.cell? ⟨H, 5, none⟩ = some a5 ∧ W.cell? ⟨H, 6, none⟩ = some a6) ∧ W.cell? ⟨G, 0, none⟩ = some b0 ∧ W.cell? ⟨G, 1, none⟩ = some b1 ∧ W.cell? ⟨G, 2, none⟩ = some b2 ∧ W.cell? ⟨G, 3, none⟩ = some b3 ∧ W.cell? ⟨G, 4, none⟩ = some b4 ∧ W.cell? ⟨G, 5, none⟩ = some b5 ∧ W.cell? ⟨G, 6, none⟩ = some b6 :=
  ⟨⟨h 0 (by omega), h 1 (by omega), h 2 (by omega), h 3 (by omega), h 4 (by omega), h 5 (by omega), h 6 (by omega)⟩, g 0 (by omega), g 1 (by omega), g 2 (by omega), g 3 (by omega), g 4 (by omega), g 5 (by omega), g 6 (by omega)⟩
set_option maxRecDepth 4000 in
set_option maxHeartbeats 8000000 in
theorem exactCntOk_any (c : Int) (v1 v2 v3 v4 v5 v6 : Value) (x1 x2 x3 x4 x5 x6 : List Int) (B : Nat) (w : World) (h : SixI w B v1 v2 v3 v4 v5 v6 x1 x2 x3 x4 x5 x6) (hB : B ≤ w.heap.size) :
    Calls Try.prog 6 #[.agg #[.int .i64 c, v1, v2, v3, v4, v5, v6]] w fun e w' => e = .returned (.bool true) ∧ Below w.heap.size w w' := by
  have HS := hid h
  obtain ⟨⟨a1, c1, rfl⟩, ⟨a2, c2, rfl⟩, ⟨a3, c3, rfl⟩, ⟨a4, c4, rfl⟩, ⟨a5, c5, rfl⟩, ⟨a6, c6, rfl⟩⟩ := h.shape
  clear h
  have HW := hid (oneBox w (.cells #[.int .i64 c, .slice a1 x1.length c1, .slice a2 x2.length c2, .slice a3 x3.length c3, .slice a4 x4.length c4, .slice a5 x5.length c5, .slice a6 x6.length c6] 39))
  have CA := hid (cells_box w (.int .i64 c) (.slice a1 x1.length c1) (.slice a2 x2.length c2) (.slice a3 x3.length c3) (.slice a4 x4.length c4) (.slice a5 x5.length c5) (.slice a6 x6.length c6) 39)
  obtain ⟨q, hq⟩ : ∃ q, q = cntOk c x1 x2 x3 x4 x5 x6 := ⟨_, rfl⟩
  have HQ := hid hq; clear hq
  have hqq : (q != q) = false := by simp
  go_enter Try.func6, Try.ntmps6
  go_wp2_with fail
  refine (szCnt_any c _ _ _ _ _ _ x1 x2 x3 x4 x5 x6 B _ (HS.out.below (HW.out.mono hB)) (Nat.le_trans hB HW.out.size)).mono ?_
  rintro e w1 ⟨r, rfl, hr, hb1⟩
  have C1 := hid (CA.out.below hb1 (by simp))
  have HB := hid (HW.out.trans (hb1.mono HW.out.size)); clear hb1
  have hz1 : w.heap.size < w1.heap.size := World.block_lt_of_cell? w1 _ (C1.out 0 (by omega))
  by_cases hn : r < 0
  · go_wp2_with fail
    go_ret
    exact ⟨rfl, HB.out⟩
  obtain ⟨hr0, l1, l2, l3, l4, l5, l6⟩ : 0 ≤ r ∧ x1.length ≤ 1048576 ∧ x2.length ≤ 1048576 ∧ x3.length ≤ 1048576 ∧ x4.length ≤ 1048576 ∧ x5.length ≤ 1048576 ∧ x6.length ≤ 1048576 := by
    rcases hr with hr | hr
    · omega
    · exact hr
  clear hr
  have p0 := C1.out 0 (by omega); have p1 := C1.out 1 (by omega); have p2 := C1.out 2 (by omega); have p3 := C1.out 3 (by omega); have p4 := C1.out 4 (by omega); have p5 := C1.out 5 (by omega); have p6 := C1.out 6 (by omega); simp only [List.getElem?_cons_zero, List.getElem?_cons_succ] at p0 p1 p2 p3 p4 p5 p6
  go_wp2_with fail
  refine (toCnt_any c _ _ _ _ _ _ x1 x2 x3 x4 x5 x6 B w1 (HS.out.below (HB.out.mono hB)) (Nat.le_trans hB HB.out.size) l1 l2 l3 l4 l5 l6).mono ?_
  rintro e w2 ⟨u1, u2, u3, u4, u5, u6, rfl, hs2, hb2⟩
  have C1 := hid (C1.out.below hb2 hz1)
  have HB := hid (HB.out.trans (hb2.mono HB.out.size)); clear hb2
  have hz2 : w.heap.size < w2.heap.size := World.block_lt_of_cell? w2 _ (C1.out 0 (by omega))
  go_wp2_with fail
  refine (specCntOk_any c _ _ _ _ _ _ x1 x2 x3 x4 x5 x6 w2.heap.size w2 hs2 (Nat.le_refl _)).mono ?_
  rw [← HQ.out]
  rintro e w3 ⟨rfl, hb3⟩
  have C1 := hid (C1.out.below hb3 hz2)
  have HB := hid (HB.out.trans (hb3.mono HB.out.size)); clear hb3 hs2
  have hz3 : w.heap.size < w3.heap.size := World.block_lt_of_cell? w3 _ (C1.out 0 (by omega))
  have p0 := C1.out 0 (by omega); have p1 := C1.out 1 (by omega); have p2 := C1.out 2 (by omega); have p3 := C1.out 3 (by omega); have p4 := C1.out 4 (by omega); have p5 := C1.out 5 (by omega); have p6 := C1.out 6 (by omega); simp only [List.getElem?_cons_zero, List.getElem?_cons_succ] at p0 p1 p2 p3 p4 p5 p6
  go_wp2_with fail
  refine (toCnt_any c _ _ _ _ _ _ x1 x2 x3 x4 x5 x6 B w3 (HS.out.below (HB.out.mono hB)) (Nat.le_trans hB HB.out.size) l1 l2 l3 l4 l5 l6).mono ?_
  rintro e w4 ⟨u1, u2, u3, u4, u5, u6, rfl, hs4, hb4⟩
  have C1 := hid (C1.out.below hb4 hz3)
  have HB := hid (HB.out.trans (hb4.mono HB.out.size)); clear hb4
  have hz4 : w.heap.size < w4.heap.size := World.block_lt_of_cell? w4 _ (C1.out 0 (by omega))
  have HU := hid hs4
  obtain ⟨⟨y1, k1, rfl⟩, ⟨y2, k2, rfl⟩, ⟨y3, k3, rfl⟩, ⟨y4, k4, rfl⟩, ⟨y5, k5, rfl⟩, ⟨y6, k6, rfl⟩⟩ := hs4.shape
  clear hs4
  go_wp2_with fail
  refine (implCntOk_any c _ _ _ _ _ _ x1 x2 x3 x4 x5 x6 w4.heap.size _ (HU.out.below (oneBox w4 _)) (by simp)).mono ?_
  rw [← HQ.out]
  rintro e w6 ⟨rfl, hb6⟩
  have C5 := hid ((cells_box w4 (.int .i64 c) (.slice y1 x1.length k1) (.slice y2 x2.length k2) (.slice y3 x3.length k3) (.slice y4 x4.length k4) (.slice y5 x5.length k5) (.slice y6 x6.length k6) 35).below hb6 (by simp))
  have hb46 := hid (show Below w4.heap.size w4 w6 from (oneBox w4 _).trans (hb6.mono (by simp))); clear hb6
  have C1 := hid (C1.out.below hb46.out hz4)
  have HB := hid (HB.out.trans (hb46.out.mono HB.out.size))
  have HU := hid (HU.out.below hb46.out)
  have hz6 : w4.heap.size < w6.heap.size := World.block_lt_of_cell? w6 _ (C5.out 0 (by omega))
  have hz7 : w.heap.size < w6.heap.size := by omega
  have p0 := C1.out 0 (by omega); have p1 := C1.out 1 (by omega); have p2 := C1.out 2 (by omega); have p3 := C1.out 3 (by omega); have p4 := C1.out 4 (by omega); have p5 := C1.out 5 (by omega); have p6 := C1.out 6 (by omega); simp only [List.getElem?_cons_zero, List.getElem?_cons_succ] at p0 p1 p2 p3 p4 p5 p6
  have o0 := C5.out 0 (by omega); have o1 := C5.out 1 (by omega); have o2 := C5.out 2 (by omega); have o3 := C5.out 3 (by omega); have o4 := C5.out 4 (by omega); have o5 := C5.out 5 (by omega); have o6 := C5.out 6 (by omega); simp only [List.getElem?_cons_zero, List.getElem?_cons_succ] at o0 o1 o2 o3 o4 o5 o6
  go_wp2_with fail
  go_region_held3 (fun w' => (w'.cell? ⟨w.heap.size, 0, none⟩ = some (.int .i64 c) ∧ w'.cell? ⟨w.heap.size, 1, none⟩ = some (.slice a1 x1.length c1) ∧ w'.cell? ⟨w.heap.size, 2, none⟩ = some (.slice a2 x2.length c2) ∧ w'.cell? ⟨w.heap.size, 3, none⟩ = some (.slice a3 x3.length c3) ∧ w'.cell? ⟨w.heap.size, 4, none⟩ = some (.slice a4 x4.length c4) ∧ w'.cell? ⟨w.heap.size, 5, none⟩ = some (.slice a5 x5.length c5) ∧ w'.cell? ⟨w.heap.size, 6, none⟩ = some (.slice a6 x6.length c6)) ∧ w'.cell? ⟨w4.heap.size, 0, none⟩ = some (.int .i64 c) ∧ w'.cell? ⟨w4.heap.size, 1, none⟩ = some (.slice y1 x1.length k1) ∧ w'.cell? ⟨w4.heap.size, 2, none⟩ = some (.slice y2 x2.length k2) ∧ w'.cell? ⟨w4.heap.size, 3, none⟩ = some (.slice y3 x3.length k3) ∧ w'.cell? ⟨w4.heap.size, 4, none⟩ = some (.slice y4 x4.length k4) ∧ w'.cell? ⟨w4.heap.size, 5, none⟩ = some (.slice y5 x5.length k5) ∧ w'.cell? ⟨w4.heap.size, 6, none⟩ = some (.slice y6 x6.length k6)) (first | exact s7 | go_keep)
    (first
      | (go_at_call 21; refine (toCnt_any c _ _ _ _ _ _ x1 x2 x3 x4 x5 x6 B _ (HS.out.below ((HB.out.drew).mono hB)) (Nat.le_trans hB HB.out.size) l1 l2 l3 l4 l5 l6).mono ?_; rintro e w7 ⟨u1, u2, u3, u4, u5, u6, rfl, hs7, hb7⟩; have hb67 := hid (show Below w6.heap.size w6 w7 from ((Below.refl _ _).drew).trans hb7); have s7 := cells7 (C1.out.below hb67.out hz7) (C5.out.below hb67.out hz6))
      | (go_at_call 16; refine (eqCnt_same c _ _ _ _ _ _ _ _ _ _ _ _ x1 x2 x3 x4 x5 x6 w7.heap.size _ ((HU.out.below (hb67.out.mono (by omega))).mono (by have := hb67.out.size; omega)) hs7 (Nat.le_refl _)).mono ?_; rintro e w8 ⟨rfl, hb8⟩; have s7 := cells7 ((C1.out.below hb67.out hz7).below hb8 (by have := hb67.out.size; omega)) ((C5.out.below hb67.out hz6).below hb8 (by have := hb67.out.size; omega))))
  go_wp2_with fail
  go_ret
  exact ⟨rfl, (HB.out.trans (hb67.out.mono HB.out.size)).trans (hb8.mono (by have := HB.out.size; have := hb67.out.size; omega))⟩

end Go.Proofs.Ytjcpnlnajimjaaa
