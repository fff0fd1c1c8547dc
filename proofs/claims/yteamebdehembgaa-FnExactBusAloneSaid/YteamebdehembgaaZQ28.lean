/-
  The law FnExactBusAlone returns true on all buses and numbers, in whatever memory: the program's BusAlone tells what the reference's tells, turns nothing of what it is handed, and what it tells shares no memory with that.
-/
import Derived.Test.YteamebdehembgaaJQ27
import Derived.Test.YteamebdehembgaaJSa3
import Derived.Test.YteamebdehembgaaJRow
import Derived.Deep.RegionHeld3
import Derived.Deep.DrawnRows
set_option linter.unusedVariables false
set_option linter.unusedSimpArgs false
namespace Go.Proofs.Yteamebdehembgaa
open Go.RowKit
attribute [local go_sem ↓] Go.wp_at_zero Go.wp_at_succ

set_option maxRecDepth 8000 in
set_option maxHeartbeats 32000000 in
theorem exactBusAlone_any (v : Value) (ms : List MR) (lat : List Int) (pss : List (List Rq)) (who : Int) (B : Nat) (w : World) (h : BusI w B v ms lat pss) (hB : B ≤ w.heap.size) :
    Calls Try.prog 5 #[v, .int .i64 who] w fun e w' => e = .returned (.bool true) ∧ Below w.heap.size w w' := by
  have HBC := hid (show ∀ W : World, Below w.heap.size w W → BusI W W.heap.size v ms lat pss from fun W hW => (h.below (hW.mono hB)).mono (Nat.le_trans hB hW.size))
  have HFIT := hid (show tB ms lat pss ≤ 1048576 → BFit ms lat pss from h.fit)
  have H20 := hid (show tB ms lat pss ≤ 1048576 → ∀ j, j < pss.length → Ps20 (pss.getD j []) from fun ht j hj => by
    simp only [tB, tP] at ht
    have := Ps20.of (pss := pss) (by omega) _ (getD_mem (d := []) hj)
    exact ⟨this.1, fun i hi => this.2 _ (getD_mem hi)⟩)
  obtain ⟨mv, lv, pv, rfl, hm, hl, hp⟩ := h
  obtain ⟨ma, mc, rfl, _⟩ := hm.opened
  obtain ⟨la, lc, rfl, _⟩ := hl.opened
  obtain ⟨pa, pc, rfl, _⟩ := hp.opened
  clear hm hl hp hB
  obtain ⟨x, hx⟩ : ∃ x, x = rB ms lat pss who := ⟨_, rfl⟩
  have HX := hid hx
  clear hx
  go_enter Try.func5, Try.ntmps5
  go_wp2_with fail
  refine at_world (EX w [(w.heap.size, [.slice ma ms.length mc, .slice la lat.length lc, .slice pa pss.length pc])] []) ((EX.start w).new #[.slice ma ms.length mc, .slice la lat.length lc, .slice pa pss.length pc] _ (by simp)) ?_
  rintro W1 hE
  have HE := hid hE; clear hE
  refine (szBus_w _ ms lat pss 1048576 _ W1 (HBC.out W1 HE.out.w) (Nat.le_refl _) (by omega) (by omega)).mono ?_
  rintro e w2 ⟨r, rfl, hr, hb⟩
  have HE := hid (HE.out.below hb); have HR := hid hr; clear hr hb
  by_cases hn : r < 0
  · go_wp2_with fail
    go_ret
    exact ⟨rfl, HE.out.w⟩
  have HTB := hid (show tB ms lat pss ≤ 1048576 by rcases HR.out with h | ⟨h, h2⟩; omega; omega)
  have HF := hid (HFIT.out HTB.out)
  have HPS := hid (H20.out HTB.out)
  have HXF := hid (show BFit x.1 x.2.1 x.2.2 by rw [HX.out]; exact rB_fit HF.out who)
  have HWB := hid (show wB ms lat pss ≤ 5242880 from Nat.le_trans wB_le (by have := HTB.out; omega))
  have HWX := hid (show wB x.1 x.2.1 x.2.2 ≤ 5242880 by rw [HX.out]; exact Nat.le_trans (rB_w who) HWB.out)
  obtain ⟨⟨a0, a1, a2⟩, _⟩ := (HE.out.box (g := w.heap.size) (by repeat first | with_reducible exact List.mem_cons_self | with_reducible apply List.mem_cons_of_mem)).three
  go_wp2_with fail
  refine (toBus_any _ ms lat pss _ w2 (HBC.out w2 HE.out.w) (Nat.le_refl _) HF.out.m HF.out.l HF.out.p HPS.out).mono ?_
  rintro e w3 ⟨c0, c1, c2, mid0, rfl, hbs, hb⟩
  have HE := hid (HE.out.below hb); have HBS := hid (hbs.busI HF.out)
  obtain ⟨⟨x1, x2, rfl⟩, ⟨y1, y2, rfl⟩, z1, z2, rfl⟩ := hbs.shapes
  clear hbs hb a0 a1 a2 hn
  go_wp2_with fail
  refine (specAlone2 _ ms lat pss who _ w3 HBS.out (Nat.le_refl _) HF.out).mono ?_
  rw [← HX.out]
  rintro e w4 ⟨a6, b6, p6, rfl, hrd, hb⟩
  obtain ⟨⟨x1, x2, rfl⟩, ⟨y1, y2, rfl⟩, z1, z2, rfl⟩ := hrd.shapes
  have HE := hid (HE.out.below hb); have HRD := hid hrd
  have HT := hid (EX.start w4)
  have HL4 := hid (show w.heap.size < w4.heap.size from (HE.out.box (g := w.heap.size) (by repeat first | with_reducible exact List.mem_cons_self | with_reducible apply List.mem_cons_of_mem)).lt)
  have hl4 := (HE.out.box (g := w.heap.size) (by repeat first | with_reducible exact List.mem_cons_self | with_reducible apply List.mem_cons_of_mem)).lt
  obtain ⟨⟨a0, a1, a2⟩, _⟩ := (HE.out.box (g := w.heap.size) (by repeat first | with_reducible exact List.mem_cons_self | with_reducible apply List.mem_cons_of_mem)).three
  clear hrd hb HBS
  go_wp2_with fail
  refine at_world (fun W => EX w ((w4.heap.size, [.slice x1 x.1.length x2, .slice y1 x.2.1.length y2, .slice z1 x.2.2.length z2]) :: _) [] W ∧ EX w4 [] [] W ∧ W.heap.size = w4.heap.size + 1) ⟨HE.out.new #[.slice x1 x.1.length x2, .slice y1 x.2.1.length y2, .slice z1 x.2.2.length z2] _ (by simp), HT.out.below (bx1 _ _), by simp⟩ ?_
  clear HE HT hl4 a0 a1 a2
  rintro W5 ⟨hE, hT, hs5⟩
  have HE := hid hE; have HT := hid hT; have HS5 := hid hs5
  clear hE hT hs5
  have RW := hid (show ∀ W, EX w4 [] [] W → BusI W W.heap.size (.agg #[.slice x1 x.1.length x2, .slice y1 x.2.1.length y2, .slice z1 x.2.2.length z2]) x.1 x.2.1 x.2.2 from fun W hW => (HRD.out.below hW.w).mono hW.w.size)
  refine (toBus_any _ ms lat pss _ W5 (HBC.out W5 HE.out.w) (Nat.le_refl _) HF.out.m HF.out.l HF.out.p HPS.out).mono ?_
  rintro e w6 ⟨a7, b7, p7, mid7, rfl, hbs, hb⟩
  obtain ⟨⟨s1, s2, rfl⟩, ⟨t1, t2, rfl⟩, u1, u2, rfl⟩ := hbs.shapes
  have HE := hid (HE.out.below hb); have HT := hid (HT.out.below hb); have HB7 := hid hbs; have HS6 := hid hb.size
  have hl6 := (HE.out.box (g := w4.heap.size) (by repeat first | with_reducible exact List.mem_cons_self | with_reducible apply List.mem_cons_of_mem)).lt
  clear hbs hb
  go_wp2_with fail
  refine at_world (fun W => EX w ((w6.heap.size, [.slice s1 ms.length s2, .slice t1 lat.length t2, .slice u1 pss.length u2]) :: _) [] W ∧ EX w4 [] [] W ∧ BsO W W5.heap.size mid7 w6.heap.size (.slice s1 ms.length s2) (.slice t1 lat.length t2) (.slice u1 pss.length u2) ms lat pss ∧ W.heap.size = w6.heap.size + 1) ⟨HE.out.new #[.slice s1 ms.length s2, .slice t1 lat.length t2, .slice u1 pss.length u2] _ (by simp), HT.out.below (bx1 _ _), HB7.out.below (bx1 _ _), by simp⟩ ?_
  clear HE HT hl6 HB7
  rintro W7 ⟨hE, hT, hb7, hs7⟩
  have HE := hid hE; have HT := hid hT; have HB7 := hid hb7; have HS7 := hid hs7
  clear hE hT hb7 hs7
  refine (implAlone2 _ ms lat pss who _ W7 (HB7.out.busI HF.out) (Nat.le_refl _) HF.out).mono ?_
  rw [← HX.out]
  rintro e w8 ⟨a8, b8, p8, mid8, rfl, hbs, hb⟩
  obtain ⟨⟨m1, m2, rfl⟩, ⟨n1, n2, rfl⟩, o1, o2, rfl⟩ := hbs.shapes
  have HE := hid (HE.out.below hb); have HT := hid (HT.out.below hb); have HB7 := hid (HB7.out.below hb); have HB8 := hid hbs; have HS8 := hid hb.size
  have hl8 := (HE.out.box (g := w6.heap.size) (by repeat first | with_reducible exact List.mem_cons_self | with_reducible apply List.mem_cons_of_mem)).lt
  have hl84 := (HE.out.box (g := w4.heap.size) (by repeat first | with_reducible exact List.mem_cons_self | with_reducible apply List.mem_cons_of_mem)).lt
  obtain ⟨⟨a0, a1, a2⟩, _⟩ := (HE.out.box (g := w4.heap.size) (by repeat first | with_reducible exact List.mem_cons_self | with_reducible apply List.mem_cons_of_mem)).three
  clear hbs hb
  go_wp2_with fail
  refine at_world (fun W => EX w ((w8.heap.size, [.slice m1 x.1.length m2, .slice n1 x.2.1.length n2, .slice o1 x.2.2.length o2]) :: _) [] W ∧ EX w4 [] [] W ∧ BsO W W5.heap.size mid7 w6.heap.size (.slice s1 ms.length s2) (.slice t1 lat.length t2) (.slice u1 pss.length u2) ms lat pss ∧ BsO W W7.heap.size mid8 w8.heap.size (.slice m1 x.1.length m2) (.slice n1 x.2.1.length n2) (.slice o1 x.2.2.length o2) x.1 x.2.1 x.2.2 ∧ W.heap.size = w8.heap.size + 1) ⟨HE.out.new #[.slice m1 x.1.length m2, .slice n1 x.2.1.length n2, .slice o1 x.2.2.length o2] _ (by simp), HT.out.below (bx1 _ _), HB7.out.below (bx1 _ _), HB8.out.below (bx1 _ _), by simp⟩ ?_
  clear HE HT hl8 hl84 HB7 HB8 a0 a1 a2
  rintro W9 ⟨hE, hT, hb7, hb8, hs9⟩
  have HE := hid hE; have HT := hid hT; have HB7 := hid hb7; have HB8 := hid hb8; have HS9 := hid hs9
  clear hE hT hb7 hb8 hs9
  have HSZ := hid (show w.heap.size < w4.heap.size ∧ W5.heap.size = w4.heap.size + 1 ∧ W5.heap.size ≤ w6.heap.size ∧ W7.heap.size = w6.heap.size + 1 ∧ W7.heap.size ≤ w8.heap.size ∧ W9.heap.size = w8.heap.size + 1 by have := HS5.out; have := HS6.out; have := HS7.out; have := HS8.out; have := HS9.out; refine ⟨?_, by omega, by omega, by omega, by omega, by omega⟩; exact HL4.out)
  refine (eqBus_same _ _ x.1 x.2.1 x.2.2 _ W9 (HB8.out.busI HXF.out) (RW.out _ HT.out) (Nat.le_refl _)).mono ?_
  rintro e v1 ⟨rfl, hb⟩
  have HE := hid (HE.out.below hb); have HT := hid (HT.out.below hb); have HB7 := hid (HB7.out.below hb); have HB8 := hid (HB8.out.below hb)
  clear hb
  obtain ⟨⟨a0, a1, a2⟩, _⟩ := (HE.out.box (g := w.heap.size) (by repeat first | with_reducible exact List.mem_cons_self | with_reducible apply List.mem_cons_of_mem)).three
  obtain ⟨⟨c0, c1, c2⟩, _⟩ := (HE.out.box (g := w6.heap.size) (by repeat first | with_reducible exact List.mem_cons_self | with_reducible apply List.mem_cons_of_mem)).three
  have HCK := hid (show ∀ W, Below v1.heap.size v1 W → (W.cell? ⟨w6.heap.size, 0, none⟩ = some (.slice s1 ms.length s2) ∧ W.cell? ⟨w6.heap.size, 1, none⟩ = some (.slice t1 lat.length t2) ∧ W.cell? ⟨w6.heap.size, 2, none⟩ = some (.slice u1 pss.length u2)) ∧ W.cell? ⟨w.heap.size, 0, none⟩ = some (.slice ma ms.length mc) ∧ W.cell? ⟨w.heap.size, 1, none⟩ = some (.slice la lat.length lc) ∧ W.cell? ⟨w.heap.size, 2, none⟩ = some (.slice pa pss.length pc) from fun W hW => ⟨((HE.out.below hW).box (by repeat first | with_reducible exact List.mem_cons_self | with_reducible apply List.mem_cons_of_mem)).three.1, ((HE.out.below hW).box (by repeat first | with_reducible exact List.mem_cons_self | with_reducible apply List.mem_cons_of_mem)).three.1⟩)
  have HB4 := hid (show Below w.heap.size w v1.drew from HE.out.w.drew)
  have HED := hid (show ∀ W, Below v1.drew.heap.size v1.drew W → Below v1.heap.size v1 W from fun W hW => ((Below.refl v1.heap.size v1).drew).trans hW)
  go_wp2_with fail
  go_region_held3 (fun w' => (w'.cell? ⟨w6.heap.size, 0, none⟩ = some (.slice s1 ms.length s2) ∧ w'.cell? ⟨w6.heap.size, 1, none⟩ = some (.slice t1 lat.length t2) ∧ w'.cell? ⟨w6.heap.size, 2, none⟩ = some (.slice u1 pss.length u2)) ∧ w'.cell? ⟨w.heap.size, 0, none⟩ = some (.slice ma ms.length mc) ∧ w'.cell? ⟨w.heap.size, 1, none⟩ = some (.slice la lat.length lc) ∧ w'.cell? ⟨w.heap.size, 2, none⟩ = some (.slice pa pss.length pc))
    (first | exact s7 | exact ⟨⟨c0, c1, c2⟩, a0, a1, a2⟩ | go_keep)
    (first
      | (go_at_call 22; refine (toBus_any _ ms lat pss _ _ (HBC.out _ HB4.out) (Nat.le_refl _) HF.out.m HF.out.l HF.out.p HPS.out).mono ?_; rintro e v5 ⟨k0, k1, k2, mid9, rfl, hbs, hb⟩; have HB5 := hid (HED.out _ hb); have s7 := HCK.out _ HB5.out; have HN1 := hid (hbs.busI HF.out); obtain ⟨⟨k3, k4, rfl⟩, ⟨k5, k6, rfl⟩, k7, k8, rfl⟩ := hbs.shapes; clear hbs hb)
      | (go_at_call 23; refine (eqBus_same _ _ ms lat pss _ v5 ((HB7.out.below HB5.out).busI HF.out) HN1.out (Nat.le_refl _)).mono ?_; rintro e v6 ⟨rfl, hb⟩; have HB6 := hid (HB5.out.trans (hb.mono HB5.out.size)); have s7 := HCK.out _ HB6.out; clear hb))
  have hb := HB6.out
  have HE := hid (HE.out.below hb); have HT := hid (HT.out.below hb); have HB7 := hid (HB7.out.below hb); have HB8 := hid (HB8.out.below hb)
  clear hb s7 a0 a1 a2 c0 c1 c2 HN1 HB5 HB6 HCK HB4 HED
  obtain ⟨⟨c0, c1, c2⟩, _⟩ := (HE.out.box (g := w6.heap.size) (by repeat first | with_reducible exact List.mem_cons_self | with_reducible apply List.mem_cons_of_mem)).three
  go_wp2_with fail
  have hz6 := HE.out.w.size
  refine (markBus_any W5.heap.size mid7 w6.heap.size _ _ _ ms lat pss 1 v6 HB7.out (by have := (HE.out.box (g := w6.heap.size) (by repeat first | with_reducible exact List.mem_cons_self | with_reducible apply List.mem_cons_of_mem)).lt; omega) HF.out.p (fun p hp => (HF.out.q p hp).1) (by have := HWB.out; omega)).mono ?_
  rintro e v7 ⟨rfl, _, hbt⟩
  have HE := hid (HE.out.bt hbt (by have := HSZ.out; simp; try omega) (by simp) (by have := HSZ.out; omega))
  have HT := hid (HT.out.bt hbt (by simp) (by simp) (by have := HSZ.out; omega))
  have HB8 := hid (HB8.out.bt hbt (.inr (by have := HSZ.out; omega)))
  clear hbt HB7 c0 c1 c2 hz6
  obtain ⟨⟨c0, c1, c2⟩, _⟩ := (HE.out.box (g := w8.heap.size) (by repeat first | with_reducible exact List.mem_cons_self | with_reducible apply List.mem_cons_of_mem)).three
  obtain ⟨⟨d0, d1, d2⟩, _⟩ := (HE.out.box (g := w4.heap.size) (by repeat first | with_reducible exact List.mem_cons_self | with_reducible apply List.mem_cons_of_mem)).three
  go_wp2_with fail
  refine (eqBus_same _ _ x.1 x.2.1 x.2.2 _ v7 (HB8.out.busI HXF.out) (RW.out _ HT.out) (Nat.le_refl _)).mono ?_
  rintro e v8 ⟨rfl, hb⟩
  have HE := hid (HE.out.below hb); have HT := hid (HT.out.below hb); have HB8 := hid (HB8.out.below hb)
  clear hb c0 c1 c2 d0 d1 d2
  obtain ⟨⟨c0, c1, c2⟩, _⟩ := (HE.out.box (g := w8.heap.size) (by repeat first | with_reducible exact List.mem_cons_self | with_reducible apply List.mem_cons_of_mem)).three
  go_wp2_with fail
  refine (markBus_any W7.heap.size mid8 w8.heap.size _ _ _ x.1 x.2.1 x.2.2 1 v8 HB8.out (by have := (HE.out.box (g := w8.heap.size) (by repeat first | with_reducible exact List.mem_cons_self | with_reducible apply List.mem_cons_of_mem)).lt; omega) HXF.out.p (fun p hp => (HXF.out.q p hp).1) (by have := HWX.out; omega)).mono ?_
  rintro e v9 ⟨rfl, hbm, hbt⟩
  have HE := hid (HE.out.bt hbt (by have := HSZ.out; simp; try omega) (by simp) (by have := HSZ.out; omega))
  have HT := hid (HT.out.bt hbt (by simp) (by simp) (by have := HSZ.out; omega))
  have HBM := hid hbm
  have HMF := hid (HXF.out.marked (m := 1) (by have := HWX.out; omega))
  have HWE := hid (show 1 + 4 * x.1.length + x.2.1.length + sumG wP x.2.2 = 1 + wB x.1 x.2.1 x.2.2 by simp only [wB]; omega)
  clear hbt hbm HB8 c0 c1 c2
  obtain ⟨⟨c0, c1, c2⟩, _⟩ := (HE.out.box (g := w8.heap.size) (by repeat first | with_reducible exact List.mem_cons_self | with_reducible apply List.mem_cons_of_mem)).three
  go_wp2_with fail
  refine (heldBus_any _ x.1 x.2.1.length x.2.2 1 _ v9 (HBM.out.busI HMF.out) (Nat.le_refl _) (by rw [HWE.out]; have := HWX.out; omega)).mono ?_
  rw [HWE.out]
  rintro e v10 ⟨rfl, hb⟩
  have HE := hid (HE.out.below hb); have HT := hid (HT.out.below hb); have HBM := hid (HBM.out.below hb)
  clear hb c0 c1 c2
  obtain ⟨⟨a0, a1, a2⟩, _⟩ := (HE.out.box (g := w.heap.size) (by repeat first | with_reducible exact List.mem_cons_self | with_reducible apply List.mem_cons_of_mem)).three
  go_wp2_with fail
  refine (toBus_any _ ms lat pss _ v10 (HBC.out v10 HE.out.w) (Nat.le_refl _) HF.out.m HF.out.l HF.out.p HPS.out).mono ?_
  rintro e v11 ⟨k0, k1, k2, mid9, rfl, hbs, hb⟩
  have HE := hid (HE.out.below hb); have HT := hid (HT.out.below hb); have HBM := hid (HBM.out.below hb); have HN := hid (hbs.busI HF.out)
  obtain ⟨⟨k3, k4, rfl⟩, ⟨k5, k6, rfl⟩, k7, k8, rfl⟩ := hbs.shapes
  clear hbs hb a0 a1 a2
  go_wp2_with fail
  refine (implAlone2 _ ms lat pss who _ v11 HN.out (Nat.le_refl _) HF.out).mono ?_
  rw [← HX.out]
  rintro e v12 ⟨g0, g1, g2, mid10, rfl, hbs, hb⟩
  obtain ⟨⟨g3, g4, rfl⟩, ⟨g5, g6, rfl⟩, g7, g8, rfl⟩ := hbs.shapes
  have HE := hid (HE.out.below hb); have HT := hid (HT.out.below hb); have HBM := hid (HBM.out.below hb); have HN := hid hbs
  have hl12 := (HE.out.box (g := w4.heap.size) (by repeat first | with_reducible exact List.mem_cons_self | with_reducible apply List.mem_cons_of_mem)).lt
  obtain ⟨⟨d0, d1, d2⟩, _⟩ := (HE.out.box (g := w4.heap.size) (by repeat first | with_reducible exact List.mem_cons_self | with_reducible apply List.mem_cons_of_mem)).three
  clear hbs hb
  go_wp2_with fail
  refine at_world (fun W => EX w ((v12.heap.size, [.slice g3 x.1.length g4, .slice g5 x.2.1.length g6, .slice g7 x.2.2.length g8]) :: _) [] W ∧ EX w4 [] [] W ∧ BsO W W7.heap.size mid8 w8.heap.size (.slice m1 x.1.length m2) (.slice n1 x.2.1.length n2) (.slice o1 x.2.2.length o2) _ _ _ ∧ BsO W v11.heap.size mid10 v12.heap.size (.slice g3 x.1.length g4) (.slice g5 x.2.1.length g6) (.slice g7 x.2.2.length g8) x.1 x.2.1 x.2.2) ⟨HE.out.new #[.slice g3 x.1.length g4, .slice g5 x.2.1.length g6, .slice g7 x.2.2.length g8] _ (by simp), HT.out.below (bx1 _ _), HBM.out.below (bx1 _ _), HN.out.below (bx1 _ _)⟩ ?_
  clear HE HT HBM HN hl12 d0 d1 d2
  rintro W12 ⟨hE, hT, hbm, hbn⟩
  have HE := hid hE; have HT := hid hT; have HBM := hid hbm; have HN := hid hbn
  clear hE hT hbm hbn
  refine (eqBus_same _ _ x.1 x.2.1 x.2.2 _ W12 (HN.out.busI HXF.out) (RW.out _ HT.out) (Nat.le_refl _)).mono ?_
  rintro e v13 ⟨rfl, hb⟩
  have HE := hid (HE.out.below hb); have HBM := hid (HBM.out.below hb)
  clear hb HN HT
  obtain ⟨⟨c0, c1, c2⟩, _⟩ := (HE.out.box (g := w8.heap.size) (by repeat first | with_reducible exact List.mem_cons_self | with_reducible apply List.mem_cons_of_mem)).three
  go_wp2_with fail
  refine (heldBus_any _ x.1 x.2.1.length x.2.2 1 _ v13 (HBM.out.busI HMF.out) (Nat.le_refl _) (by rw [HWE.out]; have := HWX.out; omega)).mono ?_
  rw [HWE.out]
  rintro e v14 ⟨rfl, hb⟩
  have HE := hid (HE.out.below hb)
  clear hb c0 c1 c2
  go_wp2_with fail
  go_ret
  exact ⟨rfl, HE.out.w⟩

end Go.Proofs.Yteamebdehembgaa

namespace Go.Proofs.Yteamebdehembgaa
open Go.ChangeShapes Go.WideShapes Go.ChangeAt Go.RowKit Go.Deep

set_option maxRecDepth 100000 in
theorem exactBusAlone_lifted (os : Os) (started : os.Started) (H : Type) (enc : TypeId × Value → H) :
    ReturnsInHanded {} Try.checked os 5 .any (Rows.fnExactBusAloneSpec.pre6 enc Try.prog Try.f5 Rows.fnExactBusAloneRow.domain false) (Rows.fnExactBusAloneSpec.post enc Try.prog Try.f5 false true false false) := by
  refine law_lifted started enc 5 Try.f5 Rows.fnExactBusAloneSpec rfl (by kernel_rfl) Try.func5
    (ChangeSpec.witness6 (enc := enc) (C := Try.checked) false ⟨#[], #[.agg #[.slice none 0 0, .slice none 0 0, .slice none 0 0], .int .i64 0], []⟩ 8 (by kernel_rfl) (by kernel_rfl) (by kernel_rfl) (by kernel_rfl)) rfl ?_ ?_ ?_
  · intro t ht
    simp [Try.params5] at ht
    rcases ht with rfl | rfl <;> exact ⟨by kernel_rfl, of_decide_eq_true (by kernel_rfl)⟩
  · intro ds hl
    simp [Try.params5] at hl
    match ds, hl with
    | [d1, d2], _ => exact ⟨rfl, rfl, rfl⟩
  · intro W base args ds p hval hA hlt hw
    rw [Try.params5] at hA hval hw
    obtain ⟨v0, v1, d0, d1, p0, p1, rfl, rfl, rfl, h0, h1⟩ := trodAll_two hA
    obtain ⟨cs, rfl, _⟩ := okWide_struct Try.underlying52 (hval 0 52 v0 rfl rfl)
    obtain ⟨who, rfl⟩ := okWide_int Try.underlying3 (hval 1 3 v1 rfl rfl)
    have r0 := read_of h0 (fun x hx => hlt x (by simp [hx])) (fun x hx => by
      have := List.all_eq_true.1 hw x (by simp [DataW.weightsEach, hx])
      simpa using this)
    obtain ⟨a, b, q, ms, lat, pss, e1, hb⟩ := r0.bus
    obtain ⟨cl⟩ := cs
    obtain rfl : cl = [a, b, q] := by simpa [Value.cells] using e1
    exact exactBusAlone_any _ ms lat pss who W.heap.size W hb (Nat.le_refl _)

set_option maxRecDepth 100000 in
theorem exactBusAlone_holds : Rows.FnExactBusAloneSaid :=
  OpenClaim.holds_of_wide 5 Try.f5 rfl rfl rfl rfl rfl rfl rfl ⟨rfl, rfl, rfl, rfl, rfl⟩ rfl rfl rfl rfl rfl (by kernel_rfl) Try.func5 (by kernel_rfl)
    (of_decide_eq_true (by kernel_rfl)) (by unfold Func.isWrapper; first | (rw [if_pos (by decide +kernel)]; kernel_rfl) | (rw [if_neg (by decide +kernel)]; exact ⟨rfl, rfl⟩))
    (fun os started H enc _ => exactBusAlone_lifted os started H enc)
#print axioms exactBusAlone_holds

end Go.Proofs.Yteamebdehembgaa
