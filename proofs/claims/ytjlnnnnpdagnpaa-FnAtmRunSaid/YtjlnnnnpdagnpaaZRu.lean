/-
  For every code the law FnAtmRun returns true, and its argument reads behind the call as it read before.
-/
import Derived.Test.YtjlnnnnpdagnpaaJRr0
import Derived.Test.YtjlnnnnpdagnpaaKRs0
import Derived.Test.YtjlnnnnpdagnpaaJSr1
import Derived.Test.YtjlnnnnpdagnpaaKCat
import Derived.Test.YtjlnnnnpdagnpaaKDrQ
import Derived.Test.YtjlnnnnpdagnpaaJCr1
import Derived.Test.YtjlnnnnpdagnpaaJDn0
import Derived.Test.YtjlnnnnpdagnpaaKRow
set_option linter.unusedVariables false
set_option linter.unusedSimpArgs false
namespace Go.Proofs.Ytjlnnnnpdagnpaa
open Go.RowKit

theorem one_in (w : World) (o : Obj) : Below w.heap.size w (w.alloc o) := (Below.refl _ _).alloc (Nat.le_refl _) _
theorem box_call {w w' : World} {a b : Value} (hb : Below (w.alloc (.cells #[a, b] 28)).heap.size (w.alloc (.cells #[a, b] 28)) w') : BoxA w' w.heap.size a b ∧ Below w.heap.size w w' ∧ w.heap.size + 1 ≤ w'.heap.size :=
  ⟨(BoxA.new w a b).below hb (by simp), (one_in w _).trans (hb.mono (by simp)), by have := hb.size; simp at this; omega⟩
theorem rowsR_one {xs : List Rs} {ds : List Value} (hd : ∀ j, j < xs.length → ∃ a n c, ds.getD j undef = .slice a n c) (hl : ds.length = xs.length) : ∀ y ∈ mkRows xs ds, ∀ u ∈ rowR y, u.oneCell' = true := by
  intro y hy
  obtain ⟨j, hj, rfl⟩ := List.mem_iff_getElem.1 hy
  have hjl : j < xs.length := by rw [mkRows_len _ _ hl] at hj; exact hj
  obtain ⟨a, n, c, e⟩ := hd j hjl
  refine rowR_one _ ?_
  have e2 : (mkRows xs ds)[j].2.2 = ds.getD j undef := by
    simp [mkRows, List.getD, show j < ds.length by omega]
  rw [e2, e]; rfl
theorem owns_slice {α : Type} {w : World} {base e sz : Nat} {f : α → List Value} {v : Value} {xs : List α} (h : Owns w base e sz f v xs) : ∃ a n c, v = .slice a n c := by
  obtain ⟨a, c, e, _⟩ := h.shape; exact ⟨a, _, c, e⟩

set_option maxRecDepth 8000 in
set_option maxHeartbeats 16000000 in
theorem run_any (hdraw : DrawRun) (v : Value) (bs : List Nat) (B : Nat) (w : World) (h : Bytes w B v bs) (hB : B ≤ w.heap.size) :
    Calls Try.prog 4 #[v] w fun e w' => e = .returned (.bool true) ∧ Below w.heap.size w w' := by
  have HBC := hid h
  obtain ⟨ao, cap, rfl, hlc, hcap, hln, hni, hr⟩ := h.opened
  clear hr h
  by_cases hbig : (1048576 : Int) < (bs.length : Int)
  · go_enter Try.func4, Try.ntmps4
    go_wp2_with fail
    go_ret
    exact ⟨rfl, Below.refl _ _⟩
  · have hb1 : decide ((1048576 : Int) < (bs.length : Int)) = false := by simpa using hbig
    clear hbig
    go_enter Try.func4, Try.ntmps4
    go_upto_region 4 with (first
      | (go_at_call 12; refine (hdraw _ bs B w HBC.out hB).mono ?_; rintro e w1 ⟨mv, ms, wv, hv, ws, hs, who, ub, uf, uc, rs, rfl, hm, hs1, hs2, hw0, hw3, hq, hrl, hb1⟩; have HM := hid hm; have HS := hid (atmV_of hs1 hs2); have HS1 := hid hs1; have HS2 := hid hs2; have HQ := hid hq; have HB1 := hid hb1; have HRL := hid hrl; obtain ⟨wa, kc, rfl, _⟩ := hs1.opened; obtain ⟨ha, hc, rfl, _⟩ := hs2.opened; obtain ⟨_, ucx, eo, hluc, hcapc, _⟩ := hq.opened; simp only [Value.slice.injEq] at eo; obtain ⟨rfl, _, rfl⟩ := eo; have HLU := hid hluc; have HCC := hid hcapc; clear hm hs1 hs2 hq hb1 hrl hw0 hw3 hluc hcapc))
    obtain ⟨x, hx⟩ : ∃ x, x = atmRun ms ws hs who rs := ⟨_, rfl⟩
    have HX := hid hx
    have HXS := hid (show SmallR x by rw [hx]; exact atmRun_small ..)
    clear hx
    go_upto_region 6 with (first
      | (go_at_call 11; go_loud ((with_reducible refine (implRun_v mv _ _ ms w1.heap.size ws hs who rs _ (HM.out.below (one_in w1 _)) (HS.out.below (one_in w1 _)) (HQ.out.below (one_in w1 _)) (one_in w1 _).size).mono ?_); rw [← HX.out]; rintro e w2 ⟨xwa, xwc, xha, xhc, xda, xdc, rfl, i1, i2, i3, hb⟩; obtain ⟨B4, hbx, hz2⟩ := box_call hb; have HB := hid hbx; have HB4 := hid B4; obtain ⟨r0, r1, _, _⟩ := B4.cells; have t4 := B4.lt; have HI1 := hid i1; have HI2 := hid i2; have HI3 := hid i3; clear i1 i2 i3 hb hbx B4))
      | (go_at_call 13; go_loud ((with_reducible refine (specRun_v mv _ _ ms w1.heap.size ws hs who rs _ (HM.out.below (HB.out.trans ((one_in w2 _).mono HB.out.size))) (HS.out.below (HB.out.trans ((one_in w2 _).mono HB.out.size))) (HQ.out.below (HB.out.trans ((one_in w2 _).mono HB.out.size))) (Nat.le_trans HB.out.size (one_in w2 _).size)).mono ?_); rw [← HX.out]; rintro e w3 ⟨ywa, ywc, yha, yhc, yda, ydc, rfl, j1, j2, j3, hb⟩; obtain ⟨BS, hbx, hz3⟩ := box_call hb; have HB := hid (HB.out.trans (hbx.mono HB.out.size)); have HB4 := hid (HB4.out.below hbx HB4.out.lt); have HBS := hid BS; obtain ⟨s0, s1, _, _⟩ := HBS.out.cells; have t7 := HBS.out.lt; clear r0 r1 t4; have HI1 := hid ((HI1.out.below hbx).mono hbx.size); have HI2 := hid ((HI2.out.below hbx).mono hbx.size); have HI3 := hid ((HI3.out.below hbx).mono hbx.size); have HJ1 := hid j1; have HJ2 := hid j2; have HJ3 := hid j3; clear j1 j2 j3 hb hbx BS)))
    go_upto_region 8 with (first
      | (go_at_call 14; go_loud ((with_reducible refine (crAtm_same x.1 x.2.1 _ _ _ _ _ _ _ _ w3.heap.size _ (HI1.out.below (one_in w3 _)) (HI2.out.below (one_in w3 _)) (HJ1.out.below (one_in w3 _)) (HJ2.out.below (one_in w3 _)) (one_in w3 _).size).mono ?_); rintro e w4 ⟨rfl, hb⟩; obtain ⟨BX, hbx, hz4⟩ := box_call hb; have HB := hid (HB.out.trans (hbx.mono HB.out.size)); have HB4 := hid (HB4.out.below hbx HB4.out.lt); have HBS := hid (HBS.out.below hbx HBS.out.lt); have HBX := hid BX; obtain ⟨s0, s1, _, _⟩ := HBS.out.cells; obtain ⟨y0, y1, _, _⟩ := HBX.out.cells; have t7 := HBS.out.lt; have t9 := HBX.out.lt; have HI1 := hid ((HI1.out.below hbx).mono hbx.size); have HI2 := hid ((HI2.out.below hbx).mono hbx.size); have HI3 := hid ((HI3.out.below hbx).mono hbx.size); have HJ3 := hid ((HJ3.out.below hbx).mono hbx.size); clear hb hbx BX))
      | (go_at_call 15; go_loud ((with_reducible refine (crRsps_same x.2.2 _ _ w4.heap.size _ HI3.out HJ3.out (Nat.le_refl _)).mono ?_); rintro e w5 ⟨rfl, hbx⟩; have HB := hid (HB.out.trans (hbx.mono HB.out.size)); have HB4 := hid (HB4.out.below hbx HB4.out.lt); have HBS := hid (HBS.out.below hbx HBS.out.lt); have HBX := hid (HBX.out.below hbx HBX.out.lt); obtain ⟨s0, s1, _, _⟩ := HBS.out.cells; obtain ⟨y0, y1, _, _⟩ := HBX.out.cells; have t7 := HBS.out.lt; have t9 := HBX.out.lt; have HI1 := hid ((HI1.out.below hbx).mono hbx.size); have HI2 := hid ((HI2.out.below hbx).mono hbx.size); have HI3 := hid ((HI3.out.below hbx).mono hbx.size); clear hbx HJ1 HJ2 HJ3)))
    rcases hok : runOk ms ws hs who rs with _ | _
    · obtain rfl : x = ([], [], []) := by rw [HX.out]; unfold atmRun; rw [hok]; rfl
      clear hok
      go_wp2_with (first | (go_at_call 10; refine (crOk_any _).mono ?_; rintro e w9 ⟨rfl, rfl⟩))
      go_ret
      exact ⟨rfl, HB1.out.trans (HB.out.mono HB1.out.size)⟩
    obtain ⟨k, hk⟩ : ∃ k, k = rs.length / 2 := ⟨_, rfl⟩
    have hlaw := run_law hok k
    have hko : k ≤ rs.length := by omega
    have hkq : ((rs.length : Int) / 2) = (k : Int) := by omega
    have HKQ := hid hkq
    have HKC := hid (show (if uc = k then (some ⟨ub, uf, none⟩ : Option Addr) else some ⟨ub, uf + k * 7, none⟩) = some ⟨ub, uf + k * 7, none⟩ by
      by_cases e : uc = k
      · have := HLU.out; have e0 : k = 0 := by omega
        subst e0; simp
      · rw [if_neg e])
    clear hk hkq
    obtain ⟨x1, hx1⟩ : ∃ x1, x1 = atmRun ms ws hs who (rs.take k) := ⟨_, rfl⟩
    rw [← hx1, ← HX.out] at hlaw
    obtain ⟨t, ht⟩ : ∃ t, t = (atmRun ms x1.1 x1.2.1 who (rs.drop k)).2.2 := ⟨_, rfl⟩
    rw [← ht] at hlaw
    obtain ⟨h21, hcat, hlen, hh6⟩ := hlaw
    have HX2 := hid h21.symm; have HCAT := hid hcat; have HLEN := hid hlen; have HX1 := hid hx1
    have HXS1 := hid (show SmallR x1 by rw [hx1]; exact atmRun_small ..)
    have hh0 : ((x.2.1.length : Int) == 0) = false := by rw [hh6]; rfl
    have hok2 := HBS.out
    clear h21 hcat hlen hx1 ht hok hh6 hok2
    go_upto_region 11 with fail
    simp only [HKQ.out]
    have HB0 := hid (HB.out.size)
    go_cut [12, 13] from 65 to 74 (fun p q wd => RrP p q x1 w5 wd)
    case first =>
      rename_i J K' hJ hK
      exact rr_region _ _ _ _ _ _ _ _ _ _ _ _ _ _ _ _ _ _ _ _ _ _ _ _ _ _ _ _ _ _ _ _ _ _ _ _ _ _ _ _ _ _ _ _ _ _ _ _ _ _ _ _ _ _ _ _ _ _ _ _ _ _ _ _ _ _ _ _ _ _ _ _ _ _ _ _ _ _ _ _ _ _ _ _ _ _ _ _ _ _ _ _ _ _ _ _ _ _ _ mv who ub uf rs.length uc w1.heap.size k _ _ x1 w5 ms ws hs (rs.take k) HX1 HB4.out hko HLU.out HCC.out HKC ((HM.out.below HB.out).mono HB.out.size) ((HS1.out.below HB.out).mono HB.out.size) ((HS2.out.below HB.out).mono HB.out.size) (ArrV.take ((HQ.out.below HB.out).mono HB.out.size) hko) (fun u12 u13 u65 u66 u67 u68 u69 u70 u71 u72 u73 u74 wd h => hK _ _ (Met.intro (hJ _ _ ⟨u12, u13, u65, u66, u67, u68, u69, u70, u71, u72, u73, u74, h, rfl⟩)))
    case rest =>
      obtain ⟨w6, hw6⟩ : ∃ W, W = wc := ⟨_, rfl⟩
      subst hw6
      obtain ⟨ga, a, b, ds1, rfl, hga, hA1, o1, o2, o3, hl1, o5, hb1⟩ := hcut
      obtain ⟨qa, qc, rfl, _, _⟩ := o1.shape
      obtain ⟨ra, rc, rfl, _, _⟩ := o2.shape
      obtain ⟨ta, tc, hta, _, _⟩ := o3.shape
      rw [mkRows_len _ _ hl1] at hta
      subst hta
      have HO3 := hid o3; have HO5 := hid o5; have HL1 := hid hl1; have HA1 := hid hA1
      have HP1 := hid (o1.ints (by have := HXS1.out.lw; omega) HXS1.out.w)
      have HP2 := hid (o2.ints (by have := HXS1.out.lh; omega) HXS1.out.h)
      have HB56 := hid hb1
      have HB := hid (HB.out.trans (hb1.mono HB.out.size))
      have HBS := hid (HBS.out.below hb1 HBS.out.lt)
      have HI1 := hid ((HI1.out.below hb1).mono hb1.size); have HI2 := hid ((HI2.out.below hb1).mono hb1.size); have HI3 := hid ((HI3.out.below hb1).mono hb1.size)
      clear o1 o2 o3 o5 hl1 hA1 hb1 hga s0 s1 y0 y1 t7 t9 HBX HB4
      go_upto_region 12 with fail
      go_cut [14, 15] from 75 to 84 (fun p q wd => RrP p q (x.1, x.2.1, t) w6 wd)
      case first =>
        rename_i J K' hJ hK
        exact rt_region _ _ _ _ _ _ _ _ _ _ _ _ _ _ _ _ _ _ _ _ _ _ _ _ _ _ _ _ _ _ _ _ _ _ _ _ _ _ _ _ _ _ _ _ _ _ _ _ _ _ _ _ _ _ _ _ _ _ _ _ _ _ _ _ _ _ _ _ _ _ _ _ _ _ _ _ _ _ _ _ _ _ _ _ _ _ _ _ _ _ _ _ _ _ _ _ _ _ _ mv who ub uf rs.length uc ga k _ _ (x.1, x.2.1, t) w6 ms x1.1 x1.2.1 (rs.drop k) HX2 HA1.out hko HLU.out HCC.out HKC ((HM.out.below HB.out).mono HB.out.size) HP1.out HP2.out (ArrV.drop ((HQ.out.below HB.out).mono HB.out.size) hko) (fun u14 u15 u75 u76 u77 u78 u79 u80 u81 u82 u83 u84 wd h => hK _ _ (Met.intro (hJ _ _ ⟨u14, u15, u75, u76, u77, u78, u79, u80, u81, u82, u83, u84, h, rfl⟩)))
      case rest =>
        obtain ⟨w7, hw7⟩ : ∃ W, W = wc := ⟨_, rfl⟩
        subst hw7
        obtain ⟨gb, a, b, ds2, rfl, hgb, hA2, p1, p2, p3, hl2, p5, hb2⟩ := hcut
        simp only at p1 p2 p3 hl2 p5
        obtain ⟨qa2, qc2, rfl, _, _⟩ := p1.shape
        obtain ⟨ra2, rc2, rfl, _, _⟩ := p2.shape
        obtain ⟨ta2, tc2, hta, _, _⟩ := p3.shape
        rw [mkRows_len _ _ hl2] at hta
        subst hta
        obtain ⟨z0, z1, _, _⟩ := hA2.cells
        have HQ3 := hid p3; have HQ5 := hid p5; have HL2 := hid hl2
        have HQ1 := hid (p1.ints (by have := HXS.out.lw; omega) HXS.out.w)
        have HQ2 := hid (p2.ints (by have := HXS.out.lh; omega) HXS.out.h)
        have HB67 := hid hb2
        have HB := hid (HB.out.trans (hb2.mono HB.out.size))
        have HBS := hid (HBS.out.below hb2 HBS.out.lt)
        obtain ⟨s0, s1, _, _⟩ := HBS.out.cells
        have HI1 := hid ((HI1.out.below hb2).mono hb2.size); have HI2 := hid ((HI2.out.below hb2).mono hb2.size); have HI3 := hid ((HI3.out.below hb2).mono hb2.size)
        have h56 := HB56.out.size
        have h67 := HB67.out.size
        have HO3 := hid (HO3.out.below hb2)
        have HO5 := hid (fun j hj => (HO5.out j hj).below hb2)
        have HQ5 := hid (fun j hj => (HQ5.out j hj).rebase (show w5.heap.size ≤ w6.heap.size by omega))
        have hln : ((x.2.2.length : Int) == (rs.length : Int)) = true := by rw [HLEN.out]; simp
        have hL12 : x1.2.2.length + t.length ≤ 30 := by have := HCAT.out; have h := congrArg List.length this; rw [List.length_append, HLEN.out] at h; have := HRL.out; omega
        have H1 := hid (rowsR_one (xs := x1.2.2) (ds := ds1) (fun j hj => owns_slice (HO5.out j hj)) HL1.out)
        have H2 := hid (rowsR_one (xs := t) (ds := ds2) (fun j hj => owns_slice (HQ5.out j hj)) HL2.out)
        have hm1 := mkRows_len x1.2.2 ds1 HL1.out
        have hm2 := mkRows_len t ds2 HL2.out
        have HM1 := hid hm1; have HM2 := hid hm2
        clear p1 p2 p3 p5 hl2 hA2 hb2 hgb hm1 hm2
        go_upto_region 13 with fail
        go_wp2_with (first
          | (go_at_call 14; go_loud ((with_reducible refine (crAtm_same x.1 x.2.1 _ _ _ _ _ _ _ _ w7.heap.size _ HQ1.out HQ2.out HI1.out HI2.out (Nat.le_refl _)).mono ?_); rintro e w8 ⟨rfl, hbx⟩; have h78 := hbx.size; have HB := hid (HB.out.trans (hbx.mono HB.out.size)); have HI3 := hid ((HI3.out.below hbx).mono hbx.size); have HO3 := hid (HO3.out.below hbx); have HO5 := hid (fun j hj => (HO5.out j hj).below hbx); have HQ3 := hid (HQ3.out.below hbx); have HQ5 := hid (fun j hj => (HQ5.out j hj).below hbx); clear hbx s0 s1 z0 z1))
          | (at_builtin; refine wpList_free (o := ⟨some 91, _, _, _, _, _⟩) rfl ?_; go_must (refine wpList_catL elem_rsp rowR rowR_len _ rfl (.tmp 89) (.tmp 90) rfl w8.heap.size (.slice (some ⟨w8.heap.size, 0, none⟩) 0 0) [] (by rfl) (own_empty (alloc_new_at w8 _ rfl) (Nat.le_refl _)) (.slice ta x1.2.2.length tc) (mkRows x1.2.2 ds1) (w8.alloc (.cells #[] 42)).heap.size (by rfl) ((HO3.out.below (one_in w8 _)).arr rowR_len (by rw [HM1.out]; omega)) H1.out (by rw [HM1.out]; simp; omega) (by rw [HM1.out]; simp; omega) (by simp) ?_; intro v9 w9 ho9 hb9 _ _; have h89 := hb9.size; simp only [World.size_alloc] at h89; have HB89 := hid ((one_in w8 (.cells #[] 42)).trans hb9); have HO9 := hid ho9; clear hb9 ho9))
          | (at_builtin; refine wpList_free (o := ⟨some 93, _, _, _, _, _⟩) rfl ?_; go_must (refine wpList_catL elem_rsp rowR rowR_len w9 rfl (.tmp 91) (.tmp 92) rfl w8.heap.size v9 _ (by rfl) HO9.out (.slice ta2 t.length tc2) (mkRows t ds2) w9.heap.size (by rfl) ((HQ3.out.below HB89.out).arr rowR_len (by rw [HM2.out]; omega)) H2.out (by rw [List.nil_append, HM1.out, HM2.out]; omega) (by rw [List.nil_append, HM1.out, HM2.out]; omega) (by omega) ?_; intro v10 w10 ho10 hb10 _ _; have h910 := hb10.size; have HB810 := hid (HB89.out.trans hb10); have HV := hid (rsps_join (H := w5.heap.size) (ho10.rebase (by omega)) HL1.out HL2.out (fun j hj => (HO5.out j hj).below HB810.out) (fun j hj => (HQ5.out j hj).below HB810.out) (by rw [HCAT.out]; exact HXS.out.d) (by rw [List.length_append]; omega)); clear hb10 ho10))
          | (go_at_call 15; go_loud ((with_reducible refine (crRsps_same x.2.2 _ _ w10.heap.size _ (by rw [← HCAT.out]; exact HV.out) ((HI3.out.below HB810.out).mono HB810.out.size) (Nat.le_refl _)).mono ?_); rintro e w11 ⟨rfl, hbx⟩; have hz10 := HB810.out.size; have HBE := hid ((HB.out.trans (HB810.out.mono HB.out.size)).trans (hbx.mono (Nat.le_trans HB.out.size hz10))))))
        go_ret
        exact ⟨rfl, HB1.out.trans (HBE.out.mono HB1.out.size)⟩

end Go.Proofs.Ytjlnnnnpdagnpaa

namespace Go.Proofs.Ytjlnnnnpdagnpaa
open Go.RowKit
open Go.ChangeShapes Go.WideShapes Go.ChangeAt

theorem run_holds : Rows.FnAtmRunSaid :=
  OpenClaim.holds_of_wide 4 Try.f4 rfl rfl rfl rfl rfl rfl rfl ⟨rfl, rfl, rfl, rfl, rfl⟩ rfl rfl rfl rfl rfl (by kernel_rfl) Try.func4 (by kernel_rfl)
    (of_decide_eq_true (by kernel_rfl)) (by unfold Func.isWrapper; first | (rw [if_pos (by decide +kernel)]; kernel_rfl) | (rw [if_neg (by decide +kernel)]; exact ⟨rfl, rfl⟩))
    (fun os started H enc _ => code_lifted started enc 4 Try.f4 Rows.fnAtmRunSpec rfl (by kernel_rfl) Try.func4
      (ChangeSpec.witness6 (enc := enc) (C := Try.checked) false ⟨#[], #[.slice none 0 0], []⟩ 8 (by kernel_rfl) (by kernel_rfl) (by kernel_rfl) (by kernel_rfl)) Try.params4 rfl (fun _ => ⟨rfl, rfl, rfl⟩) (run_any drawAtmRun_any))
#print axioms run_holds

end Go.Proofs.Ytjlnnnnpdagnpaa
