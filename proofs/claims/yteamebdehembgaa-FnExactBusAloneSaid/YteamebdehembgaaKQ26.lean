/-
  BusAlone of the reference, walked.
-/
import Derived.Test.YteamebdehembgaaJQ22
import Derived.Test.YteamebdehembgaaJQ11
import Derived.Outline
import Derived.Deep.Cut
import Derived.Deep.CutRange
set_option linter.unusedVariables false
set_option linter.unusedSimpArgs false
namespace Go.Proofs.Yteamebdehembgaa
open Go.RowKit

theorem BFit.alone {ms : List MR} {lat : List Int} {pss : List (List Rq)} (h : BFit ms lat pss) (who : Int) (k : Nat) : BFit ms lat (aloneK pss who k) := by
  refine ⟨h.m, h.m6, h.l, h.l6, by rw [aloneK_len]; exact h.p, fun p hp => ?_⟩
  obtain ⟨j, hj, rfl⟩ := List.mem_iff_getElem.1 hp
  have hj2 : j < pss.length := by rwa [aloneK_len] at hj
  have e : (aloneK pss who k)[j] = (aloneK pss who k).getD j [] := by simp [List.getD, hj]
  rw [e, aloneK_get hj2]
  split
  · simp
  · exact h.q _ (getD_mem (d := []) hj2)
theorem busOk_three {ms : List MR} {lat : List Int} {pss : List (List Rq)} (h : busOk ms lat pss = true) : pss.length = 3 := by
  simp only [busOk, Bool.and_eq_true, decide_eq_true_eq] at h; exact h.1.2

theorem elem_PP : Elem 25 34 1 24 := elem_of Try.underlying25 (z := .slice none 0 0) infoPQ rfl (by omega)
theorem one1 (a : Option Addr) (n c : Nat) : ∀ u ∈ row1 (.slice a n c), u.oneCell' = true := by
  intro u hu; simp only [row1, List.mem_singleton] at hu; subst hu; rfl

def SpAloneP (ms : List MR) (lat : List Int) (pss : List (List Rq)) (who : Int) (w : World) (e : Ending) (w' : World) : Prop :=
  ((busOk ms lat pss = true ∧ inB who 0 2 = true) ∧ ∃ a b p, e = .returned (.agg #[a, b, p]) ∧ BusI w' w'.heap.size (.agg #[a, b, p]) ms lat (aloneK pss who pss.length) ∧ Below w.heap.size w w') ∨
  ((busOk ms lat pss && inB who 0 2) = false ∧ e = .returned (.agg #[vnil, vnil, vnil]) ∧ Below w.heap.size w w')

set_option maxRecDepth 8000 in
set_option maxHeartbeats 16000000 in
theorem specBusAlone_any (v : Value) (ms : List MR) (lat : List Int) (pss : List (List Rq)) (who : Int) (B : Nat) (w : World) (h : BusI w B v ms lat pss) (hB : B ≤ w.heap.size) (hf : BFit ms lat pss) :
    Calls Try.prog 11 #[v, .int .i64 who] w (SpAloneP ms lat pss who w) := by
  have HI := hid h; have HB := hid hB; have HF := hid hf
  obtain ⟨mv, lv, pv, rfl, hm, hl, hp⟩ := h
  have HM := hid hm; have HL := hid hl; have HP := hid hp
  obtain ⟨ma, mc, rfl, _⟩ := hm.opened
  obtain ⟨la, lc, rfl, _⟩ := hl.opened
  obtain ⟨pa, pc, rfl, hpc, hpc2, _, _, hr⟩ := hp.opened
  have HR := hid hr
  clear hm hl hp hr hB hf
  obtain ⟨W2, hW2⟩ : ∃ W2, W2 = (w.alloc (.cells #[.slice ma ms.length mc, .slice la lat.length lc, .slice pa pss.length pc] 27)).alloc (.cells #[.slice none 0 0, .slice none 0 0, .slice none 0 0] 27) := ⟨_, rfl⟩
  have HB2 := hid (show Below w.heap.size w W2 by rw [hW2]; exact (bx1 _ _).alloc (by simp) _)
  have HS := hid (show Bx W2 w.heap.size [.slice ma ms.length mc, .slice la lat.length lc, .slice pa pss.length pc] by rw [hW2]; exact (Bx.new w #[.slice ma ms.length mc, .slice la lat.length lc, .slice pa pss.length pc] _ (by simp)).below (bx1 _ _) (by simp))
  have HRx := hid (show Bx W2 (w.heap.size + 1) [vnil, vnil, vnil] by rw [hW2]; have := Bx.new (w.alloc (.cells #[.slice ma ms.length mc, .slice la lat.length lc, .slice pa pss.length pc] 27)) #[vnil, vnil, vnil] 27 (by simp); simpa using this)
  have HZ := hid (show W2.heap.size = w.heap.size + 2 by rw [hW2]; simp)
  have HW2 := hid hW2
  clear hW2
  rcases hbo : busOk ms lat pss with _ | _
  · have HO := hid hbo
    clear hbo
    go_enter Try.func11, Try.ntmps11
    go_wp2_with fail
    rw [show (w.alloc _).alloc _ = W2 from HW2.out.symm]
    refine (specBusOk_any _ ms lat pss B W2 (HI.out.below (HB2.out.mono HB.out)) (Nat.le_trans HB.out HB2.out.size)).mono ?_
    rw [HO.out]
    rintro e w1 ⟨rfl, hb⟩
    have HR1 := hid (HRx.out.below hb HRx.out.lt)
    have HBE := hid (HB2.out.trans (hb.mono HB2.out.size))
    obtain ⟨⟨q0, q1, q2⟩, f0, f1, f2⟩ := HR1.out.three
    have hrl := HR1.out.lt
    clear hb
    go_wp2_with fail
    refine bodyPost_ret (results_c1 Try.results11 _ _ ⟨w.heap.size + 1, 0, none⟩ (.agg #[vnil, vnil, vnil]) rfl (loadVar_bus _ _ _ _ _ (by simp [go_sem, *]) (by simp [go_sem, *]) (by simp [go_sem, *]))) rfl (.inr ⟨by rw [HO.out]; rfl, rfl, ?_⟩)
    exact ((HBE.out.setCell (by exact Nat.le_succ _) _).setCell (by exact Nat.le_succ _) _).setCell (by exact Nat.le_succ _) _
  · have HO := hid hbo
    have HP3 := hid (busOk_three hbo)
    clear hbo
    rcases hib : inB who 0 2 with _ | _
    · have HI2 := hid hib
      clear hib
      go_enter Try.func11, Try.ntmps11
      go_wp2_with (first
        | (go_at_call 12; rw [show (w.alloc _).alloc _ = W2 from HW2.out.symm]; refine (specBusOk_any _ ms lat pss B W2 (HI.out.below (HB2.out.mono HB.out)) (Nat.le_trans HB.out HB2.out.size)).mono ?_; rw [HO.out]; rintro e w1 ⟨rfl, hb⟩; have HR1 := hid (HRx.out.below hb HRx.out.lt); have HBE := hid (HB2.out.trans (hb.mono HB2.out.size)); obtain ⟨⟨q0, q1, q2⟩, f0, f1, f2⟩ := HR1.out.three; have hrl := HR1.out.lt; clear hb)
        | (go_at_call 60; refine (l1In_any _ _ _ _).mono ?_; rw [HI2.out]; rintro e w' ⟨rfl, hw⟩; subst hw))
      refine bodyPost_ret (results_c1 Try.results11 _ _ ⟨w.heap.size + 1, 0, none⟩ (.agg #[vnil, vnil, vnil]) rfl (loadVar_bus _ _ _ _ _ (by simp [go_sem, *]) (by simp [go_sem, *]) (by simp [go_sem, *]))) rfl (.inr ⟨by rw [HO.out, HI2.out]; rfl, rfl, ?_⟩)
      exact ((HBE.out.setCell (by exact Nat.le_succ _) _).setCell (by exact Nat.le_succ _) _).setCell (by exact Nat.le_succ _) _
    · have HI2 := hid hib
      clear hib
      have hwho : 0 ≤ who ∧ who ≤ 2 := by have := HI2.out; simpa [inB] using this
      obtain ⟨sb, so, rfl, hsb, hsc⟩ := HR.out (by have := HP3.out; omega)
      have HSC := hid hsc
      clear hsc
      go_enter Try.func11, Try.ntmps11
      go_upto_region 3 with (first
        | (go_at_call 12; rw [show (w.alloc _).alloc _ = W2 from HW2.out.symm]; refine (specBusOk_any _ ms lat pss B W2 (HI.out.below (HB2.out.mono HB.out)) (Nat.le_trans HB.out HB2.out.size)).mono ?_; rw [HO.out]; rintro e w1 ⟨rfl, hb⟩; have HS1 := hid (HS.out.below hb HS.out.lt); have HR1 := hid (HRx.out.below hb HRx.out.lt); have HBE := hid (HB2.out.trans (hb.mono HB2.out.size)); have HZ1 := hid (show w.heap.size + 2 ≤ w1.heap.size by have := hb.size; have := HZ.out; omega); clear hb)
        | (go_at_call 60; refine (l1In_any _ _ _ _).mono ?_; rw [HI2.out]; rintro e w' ⟨rfl, hw⟩; subst hw))
      go_cut [5] from 19 to 27 (fun u wd => QsP u ms lat w1 wd)
      case first =>
        rename_i J K' hJ hK
        exact qs3_region _ _ _ _ _ _ _ _ _ _ _ _ _ _ _ _ _ _ _ _ _ _ _ _ _ _ _ _ _ _ _ _ _ _ _ _ _ _ _ _ _ _ _ _ _ _ _ _ _ _ _ _ _ _ _ _ _ _ _ _ _ _ _ _ _ _ _ _ _ _ _ _ _ _ _ _ w.heap.size _ _ _ ms lat w1 HS1.out ((HM.out.below (HBE.out.mono HB.out)).mono (Nat.le_trans HB.out HBE.out.size)).1 (ints_arr ((HL.out.below (HBE.out.mono HB.out)).mono (Nat.le_trans HB.out HBE.out.size))) HF.out.m HF.out.l (fun u5 u19 u20 u21 u22 u23 u24 u25 u26 u27 wd h => hK _ _ (Met.intro (hJ _ _ ⟨u5, u19, u20, u21, u22, u23, u24, u25, u26, u27, h, rfl⟩)))
      case rest =>
        obtain ⟨g, a, b, rfl, hg, hBx, oa, ob, hb⟩ := hcut
        obtain ⟨ya, yb, rfl, _, _⟩ := oa.shape
        obtain ⟨za, zb, rfl, _, _⟩ := ob.shape
        have HK0 := hid (show SpK w wc w1.heap.size g (.slice ya ms.length yb) (.slice za lat.length zb) vnil [] ((aloneK pss who 3).take 0) ms lat [.slice ma ms.length mc, .slice la lat.length lc, .slice (some ⟨sb, so, none⟩) pss.length pc] from
          ⟨hBx, oa, ob, Owns.zero, rfl, fun j hj => absurd hj (by simp), HBE.out.trans (hb.mono HBE.out.size), HS1.out.below hb HS1.out.lt, HR1.out.below hb HR1.out.lt, HZ1.out, hg⟩)
        clear hg hBx oa ob hb
        go_wp2_with fail
        go_loopw [6] (fun i wr => ∃ (k : Nat) (pv : Value) (us : List Value), i = .int .i64 k ∧ k ≤ 3 ∧ SpK w wr w1.heap.size g (.slice ya ms.length yb) (.slice za lat.length zb) pv us ((aloneK pss who 3).take k) ms lat [.slice ma ms.length mc, .slice la lat.length lc, .slice (some ⟨sb, so, none⟩) pss.length pc]) (fun i _ => 3 - (intOf i).toNat)
        case atStart => exact ⟨0, _, _, rfl, by omega, HK0.out⟩
        case round =>
          clear HK0
          obtain ⟨k, pv, us, rfl, hk, hK⟩ := hrel
          have HK := hid hK
          clear hK
          obtain ⟨wo, hwo⟩ : ∃ W, W = wr := ⟨_, rfl⟩
          subst hwo
          by_cases hlt : k < 3
          · have hlt3 : (k : Int) < 3 := by omega
            go_wp2_with fail
            obtain ⟨x, hx⟩ : ∃ x, x = (aloneK pss who 3).getD k [] := ⟨_, rfl⟩
            have HX := hid hx
            clear hx
            go_loopw [7, 8] (fun lv i wx => ∃ (qs : List Rq) (vs : List (Value × Value)), i = .int .i64 (qs.length : Nat) ∧ qs.length ≤ x.length ∧ qs = x.take qs.length ∧ RdO wx wo.heap.size lv qs vs ∧ Below wo.heap.size wo wx) (fun _ i _ => x.length - (intOf i).toNat)
            case atStart => exact ⟨[], [], rfl, Nat.zero_le _, by simp, ⟨rfl, Owns.lit (Nat.le_refl _), by simp, by simp⟩, bx1 _ _⟩
            case round =>
              obtain ⟨qs, vs, rfl, hq, hqs, hrd, hbx⟩ := hrel
              have HRD := hid hrd; have HBX := hid hbx; have HQS := hid hqs
              clear hrd hbx hqs
              obtain ⟨wx, hwx⟩ : ∃ W, W = wr := ⟨_, rfl⟩
              subst hwx
              have HKX := hid (HK.out.below HBX.out)
              have HZQ := hid (zipQ_len HRD.out.len)
              obtain ⟨va, vc, hv, _, _⟩ := HRD.out.rows.shape
              rw [HZQ.out] at hv
              subst hv
              by_cases hw : (k : Int) = who
              · have heq : ((k : Int) == who) = true := by simp [hw]
                have HXP := hid (show x = pss.getD k [] by rw [HX.out, aloneK_get (by have := HP3.out; omega), if_neg (by omega)])
                clear hw
                have hkn : k < pss.length := by have := HP3.out; omega
                obtain ⟨da, dc, hu, c0⟩ := HSC.out k hkn
                rw [← HXP.out] at hu c0
                rw [← HKX.out.be.cell (p := ⟨sb, _, none⟩) (Nat.lt_of_lt_of_le hsb HB.out)] at c0
                have HU := hid hu
                clear hu
                obtain ⟨⟨s0, s1, s2⟩, _⟩ := HKX.out.src.three
                by_cases hlt2 : qs.length < x.length
                · obtain ⟨b2, off2, rfl, hb2, hc2⟩ := (Reqs.opened' HU.out).2 (by omega)
                  obtain ⟨ea, ec, fa, fc, hv, e0, e1, e2, e3, e4, e5, e6⟩ := hc2 qs.length hlt2
                  obtain ⟨r, hr⟩ : ∃ r, r = x.getD qs.length default := ⟨_, rfl⟩
                  rw [← hr] at e0 e1 e2 e3 e4 e5 e6 hv
                  have cl : ∀ j, wx.cell? ⟨b2, j, none⟩ = w.cell? ⟨b2, j, none⟩ := fun j => HKX.out.be.cell (p := ⟨b2, j, none⟩) (Nat.lt_of_lt_of_le hb2 HB.out)
                  rw [← cl] at e0 e1 e2 e3 e4 e5 e6
                  have HR := hid hr; have HV := hid hv
                  clear hr hv hc2 cl hb2
                  go_upto_region 12 with fail
                  clear e0 e1 e2 e3 e4 e5 e6 s0 s1 s2 c0
                  obtain ⟨W3, hW3⟩ : ∃ W3, W3 = wx.alloc (.cells #[.int .i64 r.id, .int .i64 r.kind, .int .i64 r.addr, .int .i64 r.many, .bool r.wrap, .slice ea r.data.length ec, .slice fa r.lanes.length fc] 71) := ⟨_, rfl⟩
                  rw [← hW3]
                  have HB3 := hid (show Below wx.heap.size wx W3 by rw [hW3]; exact bx1 _ _)
                  have HE3 := hid (show BoxQ W3 wx.heap.size r (.slice ea r.data.length ec) (.slice fa r.lanes.length fc) by rw [hW3]; exact BoxQ.new _ _ _ _)
                  clear hW3
                  have HR20 := hid (show r.data.length ≤ 1048576 ∧ r.lanes.length ≤ 1048576 ∧ x.length ≤ 1048576 by
                    have hq := HF.out.q _ (getD_mem (d := []) hkn)
                    rw [← HXP.out] at hq
                    have hq2 := (hq.2 _ (getD_mem (d := default) hlt2)).1
                    rw [← HR.out] at hq2
                    exact ⟨hq2.1, hq2.2, hq.1⟩)
                  obtain ⟨dv, lv, hve, k1, k2, k3⟩ := HV.out
                  simp only [Value.agg.injEq, Array.mk.injEq, List.cons.injEq, and_true, true_and] at hve
                  obtain ⟨rfl, rfl⟩ := hve
                  have HBw3 := hid (HKX.out.be.trans (HB3.out.mono HKX.out.be.size))
                  have HI3 := hid ((k1.below (HBw3.out.mono HB.out)).mono (Nat.le_trans HB.out HBw3.out.size))
                  have HL3 := hid k2
                  clear k1 k2 k3
                  obtain ⟨⟨e0, e1, e2, e3, e4, e5, e6⟩, f0, f1, f2, f3, f4, f5, f6⟩ := HE3.out.bx.seven
                  have hel := HE3.out.lt
                  go_upto_region 13 with (at_builtin; go_must (refine wpList_cat elem_int rowI rowI_len rowI_one _ rfl _ _ rfl W3.heap.size _ [] (by rfl) (Owns.lit (Nat.le_refl _)) _ r.data W3.heap.size (by rfl) (HI3.out.1.below (bx1 _ _)) (by have := HR20.out; simp; omega) (by have := HR20.out; simp; omega) (by simp) ?_); intro v' w4 ho hb _; have HO4 := hid (show Owns w4 W3.heap.size 3 1 rowI v' r.data from ho); have HBB4 := hid (show Below W3.heap.size W3 w4 from (bx1 W3 _).trans hb); obtain ⟨d4, m4, rfl, _, _⟩ := ho.shape; have HF4 := hid (HE3.out.below HBB4.out hel); clear ho hb e0 e1 e2 e3 e4 e5 e6 f0 f1 f2 f3 f4 f5 f6; obtain ⟨⟨e0, e1, e2, e3, e4, e5, e6⟩, f0, f1, f2, f3, f4, f5, f6⟩ := HF4.out.bx.seven; have hel4 := HF4.out.lt)
                  try simp only [List.nil_append]
                  obtain ⟨W4, hW4⟩ : ∃ W, W = w4.setCell ⟨wx.heap.size, 5, none⟩ (.slice d4 r.data.length m4) := ⟨_, rfl⟩
                  rw [← hW4]
                  have HB4 := hid (show Below wx.heap.size wx W4 by rw [hW4]; exact (HB3.out.trans (HBB4.out.mono HB3.out.size)).setCell (Nat.le_refl _) _)
                  have HE4 := hid (show BoxQ W4 wx.heap.size r (.slice d4 r.data.length m4) (.slice fa r.lanes.length fc) by rw [hW4]; exact HF4.out.put5 _)
                  have HP4 := hid (show ∀ j, j ≠ wx.heap.size → W4.heap[j]? = w4.heap[j]? from fun j hj => by rw [hW4]; exact Below.heap_setCell _ _ _ _ hj)
                  have HS4 := hid (show W4.heap.size = w4.heap.size by rw [hW4]; simp)
                  clear hW4 hel hel4 e0 e1 e2 e3 e4 e5 e6 f0 f1 f2 f3 f4 f5 f6
                  have HBw4 := hid (HKX.out.be.trans (HB4.out.mono HKX.out.be.size))
                  have HI4 := hid ((HL3.out.below (HBw4.out.mono HB.out)).mono (Nat.le_trans HB.out HBw4.out.size))
                  obtain ⟨⟨e0, e1, e2, e3, e4, e5, e6⟩, f0, f1, f2, f3, f4, f5, f6⟩ := HE4.out.bx.seven
                  have hel := HE4.out.lt
                  go_upto_region 14 with (at_builtin; go_must (refine wpList_cat elem_int rowI rowI_len rowI_one _ rfl _ _ rfl W4.heap.size _ [] (by rfl) (Owns.lit (Nat.le_refl _)) _ r.lanes W4.heap.size (by rfl) (HI4.out.1.below (bx1 _ _)) (by have := HR20.out; simp; omega) (by have := HR20.out; simp; omega) (by simp) ?_); intro v' w5 ho hb _; have HO5 := hid (show Owns w5 W4.heap.size 3 1 rowI v' r.lanes from ho); have HBB5 := hid (show Below W4.heap.size W4 w5 from (bx1 W4 _).trans hb); obtain ⟨d5, m5, rfl, _, _⟩ := ho.shape; have HF5 := hid (HE4.out.below HBB5.out hel); clear ho hb e0 e1 e2 e3 e4 e5 e6 f0 f1 f2 f3 f4 f5 f6; obtain ⟨⟨e0, e1, e2, e3, e4, e5, e6⟩, f0, f1, f2, f3, f4, f5, f6⟩ := HF5.out.bx.seven; have hel5 := HF5.out.lt)
                  try simp only [List.nil_append]
                  obtain ⟨W5, hW5⟩ : ∃ W, W = w5.setCell ⟨wx.heap.size, 6, none⟩ (.slice d5 r.lanes.length m5) := ⟨_, rfl⟩
                  rw [← hW5]
                  have HB5 := hid (show Below wx.heap.size wx W5 by rw [hW5]; exact (HB4.out.trans (HBB5.out.mono HB4.out.size)).setCell (Nat.le_refl _) _)
                  have HE5 := hid (show BoxQ W5 wx.heap.size r (.slice d4 r.data.length m4) (.slice d5 r.lanes.length m5) by rw [hW5]; exact HF5.out.put6 _)
                  have HP5 := hid (show ∀ j, j ≠ wx.heap.size → W5.heap[j]? = w5.heap[j]? from fun j hj => by rw [hW5]; exact Below.heap_setCell _ _ _ _ hj)
                  have HS5 := hid (show W5.heap.size = w5.heap.size by rw [hW5]; simp)
                  clear hW5 hel hel5 e0 e1 e2 e3 e4 e5 e6 f0 f1 f2 f3 f4 f5 f6
                  have hz3 := HE3.out.lt
                  have HD5 := hid (show Owns W5 wo.heap.size 3 1 rowI (.slice d4 r.data.length m4) r.data from OwnR.rebase (OwnR.kept (OwnR.below (OwnR.kept HO4.out (fun j hj => HP4.out j (by have := (OwnR.lt HO4.out j hj).1; omega))) HBB5.out (fun j hj => by have := (OwnR.lt HO4.out j hj).2; have := HS4.out; omega)) (fun j hj => HP5.out j (by have := (OwnR.lt HO4.out j hj).1; omega))) (by have := HBX.out.size; omega))
                  have HL5 := hid (show Owns W5 wo.heap.size 3 1 rowI (.slice d5 r.lanes.length m5) r.lanes from OwnR.rebase (OwnR.kept HO5.out (fun j hj => HP5.out j (by have := (OwnR.lt HO5.out j hj).1; have := HE4.out.lt; omega))) (by have := HBX.out.size; have := HE4.out.lt; omega))
                  have HRD5 := hid (HRD.out.below HB5.out)
                  have HBX5 := hid (HBX.out.trans (HB5.out.mono HBX.out.size))
                  obtain ⟨⟨e0, e1, e2, e3, e4, e5, e6⟩, f0, f1, f2, f3, f4, f5, f6⟩ := HE5.out.bx.seven
                  clear hz3
                  have hsm : qs.length ≤ 1048576 := by have := HR20.out; omega
                  go_wp2_with (first
                    | ((with_reducible refine wpList_lit7q _ _ _ _ _ rfl ?_ ?_); rfl)
                    | (at_builtin; go_must (refine wpList_push2 elem_ReqReq rowQ rowQ_len (r, .slice d4 r.data.length m4, .slice d5 r.lanes.length m5) (one7r _ _ _ _ _ _ _) W5 rfl _ _ rfl wo.heap.size _ (zipQ qs vs) (by rfl) HRD5.out.rows _ (by rfl) (by rfl) (by rw [HZQ.out]; have := HR20.out; omega) (by rw [HZQ.out]; have := HR20.out; omega) HBX5.out.size ?_; intro v' w8 ho8 hz8 hk8 hv8 hb8)))
                  go_roundw
                  case rel =>
                    have h1 : Owns w8 wo.heap.size 3 1 rowI (.slice d4 r.data.length m4) r.data := OwnR.kept HD5.out fun j hj => hk8 j (OwnR.lt HD5.out j hj).2 (fun e => Owns.apartT HD5.out HRD5.out.rows (by decide) j hj e)
                    have h2 : Owns w8 wo.heap.size 3 1 rowI (.slice d5 r.lanes.length m5) r.lanes := OwnR.kept HL5.out fun j hj => hk8 j (OwnR.lt HL5.out j hj).2 (fun e => Owns.apartT HL5.out HRD5.out.rows (by decide) j hj e)
                    exact ⟨qs ++ [r], vs ++ [(.slice d4 r.data.length m4, .slice d5 r.lanes.length m5)], by simp, by simp; omega, by rw [List.length_append, List.length_singleton, List.take_succ_eq_append_getElem hlt2, ← HQS.out, HR.out]; simp [List.getD, hlt2], HRD5.out.snoc ho8 (fun j cs T hc hT => hk8 j (heap_lt hc) (HRD5.out.rows.notB hc (by rw [hT]; decide))) h1 h2, HBX5.out.trans hb8⟩
                  case measure => simp [intOf]; omega
                · skip
                  have HQX := hid (show qs = x from by rw [HQS.out, List.take_of_length_le (by omega)])
                  have HLS := hid (show (aloneK pss who 3).take (k + 1) = (aloneK pss who 3).take k ++ [qs] by rw [HQX.out, HX.out, List.take_succ_eq_append_getElem (by rw [aloneK_len]; have := HP3.out; omega)]; simp [List.getD, aloneK_len, show k < pss.length by have := HP3.out; omega])
                  have HUL := hid (show us.length ≤ 3 by rw [HKX.out.len]; simp; omega)
                  obtain ⟨pva, pvc, hpv, _, _⟩ := HKX.out.op.shape
                  subst hpv
                  obtain ⟨⟨g0, g1, g2⟩, _⟩ := HKX.out.box.bx.three
                  have hgl := HKX.out.box.lt
                  have hlo := HKX.out.lo2; have hgl2 := HKX.out.gl
                  go_wp2_with (at_builtin; go_must (refine wpList_push2 elem_PP row1 row1_len (.slice va qs.length vc) (one1 _ _ _) wx rfl _ _ rfl w1.heap.size _ us (by rfl) HKX.out.op _ (by rfl) (by rfl) (by have := HUL.out; omega) (by have := HUL.out; omega) (by omega) ?_); intro v' w8 ho8 hz8 hk8 hv8 hb8; have HB8 := hid (And.intro hz8 (And.intro hk8 hb8)); have HX8 := hid (HKX.out.box.keep (hk8 g hgl (HKX.out.op.notB HKX.out.box (by decide)))); obtain ⟨pa8, pc8, hp8, _, _⟩ := ho8.shape; rw [List.length_append, List.length_singleton] at hp8; subst hp8; have HO8 := hid ho8; clear ho8 hz8 hk8 hv8 hb8 g0 g1 g2; obtain ⟨⟨g0, g1, g2⟩, x0, x1, x2⟩ := HX8.out.bx.three; have hgl8 := HX8.out.lt)
                  go_roundw
                  case rel => exact ⟨k + 1, _, _, by go_num, by omega, by rw [HLS.out]; exact HKX.out.next (HRD.out.rebase (by have := HK.out.gl; have := HK.out.box.lt; omega)) HO8.out HB8.out.1 HB8.out.2.1 HB8.out.2.2⟩
                  case measure => simp [intOf]; omega
              · have hne : ((k : Int) == who) = false := by simp [hw]
                have HXN := hid (show x = [] by rw [HX.out, aloneK_get (by have := HP3.out; omega), if_pos ⟨by omega, hw⟩])
                clear hw
                have HQX := hid (show qs = x from by rw [HXN.out] at hq ⊢; exact List.eq_nil_of_length_eq_zero (by simpa using hq))
                have HLS := hid (show (aloneK pss who 3).take (k + 1) = (aloneK pss who 3).take k ++ [qs] by rw [HQX.out, HX.out, List.take_succ_eq_append_getElem (by rw [aloneK_len]; have := HP3.out; omega)]; simp [List.getD, aloneK_len, show k < pss.length by have := HP3.out; omega])
                have HUL := hid (show us.length ≤ 3 by rw [HKX.out.len]; simp; omega)
                obtain ⟨pva, pvc, hpv, _, _⟩ := HKX.out.op.shape
                subst hpv
                obtain ⟨⟨g0, g1, g2⟩, _⟩ := HKX.out.box.bx.three
                have hgl := HKX.out.box.lt
                have hlo := HKX.out.lo2; have hgl2 := HKX.out.gl
                go_wp2_with (at_builtin; go_must (refine wpList_push2 elem_PP row1 row1_len (.slice va qs.length vc) (one1 _ _ _) wx rfl _ _ rfl w1.heap.size _ us (by rfl) HKX.out.op _ (by rfl) (by rfl) (by have := HUL.out; omega) (by have := HUL.out; omega) (by omega) ?_); intro v' w8 ho8 hz8 hk8 hv8 hb8; have HB8 := hid (And.intro hz8 (And.intro hk8 hb8)); have HX8 := hid (HKX.out.box.keep (hk8 g hgl (HKX.out.op.notB HKX.out.box (by decide)))); obtain ⟨pa8, pc8, hp8, _, _⟩ := ho8.shape; rw [List.length_append, List.length_singleton] at hp8; subst hp8; have HO8 := hid ho8; clear ho8 hz8 hk8 hv8 hb8 g0 g1 g2; obtain ⟨⟨g0, g1, g2⟩, x0, x1, x2⟩ := HX8.out.bx.three; have hgl8 := HX8.out.lt)
                go_roundw
                case rel => exact ⟨k + 1, _, _, by go_num, by omega, by rw [HLS.out]; exact HKX.out.next (HRD.out.rebase (by have := HK.out.gl; have := HK.out.box.lt; omega)) HO8.out HB8.out.1 HB8.out.2.1 HB8.out.2.2⟩
                case measure => simp [intOf]; omega
          · obtain rfl : k = 3 := by omega
            obtain ⟨⟨r0, r1, r2⟩, _⟩ := HK.out.box.bx.three
            obtain ⟨⟨q0, q1, q2⟩, f0, f1, f2⟩ := HK.out.res.three
            have hrl := HK.out.res.lt
            have hbl := HK.out.box.lt
            obtain ⟨pva, pvc, rfl, _, _⟩ := HK.out.op.shape
            have HAE := hid (show (aloneK pss who 3).take 3 = aloneK pss who pss.length by rw [HP3.out, List.take_of_length_le (by rw [aloneK_len, HP3.out]; exact Nat.le_refl _)])
            go_wp2_with fail
            refine bodyPost_ret (results_c1 Try.results11 _ _ ⟨w.heap.size + 1, 0, none⟩ (.agg #[.slice ya ms.length yb, .slice za lat.length zb, .slice pva us.length pvc]) rfl (loadVar_bus _ _ _ _ _ (by simp [go_sem, *]) (by simp [go_sem, *]) (by simp [go_sem, *]))) rfl (.inl ⟨⟨HO.out, HI2.out⟩, _, _, _, rfl, ?_, ?_⟩)
            · have hkk := HK.out
              rw [HAE.out] at hkk
              exact hkk.busK (HF.out.alone who _) fun j hj => by
                have n1 : j ≠ w.heap.size + 1 := by have := hkk.lo2; omega
                exact (Below.heap_setCell _ _ _ _ n1).trans ((Below.heap_setCell _ _ _ _ n1).trans (Below.heap_setCell _ _ _ _ n1))
            · exact ((HK.out.be.setCell (by exact Nat.le_succ _) _).setCell (by exact Nat.le_succ _) _).setCell (by exact Nat.le_succ _) _

end Go.Proofs.Yteamebdehembgaa
