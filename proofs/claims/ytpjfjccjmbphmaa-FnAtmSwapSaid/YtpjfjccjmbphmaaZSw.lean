/-
  For every two codes the law FnAtmSwap returns true, and its arguments read behind the call as they read before.
-/
import Derived.Test.YtpjfjccjmbphmaaJSa3
import Derived.Test.YtpjfjccjmbphmaaKDrA
import Derived.Test.YtpjfjccjmbphmaaJRow
set_option linter.unusedVariables false
set_option linter.unusedSimpArgs false
namespace Go.Proofs.Ytpjfjccjmbphmaa
open Go.RowKit

set_option maxRecDepth 4000 in
set_option maxHeartbeats 8000000 in
theorem swap_any (hdraw : DrawDo) (v u : Value) (bs cs : List Nat) (B : Nat) (w : World) (h : Bytes w B v bs) (h' : Bytes w B u cs) (hB : B ≤ w.heap.size) :
    Calls Try.prog 11 #[v, u] w fun e w' => e = .returned (.bool true) ∧ Below w.heap.size w w' := by
  have HBC := hid h; have HBD := hid h'
  obtain ⟨ao, cap, rfl, hlc, hcap, hln, hni, hr⟩ := h.opened
  obtain ⟨ao2, cap2, rfl, hlc2, hcap2, hln2, hni2, hr2⟩ := h'.opened
  clear hr hr2 h h'
  by_cases hbig : (1048576 : Int) < (bs.length : Int)
  · go_enter Try.func11, Try.ntmps11
    go_wp2_with fail
    go_ret
    exact ⟨rfl, Below.refl _ _⟩
  by_cases hbig2 : (1048576 : Int) < (cs.length : Int)
  · have hb1 : decide ((1048576 : Int) < (bs.length : Int)) = false := by simpa using hbig
    clear hbig
    go_enter Try.func11, Try.ntmps11
    go_wp2_with fail
    go_ret
    exact ⟨rfl, Below.refl _ _⟩
  · have hb1 : decide ((1048576 : Int) < (bs.length : Int)) = false := by simpa using hbig
    have hb2 : decide ((1048576 : Int) < (cs.length : Int)) = false := by simpa using hbig2
    clear hbig hbig2
    go_enter Try.func11, Try.ntmps11
    go_upto_region 4 with (first
      | (go_at_call 15; refine (hdraw _ bs B w HBC.out hB).mono ?_; rintro e w1 ⟨mv, ms, sv, ws, hs, who, rv, r, rfl, hm, hs0, hw0, hw3, hr0, hb1⟩; have HM := hid hm; have HS := hid hs0; have HR := hid hr0; have HB1 := hid hb1; have HID := hid (show I64 r.id ∧ I64 r.kind ∧ I64 r.addr ∧ I64 r.many by obtain ⟨_, _, _, _, _, h⟩ := hr0; exact h); obtain ⟨wa, wc, ha, hc, rfl, hs1, hs2⟩ := hs0.shape; obtain ⟨da, dc, la, lc, rfl⟩ := hr0.shape; have HS1 := hid hs1; have HS2 := hid hs2; clear hm hs0 hr0 hb1 hs1 hs2)
      | fail)
    go_upto_region 9 with (first
      | (go_at_call 15; refine (hdraw _ cs B _ (HBD.out.below ((HB1.out.trans (two_in w1 _ _ |>.mono HB1.out.size)).mono hB)) (Nat.le_trans hB (Nat.le_trans HB1.out.size (two_in w1 _ _).size))).mono ?_; rintro e w2 ⟨mv2, ms2, sv2, ws2, hs2, who2, rv2, q, rfl, hm2, hs20, hw20, hw23, hr20, hb⟩; obtain ⟨BS, BQ, hbx, hz2⟩ := law_open hb; have HB := hid hbx; have HBS := hid BS; have ts := BS.lt; obtain ⟨s0, s1⟩ := BS; have HBQ := hid BQ; have tf := BQ.lt; obtain ⟨f0, f1, f2, f3, f4, f5, f6⟩ := BQ; have HR2 := hid hr20; have HID2 := hid (show I64 q.id ∧ I64 q.kind ∧ I64 q.addr ∧ I64 q.many by obtain ⟨_, _, _, _, _, h⟩ := hr20; exact h); obtain ⟨wa2, wc2, ha2, hc2, rfl, _, _⟩ := hs20.shape; obtain ⟨da2, dc2, la2, lc2, rfl⟩ := hr20.shape; obtain ⟨x, hx⟩ : ∃ x, x = atmDo ms ws hs who r := ⟨_, rfl⟩; have HX := hid hx; have HSM := hid (show Small x by rw [hx]; exact atmDo_small ..); clear hm2 hs20 hr20 hb hbx hx)
      | (go_at_call 21; go_loud ((with_reducible refine (implDo_v mv _ _ ms w1.heap.size ws hs who r _ (HM.out.below (HB.out.trans ((two_in w2 _ _).mono HB.out.size))) (HS.out.below (HB.out.trans ((two_in w2 _ _).mono HB.out.size))) (HR.out.below (HB.out.trans ((two_in w2 _ _).mono HB.out.size))) (Nat.le_trans HB.out.size (two_in w2 _ _).size)).mono ?_); rw [← HX.out]; rintro e w3 ⟨xwa, xwc, xha, xhc, xda, xdc, rfl, i1, i2, i3, hb⟩; obtain ⟨_, BH, hbx, hz3⟩ := law_open hb; have HB2 := hid hbx; have HBH := hid BH; have th := BH.lt; have tph := Nat.lt_of_succ_lt th; obtain ⟨h0, h1, h2, h3, h4, h5, h6⟩ := BH; have HI1 := hid i1; have HI2 := hid i2; have HI3 := hid i3; clear i1 i2 i3 hb; have HB := hid (HB.out.trans (hbx.mono HB.out.size)); have HBS := hid (HBS.out.below hbx HBS.out.lt); have ts := HBS.out.lt; obtain ⟨s0, s1⟩ := HBS.out; have HBQ := hid (HBQ.out.below hbx HBQ.out.lt); have tf := HBQ.out.lt; obtain ⟨f0, f1, f2, f3, f4, f5, f6⟩ := HBQ.out; clear hbx))
      | (go_at_call 22; go_loud ((with_reducible refine (specDo_v mv _ _ ms w1.heap.size ws hs who r _ (HM.out.below (HB.out.trans ((two_in w3 _ _).mono HB.out.size))) (HS.out.below (HB.out.trans ((two_in w3 _ _).mono HB.out.size))) (HR.out.below (HB.out.trans ((two_in w3 _ _).mono HB.out.size))) (Nat.le_trans HB.out.size (two_in w3 _ _).size)).mono ?_); rw [← HX.out]; rintro e w5 ⟨ywa, ywc, yha, yhc, yda, ydc, rfl, i1, i2, i3, hb⟩; obtain ⟨BX, BY, hbx, hz5⟩ := law_next hb; have HJ3 := hid i3; have HBX := hid BX; have tx := BX.lt; obtain ⟨x0, x1⟩ := BX; have HBY := hid BY; have ty := BY.lt; obtain ⟨y0, y1, y2⟩ := BY; clear i1 i2 i3 hb; have HB := hid (HB.out.trans (hbx.mono HB.out.size)); have HB2 := hid (HB2.out.trans (hbx.mono HB2.out.size)); have HBS := hid (HBS.out.below hbx HBS.out.lt); have ts := HBS.out.lt; obtain ⟨s0, s1⟩ := HBS.out; have HBQ := hid (HBQ.out.below hbx HBQ.out.lt); have tf := HBQ.out.lt; obtain ⟨f0, f1, f2, f3, f4, f5, f6⟩ := HBQ.out; have HBH := hid (HBH.out.below hbx HBH.out.lt); have th := HBH.out.lt; have tph := Nat.lt_of_succ_lt th; obtain ⟨h0, h1, h2, h3, h4, h5, h6⟩ := HBH.out; have HI1 := hid ((HI1.out.below hbx).mono hbx.size); have HI2 := hid ((HI2.out.below hbx).mono hbx.size); have HI3 := hid ((HI3.out.below hbx).mono hbx.size); clear hbx))
      | (go_at_call 23; go_loud ((with_reducible refine (crRsp_same x.2.2 _ _ _ _ w5.heap.size _ (HI3.out.below (two_in w5 _ _)) (HJ3.out.below (two_in w5 _ _)) (two_in w5 _ _).size).mono ?_); rintro e w7 ⟨rfl, hb⟩; obtain ⟨hbx, hz7⟩ := two_below hb; clear hb; have HB := hid (HB.out.trans (hbx.mono HB.out.size)); have HB2 := hid (HB2.out.trans (hbx.mono HB2.out.size)); have HBS := hid (HBS.out.below hbx HBS.out.lt); have ts := HBS.out.lt; obtain ⟨s0, s1⟩ := HBS.out; have HBQ := hid (HBQ.out.below hbx HBQ.out.lt); have tf := HBQ.out.lt; obtain ⟨f0, f1, f2, f3, f4, f5, f6⟩ := HBQ.out; have HBH := hid (HBH.out.below hbx HBH.out.lt); have th := HBH.out.lt; have tph := Nat.lt_of_succ_lt th; obtain ⟨h0, h1, h2, h3, h4, h5, h6⟩ := HBH.out; have HBX := hid (HBX.out.below hbx HBX.out.lt); have tx := HBX.out.lt; obtain ⟨x0, x1⟩ := HBX.out; have HBY := hid (HBY.out.below hbx HBY.out.lt); have ty := HBY.out.lt; obtain ⟨y0, y1, y2⟩ := HBY.out; have HI1 := hid ((HI1.out.below hbx).mono hbx.size); have HI2 := hid ((HI2.out.below hbx).mono hbx.size); have HI3 := hid ((HI3.out.below hbx).mono hbx.size); clear hbx))
      | fail)
    rcases hok : atmOkk ms ws hs who r with _ | _
    · have hc0 : (x.2.2.code == 0) = true := by rw [HX.out, atmDo_no hok]; rfl
      clear hok
      go_wp2_with (first | (go_at_call 18; refine (crOk_any _).mono ?_; rintro e w9 ⟨rfl, rfl⟩))
      go_ret
      exact ⟨rfl, HB1.out.trans (HB.out.mono HB1.out.size)⟩
    have hc0 : (x.2.2.code == 0) = false := by
      rw [beq_eq_false_iff_ne]; intro e
      rw [HX.out] at e
      rw [code_zero.1 e] at hok; cases hok
    have HOK := hid hok; clear hok
    rcases hq : reqOk q with _ | _
    · have HQ := hid hq; clear hq
      go_wp2_with (first
        | (go_at_call 20; go_loud ((with_reducible refine (specReqOk_any _ q w2.heap.size _ (HR2.out.below HB2.out) HB2.out.size).mono ?_); rw [HQ.out]; rintro e w8 ⟨rfl, hb⟩))
        | (go_at_call 18; refine (crOk_any _).mono ?_; rintro e w9 ⟨rfl, rfl⟩))
      go_ret
      exact ⟨rfl, HB1.out.trans ((HB.out.trans (hb.mono HB.out.size)).mono HB1.out.size)⟩
    have HQ := hid hq; clear hq
    obtain ⟨xs, hxs⟩ : ∃ xs, xs = rqBurst r := ⟨_, rfl⟩
    obtain ⟨ys, hys⟩ : ∃ ys, ys = rqBurst q := ⟨_, rfl⟩
    have HXS := hid hxs; have HYS := hid hys
    have hxl : 1 ≤ xs.length := by
      have HRO := (okk_parts.1 HOK.out).2.2.2
      rw [hxs, show (rqBurst r).length = r.many.toNat from burst_lenA (adr_of HRO)]
      obtain ⟨_, _, hm, _⟩ := (adrOk_eq _ _ _).1 (adr_of HRO)
      omega
    clear hxs hys
    go_upto_region 13 with (first
      | (go_at_call 20; go_loud ((with_reducible refine (specReqOk_any _ q w2.heap.size _ (HR2.out.below HB2.out) HB2.out.size).mono ?_); rw [HQ.out]; rintro e w8 ⟨rfl, hbx⟩; have HB := hid (HB.out.trans (hbx.mono HB.out.size)); have HB2 := hid (HB2.out.trans (hbx.mono HB2.out.size)); have HBS := hid (HBS.out.below hbx HBS.out.lt); have ts := HBS.out.lt; obtain ⟨s0, s1⟩ := HBS.out; have HBQ := hid (HBQ.out.below hbx HBQ.out.lt); have tf := HBQ.out.lt; obtain ⟨f0, f1, f2, f3, f4, f5, f6⟩ := HBQ.out; have HBH := hid (HBH.out.below hbx HBH.out.lt); have th := HBH.out.lt; have tph := Nat.lt_of_succ_lt th; obtain ⟨h0, h1, h2, h3, h4, h5, h6⟩ := HBH.out; have HBX := hid (HBX.out.below hbx HBX.out.lt); have tx := HBX.out.lt; obtain ⟨x0, x1⟩ := HBX.out; have HBY := hid (HBY.out.below hbx HBY.out.lt); have ty := HBY.out.lt; obtain ⟨y0, y1, y2⟩ := HBY.out; have HI1 := hid ((HI1.out.below hbx).mono hbx.size); have HI2 := hid ((HI2.out.below hbx).mono hbx.size); have HI3 := hid ((HI3.out.below hbx).mono hbx.size); clear hbx))
      | (go_at_call 26; (with_reducible refine (implBurst_any r.addr r.many r.wrap w8).mono ?_); rintro e w9 ⟨uu, rfl, hu, hbx, hfr⟩; have HU := hid (show Ints w9 w9.heap.size uu xs by rw [HXS.out]; exact hu); clear hu hfr; have HB := hid (HB.out.trans (hbx.mono HB.out.size)); have HB2 := hid (HB2.out.trans (hbx.mono HB2.out.size)); have HBS := hid (HBS.out.below hbx HBS.out.lt); have ts := HBS.out.lt; obtain ⟨s0, s1⟩ := HBS.out; have HBQ := hid (HBQ.out.below hbx HBQ.out.lt); have tf := HBQ.out.lt; obtain ⟨f0, f1, f2, f3, f4, f5, f6⟩ := HBQ.out; have HBH := hid (HBH.out.below hbx HBH.out.lt); have th := HBH.out.lt; have tph := Nat.lt_of_succ_lt th; obtain ⟨h0, h1, h2, h3, h4, h5, h6⟩ := HBH.out; have HBX := hid (HBX.out.below hbx HBX.out.lt); have tx := HBX.out.lt; obtain ⟨x0, x1⟩ := HBX.out; have HBY := hid (HBY.out.below hbx HBY.out.lt); have ty := HBY.out.lt; obtain ⟨y0, y1, y2⟩ := HBY.out; have HI1 := hid ((HI1.out.below hbx).mono hbx.size); have HI2 := hid ((HI2.out.below hbx).mono hbx.size); have HI3 := hid ((HI3.out.below hbx).mono hbx.size); clear hbx)
      | (go_at_call 26; (with_reducible refine (implBurst_any q.addr q.many q.wrap w9).mono ?_); rintro e w10 ⟨uv, rfl, hu, hbx, hfr⟩; have HV := hid (show Ints w10 w10.heap.size uv ys by rw [HYS.out]; exact hu); clear hu hfr; have HB := hid (HB.out.trans (hbx.mono HB.out.size)); have HB2 := hid (HB2.out.trans (hbx.mono HB2.out.size)); have HBS := hid (HBS.out.below hbx HBS.out.lt); have ts := HBS.out.lt; obtain ⟨s0, s1⟩ := HBS.out; have HBQ := hid (HBQ.out.below hbx HBQ.out.lt); have tf := HBQ.out.lt; obtain ⟨f0, f1, f2, f3, f4, f5, f6⟩ := HBQ.out; have HBH := hid (HBH.out.below hbx HBH.out.lt); have th := HBH.out.lt; have tph := Nat.lt_of_succ_lt th; obtain ⟨h0, h1, h2, h3, h4, h5, h6⟩ := HBH.out; have HBX := hid (HBX.out.below hbx HBX.out.lt); have tx := HBX.out.lt; obtain ⟨x0, x1⟩ := HBX.out; have HBY := hid (HBY.out.below hbx HBY.out.lt); have ty := HBY.out.lt; obtain ⟨y0, y1, y2⟩ := HBY.out; have HI1 := hid ((HI1.out.below hbx).mono hbx.size); have HI2 := hid ((HI2.out.below hbx).mono hbx.size); have HI3 := hid ((HI3.out.below hbx).mono hbx.size); have HU := hid ((HU.out.below hbx).mono hbx.size); clear hbx)
      | fail)
    obtain ⟨ua, uc, rfl, _⟩ := HU.out.opened
    have hu2 := HU.out
    obtain ⟨_, _, eo, _, _, _, _, ho⟩ := (hu2).opened
    simp only [Value.slice.injEq, true_and] at eo
    obtain ⟨rfl, rfl⟩ := eo
    obtain ⟨ub, uo, rfl, ubl, ucc⟩ := ho (by omega)
    have UCC := hid ucc
    clear ho ucc
    have HB1W := hid (HB1.out.trans (HB.out.mono HB1.out.size))
    clear hu2
    go_wp2_with fail
    go_loop [19] (fun i => ∃ k : Nat, i = .int .i64 k ∧ k ≤ xs.length ∧ Far (xs.take k) ys) (fun i => xs.length - (intOf i).toNat)
    case atStart => exact ⟨0, rfl, by omega, fun x hx => by simp at hx⟩
    case round =>
    obtain ⟨k, rfl, hkm, hfar⟩ := hrel
    have HFAR := hid hfar; clear hfar
    by_cases hlt : k < xs.length
    · have cu := UCC.out k hlt
      obtain ⟨a, ha⟩ : ∃ a, a = xs.getD k 0 := ⟨_, rfl⟩
      rw [← ha] at cu
      have HA := hid ha; clear ha
      rcases hin : inLst ys a with _ | _
      · have HIN := hid hin; clear hin
        go_wp2_with (first | (go_at_call 27; go_loud ((with_reducible refine (crIn_any _ ys a w10.heap.size _ HV.out).mono ?_); rw [HIN.out]; rintro e wz ⟨rfl, rfl⟩)) | fail)
        go_round
        case rel =>
          refine ⟨k + 1, by go_num, by omega, fun x hx => ?_⟩
          rw [List.take_succ_eq_append_getElem hlt] at hx
          rcases List.mem_append.1 hx with hx | hx
          · exact HFAR.out x hx
          · simp only [List.mem_singleton] at hx
            have : xs[k] = a := by rw [HA.out]; simp [List.getD, hlt]
            rw [hx, this]
            have := HIN.out
            simpa [inLst] using this
        case measure => simp [intOf]; omega
      · have HIN := hid hin; clear hin
        go_wp2_with (first | (go_at_call 27; go_loud ((with_reducible refine (crIn_any _ ys a w10.heap.size _ HV.out).mono ?_); rw [HIN.out]; rintro e wz ⟨rfl, rfl⟩)) | (go_at_call 18; refine (crOk_any _).mono ?_; rintro e w9 ⟨rfl, rfl⟩))
        go_ret
        exact ⟨rfl, HB1W.out⟩
    obtain rfl : k = xs.length := by omega
    have hfar := HFAR.out
    rw [List.take_length, HXS.out, HYS.out] at hfar
    obtain ⟨hwh0, hwh2⟩ : 0 ≤ who ∧ who ≤ 2 := (ok1_of HOK.out).wh
    have hlaw := swap_law HOK.out HQ.out hfar
    rw [← HX.out] at hlaw
    obtain ⟨o, hoe⟩ : ∃ o, o = (who + 1) % 3 := ⟨_, rfl⟩
    rw [← hoe] at hlaw
    obtain ⟨yb, hyb⟩ : ∃ yb, yb = atmDo ms x.1 x.2.1 o q := ⟨_, rfl⟩
    obtain ⟨ud, hud⟩ : ∃ ud, ud = atmDo ms ws hs o q := ⟨_, rfl⟩
    obtain ⟨vc, hvc⟩ : ∃ vc, vc = atmDo ms ud.1 ud.2.1 who r := ⟨_, rfl⟩
    rw [← hyb, ← hud, ← hvc] at hlaw
    obtain ⟨l1, l2, l3, l4⟩ := hlaw
    have HYB := hid hyb
    obtain ⟨a1, a2, a3⟩ := ud
    obtain ⟨b1, b2, b3⟩ := vc
    simp only at l1 l2 l3 l4 hvc
    subst l1 l2 l3 l4
    have HUD := hid hud; have HVC := hid hvc; have HOE := hid hoe
    clear hyb hud hvc HFAR hfar
    go_upto_region 19 with fail
    simp only [← hoe]
    clear hoe
    go_wp2_with (first
      | (go_at_call 21; go_loud ((with_reducible refine (implDo_v mv _ _ ms w10.heap.size x.1 x.2.1 o q w10 ((HM.out.below HB.out).mono HB.out.size) (atmV_of HI1.out HI2.out) ((HR2.out.below HB2.out).mono HB2.out.size) (Nat.le_refl _)).mono ?_); rw [← HYB.out]; rintro e w11 ⟨pwa, pwc, pha, phc, pda, pdc, rfl, i1, i2, i3, hb⟩; have hbx := hb; have HP1 := hid i1; have HP2 := hid i2; have HP3 := hid i3; clear i1 i2 i3 hb; have HB := hid (HB.out.trans (hbx.mono HB.out.size)); have HB2 := hid (HB2.out.trans (hbx.mono HB2.out.size)); have HBS := hid (HBS.out.below hbx HBS.out.lt); have ts := HBS.out.lt; obtain ⟨s0, s1⟩ := HBS.out; have HBQ := hid (HBQ.out.below hbx HBQ.out.lt); have tf := HBQ.out.lt; obtain ⟨f0, f1, f2, f3, f4, f5, f6⟩ := HBQ.out; have HBH := hid (HBH.out.below hbx HBH.out.lt); have th := HBH.out.lt; have tph := Nat.lt_of_succ_lt th; obtain ⟨h0, h1, h2, h3, h4, h5, h6⟩ := HBH.out; have HBX := hid (HBX.out.below hbx HBX.out.lt); have tx := HBX.out.lt; obtain ⟨x0, x1⟩ := HBX.out; have HBY := hid (HBY.out.below hbx HBY.out.lt); have ty := HBY.out.lt; obtain ⟨y0, y1, y2⟩ := HBY.out; have HI1 := hid ((HI1.out.below hbx).mono hbx.size); have HI2 := hid ((HI2.out.below hbx).mono hbx.size); have HI3 := hid ((HI3.out.below hbx).mono hbx.size); clear hbx))
      | (go_at_call 21; go_loud ((with_reducible refine (implDo_v mv _ _ ms w11.heap.size ws hs o q _ (((HM.out.below HB.out).mono HB.out.size).below (two_in w11 _ _)) (((HS.out.below HB.out).mono HB.out.size).below (two_in w11 _ _)) (((HR2.out.below HB2.out).mono HB2.out.size).below (two_in w11 _ _)) (two_in w11 _ _).size).mono ?_); rw [← HUD.out]; rintro e w13 ⟨mwa, mwc, mha, mhc, mda, mdc, rfl, i1, i2, i3, hb⟩; obtain ⟨BP, BB, hbx, hz13⟩ := law_next hb; have HBP := hid BP; have tp := BP.lt; obtain ⟨p0, p1⟩ := BP; have HBB := hid BB; have tb := BB.lt; have tpb := Nat.lt_of_succ_lt tb; obtain ⟨b0, b1, b2⟩ := BB; have HD1 := hid i1; have HD2 := hid i2; have HD3 := hid i3; clear i1 i2 i3 hb; have HB := hid (HB.out.trans (hbx.mono HB.out.size)); have HB2 := hid (HB2.out.trans (hbx.mono HB2.out.size)); have HBS := hid (HBS.out.below hbx HBS.out.lt); have ts := HBS.out.lt; obtain ⟨s0, s1⟩ := HBS.out; have HBQ := hid (HBQ.out.below hbx HBQ.out.lt); have tf := HBQ.out.lt; obtain ⟨f0, f1, f2, f3, f4, f5, f6⟩ := HBQ.out; have HBH := hid (HBH.out.below hbx HBH.out.lt); have th := HBH.out.lt; have tph := Nat.lt_of_succ_lt th; obtain ⟨h0, h1, h2, h3, h4, h5, h6⟩ := HBH.out; have HBX := hid (HBX.out.below hbx HBX.out.lt); have tx := HBX.out.lt; obtain ⟨x0, x1⟩ := HBX.out; have HBY := hid (HBY.out.below hbx HBY.out.lt); have ty := HBY.out.lt; obtain ⟨y0, y1, y2⟩ := HBY.out; have HI1 := hid ((HI1.out.below hbx).mono hbx.size); have HI2 := hid ((HI2.out.below hbx).mono hbx.size); have HI3 := hid ((HI3.out.below hbx).mono hbx.size); have HP1 := hid ((HP1.out.below hbx).mono hbx.size); have HP2 := hid ((HP2.out.below hbx).mono hbx.size); have HP3 := hid ((HP3.out.below hbx).mono hbx.size); clear hbx))
      | (go_at_call 21; go_loud ((with_reducible refine (implDo_v mv _ _ ms w13.heap.size a1 a2 who r _ (((HM.out.below HB.out).mono HB.out.size).below (two_in w13 _ _)) ((atmV_of HD1.out HD2.out).below (two_in w13 _ _)) (((HR.out.below HB.out).mono HB.out.size).below (two_in w13 _ _)) (two_in w13 _ _).size).mono ?_); rw [← HVC.out]; rintro e w15 ⟨kwa, kwc, kha, khc, kda, kdc, rfl, i1, i2, i3, hb⟩; obtain ⟨BM, BN, hbx, hz15⟩ := law_next hb; have HBN := hid BN; have tn := BN.lt; have tpn := Nat.lt_of_succ_lt tn; obtain ⟨n0, n1, n2⟩ := BN; have HK1 := hid i1; have HK2 := hid i2; have HK3 := hid i3; clear i1 i2 i3 hb BM; have HB := hid (HB.out.trans (hbx.mono HB.out.size)); have HB2 := hid (HB2.out.trans (hbx.mono HB2.out.size)); have HBS := hid (HBS.out.below hbx HBS.out.lt); have ts := HBS.out.lt; obtain ⟨s0, s1⟩ := HBS.out; have HBQ := hid (HBQ.out.below hbx HBQ.out.lt); have tf := HBQ.out.lt; obtain ⟨f0, f1, f2, f3, f4, f5, f6⟩ := HBQ.out; have HBH := hid (HBH.out.below hbx HBH.out.lt); have th := HBH.out.lt; have tph := Nat.lt_of_succ_lt th; obtain ⟨h0, h1, h2, h3, h4, h5, h6⟩ := HBH.out; have HBX := hid (HBX.out.below hbx HBX.out.lt); have tx := HBX.out.lt; obtain ⟨x0, x1⟩ := HBX.out; have HBY := hid (HBY.out.below hbx HBY.out.lt); have ty := HBY.out.lt; obtain ⟨y0, y1, y2⟩ := HBY.out; have HBP := hid (HBP.out.below hbx HBP.out.lt); have tp := HBP.out.lt; obtain ⟨p0, p1⟩ := HBP.out; have HBB := hid (HBB.out.below hbx HBB.out.lt); have tb := HBB.out.lt; have tpb := Nat.lt_of_succ_lt tb; obtain ⟨b0, b1, b2⟩ := HBB.out; have HI1 := hid ((HI1.out.below hbx).mono hbx.size); have HI2 := hid ((HI2.out.below hbx).mono hbx.size); have HI3 := hid ((HI3.out.below hbx).mono hbx.size); have HP1 := hid ((HP1.out.below hbx).mono hbx.size); have HP2 := hid ((HP2.out.below hbx).mono hbx.size); have HP3 := hid ((HP3.out.below hbx).mono hbx.size); have HD3 := hid ((HD3.out.below hbx).mono hbx.size); clear hbx))
      | (go_at_call 24; go_loud ((with_reducible refine (crAtm_same yb.1 yb.2.1 _ _ _ _ _ _ _ _ w15.heap.size _ (HP1.out.below (two_in w15 _ _)) (HP2.out.below (two_in w15 _ _)) (HK1.out.below (two_in w15 _ _)) (HK2.out.below (two_in w15 _ _)) (two_in w15 _ _).size).mono ?_); rintro e w17 ⟨rfl, hb⟩; obtain ⟨BV, BC, hbx, hz17⟩ := law_next hb; have HBC := hid BC; have tc := BC.lt; have tpc := Nat.lt_of_succ_lt tc; obtain ⟨c0, c1, c2⟩ := BC; clear hb BV; have HB := hid (HB.out.trans (hbx.mono HB.out.size)); have HB2 := hid (HB2.out.trans (hbx.mono HB2.out.size)); have HBS := hid (HBS.out.below hbx HBS.out.lt); have ts := HBS.out.lt; obtain ⟨s0, s1⟩ := HBS.out; have HBQ := hid (HBQ.out.below hbx HBQ.out.lt); have tf := HBQ.out.lt; obtain ⟨f0, f1, f2, f3, f4, f5, f6⟩ := HBQ.out; have HBH := hid (HBH.out.below hbx HBH.out.lt); have th := HBH.out.lt; have tph := Nat.lt_of_succ_lt th; obtain ⟨h0, h1, h2, h3, h4, h5, h6⟩ := HBH.out; have HBX := hid (HBX.out.below hbx HBX.out.lt); have tx := HBX.out.lt; obtain ⟨x0, x1⟩ := HBX.out; have HBY := hid (HBY.out.below hbx HBY.out.lt); have ty := HBY.out.lt; obtain ⟨y0, y1, y2⟩ := HBY.out; have HBB := hid (HBB.out.below hbx HBB.out.lt); have tb := HBB.out.lt; have tpb := Nat.lt_of_succ_lt tb; obtain ⟨b0, b1, b2⟩ := HBB.out; have HBN := hid (HBN.out.below hbx HBN.out.lt); have tn := HBN.out.lt; have tpn := Nat.lt_of_succ_lt tn; obtain ⟨n0, n1, n2⟩ := HBN.out; have HI1 := hid ((HI1.out.below hbx).mono hbx.size); have HI2 := hid ((HI2.out.below hbx).mono hbx.size); have HI3 := hid ((HI3.out.below hbx).mono hbx.size); have HP3 := hid ((HP3.out.below hbx).mono hbx.size); have HD3 := hid ((HD3.out.below hbx).mono hbx.size); have HK3 := hid ((HK3.out.below hbx).mono hbx.size); clear hbx))
      | (go_at_call 23; go_loud ((with_reducible refine (crRsp_same x.2.2 _ _ _ _ w17.heap.size w17 HI3.out HK3.out (Nat.le_refl _)).mono ?_); rintro e w19 ⟨rfl, hbx⟩; have HB := hid (HB.out.trans (hbx.mono HB.out.size)); have HBB := hid (HBB.out.below hbx HBB.out.lt); have tb := HBB.out.lt; have tpb := Nat.lt_of_succ_lt tb; obtain ⟨b0, b1, b2⟩ := HBB.out; have HBN := hid (HBN.out.below hbx HBN.out.lt); have tn := HBN.out.lt; have tpn := Nat.lt_of_succ_lt tn; obtain ⟨n0, n1, n2⟩ := HBN.out; have HP3 := hid ((HP3.out.below hbx).mono hbx.size); have HD3 := hid ((HD3.out.below hbx).mono hbx.size); clear hbx))
      | (go_at_call 23; go_loud ((with_reducible refine (crRsp_same yb.2.2 _ _ _ _ w19.heap.size w19 HP3.out HD3.out (Nat.le_refl _)).mono ?_); rintro e w21 ⟨rfl, hb⟩; have HB := hid (HB.out.trans (hb.mono HB.out.size)); clear hb))
      | fail)
    go_ret
    exact ⟨rfl, HB1.out.trans (HB.out.mono HB1.out.size)⟩

end Go.Proofs.Ytpjfjccjmbphmaa

namespace Go.Proofs.Ytpjfjccjmbphmaa
open Go.RowKit
open Go.ChangeShapes Go.WideShapes Go.ChangeAt

theorem swap_holds : Rows.FnAtmSwapSaid :=
  OpenClaim.holds_of_wide 11 Try.f11 rfl rfl rfl rfl rfl rfl rfl ⟨rfl, rfl, rfl, rfl, rfl⟩ rfl rfl rfl rfl rfl (by kernel_rfl) Try.func11 (by kernel_rfl)
    (of_decide_eq_true (by kernel_rfl)) (by unfold Func.isWrapper; first | (rw [if_pos (by decide +kernel)]; kernel_rfl) | (rw [if_neg (by decide +kernel)]; exact ⟨rfl, rfl⟩))
    (fun os started H enc _ => code2_lifted started enc 11 Try.f11 Rows.fnAtmSwapSpec rfl (by kernel_rfl) Try.func11
      (ChangeSpec.witness6 (enc := enc) (C := Try.checked) false ⟨#[], #[.slice none 0 0, .slice none 0 0], []⟩ 8 (by kernel_rfl) (by kernel_rfl) (by kernel_rfl) (by kernel_rfl)) Try.params11 rfl (fun _ _ => ⟨rfl, rfl, rfl⟩) (swap_any drawAtmDo_any))
#print axioms swap_holds

end Go.Proofs.Ytpjfjccjmbphmaa
