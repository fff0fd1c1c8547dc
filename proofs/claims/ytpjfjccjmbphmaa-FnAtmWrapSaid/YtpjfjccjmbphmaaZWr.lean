/-
  For every code the law FnAtmWrap returns true, and its argument reads behind the call as it read before.
-/
import Derived.Test.YtpjfjccjmbphmaaJSa3
import Derived.Test.YtpjfjccjmbphmaaKDrA
import Derived.Test.YtpjfjccjmbphmaaJRow
set_option linter.unusedVariables false
set_option linter.unusedSimpArgs false
namespace Go.Proofs.Ytpjfjccjmbphmaa
open Go.RowKit

set_option maxRecDepth 4000 in
set_option maxHeartbeats 8000000 in
theorem wrap_any (hdraw : DrawDo) (v : Value) (bs : List Nat) (B : Nat) (w : World) (h : Bytes w B v bs) (hB : B ≤ w.heap.size) :
    Calls Try.prog 5 #[v] w fun e w' => e = .returned (.bool true) ∧ Below w.heap.size w w' := by
  obtain ⟨ao, cap, rfl, hlc, hcap, hln, hni, hr⟩ := h.opened
  clear hr
  by_cases hbig : (1048576 : Int) < (bs.length : Int)
  · go_enter Try.func5, Try.ntmps5
    go_wp2_with fail
    go_ret
    exact ⟨rfl, Below.refl _ _⟩
  · go_enter Try.func5, Try.ntmps5
    go_wp2_with fail
    refine (hdraw _ bs B w h hB).mono ?_
    rintro e w1 ⟨mv, ms, sv, ws, hs, who, rv, r, rfl, hm, hs0, hw0, hw3, hr0, hb1⟩
    have HM := hid hm; have HS := hid hs0; have HR := hid hr0; have HB1 := hid hb1
    have HID := hid (show I64 r.id ∧ I64 r.kind ∧ I64 r.addr ∧ I64 r.many by obtain ⟨_, _, _, _, _, h⟩ := hr0; exact h)
    obtain ⟨wa, wc, ha, hc, rfl, hs1, hs2⟩ := hs0.shape
    obtain ⟨da, dc, la, lc, rfl⟩ := hr0.shape
    have HS1 := hid hs1; have HS2 := hid hs2
    obtain ⟨x, hx⟩ : ∃ x, x = atmDo ms ws hs who r := ⟨_, rfl⟩
    have HX := hid hx; have HSM := hid (show Small x by rw [hx]; exact atmDo_small ..)
    have HCI := hid (fun W hb => implDo_v mv _ _ ms w1.heap.size ws hs who r W (HM.out.below hb) (HS.out.below hb) (HR.out.below hb) hb.size)
    have HCS := hid (fun W hb => specDo_v mv _ _ ms w1.heap.size ws hs who r W (HM.out.below hb) (HS.out.below hb) (HR.out.below hb) hb.size)
    rw [← hx] at HCI HCS
    clear hm hs0 hr0 hb1 hs1 hs2 hx h
    go_upto_region 8 with (first
      | (go_at_call 21; (with_reducible refine (HCI.out _ (two_in w1 _ _)).mono ?_); rintro e w3 ⟨xwa, xwc, xha, xhc, xda, xdc, rfl, i1, i2, i3, hb⟩; obtain ⟨B0, BR, hbx, hz3⟩ := law_open hb; have HB := hid hbx; have HI1 := hid i1; have HI2 := hid i2; have HI3 := hid i3; have HB0 := hid B0; have HBR := hid BR; have t0 := B0.lt; have t1 := BR.lt; obtain ⟨s0, s1⟩ := B0; obtain ⟨f0, f1, f2, f3, f4, f5, f6⟩ := BR; clear i1 i2 i3 hb hbx)
      | (go_at_call 22; refine (HCS.out _ (HB.out.trans ((two_in w3 _ _).mono HB.out.size))).mono ?_; rintro e w5 ⟨ywa, ywc, yha, yhc, yda, ydc, rfl, j1, j2, j3, hb⟩; obtain ⟨BX, BY, hbx, hz5⟩ := law_next hb; have HB0 := hid (HB0.out.below hbx HB0.out.lt); have HBR := hid (HBR.out.below hbx HBR.out.lt); have HB := hid (HB.out.trans (hbx.mono HB.out.size)); have HI1 := hid ((HI1.out.below hbx).mono hbx.size); have HI2 := hid ((HI2.out.below hbx).mono hbx.size); have HI3 := hid ((HI3.out.below hbx).mono hbx.size); have HJ3 := hid j3; have HBX := hid BX; have HBY := hid BY; have t0 := HB0.out.lt; have t1 := HBR.out.lt; obtain ⟨s0, s1⟩ := HB0.out; obtain ⟨f0, f1, f2, f3, f4, f5, f6⟩ := HBR.out; have t2 := BX.lt; have t3 := BY.lt; obtain ⟨x0, x1⟩ := BX; obtain ⟨y0, y1, y2⟩ := BY; clear j1 j2 j3 hb hbx)
      | (go_at_call 23; refine (crRsp_same x.2.2 _ _ _ _ w5.heap.size _ (HI3.out.below (two_in w5 _ _)) (HJ3.out.below (two_in w5 _ _)) (by simp; omega)).mono ?_; rintro e w7 ⟨rfl, hb⟩; obtain ⟨hbx, hz7⟩ := two_below hb; have HB0 := hid (HB0.out.below hbx HB0.out.lt); have HBR := hid (HBR.out.below hbx HBR.out.lt); have HBX := hid (HBX.out.below hbx HBX.out.lt); have HBY := hid (HBY.out.below hbx HBY.out.lt); have HB := hid (HB.out.trans (hbx.mono HB.out.size)); have HI1 := hid ((HI1.out.below hbx).mono hbx.size); have HI2 := hid ((HI2.out.below hbx).mono hbx.size); have HI3 := hid ((HI3.out.below hbx).mono hbx.size); have t0 := HB0.out.lt; have t1 := HBR.out.lt; obtain ⟨s0, s1⟩ := HB0.out; obtain ⟨f0, f1, f2, f3, f4, f5, f6⟩ := HBR.out; have t2 := HBX.out.lt; have t3 := HBY.out.lt; obtain ⟨x0, x1⟩ := HBX.out; obtain ⟨y0, y1, y2⟩ := HBY.out; clear hb hbx)
      | fail)
    by_cases hc : x.2.2.code = 1
    case neg =>
      have hcb : (x.2.2.code != 1) = true := by simpa using hc
      clear hc
      go_wp2_with (first | (go_at_call 18; refine (crOk_any _).mono ?_; rintro e w9 ⟨rfl, rfl⟩))
      go_ret
      exact ⟨rfl, HB1.out.trans (HB.out.mono HB1.out.size)⟩
    case pos =>
    have hcb : (x.2.2.code != 1) = false := by simpa using hc
    have hok : atmOkk ms ws hs who r = true := by
      rcases h : atmOkk ms ws hs who r with _ | _
      · rw [HX.out, atmDo_no h] at hc; simp at hc
      · rfl
    have HOK := hid hok
    have HC := hid hc
    clear hok hc
    by_cases hk : r.kind = 1
    case neg =>
      have hkb : (r.kind != 1) = true := by simpa using hk
      clear hk
      go_wp2_with (first | (go_at_call 18; refine (crOk_any _).mono ?_; rintro e w9 ⟨rfl, rfl⟩))
      go_ret
      exact ⟨rfl, HB1.out.trans (HB.out.mono HB1.out.size)⟩
    case pos =>
    have hkb : (r.kind != 1) = false := by simpa using hk
    have HK := hid hk
    clear hk
    rcases hwr : r.wrap with _ | _
    · go_wp2_with (first | (go_at_call 18; refine (crOk_any _).mono ?_; rintro e w9 ⟨rfl, rfl⟩))
      go_ret
      exact ⟨rfl, HB1.out.trans (HB.out.mono HB1.out.size)⟩
    · have HWR := hid hwr
      obtain ⟨hi0, hi1⟩ : 0 ≤ r.id ∧ r.id ≤ 1 := id_of (okk_parts.1 HOK.out).2.2.2
      have HRO := hid (okk_parts.1 HOK.out).2.2.2
      obtain ⟨ha0, ha1, hm, _⟩ := (adrOk_eq _ _ _).1 (adr_of HRO.out)
      have hm1 : 1 ≤ r.many := by omega
      have hm4 : r.many ≤ 4 := by omega
      obtain ⟨b, hb0⟩ : ∃ b, b = baseOf r := ⟨_, rfl⟩
      have HBB := hid hb0
      have hbr : 0 ≤ b ∧ b ≤ r.addr ∧ r.addr - b < r.many := by
        rw [hb0]; unfold baseOf
        have h1 := Int.emod_nonneg r.addr (show r.many ≠ 0 by omega); have h2 := Int.emod_lt_of_pos r.addr (show 0 < r.many by omega)
        have h3 : r.addr % r.many ≤ r.addr := by rcases hm with hm | hm | hm <;> rw [hm] <;> omega
        omega
      obtain ⟨hbr0, hbr1, hbr2⟩ := hbr
      obtain ⟨yd, hyd⟩ : ∃ yd, yd = getAll ws (rqBurst (flatOf r)) := ⟨_, rfl⟩
      have HYD := hid hyd
      have hlaw := wrap_law HOK.out HK.out HWR.out (by rw [← HX.out]; exact HC.out)
      have HXD := hid (show x.2.2.data = getAll ws (rqBurst r) by rw [HX.out]; exact hlaw.1)
      have HY := hid (show atmDo ms ws hs who ⟨r.id, 1, b, r.many, false, [], []⟩ = (ws, hs, ⟨r.id, 1, yd⟩) by rw [hyd, hb0]; exact hlaw.2)
      have hl1 : x.2.2.data.length = r.many.toNat := by rw [HXD.out, getAll_len]; exact burst_lenA (adr_of HRO.out)
      have hl2 : yd.length = r.many.toNat := by rw [hyd, getAll_len]; exact burst_lenA (flat_adr HRO.out)
      have HL1 := hid hl1; have HL2 := hid hl2
      have e1 : wrap64 (r.addr - r.addr % r.many) = b := by
        rw [hb0, Go.IntWalk.wrap64_in _ (by have : baseOf r = r.addr - r.addr % r.many := rfl; omega)]
        rfl
      have HQV := hid (fun W => show ReqV W w1.heap.size (.agg #[.int .i64 r.id, .int .i64 1, .int .i64 b, .int .i64 r.many, .bool false, .slice none 0 0, .slice none 0 0]) ⟨r.id, 1, b, r.many, false, [], []⟩ from ⟨_, _, rfl, Ints.nil _ _, Ints.nil _ _, by unfold I64; simp only; omega, by unfold I64; simp only; omega, by unfold I64; simp only; omega, by unfold I64; simp only; omega⟩)
      clear hlaw hyd hb0 hl1 hl2 hm
      go_upto_region 10 with fail
      go_quiet (fail)
      simp only [e1]
      clear e1
      obtain ⟨w8, hw8⟩ : ∃ W, W = w7.drewN nq := ⟨_, rfl⟩
      rw [← hw8]
      have hbx : Below w7.heap.size w7 w8 := by rw [hw8]; exact Below.draws (Below.refl _ _) _
      clear hw8
      have HB := hid (HB.out.trans (hbx.mono HB.out.size))
      have HB0 := hid (HB0.out.below hbx HB0.out.lt)
      have ts := HB0.out.lt
      obtain ⟨s0, s1⟩ := HB0.out
      have HBR := hid (HBR.out.below hbx HBR.out.lt)
      have tf := HBR.out.lt
      obtain ⟨f0, f1, f2, f3, f4, f5, f6⟩ := HBR.out
      have HBX := hid (HBX.out.below hbx HBX.out.lt)
      have tx := HBX.out.lt
      obtain ⟨x0, x1⟩ := HBX.out
      have HBY := hid (HBY.out.below hbx HBY.out.lt)
      have ty := HBY.out.lt
      obtain ⟨y0, y1, y2⟩ := HBY.out
      have HI1 := hid ((HI1.out.below hbx).mono hbx.size)
      have HI2 := hid ((HI2.out.below hbx).mono hbx.size)
      have HI3 := hid ((HI3.out.below hbx).mono hbx.size)
      clear hbx
      go_wp2_with (first
        | (go_at_call 21; go_loud ((with_reducible refine (implDo_v mv _ _ ms w1.heap.size ws hs who ⟨r.id, 1, b, r.many, false, [], []⟩ _ (HM.out.below (HB.out.trans ((Below.refl _ _).alloc HB.out.size _))) (HS.out.below (HB.out.trans ((Below.refl _ _).alloc HB.out.size _))) (HQV.out _) (by simp; have := HB.out.size; omega)).mono ?_); rw [HY.out]; rintro e w9 ⟨zwa, zwc, zha, zhc, zda, zdc, rfl, j1, j2, j3, hb⟩; obtain ⟨BZ, hbx, hz9⟩ := law_q hb; have HJ3 := hid j3; clear j1 j2 j3 hb BZ; have HB := hid (HB.out.trans (hbx.mono HB.out.size)); have HB0 := hid (HB0.out.below hbx HB0.out.lt); have ts := HB0.out.lt; obtain ⟨s0, s1⟩ := HB0.out; have HBR := hid (HBR.out.below hbx HBR.out.lt); have tf := HBR.out.lt; obtain ⟨f0, f1, f2, f3, f4, f5, f6⟩ := HBR.out; have HBX := hid (HBX.out.below hbx HBX.out.lt); have tx := HBX.out.lt; obtain ⟨x0, x1⟩ := HBX.out; have HBY := hid (HBY.out.below hbx HBY.out.lt); have ty := HBY.out.lt; obtain ⟨y0, y1, y2⟩ := HBY.out; have HI1 := hid ((HI1.out.below hbx).mono hbx.size); have HI2 := hid ((HI2.out.below hbx).mono hbx.size); have HI3 := hid ((HI3.out.below hbx).mono hbx.size); clear hbx))
        | fail)
      obtain ⟨W, hW⟩ : ∃ W, W = (w9.alloc (.cells #[.slice zwa ws.length zwc, .slice zha hs.length zhc] 28)).alloc (.cells #[.int .i64 r.id, .int .i64 1, .slice zda yd.length zdc] 42) := ⟨_, rfl⟩
      rw [← hW]
      have hbW : Below w9.heap.size w9 W := by rw [hW]; exact two_in _ _ _
      obtain ⟨u0, u1, u2⟩ : Box3 W (w9.heap.size + 1) (.int .i64 r.id) (.int .i64 1) (.slice zda yd.length zdc) := by rw [hW]; refine ⟨?_, ?_, ?_⟩ <;> simp [go_sem]
      obtain ⟨f0, f1, f2, f3, f4, f5, f6⟩ := HBR.out.below hbW HBR.out.lt
      obtain ⟨y0, y1, y2⟩ := HBY.out.below hbW HBY.out.lt
      have HI3 := hid ((HI3.out.below hbW).mono hbW.size)
      have HJ3 := hid ((HJ3.out.below hbW).mono hbW.size)
      have HB := hid (HB.out.trans (hbW.mono HB.out.size))
      obtain ⟨_, _, e3, _, _, _, _, hr3⟩ := HI3.out.opened
      obtain ⟨_, _, e4, _, _, _, _, hr4⟩ := HJ3.out.opened
      simp only [Value.slice.injEq, true_and] at e3 e4
      obtain ⟨rfl, rfl⟩ := e3
      obtain ⟨rfl, rfl⟩ := e4
      obtain ⟨xb, xo, rfl, hxb, hxc⟩ := hr3 (by rw [HL1.out]; omega)
      obtain ⟨yb, yo, rfl, hyb, hyc⟩ := hr4 (by rw [HL2.out]; omega)
      have HXC := hid hxc; have HYC := hid hyc
      clear hW hbW hxc hyc hr3 hr4 x0 x1 s0 s1 ts tf tx ty
      obtain ⟨m, hmm⟩ := Int.eq_ofNat_of_zero_le (show 0 ≤ r.many by omega)
      have HMM := hid hmm
      have hf3 : W.cell? ⟨w1.heap.size + 1, 3, none⟩ = some (.int .i64 m) := by rw [f3, hmm]
      rw [hmm] at hm1 hm4 hbr2
      have HL1 := hid (show x.2.2.data.length = m by rw [HL1.out, hmm]; rfl); have HL2 := hid (show yd.length = m by rw [HL2.out, hmm]; rfl)
      clear hmm f3
      go_loopw [15] (fun i wr => ∃ k n : Nat, i = .int .i64 k ∧ k ≤ m ∧ wr = W.drewN n) (fun i _ => m - (intOf i).toNat)
      case atStart => exact ⟨0, 0, rfl, by omega, rfl⟩
      case round =>
        obtain ⟨k, n, rfl, hkm, rfl⟩ := hrel
        by_cases hlt : k < m
        · obtain ⟨d, hd⟩ : ∃ d, d = r.addr - b := ⟨_, rfl⟩
          have hd0 : 0 ≤ d := by omega
          have hd3 : d < m := by omega
          obtain ⟨j, hj⟩ := Int.eq_ofNat_of_zero_le (Int.emod_nonneg (d + k) (show (m : Int) ≠ 0 by omega))
          have hjm : j < m := by have := Int.emod_lt_of_pos (d + k) (show (0 : Int) < m by omega); omega
          obtain ⟨v, hv⟩ : ∃ v, v = x.2.2.data.getD k 0 := ⟨_, rfl⟩
          have c1 := HXC.out k (by rw [HL1.out]; exact hlt)
          have c2 := HYC.out j (by rw [HL2.out]; exact hjm)
          have e2 : yd.getD j 0 = v := by
            have hfb := flat_burst HRO.out HWR.out k (by rw [HMM.out]; omega)
            have hlen1 : (rqBurst r).length = m := by rw [← HL1.out, HXD.out, getAll_len]
            have hlen2 : (rqBurst (flatOf r)).length = m := by rw [← HL2.out, HYD.out, getAll_len]
            rw [hv, HXD.out, HYD.out, getAll_get (by omega), getAll_get (by omega), hfb.2.2, ← HBB.out, ← hd, HMM.out, hj]
            rfl
          rw [e2] at c2
          rw [← hv] at c1
          have HV := hid hv; have HJJ := hid hj; have HD := hid hd
          have hkl : k < x.2.2.data.length := by rw [HL1.out]; exact hlt
          have hjl : j < yd.length := by rw [HL2.out]; exact hjm
          clear hv e2
          have w1' : IntKind.i64.wrap (r.addr - b) = d := by rw [IntKind.wrap_i64]; omega
          have w2' : IntKind.i64.wrap (d + (k : Int)) = d + k := by rw [IntKind.wrap_i64]; omega
          have w3' : Int.tmod (d + (k : Int)) (m : Int) = (j : Int) := by rw [Int.tmod_eq_emod_of_nonneg (by omega)]; exact hj
          clear hd hj
          go_upto_region 16 with fail
          go_quiet (fail)
          clear w1' w2' w3'
          go_wp2_with fail
          go_roundw
          case rel => exact ⟨k + 1, _, by go_num, by omega, rfl⟩
          case measure => simp [intOf]; omega
        · obtain rfl : k = m := by omega
          go_wp2_with fail
          go_ret
          exact ⟨rfl, HB1.out.trans ((Below.draws HB.out _).mono HB1.out.size)⟩

end Go.Proofs.Ytpjfjccjmbphmaa

namespace Go.Proofs.Ytpjfjccjmbphmaa
open Go.RowKit
open Go.ChangeShapes Go.WideShapes Go.ChangeAt

theorem wrap_holds : Rows.FnAtmWrapSaid :=
  OpenClaim.holds_of_wide 5 Try.f5 rfl rfl rfl rfl rfl rfl rfl ⟨rfl, rfl, rfl, rfl, rfl⟩ rfl rfl rfl rfl rfl (by kernel_rfl) Try.func5 (by kernel_rfl)
    (of_decide_eq_true (by kernel_rfl)) (by unfold Func.isWrapper; first | (rw [if_pos (by decide +kernel)]; kernel_rfl) | (rw [if_neg (by decide +kernel)]; exact ⟨rfl, rfl⟩))
    (fun os started H enc _ => code_lifted started enc 5 Try.f5 Rows.fnAtmWrapSpec rfl (by kernel_rfl) Try.func5
      (ChangeSpec.witness6 (enc := enc) (C := Try.checked) false ⟨#[], #[.slice none 0 0], []⟩ 8 (by kernel_rfl) (by kernel_rfl) (by kernel_rfl) (by kernel_rfl)) Try.params5 rfl (fun _ => ⟨rfl, rfl, rfl⟩) (wrap_any drawAtmDo_any))
#print axioms wrap_holds

end Go.Proofs.Ytpjfjccjmbphmaa
