/-
  For every code the law FnAtmHold returns true, and its argument reads behind the call as it read before.
-/
import Derived.Test.YtpjfjccjmbphmaaJSa3
import Derived.Test.YtpjfjccjmbphmaaKDrA
import Derived.Test.YtpjfjccjmbphmaaJRow
set_option linter.unusedVariables false
set_option linter.unusedSimpArgs false
namespace Go.Proofs.Ytpjfjccjmbphmaa
open Go.RowKit

set_option maxRecDepth 4000 in
set_option maxHeartbeats 8000000 in
theorem hold_any (hdraw : DrawDo) (v : Value) (bs : List Nat) (B : Nat) (w : World) (h : Bytes w B v bs) (hB : B ≤ w.heap.size) :
    Calls Try.prog 8 #[v] w fun e w' => e = .returned (.bool true) ∧ Below w.heap.size w w' := by
  obtain ⟨ao, cap, rfl, hlc, hcap, hln, hni, hr⟩ := h.opened
  clear hr
  by_cases hbig : (1048576 : Int) < (bs.length : Int)
  · go_enter Try.func8, Try.ntmps8
    go_wp2_with fail
    go_ret
    exact ⟨rfl, Below.refl _ _⟩
  · go_enter Try.func8, Try.ntmps8
    go_wp2_with fail
    refine (hdraw _ bs B w h hB).mono ?_
    rintro e w1 ⟨mv, ms, sv, ws, hs, who, rv, r, rfl, hm, hs0, hw0, hw3, hr0, hb1⟩
    have HM := hid hm; have HS := hid hs0; have HR := hid hr0; have HB1 := hid hb1
    have HID := hid (show I64 r.id ∧ I64 r.kind ∧ I64 r.addr ∧ I64 r.many by obtain ⟨_, _, _, _, _, h⟩ := hr0; exact h)
    obtain ⟨wa, wc, ha, hc, rfl, hs1, hs2⟩ := hs0.shape
    obtain ⟨da, dc, la, lc, rfl⟩ := hr0.shape
    have HS1 := hid hs1; have HS2 := hid hs2
    obtain ⟨x, hx⟩ : ∃ x, x = atmDo ms ws hs who r := ⟨_, rfl⟩
    have HX := hid hx; have HSM := hid (show Small x by rw [hx]; exact atmDo_small ..)
    have HCI := hid (fun W hb => implDo_v mv _ _ ms w1.heap.size ws hs who r W (HM.out.below hb) (HS.out.below hb) (HR.out.below hb) hb.size)
    have HCS := hid (fun W hb => specDo_v mv _ _ ms w1.heap.size ws hs who r W (HM.out.below hb) (HS.out.below hb) (HR.out.below hb) hb.size)
    rw [← hx] at HCI HCS
    clear hm hs0 hr0 hb1 hs1 hs2 hx h
    go_upto_region 8 with (first
      | (go_at_call 21; (with_reducible refine (HCI.out _ (two_in w1 _ _)).mono ?_); rintro e w3 ⟨xwa, xwc, xha, xhc, xda, xdc, rfl, i1, i2, i3, hb⟩; obtain ⟨B0, BR, hbx, hz3⟩ := law_open hb; have HB := hid hbx; have HI1 := hid i1; have HI2 := hid i2; have HI3 := hid i3; have HB0 := hid B0; have HBR := hid BR; have t0 := B0.lt; have t1 := BR.lt; obtain ⟨s0, s1⟩ := B0; obtain ⟨f0, f1, f2, f3, f4, f5, f6⟩ := BR; clear i1 i2 i3 hb hbx)
      | (go_at_call 22; refine (HCS.out _ (HB.out.trans ((two_in w3 _ _).mono HB.out.size))).mono ?_; rintro e w5 ⟨ywa, ywc, yha, yhc, yda, ydc, rfl, j1, j2, j3, hb⟩; obtain ⟨BX, BY, hbx, hz5⟩ := law_next hb; have HB0 := hid (HB0.out.below hbx HB0.out.lt); have HBR := hid (HBR.out.below hbx HBR.out.lt); have HB := hid (HB.out.trans (hbx.mono HB.out.size)); have HI1 := hid ((HI1.out.below hbx).mono hbx.size); have HI2 := hid ((HI2.out.below hbx).mono hbx.size); have HI3 := hid ((HI3.out.below hbx).mono hbx.size); have HJ3 := hid j3; have HBX := hid BX; have HBY := hid BY; have t0 := HB0.out.lt; have t1 := HBR.out.lt; obtain ⟨s0, s1⟩ := HB0.out; obtain ⟨f0, f1, f2, f3, f4, f5, f6⟩ := HBR.out; have t2 := BX.lt; have t3 := BY.lt; obtain ⟨x0, x1⟩ := BX; obtain ⟨y0, y1, y2⟩ := BY; clear j1 j2 j3 hb hbx)
      | (go_at_call 23; refine (crRsp_same x.2.2 _ _ _ _ w5.heap.size _ (HI3.out.below (two_in w5 _ _)) (HJ3.out.below (two_in w5 _ _)) (by simp; omega)).mono ?_; rintro e w7 ⟨rfl, hb⟩; obtain ⟨hbx, hz7⟩ := two_below hb; have HB0 := hid (HB0.out.below hbx HB0.out.lt); have HBR := hid (HBR.out.below hbx HBR.out.lt); have HBX := hid (HBX.out.below hbx HBX.out.lt); have HBY := hid (HBY.out.below hbx HBY.out.lt); have HB := hid (HB.out.trans (hbx.mono HB.out.size)); have HI1 := hid ((HI1.out.below hbx).mono hbx.size); have HI2 := hid ((HI2.out.below hbx).mono hbx.size); have HI3 := hid ((HI3.out.below hbx).mono hbx.size); have t0 := HB0.out.lt; have t1 := HBR.out.lt; obtain ⟨s0, s1⟩ := HB0.out; obtain ⟨f0, f1, f2, f3, f4, f5, f6⟩ := HBR.out; have t2 := HBX.out.lt; have t3 := HBY.out.lt; obtain ⟨x0, x1⟩ := HBX.out; obtain ⟨y0, y1, y2⟩ := HBY.out; clear hb hbx)
      | fail)
    rcases hok : atmOkk ms ws hs who r with _ | _
    · have hc0 : (x.2.2.code == 0) = true := by rw [HX.out, atmDo_no hok]; rfl
      have HOK := hid hok; clear hok
      go_wp2_with (first | (go_at_call 18; refine (crOk_any _).mono ?_; rintro e w9 ⟨rfl, rfl⟩))
      go_ret
      exact ⟨rfl, HB1.out.trans (HB.out.mono HB1.out.size)⟩
    · have hc0 : (x.2.2.code == 0) = false := by
        rw [beq_eq_false_iff_ne]; intro e
        rw [HX.out] at e
        rw [code_zero.1 e] at hok; cases hok
      have HOK := hid hok; clear hok
      obtain ⟨hi0, hi1⟩ : 0 ≤ r.id ∧ r.id ≤ 1 := id_of (okk_parts.1 HOK.out).2.2.2
      obtain ⟨hw0, hw2⟩ : 0 ≤ who ∧ who ≤ 2 := (ok1_of HOK.out).wh
      have hl6 : hs.length = 6 := (ok1_of HOK.out).h
      have hx6 : x.2.1.length = 6 := by
        have h := hold_len HOK.out
        rw [← HX.out] at h
        exact (atmOk_parts h).2.1
      have HL6 := hid hl6; have HX6 := hid hx6
      obtain ⟨xs, hxs⟩ : ∃ xs, xs = rqBurst r := ⟨_, rfl⟩
      have HXS := hid hxs
      have HLAW := hid (show ∀ k, k < 6 → x.2.1.getD k 0 = holdWant r who x.2.2.code (hs.getD k 0) k by intro k hk; rw [HX.out]; exact hold_law HOK.out k hk)
      clear hl6 hx6 hxs
      go_upto_region 11 with (first
        | (go_at_call 26; (with_reducible refine (implBurst_any _ _ _ _).mono ?_); rintro e w9 ⟨u, rfl, hu, hbx, hfr⟩; have HU := hid (show Ints w9 w9.heap.size u xs by rw [HXS.out]; exact hu); clear hu hfr; have HB := hid (HB.out.trans (hbx.mono HB.out.size)); have HB0 := hid (HB0.out.below hbx HB0.out.lt); have ts := HB0.out.lt; obtain ⟨s0, s1⟩ := HB0.out; have HBR := hid (HBR.out.below hbx HBR.out.lt); have tf := HBR.out.lt; obtain ⟨f0, f1, f2, f3, f4, f5, f6⟩ := HBR.out; have HBX := hid (HBX.out.below hbx HBX.out.lt); have tx := HBX.out.lt; obtain ⟨x0, x1⟩ := HBX.out; have HBY := hid (HBY.out.below hbx HBY.out.lt); have ty := HBY.out.lt; obtain ⟨y0, y1, y2⟩ := HBY.out; have HI1 := hid ((HI1.out.below hbx).mono hbx.size); have HI2 := hid ((HI2.out.below hbx).mono hbx.size); have HI3 := hid ((HI3.out.below hbx).mono hbx.size); clear hbx)
        | fail)
      have HW9 := hid (show w9 = w9 from rfl)
      go_cut [12] from 15 (fun v wd => v = .bool (wroteB r x.2.2.code) ∧ w9 = wd)
      case first =>
        go_wp2_with fail
        all_goals
          go_meet
          case rel => exact ⟨by congr 1; simp [wroteB, *], rfl⟩
      case rest =>
      obtain ⟨rfl, rfl⟩ := hcut
      obtain ⟨wb, hwb⟩ : ∃ wb, wb = wroteB r x.2.2.code := ⟨_, rfl⟩
      have HWB := hid hwb
      simp only [← hwb]
      clear hwb HW9
      have hs2 := HS2.out.below HB.out
      obtain ⟨_, _, e3, _, _, _, _, hr3⟩ := hs2.opened
      simp only [Value.slice.injEq, true_and] at e3
      obtain ⟨rfl, rfl⟩ := e3
      obtain ⟨sb, so, rfl, hsb, hsc⟩ := hr3 (by rw [HL6.out]; omega)
      obtain ⟨_, _, e4, _, _, _, _, hr4⟩ := HI2.out.opened
      simp only [Value.slice.injEq, true_and] at e4
      obtain ⟨rfl, rfl⟩ := e4
      obtain ⟨xb, xo, rfl, hxb, hxc⟩ := hr4 (by rw [HX6.out]; omega)
      have HSC := hid hsc; have HXC := hid hxc
      clear hs2 hr3 hr4 hsc hxc
      have HB1W := hid (HB1.out.trans (HB.out.mono HB1.out.size))
      go_wp2_with fail
      go_loop [13] (fun i => ∃ k : Nat, k ≤ 6 ∧ i = .int .i64 k) (fun i => 6 - (intOf i).toNat)
      case atStart => exact ⟨0, by omega, rfl⟩
      case round =>
        obtain ⟨k, hk6, rfl⟩ := hrel
        have hl6 := HL6.out
        by_cases hlt : k < 6
        · have c1 := HSC.out k (by omega)
          have c2 := HXC.out k (by rw [HX6.out]; omega)
          obtain ⟨h, hh⟩ : ∃ h, h = hs.getD k 0 := ⟨_, rfl⟩
          rw [← hh] at c1
          have hlw := HLAW.out k hlt
          rw [← hh] at hlw
          rw [hlw] at c2
          have hx6 := HX6.out
          have hkl : k < hs.length := by omega
          have hkx : k < x.2.1.length := by omega
          have HLW := hid hlw; have HHH := hid hh
          clear hlw hh hl6 hx6
          go_upto_region 16 with fail
          go_cut [91] from 86 (fun v wd => v = .bool (wb && inLst xs h) ∧ w9 = wd)
          case first =>
            rcases wb with _ | _
            · go_wp2_with fail
              go_meet
              case rel => exact ⟨rfl, rfl⟩
            · go_wp2_with (go_at_call 27; go_loud ((with_reducible refine (crIn_any _ xs h w9.heap.size _ HU.out).mono ?_); rintro e wa ⟨rfl, rfl⟩))
              go_meet
              case rel => exact ⟨by simp, rfl⟩
          case rest =>
          obtain ⟨rfl, rfl⟩ := hcut
          obtain ⟨h2, hh2⟩ : ∃ h2, h2 = if (wb && inLst xs h) = true then (-1 : Int) else h := ⟨_, rfl⟩
          have HH2 := hid hh2
          go_upto_if 91 with fail
          go_cut [14] from 86 (fun v wd => v = .int .i64 h2 ∧ w9 = wd)
          case first =>
            rcases hb : (wb && inLst xs h) with _ | _
            · rw [hb] at hh2
              have hh3 : h2 = h := by simpa using hh2
              clear hh2 hb
              go_wp2_with fail
              go_meet
              case rel => exact ⟨by rw [hh3], rfl⟩
            · rw [hb] at hh2
              have hh3 : h2 = -1 := by simpa using hh2
              clear hh2 hb
              go_wp2_with fail
              go_meet
              case rel => exact ⟨by rw [hh3], rfl⟩
          case rest =>
          obtain ⟨rfl, rfl⟩ := hcut
          clear hh2
          obtain ⟨g, hg⟩ : ∃ g, g = (r.kind == 3 && x.2.2.code == 2 && ((k : Int) == who * 2 + r.id)) := ⟨_, rfl⟩
          have HG := hid hg
          clear hg
          go_upto_region 18 with fail
          have ew1 : IntKind.i64.wrap (who * 2) = who * 2 := by rw [IntKind.wrap_i64]; omega
          have ew2 : IntKind.i64.wrap (who * 2 + r.id) = who * 2 + r.id := by rw [IntKind.wrap_i64]; omega
          go_cut [108] from 86 (fun v wd => v = .bool g ∧ w9 = wd)
          case first =>
            go_wp2_with fail
            all_goals
              go_meet
              case rel => exact ⟨by rw [HG.out]; congr 1; simp [*], rfl⟩
          case rest =>
          obtain ⟨rfl, rfl⟩ := hcut
          go_upto_if 108 with fail
          obtain ⟨h3, hh3⟩ : ∃ h3, h3 = if g = true then r.addr else h2 := ⟨_, rfl⟩
          have HH3 := hid hh3
          go_cut [14] from 86 (fun v wd => v = .int .i64 h3 ∧ w9 = wd)
          case first =>
            rcases g with _ | _
            · have HH4 := hid (show h3 = h2 by rw [hh3, if_neg (by decide)])
              clear hh3
              go_wp2_with fail
              go_meet
              case rel => exact ⟨by rw [HH4.out], rfl⟩
            · have HH4 := hid (show h3 = r.addr by rw [hh3, if_pos rfl])
              clear hh3
              go_wp2_with fail
              go_meet
              case rel => exact ⟨by rw [HH4.out], rfl⟩
          case rest =>
          obtain ⟨rfl, rfl⟩ := hcut
          have e : holdWant r who x.2.2.code h k = h3 := by
            unfold holdWant
            rw [HH3.out, HG.out, HH2.out, HWB.out, HXS.out]
          rw [e] at c2
          clear e hh3
          go_wp2_with fail
          go_round
          case rel => exact ⟨k + 1, by omega, by go_num⟩
          case measure => simp [intOf]; omega
        · obtain rfl : k = 6 := by omega
          go_wp2_with fail
          go_ret
          exact ⟨rfl, HB1W.out⟩

end Go.Proofs.Ytpjfjccjmbphmaa

namespace Go.Proofs.Ytpjfjccjmbphmaa
open Go.RowKit
open Go.ChangeShapes Go.WideShapes Go.ChangeAt

theorem hold_holds : Rows.FnAtmHoldSaid :=
  OpenClaim.holds_of_wide 8 Try.f8 rfl rfl rfl rfl rfl rfl rfl ⟨rfl, rfl, rfl, rfl, rfl⟩ rfl rfl rfl rfl rfl (by kernel_rfl) Try.func8 (by kernel_rfl)
    (of_decide_eq_true (by kernel_rfl)) (by unfold Func.isWrapper; first | (rw [if_pos (by decide +kernel)]; kernel_rfl) | (rw [if_neg (by decide +kernel)]; exact ⟨rfl, rfl⟩))
    (fun os started H enc _ => code_lifted started enc 8 Try.f8 Rows.fnAtmHoldSpec rfl (by kernel_rfl) Try.func8
      (ChangeSpec.witness6 (enc := enc) (C := Try.checked) false ⟨#[], #[.slice none 0 0], []⟩ 8 (by kernel_rfl) (by kernel_rfl) (by kernel_rfl) (by kernel_rfl)) Try.params8 rfl (fun _ => ⟨rfl, rfl, rfl⟩) (hold_any drawAtmDo_any))
#print axioms hold_holds

end Go.Proofs.Ytpjfjccjmbphmaa
