/-
  For every code the law FnAtmWho returns true, and its argument reads behind the call as it read before.
-/
import Derived.Test.YtpjfjccjmbphmaaJSa3
import Derived.Test.YtpjfjccjmbphmaaKDrA
import Derived.Test.YtpjfjccjmbphmaaJRow
set_option linter.unusedVariables false
set_option linter.unusedSimpArgs false
namespace Go.Proofs.Ytpjfjccjmbphmaa
open Go.RowKit

set_option maxRecDepth 4000 in
set_option maxHeartbeats 8000000 in
theorem who_any (hdraw : DrawDo) (v : Value) (bs : List Nat) (B : Nat) (w : World) (h : Bytes w B v bs) (hB : B ≤ w.heap.size) :
    Calls Try.prog 7 #[v] w fun e w' => e = .returned (.bool true) ∧ Below w.heap.size w w' := by
  obtain ⟨ao, cap, rfl, hlc, hcap, hln, hni, hr⟩ := h.opened
  clear hr
  by_cases hbig : (1048576 : Int) < (bs.length : Int)
  · go_enter Try.func7, Try.ntmps7
    go_wp2_with fail
    go_ret
    exact ⟨rfl, Below.refl _ _⟩
  · go_enter Try.func7, Try.ntmps7
    go_wp2_with fail
    refine (hdraw _ bs B w h hB).mono ?_
    rintro e w1 ⟨mv, ms, sv, ws, hs, who, rv, r, rfl, hm, hs0, hw0, hw3, hr0, hb1⟩
    have HM := hid hm; have HS := hid hs0; have HR := hid hr0; have HB1 := hid hb1
    have HID := hid (show I64 r.id ∧ I64 r.kind ∧ I64 r.addr ∧ I64 r.many by obtain ⟨_, _, _, _, _, h⟩ := hr0; exact h)
    obtain ⟨wa, wc, ha, hc, rfl, hs1, hs2⟩ := hs0.shape
    obtain ⟨da, dc, la, lc, rfl⟩ := hr0.shape
    have HS1 := hid hs1; have HS2 := hid hs2
    obtain ⟨x, hx⟩ : ∃ x, x = atmDo ms ws hs who r := ⟨_, rfl⟩
    have HX := hid hx; have HSM := hid (show Small x by rw [hx]; exact atmDo_small ..)
    have HCI := hid (fun W hb => implDo_v mv _ _ ms w1.heap.size ws hs who r W (HM.out.below hb) (HS.out.below hb) (HR.out.below hb) hb.size)
    have HCS := hid (fun W hb => specDo_v mv _ _ ms w1.heap.size ws hs who r W (HM.out.below hb) (HS.out.below hb) (HR.out.below hb) hb.size)
    rw [← hx] at HCI HCS
    clear hm hs0 hr0 hb1 hs1 hs2 hx h
    go_upto_region 8 with (first
      | (go_at_call 21; (with_reducible refine (HCI.out _ (two_in w1 _ _)).mono ?_); rintro e w3 ⟨xwa, xwc, xha, xhc, xda, xdc, rfl, i1, i2, i3, hb⟩; obtain ⟨B0, BR, hbx, hz3⟩ := law_open hb; have HB := hid hbx; have HI1 := hid i1; have HI2 := hid i2; have HI3 := hid i3; have HB0 := hid B0; have HBR := hid BR; have t0 := B0.lt; have t1 := BR.lt; obtain ⟨s0, s1⟩ := B0; obtain ⟨f0, f1, f2, f3, f4, f5, f6⟩ := BR; clear i1 i2 i3 hb hbx)
      | (go_at_call 22; refine (HCS.out _ (HB.out.trans ((two_in w3 _ _).mono HB.out.size))).mono ?_; rintro e w5 ⟨ywa, ywc, yha, yhc, yda, ydc, rfl, j1, j2, j3, hb⟩; obtain ⟨BX, BY, hbx, hz5⟩ := law_next hb; have HB0 := hid (HB0.out.below hbx HB0.out.lt); have HBR := hid (HBR.out.below hbx HBR.out.lt); have HB := hid (HB.out.trans (hbx.mono HB.out.size)); have HI1 := hid ((HI1.out.below hbx).mono hbx.size); have HI2 := hid ((HI2.out.below hbx).mono hbx.size); have HI3 := hid ((HI3.out.below hbx).mono hbx.size); have HJ3 := hid j3; have HBX := hid BX; have HBY := hid BY; have t0 := HB0.out.lt; have t1 := HBR.out.lt; obtain ⟨s0, s1⟩ := HB0.out; obtain ⟨f0, f1, f2, f3, f4, f5, f6⟩ := HBR.out; have t2 := BX.lt; have t3 := BY.lt; obtain ⟨x0, x1⟩ := BX; obtain ⟨y0, y1, y2⟩ := BY; clear j1 j2 j3 hb hbx)
      | (go_at_call 23; refine (crRsp_same x.2.2 _ _ _ _ w5.heap.size _ (HI3.out.below (two_in w5 _ _)) (HJ3.out.below (two_in w5 _ _)) (by simp; omega)).mono ?_; rintro e w7 ⟨rfl, hb⟩; obtain ⟨hbx, hz7⟩ := two_below hb; have HB0 := hid (HB0.out.below hbx HB0.out.lt); have HBR := hid (HBR.out.below hbx HBR.out.lt); have HBX := hid (HBX.out.below hbx HBX.out.lt); have HBY := hid (HBY.out.below hbx HBY.out.lt); have HB := hid (HB.out.trans (hbx.mono HB.out.size)); have HI1 := hid ((HI1.out.below hbx).mono hbx.size); have HI2 := hid ((HI2.out.below hbx).mono hbx.size); have HI3 := hid ((HI3.out.below hbx).mono hbx.size); have t0 := HB0.out.lt; have t1 := HBR.out.lt; obtain ⟨s0, s1⟩ := HB0.out; obtain ⟨f0, f1, f2, f3, f4, f5, f6⟩ := HBR.out; have t2 := HBX.out.lt; have t3 := HBY.out.lt; obtain ⟨x0, x1⟩ := HBX.out; obtain ⟨y0, y1, y2⟩ := HBY.out; clear hb hbx)
      | fail)
    rcases hok : atmOkk ms ws hs who r with _ | _
    · have hc0 : (x.2.2.code == 0) = true := by rw [HX.out, atmDo_no hok]; rfl
      have HOK := hid hok; clear hok
      go_wp2_with (first | (go_at_call 18; refine (crOk_any _).mono ?_; rintro e w9 ⟨rfl, rfl⟩))
      go_ret
      exact ⟨rfl, HB1.out.trans (HB.out.mono HB1.out.size)⟩
    · have hc0 : (x.2.2.code == 0) = false := by
        rw [beq_eq_false_iff_ne]; intro e
        rw [HX.out] at e
        rw [code_zero.1 e] at hok; cases hok
      have HOK := hid hok; clear hok
      obtain ⟨hi0, hi1⟩ : 0 ≤ r.id ∧ r.id ≤ 1 := id_of (okk_parts.1 HOK.out).2.2.2
      obtain ⟨hw0, hw2⟩ : 0 ≤ who ∧ who ≤ 2 := (ok1_of HOK.out).wh
      by_cases hk3 : 3 ≤ r.kind
      · go_wp2_with (first | (go_at_call 18; refine (crOk_any _).mono ?_; rintro e w9 ⟨rfl, rfl⟩))
        go_ret
        exact ⟨rfl, HB1.out.trans (HB.out.mono HB1.out.size)⟩
      · have hq : decide (3 ≤ r.kind) = false := by simpa using hk3
        have HK := hid (show r.kind = 1 ∨ r.kind = 2 by have := kind_of (okk_parts.1 HOK.out).2.2.2; omega)
        clear hk3
        have e1 : IntKind.i64.wrap (1 - r.id) = 1 - r.id := by rw [IntKind.wrap_i64]; omega
        obtain ⟨j, hj⟩ : ∃ j, j = 1 - r.id := ⟨_, rfl⟩
        have HJ := hid hj
        have hj0 : 0 ≤ j := by omega
        have hj1 : j ≤ 1 := by omega
        go_upto_region 12 with fail
        simp only [← hj]
        clear hj e1 hi0 hi1
        have HW := hid (show atmDo ms ws hs ((who + 1) % 3) ⟨j, r.kind, r.addr, r.many, r.wrap, r.data, r.lanes⟩ = (x.1, x.2.1, ⟨j, x.2.2.code, x.2.2.data⟩) by rw [HX.out, HJ.out]; exact who_law HOK.out HK.out)
        go_wp2_with (first
          | (go_at_call 21; go_loud (refine (implDo_v mv _ _ ms w1.heap.size ws hs ((who + 1) % 3) ⟨j, r.kind, r.addr, r.many, r.wrap, r.data, r.lanes⟩ _ (HM.out.below (HB.out.trans ((Below.refl _ _).alloc HB.out.size _))) (HS.out.below (HB.out.trans ((Below.refl _ _).alloc HB.out.size _))) ((HR.out.reid (by unfold I64; omega)).below (HB.out.trans ((Below.refl _ _).alloc HB.out.size _))) (by simp; have := HB.out.size; omega)).mono ?_; rw [HW.out]; rintro e w9 ⟨zwa, zwc, zha, zhc, zda, zdc, rfl, j1, j2, j3, hb⟩; obtain ⟨BZ, hbx, hz9⟩ := law_q hb; have HB := hid (HB.out.trans (hbx.mono HB.out.size)); have HBX := hid (HBX.out.below hbx HBX.out.lt); have HBY := hid (HBY.out.below hbx HBY.out.lt); have HI1 := hid ((HI1.out.below hbx).mono hbx.size); have HI2 := hid ((HI2.out.below hbx).mono hbx.size); have HI3 := hid ((HI3.out.below hbx).mono hbx.size); have HJ1 := hid j1; have HJ2 := hid j2; have HJ3 := hid j3; have t2 := HBX.out.lt; have t3 := HBY.out.lt; have t5 := BZ.lt; obtain ⟨x0, x1⟩ := HBX.out; obtain ⟨y0, y1, y2⟩ := HBY.out; have HBZ := hid BZ; obtain ⟨z0, z1, z2, z3, z4, z5, z6⟩ := BZ; clear j1 j2 j3 hb hbx))
          | (go_at_call 24; go_loud (refine (crAtm_same x.1 x.2.1 _ _ _ _ _ _ _ _ w9.heap.size _ (HI1.out.below (two_in w9 _ _)) (HI2.out.below (two_in w9 _ _)) (HJ1.out.below (two_in w9 _ _)) (HJ2.out.below (two_in w9 _ _)) (by simp; omega)).mono ?_; rintro e w11 ⟨rfl, hb⟩; obtain ⟨BZ2, BU, hbx, hz11⟩ := law_next hb; have HB := hid (HB.out.trans (hbx.mono HB.out.size)); have HBY := hid (HBY.out.below hbx HBY.out.lt); have HBZ := hid (HBZ.out.below hbx HBZ.out.lt); have HI3 := hid ((HI3.out.below hbx).mono hbx.size); have HJ3 := hid ((HJ3.out.below hbx).mono hbx.size); have t3 := HBY.out.lt; have t4 := BU.lt; have t5 := HBZ.out.lt; obtain ⟨y0, y1, y2⟩ := HBY.out; have HBU := hid BU; obtain ⟨u0, u1, u2⟩ := BU; obtain ⟨z0, z1, z2, z3, z4, z5, z6⟩ := HBZ.out; clear BZ2 hb hbx))
          | (go_at_call 25; go_loud (refine (crInts_same _ _ x.2.2.data _ _ _ HJ3.out HI3.out).mono ?_; rintro e w13 ⟨rfl, hd⟩; have hb := hd.below w11.heap.size; have HB := hid (HB.out.trans (hb.mono HB.out.size)); have HBY := hid (HBY.out.below hb HBY.out.lt); have HBU := hid (HBU.out.below hb HBU.out.lt); have HBZ := hid (HBZ.out.below hb HBZ.out.lt); obtain ⟨y0, y1, y2⟩ := HBY.out; obtain ⟨u0, u1, u2⟩ := HBU.out; obtain ⟨z0, z1, z2, z3, z4, z5, z6⟩ := HBZ.out; clear hd hb)))
        go_ret
        exact ⟨rfl, HB1.out.trans (HB.out.mono HB1.out.size)⟩

end Go.Proofs.Ytpjfjccjmbphmaa

namespace Go.Proofs.Ytpjfjccjmbphmaa
open Go.RowKit
open Go.ChangeShapes Go.WideShapes Go.ChangeAt

theorem who_holds : Rows.FnAtmWhoSaid :=
  OpenClaim.holds_of_wide 7 Try.f7 rfl rfl rfl rfl rfl rfl rfl ⟨rfl, rfl, rfl, rfl, rfl⟩ rfl rfl rfl rfl rfl (by kernel_rfl) Try.func7 (by kernel_rfl)
    (of_decide_eq_true (by kernel_rfl)) (by unfold Func.isWrapper; first | (rw [if_pos (by decide +kernel)]; kernel_rfl) | (rw [if_neg (by decide +kernel)]; exact ⟨rfl, rfl⟩))
    (fun os started H enc _ => code_lifted started enc 7 Try.f7 Rows.fnAtmWhoSpec rfl (by kernel_rfl) Try.func7
      (ChangeSpec.witness6 (enc := enc) (C := Try.checked) false ⟨#[], #[.slice none 0 0], []⟩ 8 (by kernel_rfl) (by kernel_rfl) (by kernel_rfl) (by kernel_rfl)) Try.params7 rfl (fun _ => ⟨rfl, rfl, rfl⟩) (who_any drawAtmDo_any))
#print axioms who_holds

end Go.Proofs.Ytpjfjccjmbphmaa
