/-
  For every code the law FnAtmDo returns true, and its argument reads behind the call as it read before.
-/
import Derived.Test.YtpjfjccjmbphmaaKLw6
import Derived.Test.YtpjfjccjmbphmaaKDrA
import Derived.Test.YtpjfjccjmbphmaaKRow
set_option linter.unusedVariables false
set_option linter.unusedSimpArgs false
namespace Go.Proofs.Ytpjfjccjmbphmaa
open Go.RowKit

set_option maxRecDepth 4000 in
set_option maxHeartbeats 8000000 in
theorem atmdo_any (hdraw : DrawDo) (v : Value) (bs : List Nat) (B : Nat) (w : World) (h : Bytes w B v bs) (hB : B ≤ w.heap.size) :
    Calls Try.prog 12 #[v] w fun e w' => e = .returned (.bool true) ∧ Below w.heap.size w w' := by
  obtain ⟨ao, cap, rfl, hlc, hcap, hln, hni, hr⟩ := h.opened
  clear hr
  by_cases hbig : (1048576 : Int) < (bs.length : Int)
  · go_enter Try.func12, Try.ntmps12
    go_wp2_with fail
    go_ret
    exact ⟨rfl, Below.refl _ _⟩
  · go_enter Try.func12, Try.ntmps12
    go_wp2_with fail
    refine (hdraw _ bs B w h hB).mono ?_
    rintro e w1 ⟨mv, ms, sv, ws, hs, who, rv, r, rfl, hm, hs0, hw0, hw3, hr0, hb1⟩
    have HM := hid hm; have HS := hid hs0; have HR := hid hr0; have HB1 := hid hb1
    have HID := hid (show I64 r.id ∧ I64 r.kind ∧ I64 r.addr ∧ I64 r.many by obtain ⟨_, _, _, _, _, h⟩ := hr0; exact h)
    obtain ⟨wa, wc, ha, hc, rfl, hs1, hs2⟩ := hs0.shape
    obtain ⟨da, dc, la, lc, rfl⟩ := hr0.shape
    have HS1 := hid hs1; have HS2 := hid hs2
    obtain ⟨x, hx⟩ : ∃ x, x = atmDo ms ws hs who r := ⟨_, rfl⟩
    have HX := hid hx; have HSM := hid (show Small x by rw [hx]; exact atmDo_small ..)
    have HCI := hid (fun W hb => implDo_v mv _ _ ms w1.heap.size ws hs who r W (HM.out.below hb) (HS.out.below hb) (HR.out.below hb) hb.size)
    have HCS := hid (fun W hb => specDo_v mv _ _ ms w1.heap.size ws hs who r W (HM.out.below hb) (HS.out.below hb) (HR.out.below hb) hb.size)
    rw [← hx] at HCI HCS
    clear hm hs0 hr0 hb1 hs1 hs2 hx h
    go_upto_region 8 with (first
      | (go_at_call 21; (with_reducible refine (HCI.out _ (two_in w1 _ _)).mono ?_); rintro e w3 ⟨xwa, xwc, xha, xhc, xda, xdc, rfl, i1, i2, i3, hb⟩; obtain ⟨B0, BR, hbx, hz3⟩ := law_open hb; have HB := hid hbx; have HI1 := hid i1; have HI2 := hid i2; have HI3 := hid i3; have HB0 := hid B0; have HBR := hid BR; have t0 := B0.lt; have t1 := BR.lt; obtain ⟨s0, s1⟩ := B0; obtain ⟨f0, f1, f2, f3, f4, f5, f6⟩ := BR; clear i1 i2 i3 hb hbx)
      | (go_at_call 22; refine (HCS.out _ (HB.out.trans ((two_in w3 _ _).mono HB.out.size))).mono ?_; rintro e w5 ⟨ywa, ywc, yha, yhc, yda, ydc, rfl, j1, j2, j3, hb⟩; obtain ⟨BX, BY, hbx, hz5⟩ := law_next hb; have HB0 := hid (HB0.out.below hbx HB0.out.lt); have HBR := hid (HBR.out.below hbx HBR.out.lt); have HB := hid (HB.out.trans (hbx.mono HB.out.size)); have HI1 := hid ((HI1.out.below hbx).mono hbx.size); have HI2 := hid ((HI2.out.below hbx).mono hbx.size); have HI3 := hid ((HI3.out.below hbx).mono hbx.size); have HJ1 := hid j1; have HJ2 := hid j2; have HJ3 := hid j3; have HBX := hid BX; have HBY := hid BY; have t0 := HB0.out.lt; have t1 := HBR.out.lt; obtain ⟨s0, s1⟩ := HB0.out; obtain ⟨f0, f1, f2, f3, f4, f5, f6⟩ := HBR.out; have t2 := BX.lt; have t3 := BY.lt; obtain ⟨x0, x1⟩ := BX; obtain ⟨y0, y1, y2⟩ := BY; clear j1 j2 j3 hb hbx)
      | (go_at_call 24; refine (crAtm_same x.1 x.2.1 _ _ _ _ _ _ _ _ w5.heap.size _ (HI1.out.below (two_in w5 _ _)) (HI2.out.below (two_in w5 _ _)) (HJ1.out.below (two_in w5 _ _)) (HJ2.out.below (two_in w5 _ _)) (two_in w5 _ _).size).mono ?_; rintro e w6 ⟨rfl, hb⟩; obtain ⟨_, BW, hbx, hz6⟩ := law_next hb; have HBW := hid BW; have tw := BW.lt; obtain ⟨v0, v1, v2⟩ := BW; have HB0 := hid (HB0.out.below hbx HB0.out.lt); have HBR := hid (HBR.out.below hbx HBR.out.lt); have HBX := hid (HBX.out.below hbx HBX.out.lt); have HBY := hid (HBY.out.below hbx HBY.out.lt); have HB := hid (HB.out.trans (hbx.mono HB.out.size)); have HI1 := hid ((HI1.out.below hbx).mono hbx.size); have HI2 := hid ((HI2.out.below hbx).mono hbx.size); have HI3 := hid ((HI3.out.below hbx).mono hbx.size); have HJ3 := hid ((HJ3.out.below hbx).mono hbx.size); have t0 := HB0.out.lt; have t1 := HBR.out.lt; have t2 := HBX.out.lt; have t3 := HBY.out.lt; obtain ⟨s0, s1⟩ := HB0.out; obtain ⟨f0, f1, f2, f3, f4, f5, f6⟩ := HBR.out; obtain ⟨x0, x1⟩ := HBX.out; obtain ⟨y0, y1, y2⟩ := HBY.out; clear hb hbx)
      | (go_at_call 23; refine (crRsp_same x.2.2 _ _ _ _ w6.heap.size w6 HI3.out HJ3.out (Nat.le_refl _)).mono ?_; rintro e w7 ⟨rfl, hbx⟩; have HB0 := hid (HB0.out.below hbx HB0.out.lt); have HBR := hid (HBR.out.below hbx HBR.out.lt); have HBX := hid (HBX.out.below hbx HBX.out.lt); have HBY := hid (HBY.out.below hbx HBY.out.lt); have HB := hid (HB.out.trans (hbx.mono HB.out.size)); have HI1 := hid ((HI1.out.below hbx).mono hbx.size); have HI2 := hid ((HI2.out.below hbx).mono hbx.size); have HI3 := hid ((HI3.out.below hbx).mono hbx.size); have t0 := HB0.out.lt; have t1 := HBR.out.lt; have t2 := HBX.out.lt; have t3 := HBY.out.lt; obtain ⟨s0, s1⟩ := HB0.out; obtain ⟨f0, f1, f2, f3, f4, f5, f6⟩ := HBR.out; obtain ⟨x0, x1⟩ := HBX.out; obtain ⟨y0, y1, y2⟩ := HBY.out; clear hbx v0 v1 v2 tw)
      | fail)
    have HNO := hid (show atmOkk ms ws hs who r = false → ((x.2.1.length : Int) == 0) = true ∧ (x.2.2.code == 0) = true from fun h => by rw [HX.out, atmDo_no h]; exact ⟨rfl, rfl⟩)
    have hcs : mapOk ms = false ∨ (mapOk ms = true ∧ atmOk ws hs = false) ∨ (mapOk ms = true ∧ atmOk ws hs = true ∧ who < 0) ∨ (mapOk ms = true ∧ atmOk ws hs = true ∧ 0 ≤ who ∧ 3 ≤ who) ∨ (mapOk ms = true ∧ atmOk ws hs = true ∧ 0 ≤ who ∧ who < 3 ∧ reqOk r = false) ∨ (mapOk ms = true ∧ atmOk ws hs = true ∧ 0 ≤ who ∧ who < 3 ∧ reqOk r = true) := by
      rcases h1 : mapOk ms with _ | _
      · exact .inl rfl
      rcases h2 : atmOk ws hs with _ | _
      · exact .inr (.inl ⟨rfl, rfl⟩)
      by_cases h3 : who < 0
      · exact .inr (.inr (.inl ⟨rfl, rfl, h3⟩))
      by_cases h4 : 3 ≤ who
      · exact .inr (.inr (.inr (.inl ⟨rfl, rfl, by omega, h4⟩)))
      rcases h5 : reqOk r with _ | _
      · exact .inr (.inr (.inr (.inr (.inl ⟨rfl, rfl, by omega, by omega, rfl⟩))))
      · exact .inr (.inr (.inr (.inr (.inr ⟨rfl, rfl, by omega, by omega, rfl⟩))))
    rcases hcs with h1 | ⟨h1, h2⟩ | ⟨h1, h2, h3⟩ | ⟨h1, h2, h3, h4⟩ | ⟨h1, h2, h3, h4, h5⟩ | ⟨h1, h2, h3, h4, h5⟩
    · obtain ⟨hx1, hx2⟩ := HNO.out (by unfold atmOkk; rw [h1]; rfl)
      go_wp2_with (first | (go_at_call 30; go_loud ((with_reducible refine (specMapOk_any _ ms w1.heap.size w7 (HM.out.below HB.out) HB.out.size).mono ?_); rw [h1]; rintro e w8 ⟨rfl, hbx⟩; have HB := hid (HB.out.trans (hbx.mono HB.out.size)); have HB0 := hid (HB0.out.below hbx HB0.out.lt); have ts := HB0.out.lt; obtain ⟨s0, s1⟩ := HB0.out; have HBR := hid (HBR.out.below hbx HBR.out.lt); have tf := HBR.out.lt; obtain ⟨f0, f1, f2, f3, f4, f5, f6⟩ := HBR.out; have HBX := hid (HBX.out.below hbx HBX.out.lt); have tx := HBX.out.lt; obtain ⟨x0, x1⟩ := HBX.out; have HBY := hid (HBY.out.below hbx HBY.out.lt); have ty := HBY.out.lt; obtain ⟨y0, y1, y2⟩ := HBY.out; have HI1 := hid ((HI1.out.below hbx).mono hbx.size); have HI2 := hid ((HI2.out.below hbx).mono hbx.size); have HI3 := hid ((HI3.out.below hbx).mono hbx.size); clear hbx)) | (go_at_call 18; refine (crOk_any _).mono ?_; rintro e w9 ⟨rfl, rfl⟩))
      go_ret
      exact ⟨rfl, HB1.out.trans (HB.out.mono HB1.out.size)⟩
    · obtain ⟨hx1, hx2⟩ := HNO.out (by unfold atmOkk; rw [h1, h2]; rfl)
      go_wp2_with (first | (go_at_call 30; go_loud ((with_reducible refine (specMapOk_any _ ms w1.heap.size w7 (HM.out.below HB.out) HB.out.size).mono ?_); rw [h1]; rintro e w8 ⟨rfl, hbx⟩; have HB := hid (HB.out.trans (hbx.mono HB.out.size)); have HB0 := hid (HB0.out.below hbx HB0.out.lt); have ts := HB0.out.lt; obtain ⟨s0, s1⟩ := HB0.out; have HBR := hid (HBR.out.below hbx HBR.out.lt); have tf := HBR.out.lt; obtain ⟨f0, f1, f2, f3, f4, f5, f6⟩ := HBR.out; have HBX := hid (HBX.out.below hbx HBX.out.lt); have tx := HBX.out.lt; obtain ⟨x0, x1⟩ := HBX.out; have HBY := hid (HBY.out.below hbx HBY.out.lt); have ty := HBY.out.lt; obtain ⟨y0, y1, y2⟩ := HBY.out; have HI1 := hid ((HI1.out.below hbx).mono hbx.size); have HI2 := hid ((HI2.out.below hbx).mono hbx.size); have HI3 := hid ((HI3.out.below hbx).mono hbx.size); clear hbx)) | (go_at_call 16; go_loud ((with_reducible refine (specAtmOk_any _ ws hs w1.heap.size w8 (HS.out.below HB.out) HB.out.size).mono ?_); rw [h2]; rintro e w9 ⟨rfl, hbx⟩; have HB := hid (HB.out.trans (hbx.mono HB.out.size)); have HB0 := hid (HB0.out.below hbx HB0.out.lt); have ts := HB0.out.lt; obtain ⟨s0, s1⟩ := HB0.out; have HBR := hid (HBR.out.below hbx HBR.out.lt); have tf := HBR.out.lt; obtain ⟨f0, f1, f2, f3, f4, f5, f6⟩ := HBR.out; have HBX := hid (HBX.out.below hbx HBX.out.lt); have tx := HBX.out.lt; obtain ⟨x0, x1⟩ := HBX.out; have HBY := hid (HBY.out.below hbx HBY.out.lt); have ty := HBY.out.lt; obtain ⟨y0, y1, y2⟩ := HBY.out; have HI1 := hid ((HI1.out.below hbx).mono hbx.size); have HI2 := hid ((HI2.out.below hbx).mono hbx.size); have HI3 := hid ((HI3.out.below hbx).mono hbx.size); clear hbx)) | (go_at_call 18; refine (crOk_any _).mono ?_; rintro e w9 ⟨rfl, rfl⟩))
      go_ret
      exact ⟨rfl, HB1.out.trans (HB.out.mono HB1.out.size)⟩
    · obtain ⟨hx1, hx2⟩ := HNO.out (by unfold atmOkk; rw [h1, h2]; simp [inB]; omega)
      go_wp2_with (first | (go_at_call 30; go_loud ((with_reducible refine (specMapOk_any _ ms w1.heap.size w7 (HM.out.below HB.out) HB.out.size).mono ?_); rw [h1]; rintro e w8 ⟨rfl, hbx⟩; have HB := hid (HB.out.trans (hbx.mono HB.out.size)); have HB0 := hid (HB0.out.below hbx HB0.out.lt); have ts := HB0.out.lt; obtain ⟨s0, s1⟩ := HB0.out; have HBR := hid (HBR.out.below hbx HBR.out.lt); have tf := HBR.out.lt; obtain ⟨f0, f1, f2, f3, f4, f5, f6⟩ := HBR.out; have HBX := hid (HBX.out.below hbx HBX.out.lt); have tx := HBX.out.lt; obtain ⟨x0, x1⟩ := HBX.out; have HBY := hid (HBY.out.below hbx HBY.out.lt); have ty := HBY.out.lt; obtain ⟨y0, y1, y2⟩ := HBY.out; have HI1 := hid ((HI1.out.below hbx).mono hbx.size); have HI2 := hid ((HI2.out.below hbx).mono hbx.size); have HI3 := hid ((HI3.out.below hbx).mono hbx.size); clear hbx)) | (go_at_call 16; go_loud ((with_reducible refine (specAtmOk_any _ ws hs w1.heap.size w8 (HS.out.below HB.out) HB.out.size).mono ?_); rw [h2]; rintro e w9 ⟨rfl, hbx⟩; have HB := hid (HB.out.trans (hbx.mono HB.out.size)); have HB0 := hid (HB0.out.below hbx HB0.out.lt); have ts := HB0.out.lt; obtain ⟨s0, s1⟩ := HB0.out; have HBR := hid (HBR.out.below hbx HBR.out.lt); have tf := HBR.out.lt; obtain ⟨f0, f1, f2, f3, f4, f5, f6⟩ := HBR.out; have HBX := hid (HBX.out.below hbx HBX.out.lt); have tx := HBX.out.lt; obtain ⟨x0, x1⟩ := HBX.out; have HBY := hid (HBY.out.below hbx HBY.out.lt); have ty := HBY.out.lt; obtain ⟨y0, y1, y2⟩ := HBY.out; have HI1 := hid ((HI1.out.below hbx).mono hbx.size); have HI2 := hid ((HI2.out.below hbx).mono hbx.size); have HI3 := hid ((HI3.out.below hbx).mono hbx.size); clear hbx)) | (go_at_call 18; refine (crOk_any _).mono ?_; rintro e w9 ⟨rfl, rfl⟩))
      go_ret
      exact ⟨rfl, HB1.out.trans (HB.out.mono HB1.out.size)⟩
    · obtain ⟨hx1, hx2⟩ := HNO.out (by unfold atmOkk; rw [h1, h2]; simp [inB]; omega)
      have h3' : decide (who < 0) = false := by simpa using h3
      go_wp2_with (first | (go_at_call 30; go_loud ((with_reducible refine (specMapOk_any _ ms w1.heap.size w7 (HM.out.below HB.out) HB.out.size).mono ?_); rw [h1]; rintro e w8 ⟨rfl, hbx⟩; have HB := hid (HB.out.trans (hbx.mono HB.out.size)); have HB0 := hid (HB0.out.below hbx HB0.out.lt); have ts := HB0.out.lt; obtain ⟨s0, s1⟩ := HB0.out; have HBR := hid (HBR.out.below hbx HBR.out.lt); have tf := HBR.out.lt; obtain ⟨f0, f1, f2, f3, f4, f5, f6⟩ := HBR.out; have HBX := hid (HBX.out.below hbx HBX.out.lt); have tx := HBX.out.lt; obtain ⟨x0, x1⟩ := HBX.out; have HBY := hid (HBY.out.below hbx HBY.out.lt); have ty := HBY.out.lt; obtain ⟨y0, y1, y2⟩ := HBY.out; have HI1 := hid ((HI1.out.below hbx).mono hbx.size); have HI2 := hid ((HI2.out.below hbx).mono hbx.size); have HI3 := hid ((HI3.out.below hbx).mono hbx.size); clear hbx)) | (go_at_call 16; go_loud ((with_reducible refine (specAtmOk_any _ ws hs w1.heap.size w8 (HS.out.below HB.out) HB.out.size).mono ?_); rw [h2]; rintro e w9 ⟨rfl, hbx⟩; have HB := hid (HB.out.trans (hbx.mono HB.out.size)); have HB0 := hid (HB0.out.below hbx HB0.out.lt); have ts := HB0.out.lt; obtain ⟨s0, s1⟩ := HB0.out; have HBR := hid (HBR.out.below hbx HBR.out.lt); have tf := HBR.out.lt; obtain ⟨f0, f1, f2, f3, f4, f5, f6⟩ := HBR.out; have HBX := hid (HBX.out.below hbx HBX.out.lt); have tx := HBX.out.lt; obtain ⟨x0, x1⟩ := HBX.out; have HBY := hid (HBY.out.below hbx HBY.out.lt); have ty := HBY.out.lt; obtain ⟨y0, y1, y2⟩ := HBY.out; have HI1 := hid ((HI1.out.below hbx).mono hbx.size); have HI2 := hid ((HI2.out.below hbx).mono hbx.size); have HI3 := hid ((HI3.out.below hbx).mono hbx.size); clear hbx)) | (go_at_call 18; refine (crOk_any _).mono ?_; rintro e w9 ⟨rfl, rfl⟩))
      go_ret
      exact ⟨rfl, HB1.out.trans (HB.out.mono HB1.out.size)⟩
    · obtain ⟨hx1, hx2⟩ := HNO.out (by unfold atmOkk; rw [h1, h2, h5]; simp)
      have h3' : decide (who < 0) = false := by simpa using h3
      have h4' : decide (3 ≤ who) = false := by simp; omega
      go_wp2_with (first | (go_at_call 30; go_loud ((with_reducible refine (specMapOk_any _ ms w1.heap.size w7 (HM.out.below HB.out) HB.out.size).mono ?_); rw [h1]; rintro e w8 ⟨rfl, hbx⟩; have HB := hid (HB.out.trans (hbx.mono HB.out.size)); have HB0 := hid (HB0.out.below hbx HB0.out.lt); have ts := HB0.out.lt; obtain ⟨s0, s1⟩ := HB0.out; have HBR := hid (HBR.out.below hbx HBR.out.lt); have tf := HBR.out.lt; obtain ⟨f0, f1, f2, f3, f4, f5, f6⟩ := HBR.out; have HBX := hid (HBX.out.below hbx HBX.out.lt); have tx := HBX.out.lt; obtain ⟨x0, x1⟩ := HBX.out; have HBY := hid (HBY.out.below hbx HBY.out.lt); have ty := HBY.out.lt; obtain ⟨y0, y1, y2⟩ := HBY.out; have HI1 := hid ((HI1.out.below hbx).mono hbx.size); have HI2 := hid ((HI2.out.below hbx).mono hbx.size); have HI3 := hid ((HI3.out.below hbx).mono hbx.size); clear hbx)) | (go_at_call 16; go_loud ((with_reducible refine (specAtmOk_any _ ws hs w1.heap.size w8 (HS.out.below HB.out) HB.out.size).mono ?_); rw [h2]; rintro e w9 ⟨rfl, hbx⟩; have HB := hid (HB.out.trans (hbx.mono HB.out.size)); have HB0 := hid (HB0.out.below hbx HB0.out.lt); have ts := HB0.out.lt; obtain ⟨s0, s1⟩ := HB0.out; have HBR := hid (HBR.out.below hbx HBR.out.lt); have tf := HBR.out.lt; obtain ⟨f0, f1, f2, f3, f4, f5, f6⟩ := HBR.out; have HBX := hid (HBX.out.below hbx HBX.out.lt); have tx := HBX.out.lt; obtain ⟨x0, x1⟩ := HBX.out; have HBY := hid (HBY.out.below hbx HBY.out.lt); have ty := HBY.out.lt; obtain ⟨y0, y1, y2⟩ := HBY.out; have HI1 := hid ((HI1.out.below hbx).mono hbx.size); have HI2 := hid ((HI2.out.below hbx).mono hbx.size); have HI3 := hid ((HI3.out.below hbx).mono hbx.size); clear hbx)) | (go_at_call 20; go_loud ((with_reducible refine (specReqOk_any _ r w1.heap.size w9 (HR.out.below HB.out) HB.out.size).mono ?_); rw [h5]; rintro e w10 ⟨rfl, hbx⟩; have HB := hid (HB.out.trans (hbx.mono HB.out.size)); have HB0 := hid (HB0.out.below hbx HB0.out.lt); have ts := HB0.out.lt; obtain ⟨s0, s1⟩ := HB0.out; have HBR := hid (HBR.out.below hbx HBR.out.lt); have tf := HBR.out.lt; obtain ⟨f0, f1, f2, f3, f4, f5, f6⟩ := HBR.out; have HBX := hid (HBX.out.below hbx HBX.out.lt); have tx := HBX.out.lt; obtain ⟨x0, x1⟩ := HBX.out; have HBY := hid (HBY.out.below hbx HBY.out.lt); have ty := HBY.out.lt; obtain ⟨y0, y1, y2⟩ := HBY.out; have HI1 := hid ((HI1.out.below hbx).mono hbx.size); have HI2 := hid ((HI2.out.below hbx).mono hbx.size); have HI3 := hid ((HI3.out.below hbx).mono hbx.size); clear hbx)) | (go_at_call 18; refine (crOk_any _).mono ?_; rintro e w9 ⟨rfl, rfl⟩))
      go_ret
      exact ⟨rfl, HB1.out.trans (HB.out.mono HB1.out.size)⟩
    have h3' : decide (who < 0) = false := by simpa using h3
    have h4' : decide (3 ≤ who) = false := by simp; omega
    have HOK := hid (show atmOkk ms ws hs who r = true from okk_parts.2 ⟨h1, h2, by simp [inB]; omega, h5⟩)
    go_upto_region 10 with (first | (go_at_call 30; go_loud ((with_reducible refine (specMapOk_any _ ms w1.heap.size w7 (HM.out.below HB.out) HB.out.size).mono ?_); rw [h1]; rintro e w8 ⟨rfl, hbx⟩; have HB := hid (HB.out.trans (hbx.mono HB.out.size)); have HB0 := hid (HB0.out.below hbx HB0.out.lt); have ts := HB0.out.lt; obtain ⟨s0, s1⟩ := HB0.out; have HBR := hid (HBR.out.below hbx HBR.out.lt); have tf := HBR.out.lt; obtain ⟨f0, f1, f2, f3, f4, f5, f6⟩ := HBR.out; have HBX := hid (HBX.out.below hbx HBX.out.lt); have tx := HBX.out.lt; obtain ⟨x0, x1⟩ := HBX.out; have HBY := hid (HBY.out.below hbx HBY.out.lt); have ty := HBY.out.lt; obtain ⟨y0, y1, y2⟩ := HBY.out; have HI1 := hid ((HI1.out.below hbx).mono hbx.size); have HI2 := hid ((HI2.out.below hbx).mono hbx.size); have HI3 := hid ((HI3.out.below hbx).mono hbx.size); clear hbx)) | (go_at_call 16; go_loud ((with_reducible refine (specAtmOk_any _ ws hs w1.heap.size w8 (HS.out.below HB.out) HB.out.size).mono ?_); rw [h2]; rintro e w9 ⟨rfl, hbx⟩; have HB := hid (HB.out.trans (hbx.mono HB.out.size)); have HB0 := hid (HB0.out.below hbx HB0.out.lt); have ts := HB0.out.lt; obtain ⟨s0, s1⟩ := HB0.out; have HBR := hid (HBR.out.below hbx HBR.out.lt); have tf := HBR.out.lt; obtain ⟨f0, f1, f2, f3, f4, f5, f6⟩ := HBR.out; have HBX := hid (HBX.out.below hbx HBX.out.lt); have tx := HBX.out.lt; obtain ⟨x0, x1⟩ := HBX.out; have HBY := hid (HBY.out.below hbx HBY.out.lt); have ty := HBY.out.lt; obtain ⟨y0, y1, y2⟩ := HBY.out; have HI1 := hid ((HI1.out.below hbx).mono hbx.size); have HI2 := hid ((HI2.out.below hbx).mono hbx.size); have HI3 := hid ((HI3.out.below hbx).mono hbx.size); clear hbx)) | (go_at_call 20; go_loud ((with_reducible refine (specReqOk_any _ r w1.heap.size w9 (HR.out.below HB.out) HB.out.size).mono ?_); rw [h5]; rintro e w10 ⟨rfl, hbx⟩; have HB := hid (HB.out.trans (hbx.mono HB.out.size)); have HB0 := hid (HB0.out.below hbx HB0.out.lt); have ts := HB0.out.lt; obtain ⟨s0, s1⟩ := HB0.out; have HBR := hid (HBR.out.below hbx HBR.out.lt); have tf := HBR.out.lt; obtain ⟨f0, f1, f2, f3, f4, f5, f6⟩ := HBR.out; have HBX := hid (HBX.out.below hbx HBX.out.lt); have tx := HBX.out.lt; obtain ⟨x0, x1⟩ := HBX.out; have HBY := hid (HBY.out.below hbx HBY.out.lt); have ty := HBY.out.lt; obtain ⟨y0, y1, y2⟩ := HBY.out; have HI1 := hid ((HI1.out.below hbx).mono hbx.size); have HI2 := hid ((HI2.out.below hbx).mono hbx.size); have HI3 := hid ((HI3.out.below hbx).mono hbx.size); clear hbx)) | fail)
    clear h1 h2 h5 h3 h4 h3' h4'
    have HXO := hid (show atmOk x.1 x.2.1 = true by rw [HX.out]; exact hold_len HOK.out)
    have hrl := rsp_law HOK.out
    rw [← HX.out] at hrl
    have HRK := hid hrl.1
    have hid2 : (x.2.2.id != r.id) = false := by rw [hrl.2]; simp
    clear hrl
    obtain ⟨xs, hxs⟩ : ∃ xs, xs = rqBurst r := ⟨_, rfl⟩
    have HXS := hid hxs
    clear hxs
    go_upto_region 13 with (first
      | (go_at_call 17; go_loud ((with_reducible refine (implAtmOk_any _ x.1 x.2.1 w10.heap.size w10 (atmV_of HI1.out HI2.out) (Nat.le_refl _)).mono ?_); rw [HXO.out]; rintro e w11 ⟨rfl, hbx⟩; have HB := hid (HB.out.trans (hbx.mono HB.out.size)); have HB0 := hid (HB0.out.below hbx HB0.out.lt); have ts := HB0.out.lt; obtain ⟨s0, s1⟩ := HB0.out; have HBR := hid (HBR.out.below hbx HBR.out.lt); have tf := HBR.out.lt; obtain ⟨f0, f1, f2, f3, f4, f5, f6⟩ := HBR.out; have HBX := hid (HBX.out.below hbx HBX.out.lt); have tx := HBX.out.lt; obtain ⟨x0, x1⟩ := HBX.out; have HBY := hid (HBY.out.below hbx HBY.out.lt); have ty := HBY.out.lt; obtain ⟨y0, y1, y2⟩ := HBY.out; have HI1 := hid ((HI1.out.below hbx).mono hbx.size); have HI2 := hid ((HI2.out.below hbx).mono hbx.size); have HI3 := hid ((HI3.out.below hbx).mono hbx.size); clear hbx))
      | (go_at_call 31; go_loud ((with_reducible refine (implRspOk_yes _ x.2.2 w11.heap.size w11 HI3.out (Nat.le_refl _) HRK.out).mono ?_); rintro e w12 ⟨rfl, hbx⟩; have HB := hid (HB.out.trans (hbx.mono HB.out.size)); have HB0 := hid (HB0.out.below hbx HB0.out.lt); have ts := HB0.out.lt; obtain ⟨s0, s1⟩ := HB0.out; have HBR := hid (HBR.out.below hbx HBR.out.lt); have tf := HBR.out.lt; obtain ⟨f0, f1, f2, f3, f4, f5, f6⟩ := HBR.out; have HBX := hid (HBX.out.below hbx HBX.out.lt); have tx := HBX.out.lt; obtain ⟨x0, x1⟩ := HBX.out; have HBY := hid (HBY.out.below hbx HBY.out.lt); have ty := HBY.out.lt; obtain ⟨y0, y1, y2⟩ := HBY.out; have HI1 := hid ((HI1.out.below hbx).mono hbx.size); have HI2 := hid ((HI2.out.below hbx).mono hbx.size); have HI3 := hid ((HI3.out.below hbx).mono hbx.size); clear hbx))
      | (go_at_call 26; go_loud ((with_reducible refine (implBurst_any _ _ _ w12).mono ?_); rintro e w9 ⟨u, rfl, hu, hbx, hfr⟩; have HU := hid (show Ints w9 w9.heap.size u xs by rw [HXS.out]; exact hu); clear hu hfr; have HB := hid (HB.out.trans (hbx.mono HB.out.size)); have HB0 := hid (HB0.out.below hbx HB0.out.lt); have ts := HB0.out.lt; obtain ⟨s0, s1⟩ := HB0.out; have HBR := hid (HBR.out.below hbx HBR.out.lt); have tf := HBR.out.lt; obtain ⟨f0, f1, f2, f3, f4, f5, f6⟩ := HBR.out; have HBX := hid (HBX.out.below hbx HBX.out.lt); have tx := HBX.out.lt; obtain ⟨x0, x1⟩ := HBX.out; have HBY := hid (HBY.out.below hbx HBY.out.lt); have ty := HBY.out.lt; obtain ⟨y0, y1, y2⟩ := HBY.out; have HI1 := hid ((HI1.out.below hbx).mono hbx.size); have HI2 := hid ((HI2.out.below hbx).mono hbx.size); have HI3 := hid ((HI3.out.below hbx).mono hbx.size); clear hbx))
      | fail)
    go_cut [12] from 18 (fun v wd => v = .bool (wroteB r x.2.2.code) ∧ w9 = wd)
    case first =>
      go_wp2_with fail
      all_goals
        go_meet
        case rel => exact ⟨by congr 1; simp [wroteB, *], rfl⟩
    case rest =>
    obtain ⟨rfl, rfl⟩ := hcut
    have ok1 := ok1_of HOK.out
    obtain ⟨wb, hwb⟩ : ∃ wb, wb = wroteB r x.2.2.code := ⟨_, rfl⟩
    have HWB := hid hwb
    simp only [← hwb]
    clear hwb hid2
    have HWL := hid ok1.l
    have HXL := hid (atmOk_parts HXO.out).1
    have hxl : 1 ≤ xs.length := by
      rw [HXS.out, show (rqBurst r).length = r.many.toNat from burst_lenA ok1.ad]
      obtain ⟨_, _, hm, _⟩ := (adrOk_eq _ _ _).1 ok1.ad
      omega
    have HIN := hid (show ∀ k, k < xs.length → 0 ≤ xs.getD k 0 ∧ xs.getD k 0 ≤ 63 from fun k hk => burst_mem (show xs.getD k 0 ∈ burst r.addr r.many r.wrap by rw [show burst r.addr r.many r.wrap = xs from HXS.out.symm]; exact getD_mem hk))
    have HLAW := hid (show ∀ a, a < 64 → x.1.getD a 0 = wantK r wb (ws.getD a 0) a xs.length by intro a ha; rw [HXS.out, HWB.out, HX.out]; exact words_law HOK.out a ha)
    have HDAT := hid (show wb = true → r.data.length = xs.length ∧ r.lanes.length = xs.length from fun h => by
      have hk : r.kind = 2 ∨ r.kind = 4 := by
        rw [HWB.out] at h
        simp only [wroteB, Bool.or_eq_true, Bool.and_eq_true, beq_iff_eq] at h
        omega
      have := ok1.data hk
      rw [← HXS.out] at this
      exact ⟨this.1, this.2.1⟩)
    have HRDL := hid (show x.2.2.data = if readB r x.2.2.code = true then getAll ws xs else [] by rw [HXS.out, HX.out]; exact data_law HOK.out)
    clear ok1
    have hws := (HS1.out.below HB.out).mono HB.out.size
    obtain ⟨_, _, er, hrd, hrl, _⟩ := (HR.out.below HB.out).mono HB.out.size
    simp at er
    obtain ⟨rfl, rfl⟩ := er
    have HRD := hid hrd; have HRL := hid hrl
    obtain ⟨ua, uc, rfl, _⟩ := HU.out.opened
    have hu2 := HU.out
    have hx1 := HI1.out
    obtain ⟨_, _, eo, _, _, _, _, ho⟩ := (hws).opened
    simp only [Value.slice.injEq, true_and] at eo
    obtain ⟨rfl, rfl⟩ := eo
    obtain ⟨sb, so, rfl, sbl, sc⟩ := ho (by rw [HWL.out]; omega)
    have SC := hid sc
    clear ho sc
    obtain ⟨_, _, eo, _, _, _, _, ho⟩ := (hu2).opened
    simp only [Value.slice.injEq, true_and] at eo
    obtain ⟨rfl, rfl⟩ := eo
    obtain ⟨ub, uo, rfl, ubl, ucc⟩ := ho (by omega)
    have UCC := hid ucc
    clear ho ucc
    obtain ⟨_, _, eo, _, _, _, _, ho⟩ := (hx1).opened
    simp only [Value.slice.injEq, true_and] at eo
    obtain ⟨rfl, rfl⟩ := eo
    obtain ⟨xb, xo, rfl, xbl, xcc⟩ := ho (by rw [HXL.out]; omega)
    have XCC := hid xcc
    clear ho xcc
    have HB1W := hid (HB1.out.trans (HB.out.mono HB1.out.size))
    clear hws hu2 hx1 hrd hrl
    go_wp2_with fail
    go_loopw [13] (fun i wr => ∃ a : Nat, i = .int .i64 a ∧ a ≤ 64 ∧ Drew w9 wr) (fun i _ => 64 - (intOf i).toNat)
    case atStart => exact ⟨0, rfl, by omega, Drew.refl _⟩
    case round =>
    clear s0 s1 f0 f1 f2 f3 f4 f5 f6 x0 x1 y0 y1 y2 ts tf tx ty
    obtain ⟨a, rfl, ha, hdw⟩ := hrel
    have hbr := hdw.below w9.heap.size
    have HDW := hid hdw; clear hdw
    have HBr := hid hbr
    obtain ⟨wo, rfl⟩ : ∃ wo : World, wo = wr := ⟨_, rfl⟩
    by_cases hlt : a < 64
    · obtain ⟨s0, s1⟩ := HB0.out.below hbr HB0.out.lt
      have cs := (hbr.cell (p := ⟨sb, so + a, none⟩) (by exact sbl)).trans (SC.out a (by rw [HWL.out]; exact hlt))
      have hal : a < ws.length := by rw [HWL.out]; exact hlt
      obtain ⟨w00, hw00⟩ : ∃ o, o = ws.getD a 0 := ⟨_, rfl⟩
      have HW00 := hid hw00
      rw [← hw00] at cs
      clear hw00 hbr
      go_wp2_with fail
      go_loopw [14, 15] (fun v i wr => ∃ (k : Nat) (z : Int), i = .int .i64 k ∧ k ≤ xs.length ∧ v = .int .i64 z ∧ z = wantK r wb w00 a k ∧ Drew wo wr) (fun _ i _ => xs.length - (intOf i).toNat)
      case atStart => exact ⟨0, w00, rfl, by omega, rfl, rfl, Drew.refl _⟩
      case round =>
      clear s0 s1 cs
      obtain ⟨k, z, rfl, hkm, rfl, hz, hdi⟩ := hrel
      have HZ := hid hz; have HDI := hid hdi
      have hb2 := (HDW.out.trans hdi).below w9.heap.size
      have HB2 := hid hb2
      obtain ⟨f0, f1, f2, f3, f4, f5, f6⟩ := HBR.out.below hb2 HBR.out.lt
      obtain ⟨x0, x1⟩ := HBX.out.below hb2 HBX.out.lt
      clear hz hdi
      by_cases hkl : k < xs.length
      · have cu := (hb2.cell (p := ⟨ub, uo + k, none⟩) (by exact ubl)).trans (UCC.out k hkl)
        obtain ⟨ak, hak⟩ : ∃ o, o = xs.getD k 0 := ⟨_, rfl⟩
        have HAK := hid hak
        rw [← hak] at cu
        clear hak hb2
        rcases hwb : wb with _ | _
        · go_wp2_with fail
          go_roundw
          case rel => exact ⟨k + 1, z, by go_num, by omega, rfl, by rw [HZ.out, hwb, wantK_no, wantK_no], HDI.out⟩
          case measure => simp [intOf]; omega
        · obtain ⟨hdl, hll⟩ := HDAT.out hwb
          have HWT := hid hwb
          clear hwb
          rcases hea : (ak == (a : Int)) with _ | _
          · have HEA := hid hea
            go_wp2_with fail
            go_roundw
            case rel => exact ⟨k + 1, z, by go_num, by omega, rfl, by rw [HZ.out, HWT.out]; simp only [wantK]; rw [← HXS.out, ← HAK.out, HEA.out]; rfl, HDI.out⟩
            case measure => simp [intOf]; omega
          · have HEA := hid hea
            obtain ⟨_, _, e5, _, _, _, _, ho5⟩ := (HRD.out.below HB2.out).opened
            simp only [Value.slice.injEq, true_and] at e5
            obtain ⟨rfl, rfl⟩ := e5
            obtain ⟨db, dw, rfl, dbl, dcc⟩ := ho5 (by omega)
            obtain ⟨_, _, e6, _, _, _, _, ho6⟩ := (HRL.out.below HB2.out).opened
            simp only [Value.slice.injEq, true_and] at e6
            obtain ⟨rfl, rfl⟩ := e6
            obtain ⟨lb, lw, rfl, lbl, lcc⟩ := ho6 (by omega)
            have cd := dcc k (by omega)
            have cl := lcc k (by omega)
            obtain ⟨dn, hdn⟩ : ∃ o, o = r.data.getD k 0 := ⟨_, rfl⟩
            obtain ⟨ln, hln⟩ : ∃ o, o = r.lanes.getD k 0 := ⟨_, rfl⟩
            rw [← hdn] at cd; rw [← hln] at cl
            obtain ⟨v, hv⟩ : ∃ v, v = wrdPut z dn ln := ⟨_, rfl⟩
            have HWP := hid (fun W => show Calls Try.prog 28 #[.int .i64 z, .int .i64 dn, .int .i64 ln] W fun e w' => e = .returned (.int .i64 v) ∧ W = w' by rw [hv]; exact implWrdPut_any z dn ln W)
            have HV := hid hv; have HDN := hid hdn; have HLN := hid hln
            have hk5 : k < r.data.length := by omega
            have hk6 : k < r.lanes.length := by omega
            clear hv hdn hln dcc lcc ho5 ho6 hdl hll
            go_upto_region 22 with fail
            go_quiet ((go_at_call 28; exact Same.quiet (HWP.out _)))
            go_wp2_with fail
            go_roundw
            case rel => exact ⟨k + 1, v, by go_num, by omega, rfl, by rw [HV.out, HZ.out, HDN.out, HLN.out, HWT.out]; simp only [wantK]; rw [← HXS.out, ← HAK.out, HEA.out]; rfl, HDI.out.trans (Drew.one _ _)⟩
            case measure => simp [intOf]; omega
      · obtain rfl : k = xs.length := by omega
        have cx := (hb2.cell (p := ⟨xb, xo + a, none⟩) (by exact xbl)).trans (XCC.out a (by rw [HXL.out]; exact hlt))
        have hal2 : a < x.1.length := by rw [HXL.out]; exact hlt
        rw [HLAW.out a hlt, ← HW00.out, ← HZ.out] at cx
        clear hb2
        go_wp2_with fail
        go_roundw
        case rel => exact ⟨a + 1, by go_num, by omega, HDW.out.trans HDI.out⟩
        case measure => simp [intOf]; omega
    obtain rfl : a = 64 := by omega
    obtain ⟨s0, s1⟩ := HB0.out.below hbr HB0.out.lt
    obtain ⟨f0, f1, f2, f3, f4, f5, f6⟩ := HBR.out.below hbr HBR.out.lt
    obtain ⟨y0, y1, y2⟩ := HBY.out.below hbr HBY.out.lt
    have HBE := hid (show Below w.heap.size w wo from HB1W.out.trans (hbr.mono (by have := HB.out.size; have := HB1.out.size; omega)))
    go_upto_region 25 with fail
    go_cut [16] from 18 (fun v wd => v = .bool (readB r x.2.2.code) ∧ wo = wd)
    case first =>
      go_wp2_with fail
      all_goals
        go_meet
        case rel => exact ⟨by congr 1; simp [readB, *], rfl⟩
    case rest =>
    obtain ⟨rfl, rfl⟩ := hcut
    obtain ⟨rb, hrb⟩ : ∃ rb, rb = readB r x.2.2.code := ⟨_, rfl⟩
    have HRB := hid hrb
    simp only [← hrb]
    clear hrb
    rcases rb with _ | _
    · have hd0 : ((x.2.2.data.length : Int) == 0) = true := by rw [HRDL.out, ← HRB.out]; rfl
      go_wp2_with fail
      go_ret
      exact ⟨rfl, HBE.out⟩
    have hdl : x.2.2.data.length = xs.length := by rw [HRDL.out, ← HRB.out, if_pos rfl, getAll_len]
    have HDD := hid (show x.2.2.data = getAll ws xs by rw [HRDL.out, ← HRB.out, if_pos rfl])
    have HDL := hid hdl
    have hyy := HI3.out
    obtain ⟨_, _, eo, _, _, _, _, ho⟩ := (hyy).opened
    simp only [Value.slice.injEq, true_and] at eo
    obtain ⟨rfl, rfl⟩ := eo
    obtain ⟨yb, yo, rfl, ybl, ycc⟩ := ho (by rw [HDL.out]; omega)
    have YCC := hid ycc
    clear ho ycc
    clear hyy hdl
    obtain ⟨s0, s1⟩ := HB0.out.below hbr HB0.out.lt
    obtain ⟨y0, y1, y2⟩ := HBY.out.below hbr HBY.out.lt
    go_wp2_with fail
    go_loopw [17] (fun i wr => ∃ k : Nat, i = .int .i64 k ∧ k ≤ xs.length ∧ Drew wo wr) (fun i _ => xs.length - (intOf i).toNat)
    case atStart => exact ⟨0, rfl, by omega, Drew.refl _⟩
    case round =>
    clear s0 s1 f0 f1 f2 f3 f4 f5 f6 y0 y1 y2 hbr
    obtain ⟨k, rfl, hkm, hdi⟩ := hrel
    have HDI := hid hdi
    have hb2 := (HDW.out.trans hdi).below w9.heap.size
    have HDB := hid (hdi.below w.heap.size)
    clear hdi
    obtain ⟨s0, s1⟩ := HB0.out.below hb2 HB0.out.lt
    obtain ⟨y0, y1, y2⟩ := HBY.out.below hb2 HBY.out.lt
    by_cases hkl : k < xs.length
    · obtain ⟨a, hae⟩ := Int.eq_ofNat_of_zero_le (HIN.out k hkl).1
      have ha64 : a < 64 := by have := (HIN.out k hkl).2; omega
      have cu := (hb2.cell (p := ⟨ub, uo + k, none⟩) (by exact ubl)).trans (UCC.out k hkl)
      have cs := (hb2.cell (p := ⟨sb, so + a, none⟩) (by exact sbl)).trans (SC.out a (by rw [HWL.out]; exact ha64))
      have cy := (hb2.cell (p := ⟨yb, yo + k, none⟩) (by exact ybl)).trans (YCC.out k (by rw [HDL.out]; exact hkl))
      rw [HDD.out, getAll_get hkl, hae, show ((a : Int)).toNat = a from rfl] at cy
      rw [hae] at cu
      obtain ⟨o, ho⟩ : ∃ o, o = ws.getD a 0 := ⟨_, rfl⟩
      rw [← ho] at cs cy
      have hal : a < ws.length := by rw [HWL.out]; exact ha64
      have hkd : k < x.2.2.data.length := by rw [HDL.out]; exact hkl
      clear ho hae hb2
      go_upto_region 31 with fail
      go_quiet (fail)
      go_wp2_with fail
      go_roundw
      case rel => exact ⟨k + 1, by go_num, by omega, HDI.out.trans (Drew.one _ _)⟩
      case measure => simp [intOf]; omega
    · obtain rfl : k = xs.length := by omega
      have hd1 : ((x.2.2.data.length : Int) == (xs.length : Int)) = true := by rw [HDL.out]; simp
      clear hb2
      go_wp2_with fail
      go_ret
      exact ⟨rfl, HBE.out.trans HDB.out⟩

end Go.Proofs.Ytpjfjccjmbphmaa

namespace Go.Proofs.Ytpjfjccjmbphmaa
open Go.RowKit
open Go.ChangeShapes Go.WideShapes Go.ChangeAt

theorem atmdo_holds : Rows.FnAtmDoSaid :=
  OpenClaim.holds_of_wide 12 Try.f12 rfl rfl rfl rfl rfl rfl rfl ⟨rfl, rfl, rfl, rfl, rfl⟩ rfl rfl rfl rfl rfl (by kernel_rfl) Try.func12 (by kernel_rfl)
    (of_decide_eq_true (by kernel_rfl)) (by unfold Func.isWrapper; first | (rw [if_pos (by decide +kernel)]; kernel_rfl) | (rw [if_neg (by decide +kernel)]; exact ⟨rfl, rfl⟩))
    (fun os started H enc _ => code_lifted started enc 12 Try.f12 Rows.fnAtmDoSpec rfl (by kernel_rfl) Try.func12
      (ChangeSpec.witness6 (enc := enc) (C := Try.checked) false ⟨#[], #[.slice none 0 0], []⟩ 8 (by kernel_rfl) (by kernel_rfl) (by kernel_rfl) (by kernel_rfl)) Try.params12 rfl (fun _ => ⟨rfl, rfl, rfl⟩) (atmdo_any drawAtmDo_any))
#print axioms atmdo_holds

end Go.Proofs.Ytpjfjccjmbphmaa
