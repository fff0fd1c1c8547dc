/-
  For every code the law FnAtmCode returns true, and its argument reads behind the call as it read before.
-/
import Derived.Test.YtpjfjccjmbphmaaKLw7
import Derived.Test.YtpjfjccjmbphmaaKDrA
import Derived.Test.YtpjfjccjmbphmaaKRow
set_option linter.unusedVariables false
set_option linter.unusedSimpArgs false
namespace Go.Proofs.Ytpjfjccjmbphmaa
open Go.RowKit

set_option maxRecDepth 4000 in
set_option maxHeartbeats 8000000 in
theorem code_any (hdraw : DrawDo) (v : Value) (bs : List Nat) (B : Nat) (w : World) (h : Bytes w B v bs) (hB : B ≤ w.heap.size) :
    Calls Try.prog 13 #[v] w fun e w' => e = .returned (.bool true) ∧ Below w.heap.size w w' := by
  obtain ⟨ao, cap, rfl, hlc, hcap, hln, hni, hr⟩ := h.opened
  clear hr
  by_cases hbig : (1048576 : Int) < (bs.length : Int)
  · go_enter Try.func13, Try.ntmps13
    go_wp2_with fail
    go_ret
    exact ⟨rfl, Below.refl _ _⟩
  · go_enter Try.func13, Try.ntmps13
    go_wp2_with fail
    refine (hdraw _ bs B w h hB).mono ?_
    rintro e w1 ⟨mv, ms, sv, ws, hs, who, rv, r, rfl, hm, hs0, hw0, hw3, hr0, hb1⟩
    have HM := hid hm; have HS := hid hs0; have HR := hid hr0; have HB1 := hid hb1
    have HID := hid (show I64 r.id ∧ I64 r.kind ∧ I64 r.addr ∧ I64 r.many by obtain ⟨_, _, _, _, _, h⟩ := hr0; exact h)
    obtain ⟨wa, wc, ha, hc, rfl, hs1, hs2⟩ := hs0.shape
    obtain ⟨da, dc, la, lc, rfl⟩ := hr0.shape
    have HS1 := hid hs1; have HS2 := hid hs2
    obtain ⟨x, hx⟩ : ∃ x, x = atmDo ms ws hs who r := ⟨_, rfl⟩
    have HX := hid hx; have HSM := hid (show Small x by rw [hx]; exact atmDo_small ..)
    have HCI := hid (fun W hb => implDo_v mv _ _ ms w1.heap.size ws hs who r W (HM.out.below hb) (HS.out.below hb) (HR.out.below hb) hb.size)
    have HCS := hid (fun W hb => specDo_v mv _ _ ms w1.heap.size ws hs who r W (HM.out.below hb) (HS.out.below hb) (HR.out.below hb) hb.size)
    rw [← hx] at HCI HCS
    clear hm hs0 hr0 hb1 hs1 hs2 hx h
    go_upto_region 8 with (first
      | (go_at_call 21; (with_reducible refine (HCI.out _ (two_in w1 _ _)).mono ?_); rintro e w3 ⟨xwa, xwc, xha, xhc, xda, xdc, rfl, i1, i2, i3, hb⟩; obtain ⟨B0, BR, hbx, hz3⟩ := law_open hb; have HB := hid hbx; have HI1 := hid i1; have HI2 := hid i2; have HI3 := hid i3; have HB0 := hid B0; have HBR := hid BR; have t0 := B0.lt; have t1 := BR.lt; obtain ⟨s0, s1⟩ := B0; obtain ⟨f0, f1, f2, f3, f4, f5, f6⟩ := BR; clear i1 i2 i3 hb hbx)
      | (go_at_call 22; refine (HCS.out _ (HB.out.trans ((two_in w3 _ _).mono HB.out.size))).mono ?_; rintro e w5 ⟨ywa, ywc, yha, yhc, yda, ydc, rfl, j1, j2, j3, hb⟩; obtain ⟨BX, BY, hbx, hz5⟩ := law_next hb; have HB0 := hid (HB0.out.below hbx HB0.out.lt); have HBR := hid (HBR.out.below hbx HBR.out.lt); have HB := hid (HB.out.trans (hbx.mono HB.out.size)); have HI1 := hid ((HI1.out.below hbx).mono hbx.size); have HI2 := hid ((HI2.out.below hbx).mono hbx.size); have HI3 := hid ((HI3.out.below hbx).mono hbx.size); have HJ3 := hid j3; have HBX := hid BX; have HBY := hid BY; have t0 := HB0.out.lt; have t1 := HBR.out.lt; obtain ⟨s0, s1⟩ := HB0.out; obtain ⟨f0, f1, f2, f3, f4, f5, f6⟩ := HBR.out; have t2 := BX.lt; have t3 := BY.lt; obtain ⟨x0, x1⟩ := BX; obtain ⟨y0, y1, y2⟩ := BY; clear j1 j2 j3 hb hbx)
      | (go_at_call 23; refine (crRsp_same x.2.2 _ _ _ _ w5.heap.size _ (HI3.out.below (two_in w5 _ _)) (HJ3.out.below (two_in w5 _ _)) (by simp; omega)).mono ?_; rintro e w7 ⟨rfl, hb⟩; obtain ⟨hbx, hz7⟩ := two_below hb; have HB0 := hid (HB0.out.below hbx HB0.out.lt); have HBR := hid (HBR.out.below hbx HBR.out.lt); have HBX := hid (HBX.out.below hbx HBX.out.lt); have HBY := hid (HBY.out.below hbx HBY.out.lt); have HB := hid (HB.out.trans (hbx.mono HB.out.size)); have HI1 := hid ((HI1.out.below hbx).mono hbx.size); have HI2 := hid ((HI2.out.below hbx).mono hbx.size); have HI3 := hid ((HI3.out.below hbx).mono hbx.size); have t0 := HB0.out.lt; have t1 := HBR.out.lt; obtain ⟨s0, s1⟩ := HB0.out; obtain ⟨f0, f1, f2, f3, f4, f5, f6⟩ := HBR.out; have t2 := HBX.out.lt; have t3 := HBY.out.lt; obtain ⟨x0, x1⟩ := HBX.out; obtain ⟨y0, y1, y2⟩ := HBY.out; clear hb hbx)
      | fail)
    have hcs : mapOk ms = false ∨ (mapOk ms = true ∧ atmOk ws hs = false) ∨ (mapOk ms = true ∧ atmOk ws hs = true ∧ who < 0) ∨ (mapOk ms = true ∧ atmOk ws hs = true ∧ 0 ≤ who ∧ 3 ≤ who) ∨ (mapOk ms = true ∧ atmOk ws hs = true ∧ 0 ≤ who ∧ who < 3 ∧ reqOk r = false) ∨ (mapOk ms = true ∧ atmOk ws hs = true ∧ 0 ≤ who ∧ who < 3 ∧ reqOk r = true) := by
      rcases h1 : mapOk ms with _ | _
      · exact .inl rfl
      rcases h2 : atmOk ws hs with _ | _
      · exact .inr (.inl ⟨rfl, rfl⟩)
      by_cases h3 : who < 0
      · exact .inr (.inr (.inl ⟨rfl, rfl, h3⟩))
      by_cases h4 : 3 ≤ who
      · exact .inr (.inr (.inr (.inl ⟨rfl, rfl, by omega, h4⟩)))
      rcases h5 : reqOk r with _ | _
      · exact .inr (.inr (.inr (.inr (.inl ⟨rfl, rfl, by omega, by omega, rfl⟩))))
      · exact .inr (.inr (.inr (.inr (.inr ⟨rfl, rfl, by omega, by omega, rfl⟩))))
    rcases hcs with h1 | ⟨h1, h2⟩ | ⟨h1, h2, h3⟩ | ⟨h1, h2, h3, h4⟩ | ⟨h1, h2, h3, h4, h5⟩ | ⟨h1, h2, h3, h4, h5⟩
    · go_wp2_with (first | (go_at_call 30; go_loud ((with_reducible refine (specMapOk_any _ ms w1.heap.size w7 (HM.out.below HB.out) HB.out.size).mono ?_); rw [h1]; rintro e w8 ⟨rfl, hbx⟩; have HB := hid (HB.out.trans (hbx.mono HB.out.size)); have HB0 := hid (HB0.out.below hbx HB0.out.lt); have ts := HB0.out.lt; obtain ⟨s0, s1⟩ := HB0.out; have HBR := hid (HBR.out.below hbx HBR.out.lt); have tf := HBR.out.lt; obtain ⟨f0, f1, f2, f3, f4, f5, f6⟩ := HBR.out; have HBX := hid (HBX.out.below hbx HBX.out.lt); have tx := HBX.out.lt; obtain ⟨x0, x1⟩ := HBX.out; have HBY := hid (HBY.out.below hbx HBY.out.lt); have ty := HBY.out.lt; obtain ⟨y0, y1, y2⟩ := HBY.out; have HI1 := hid ((HI1.out.below hbx).mono hbx.size); have HI2 := hid ((HI2.out.below hbx).mono hbx.size); have HI3 := hid ((HI3.out.below hbx).mono hbx.size); clear hbx)) | (go_at_call 18; refine (crOk_any _).mono ?_; rintro e w9 ⟨rfl, rfl⟩))
      go_ret
      exact ⟨rfl, HB1.out.trans (HB.out.mono HB1.out.size)⟩
    · go_wp2_with (first | (go_at_call 30; go_loud ((with_reducible refine (specMapOk_any _ ms w1.heap.size w7 (HM.out.below HB.out) HB.out.size).mono ?_); rw [h1]; rintro e w8 ⟨rfl, hbx⟩; have HB := hid (HB.out.trans (hbx.mono HB.out.size)); have HB0 := hid (HB0.out.below hbx HB0.out.lt); have ts := HB0.out.lt; obtain ⟨s0, s1⟩ := HB0.out; have HBR := hid (HBR.out.below hbx HBR.out.lt); have tf := HBR.out.lt; obtain ⟨f0, f1, f2, f3, f4, f5, f6⟩ := HBR.out; have HBX := hid (HBX.out.below hbx HBX.out.lt); have tx := HBX.out.lt; obtain ⟨x0, x1⟩ := HBX.out; have HBY := hid (HBY.out.below hbx HBY.out.lt); have ty := HBY.out.lt; obtain ⟨y0, y1, y2⟩ := HBY.out; have HI1 := hid ((HI1.out.below hbx).mono hbx.size); have HI2 := hid ((HI2.out.below hbx).mono hbx.size); have HI3 := hid ((HI3.out.below hbx).mono hbx.size); clear hbx)) | (go_at_call 16; go_loud ((with_reducible refine (specAtmOk_any _ ws hs w1.heap.size w8 (HS.out.below HB.out) HB.out.size).mono ?_); rw [h2]; rintro e w9 ⟨rfl, hbx⟩; have HB := hid (HB.out.trans (hbx.mono HB.out.size)); have HB0 := hid (HB0.out.below hbx HB0.out.lt); have ts := HB0.out.lt; obtain ⟨s0, s1⟩ := HB0.out; have HBR := hid (HBR.out.below hbx HBR.out.lt); have tf := HBR.out.lt; obtain ⟨f0, f1, f2, f3, f4, f5, f6⟩ := HBR.out; have HBX := hid (HBX.out.below hbx HBX.out.lt); have tx := HBX.out.lt; obtain ⟨x0, x1⟩ := HBX.out; have HBY := hid (HBY.out.below hbx HBY.out.lt); have ty := HBY.out.lt; obtain ⟨y0, y1, y2⟩ := HBY.out; have HI1 := hid ((HI1.out.below hbx).mono hbx.size); have HI2 := hid ((HI2.out.below hbx).mono hbx.size); have HI3 := hid ((HI3.out.below hbx).mono hbx.size); clear hbx)) | (go_at_call 18; refine (crOk_any _).mono ?_; rintro e w9 ⟨rfl, rfl⟩))
      go_ret
      exact ⟨rfl, HB1.out.trans (HB.out.mono HB1.out.size)⟩
    · go_wp2_with (first | (go_at_call 30; go_loud ((with_reducible refine (specMapOk_any _ ms w1.heap.size w7 (HM.out.below HB.out) HB.out.size).mono ?_); rw [h1]; rintro e w8 ⟨rfl, hbx⟩; have HB := hid (HB.out.trans (hbx.mono HB.out.size)); have HB0 := hid (HB0.out.below hbx HB0.out.lt); have ts := HB0.out.lt; obtain ⟨s0, s1⟩ := HB0.out; have HBR := hid (HBR.out.below hbx HBR.out.lt); have tf := HBR.out.lt; obtain ⟨f0, f1, f2, f3, f4, f5, f6⟩ := HBR.out; have HBX := hid (HBX.out.below hbx HBX.out.lt); have tx := HBX.out.lt; obtain ⟨x0, x1⟩ := HBX.out; have HBY := hid (HBY.out.below hbx HBY.out.lt); have ty := HBY.out.lt; obtain ⟨y0, y1, y2⟩ := HBY.out; have HI1 := hid ((HI1.out.below hbx).mono hbx.size); have HI2 := hid ((HI2.out.below hbx).mono hbx.size); have HI3 := hid ((HI3.out.below hbx).mono hbx.size); clear hbx)) | (go_at_call 16; go_loud ((with_reducible refine (specAtmOk_any _ ws hs w1.heap.size w8 (HS.out.below HB.out) HB.out.size).mono ?_); rw [h2]; rintro e w9 ⟨rfl, hbx⟩; have HB := hid (HB.out.trans (hbx.mono HB.out.size)); have HB0 := hid (HB0.out.below hbx HB0.out.lt); have ts := HB0.out.lt; obtain ⟨s0, s1⟩ := HB0.out; have HBR := hid (HBR.out.below hbx HBR.out.lt); have tf := HBR.out.lt; obtain ⟨f0, f1, f2, f3, f4, f5, f6⟩ := HBR.out; have HBX := hid (HBX.out.below hbx HBX.out.lt); have tx := HBX.out.lt; obtain ⟨x0, x1⟩ := HBX.out; have HBY := hid (HBY.out.below hbx HBY.out.lt); have ty := HBY.out.lt; obtain ⟨y0, y1, y2⟩ := HBY.out; have HI1 := hid ((HI1.out.below hbx).mono hbx.size); have HI2 := hid ((HI2.out.below hbx).mono hbx.size); have HI3 := hid ((HI3.out.below hbx).mono hbx.size); clear hbx)) | (go_at_call 18; refine (crOk_any _).mono ?_; rintro e w9 ⟨rfl, rfl⟩))
      go_ret
      exact ⟨rfl, HB1.out.trans (HB.out.mono HB1.out.size)⟩
    · have h3' : decide (who < 0) = false := by simpa using h3
      go_wp2_with (first | (go_at_call 30; go_loud ((with_reducible refine (specMapOk_any _ ms w1.heap.size w7 (HM.out.below HB.out) HB.out.size).mono ?_); rw [h1]; rintro e w8 ⟨rfl, hbx⟩; have HB := hid (HB.out.trans (hbx.mono HB.out.size)); have HB0 := hid (HB0.out.below hbx HB0.out.lt); have ts := HB0.out.lt; obtain ⟨s0, s1⟩ := HB0.out; have HBR := hid (HBR.out.below hbx HBR.out.lt); have tf := HBR.out.lt; obtain ⟨f0, f1, f2, f3, f4, f5, f6⟩ := HBR.out; have HBX := hid (HBX.out.below hbx HBX.out.lt); have tx := HBX.out.lt; obtain ⟨x0, x1⟩ := HBX.out; have HBY := hid (HBY.out.below hbx HBY.out.lt); have ty := HBY.out.lt; obtain ⟨y0, y1, y2⟩ := HBY.out; have HI1 := hid ((HI1.out.below hbx).mono hbx.size); have HI2 := hid ((HI2.out.below hbx).mono hbx.size); have HI3 := hid ((HI3.out.below hbx).mono hbx.size); clear hbx)) | (go_at_call 16; go_loud ((with_reducible refine (specAtmOk_any _ ws hs w1.heap.size w8 (HS.out.below HB.out) HB.out.size).mono ?_); rw [h2]; rintro e w9 ⟨rfl, hbx⟩; have HB := hid (HB.out.trans (hbx.mono HB.out.size)); have HB0 := hid (HB0.out.below hbx HB0.out.lt); have ts := HB0.out.lt; obtain ⟨s0, s1⟩ := HB0.out; have HBR := hid (HBR.out.below hbx HBR.out.lt); have tf := HBR.out.lt; obtain ⟨f0, f1, f2, f3, f4, f5, f6⟩ := HBR.out; have HBX := hid (HBX.out.below hbx HBX.out.lt); have tx := HBX.out.lt; obtain ⟨x0, x1⟩ := HBX.out; have HBY := hid (HBY.out.below hbx HBY.out.lt); have ty := HBY.out.lt; obtain ⟨y0, y1, y2⟩ := HBY.out; have HI1 := hid ((HI1.out.below hbx).mono hbx.size); have HI2 := hid ((HI2.out.below hbx).mono hbx.size); have HI3 := hid ((HI3.out.below hbx).mono hbx.size); clear hbx)) | (go_at_call 18; refine (crOk_any _).mono ?_; rintro e w9 ⟨rfl, rfl⟩))
      go_ret
      exact ⟨rfl, HB1.out.trans (HB.out.mono HB1.out.size)⟩
    · have h3' : decide (who < 0) = false := by simpa using h3
      have h4' : decide (3 ≤ who) = false := by simp; omega
      go_wp2_with (first | (go_at_call 30; go_loud ((with_reducible refine (specMapOk_any _ ms w1.heap.size w7 (HM.out.below HB.out) HB.out.size).mono ?_); rw [h1]; rintro e w8 ⟨rfl, hbx⟩; have HB := hid (HB.out.trans (hbx.mono HB.out.size)); have HB0 := hid (HB0.out.below hbx HB0.out.lt); have ts := HB0.out.lt; obtain ⟨s0, s1⟩ := HB0.out; have HBR := hid (HBR.out.below hbx HBR.out.lt); have tf := HBR.out.lt; obtain ⟨f0, f1, f2, f3, f4, f5, f6⟩ := HBR.out; have HBX := hid (HBX.out.below hbx HBX.out.lt); have tx := HBX.out.lt; obtain ⟨x0, x1⟩ := HBX.out; have HBY := hid (HBY.out.below hbx HBY.out.lt); have ty := HBY.out.lt; obtain ⟨y0, y1, y2⟩ := HBY.out; have HI1 := hid ((HI1.out.below hbx).mono hbx.size); have HI2 := hid ((HI2.out.below hbx).mono hbx.size); have HI3 := hid ((HI3.out.below hbx).mono hbx.size); clear hbx)) | (go_at_call 16; go_loud ((with_reducible refine (specAtmOk_any _ ws hs w1.heap.size w8 (HS.out.below HB.out) HB.out.size).mono ?_); rw [h2]; rintro e w9 ⟨rfl, hbx⟩; have HB := hid (HB.out.trans (hbx.mono HB.out.size)); have HB0 := hid (HB0.out.below hbx HB0.out.lt); have ts := HB0.out.lt; obtain ⟨s0, s1⟩ := HB0.out; have HBR := hid (HBR.out.below hbx HBR.out.lt); have tf := HBR.out.lt; obtain ⟨f0, f1, f2, f3, f4, f5, f6⟩ := HBR.out; have HBX := hid (HBX.out.below hbx HBX.out.lt); have tx := HBX.out.lt; obtain ⟨x0, x1⟩ := HBX.out; have HBY := hid (HBY.out.below hbx HBY.out.lt); have ty := HBY.out.lt; obtain ⟨y0, y1, y2⟩ := HBY.out; have HI1 := hid ((HI1.out.below hbx).mono hbx.size); have HI2 := hid ((HI2.out.below hbx).mono hbx.size); have HI3 := hid ((HI3.out.below hbx).mono hbx.size); clear hbx)) | (go_at_call 20; go_loud ((with_reducible refine (specReqOk_any _ r w1.heap.size w9 (HR.out.below HB.out) HB.out.size).mono ?_); rw [h5]; rintro e w10 ⟨rfl, hbx⟩; have HB := hid (HB.out.trans (hbx.mono HB.out.size)); have HB0 := hid (HB0.out.below hbx HB0.out.lt); have ts := HB0.out.lt; obtain ⟨s0, s1⟩ := HB0.out; have HBR := hid (HBR.out.below hbx HBR.out.lt); have tf := HBR.out.lt; obtain ⟨f0, f1, f2, f3, f4, f5, f6⟩ := HBR.out; have HBX := hid (HBX.out.below hbx HBX.out.lt); have tx := HBX.out.lt; obtain ⟨x0, x1⟩ := HBX.out; have HBY := hid (HBY.out.below hbx HBY.out.lt); have ty := HBY.out.lt; obtain ⟨y0, y1, y2⟩ := HBY.out; have HI1 := hid ((HI1.out.below hbx).mono hbx.size); have HI2 := hid ((HI2.out.below hbx).mono hbx.size); have HI3 := hid ((HI3.out.below hbx).mono hbx.size); clear hbx)) | (go_at_call 18; refine (crOk_any _).mono ?_; rintro e w9 ⟨rfl, rfl⟩))
      go_ret
      exact ⟨rfl, HB1.out.trans (HB.out.mono HB1.out.size)⟩
    have h3' : decide (who < 0) = false := by simpa using h3
    have h4' : decide (3 ≤ who) = false := by simp; omega
    have HOK := hid (show atmOkk ms ws hs who r = true from okk_parts.2 ⟨h1, h2, by simp [inB]; omega, h5⟩)
    have H15 := hid (show (mapOk ms && reqOk r) = true by rw [h1, h5]; rfl)
    go_upto_region 10 with (first | (go_at_call 30; go_loud ((with_reducible refine (specMapOk_any _ ms w1.heap.size w7 (HM.out.below HB.out) HB.out.size).mono ?_); rw [h1]; rintro e w8 ⟨rfl, hbx⟩; have HB := hid (HB.out.trans (hbx.mono HB.out.size)); have HB0 := hid (HB0.out.below hbx HB0.out.lt); have ts := HB0.out.lt; obtain ⟨s0, s1⟩ := HB0.out; have HBR := hid (HBR.out.below hbx HBR.out.lt); have tf := HBR.out.lt; obtain ⟨f0, f1, f2, f3, f4, f5, f6⟩ := HBR.out; have HBX := hid (HBX.out.below hbx HBX.out.lt); have tx := HBX.out.lt; obtain ⟨x0, x1⟩ := HBX.out; have HBY := hid (HBY.out.below hbx HBY.out.lt); have ty := HBY.out.lt; obtain ⟨y0, y1, y2⟩ := HBY.out; have HI1 := hid ((HI1.out.below hbx).mono hbx.size); have HI2 := hid ((HI2.out.below hbx).mono hbx.size); have HI3 := hid ((HI3.out.below hbx).mono hbx.size); clear hbx)) | (go_at_call 16; go_loud ((with_reducible refine (specAtmOk_any _ ws hs w1.heap.size w8 (HS.out.below HB.out) HB.out.size).mono ?_); rw [h2]; rintro e w9 ⟨rfl, hbx⟩; have HB := hid (HB.out.trans (hbx.mono HB.out.size)); have HB0 := hid (HB0.out.below hbx HB0.out.lt); have ts := HB0.out.lt; obtain ⟨s0, s1⟩ := HB0.out; have HBR := hid (HBR.out.below hbx HBR.out.lt); have tf := HBR.out.lt; obtain ⟨f0, f1, f2, f3, f4, f5, f6⟩ := HBR.out; have HBX := hid (HBX.out.below hbx HBX.out.lt); have tx := HBX.out.lt; obtain ⟨x0, x1⟩ := HBX.out; have HBY := hid (HBY.out.below hbx HBY.out.lt); have ty := HBY.out.lt; obtain ⟨y0, y1, y2⟩ := HBY.out; have HI1 := hid ((HI1.out.below hbx).mono hbx.size); have HI2 := hid ((HI2.out.below hbx).mono hbx.size); have HI3 := hid ((HI3.out.below hbx).mono hbx.size); clear hbx)) | (go_at_call 20; go_loud ((with_reducible refine (specReqOk_any _ r w1.heap.size w9 (HR.out.below HB.out) HB.out.size).mono ?_); rw [h5]; rintro e w10 ⟨rfl, hbx⟩; have HB := hid (HB.out.trans (hbx.mono HB.out.size)); have HB0 := hid (HB0.out.below hbx HB0.out.lt); have ts := HB0.out.lt; obtain ⟨s0, s1⟩ := HB0.out; have HBR := hid (HBR.out.below hbx HBR.out.lt); have tf := HBR.out.lt; obtain ⟨f0, f1, f2, f3, f4, f5, f6⟩ := HBR.out; have HBX := hid (HBX.out.below hbx HBX.out.lt); have tx := HBX.out.lt; obtain ⟨x0, x1⟩ := HBX.out; have HBY := hid (HBY.out.below hbx HBY.out.lt); have ty := HBY.out.lt; obtain ⟨y0, y1, y2⟩ := HBY.out; have HI1 := hid ((HI1.out.below hbx).mono hbx.size); have HI2 := hid ((HI2.out.below hbx).mono hbx.size); have HI3 := hid ((HI3.out.below hbx).mono hbx.size); clear hbx)) | fail)
    have HLAW := hid (show x.2.2.code = if slaveOf ms r = 3 then 4 else codeWant ms hs who r by rw [HX.out]; exact code_law HOK.out)
    clear h1 h2 h5
    obtain ⟨sl, hsl⟩ : ∃ sl, sl = slaveOf ms r := ⟨_, rfl⟩
    have HSL := hid hsl
    have SLA := hid (fun W (hm : Maps W w10.heap.size mv ms) (hu : ReqV W w10.heap.size (.agg #[.int .i64 r.id, .int .i64 r.kind, .int .i64 r.addr, .int .i64 r.many, .bool r.wrap, .slice da r.data.length dc, .slice la r.lanes.length lc]) r) (hB : w10.heap.size ≤ W.heap.size) => show Calls Try.prog 32 #[mv, .agg #[.int .i64 r.id, .int .i64 r.kind, .int .i64 r.addr, .int .i64 r.many, .bool r.wrap, .slice da r.data.length dc, .slice la r.lanes.length lc]] W fun e w' => e = .returned (.int .i64 sl) ∧ Below W.heap.size W w' from by
      have h := implReqSlave_any mv _ ms r w10.heap.size W hm hu hB
      rw [if_pos H15.out, ← hsl] at h
      exact h)
    clear hsl
    by_cases h3s : sl = 3
    · have h3b : (sl == 3) = true := by simp [h3s]
      have hc4 : (x.2.2.code == 4) = true := by rw [HLAW.out, ← HSL.out, if_pos h3s]; rfl
      clear h3s
      go_wp2_with (first | (go_at_call 32; go_loud ((with_reducible refine (SLA.out w10 ((HM.out.below HB.out).mono HB.out.size) ((HR.out.below HB.out).mono HB.out.size) (Nat.le_refl _)).mono ?_); rintro e w11 ⟨rfl, hbx⟩; have HB := hid (HB.out.trans (hbx.mono HB.out.size)); have HB0 := hid (HB0.out.below hbx HB0.out.lt); have ts := HB0.out.lt; obtain ⟨s0, s1⟩ := HB0.out; have HBR := hid (HBR.out.below hbx HBR.out.lt); have tf := HBR.out.lt; obtain ⟨f0, f1, f2, f3, f4, f5, f6⟩ := HBR.out; have HBX := hid (HBX.out.below hbx HBX.out.lt); have tx := HBX.out.lt; obtain ⟨x0, x1⟩ := HBX.out; have HBY := hid (HBY.out.below hbx HBY.out.lt); have ty := HBY.out.lt; obtain ⟨y0, y1, y2⟩ := HBY.out; have HI1 := hid ((HI1.out.below hbx).mono hbx.size); have HI2 := hid ((HI2.out.below hbx).mono hbx.size); have HI3 := hid ((HI3.out.below hbx).mono hbx.size); clear hbx)) | fail)
      go_ret
      exact ⟨rfl, HB1.out.trans (HB.out.mono HB1.out.size)⟩
    have h3b : (sl == 3) = false := by simpa using h3s
    have HCW := hid (show x.2.2.code = codeWant ms hs who r by rw [HLAW.out, ← HSL.out, if_neg h3s])
    clear h3s
    obtain ⟨mo, mc, rfl, _, _, _, _, mr⟩ := HM.out.opened
    have HMR := hid mr; clear mr
    go_upto_region 13 with (first | (go_at_call 32; go_loud ((with_reducible refine (SLA.out w10 ((HM.out.below HB.out).mono HB.out.size) ((HR.out.below HB.out).mono HB.out.size) (Nat.le_refl _)).mono ?_); rintro e w11 ⟨rfl, hbx⟩; have HB := hid (HB.out.trans (hbx.mono HB.out.size)); have HB0 := hid (HB0.out.below hbx HB0.out.lt); have ts := HB0.out.lt; obtain ⟨s0, s1⟩ := HB0.out; have HBR := hid (HBR.out.below hbx HBR.out.lt); have tf := HBR.out.lt; obtain ⟨f0, f1, f2, f3, f4, f5, f6⟩ := HBR.out; have HBX := hid (HBX.out.below hbx HBX.out.lt); have tx := HBX.out.lt; obtain ⟨x0, x1⟩ := HBX.out; have HBY := hid (HBY.out.below hbx HBY.out.lt); have ty := HBY.out.lt; obtain ⟨y0, y1, y2⟩ := HBY.out; have HI1 := hid ((HI1.out.below hbx).mono hbx.size); have HI2 := hid ((HI2.out.below hbx).mono hbx.size); have HI3 := hid ((HI3.out.below hbx).mono hbx.size); clear hbx)) | fail)
    have HB1W := hid (HB1.out.trans (HB.out.mono HB1.out.size))
    go_wp2_with fail
    go_loopw [11, 12] (fun v i wr => ∃ k : Nat, i = .int .i64 k ∧ k ≤ ms.length ∧ v = .bool (onlyK ms r.addr k) ∧ Drew w11 wr) (fun _ i _ => ms.length - (intOf i).toNat)
    case atStart => exact ⟨0, rfl, by omega, rfl, Drew.refl _⟩
    case round =>
    clear s0 s1 f0 f1 f2 f3 f4 f5 f6 x0 x1 y0 y1 y2 ts tf tx ty
    obtain ⟨k, rfl, hkm, rfl, hdw⟩ := hrel
    have hbr := hdw.below w11.heap.size
    have HDW := hid hdw; clear hdw
    have HBr := hid hbr
    obtain ⟨s0, s1⟩ := HB0.out.below hbr HB0.out.lt
    obtain ⟨f0, f1, f2, f3, f4, f5, f6⟩ := HBR.out.below hbr HBR.out.lt
    obtain ⟨y0, y1, y2⟩ := HBY.out.below hbr HBY.out.lt
    by_cases hlt : k < ms.length
    · obtain ⟨mb, moff, rfl, hmb, hmc⟩ := HMR.out (by omega)
      have hbw := HB.out.trans (hbr.mono HB.out.size)
      obtain ⟨c0, c1, _, c3⟩ := hmc k hlt
      have c0 := (hbw.cell (p := ⟨mb, moff + k * 4, none⟩) hmb).trans c0
      have c1 := (hbw.cell (p := ⟨mb, moff + k * 4 + 1, none⟩) hmb).trans c1
      have c3 := (hbw.cell (p := ⟨mb, moff + k * 4 + 3, none⟩) hmb).trans c3
      have HOS := hid (onlyK_succ (a := r.addr) hlt)
      obtain ⟨m, hm⟩ : ∃ m, m = ms.getD k default := ⟨_, rfl⟩
      rw [← hm] at c0 c1 c3
      have HM' := hid hm
      obtain ⟨b, hb⟩ : ∃ b, b = onlyK ms r.addr k := ⟨_, rfl⟩
      have HBB := hid hb
      simp only [← hb]
      clear hb hm hmc hbw hbr
      rcases b with _ | _
      · rcases hon : m.only with _ | _
        · go_upto_region 16 with fail
          go_quiet (fail)
          have HON := hid hon; clear hon
          go_wp2_with fail
          go_roundw
          case rel => exact ⟨k + 1, by go_num, by omega, by rw [HOS.out, ← HBB.out, ← HM'.out, HON.out]; rfl, HDW.out.trans (Drew.one _ _)⟩
          case measure => simp [intOf]; omega
        · by_cases hfr : m.fr ≤ r.addr
          · by_cases hto : r.addr ≤ m.to
            · go_upto_region 16 with fail
              go_quiet (fail)
              have HON := hid hon; clear hon
              go_wp2_with fail
              go_roundw
              case rel => exact ⟨k + 1, by go_num, by omega, by rw [HOS.out, ← HBB.out, ← HM'.out, HON.out, decide_eq_true hfr, decide_eq_true hto]; rfl, HDW.out.trans (Drew.one _ _)⟩
              case measure => simp [intOf]; omega
            · have hto' : decide (r.addr ≤ m.to) = false := decide_eq_false hto
              clear hto
              go_upto_region 16 with fail
              go_quiet (fail)
              have HON := hid hon; clear hon
              go_wp2_with fail
              go_roundw
              case rel => exact ⟨k + 1, by go_num, by omega, by rw [HOS.out, ← HBB.out, ← HM'.out, HON.out, decide_eq_true hfr, hto']; rfl, HDW.out.trans (Drew.one _ _)⟩
              case measure => simp [intOf]; omega
          · have hfr' : decide (m.fr ≤ r.addr) = false := decide_eq_false hfr
            clear hfr
            go_upto_region 16 with fail
            go_quiet (fail)
            have HON := hid hon; clear hon
            go_wp2_with fail
            go_roundw
            case rel => exact ⟨k + 1, by go_num, by omega, by rw [HOS.out, ← HBB.out, ← HM'.out, HON.out, hfr']; rfl, HDW.out.trans (Drew.one _ _)⟩
            case measure => simp [intOf]; omega
      · go_upto_region 16 with fail
        go_quiet (fail)
        go_wp2_with fail
        go_roundw
        case rel => exact ⟨k + 1, by go_num, by omega, by rw [HOS.out, ← HBB.out]; rfl, HDW.out.trans (Drew.one _ _)⟩
        case measure => simp [intOf]; omega
    obtain rfl : k = ms.length := by omega
    obtain ⟨o, ho⟩ : ∃ o, o = onlyK ms r.addr ms.length := ⟨_, rfl⟩
    have HO := hid ho
    simp only [← ho]
    clear ho
    have ok1 := ok1_of HOK.out
    obtain ⟨hi0, hi1⟩ := ok1.i
    obtain ⟨hwh0, hwh2⟩ := ok1.wh
    obtain ⟨hk1, hk4⟩ := ok1.k
    have HL6 := hid ok1.h
    have HBE := hid (show Below w.heap.size w wr from HB1W.out.trans (hbr.mono (by have := HB.out.size; have := HB1.out.size; omega)))
    obtain ⟨i, hi⟩ := Int.eq_ofNat_of_zero_le (show 0 ≤ who * 2 + r.id by omega)
    have hi6 : i < 6 := by omega
    have HII := hid hi
    have hs2 := (HS2.out.below HB.out).below (hbr.mono HB.out.size)
    obtain ⟨_, _, eo, _, _, _, _, ho⟩ := (hs2).opened
    simp only [Value.slice.injEq, true_and] at eo
    obtain ⟨rfl, rfl⟩ := eo
    obtain ⟨sb, so, rfl, sbl, sc⟩ := ho (by rw [HL6.out]; omega)
    have SC := hid sc
    clear ho sc
    have ch := SC.out i (by rw [HL6.out]; exact hi6)
    obtain ⟨h, hh⟩ : ∃ h, h = hs.getD i 0 := ⟨_, rfl⟩
    rw [← hh] at ch
    have HHH := hid hh
    have hil : i < hs.length := by rw [HL6.out]; exact hi6
    have HCV := hid (show x.2.2.code = if (o && (r.kind == 2 || r.kind == 4)) = true then 3 else if (r.kind == 3 || (r.kind == 4 && h == r.addr)) = true then 2 else 1 by rw [HCW.out]; unfold codeWant; rw [HO.out, hh, show (who * 2 + r.id).toNat = i by omega])
    have e1 : IntKind.i64.wrap (who * 2) = who * 2 := by rw [IntKind.wrap_i64]; omega
    have e2 : IntKind.i64.wrap (who * 2 + r.id) = (i : Int) := by rw [IntKind.wrap_i64]; omega
    clear hs2 hh ok1 hbr hi
    have hkk : ((r.kind == 1) = true ∧ (r.kind == 2) = false ∧ (r.kind == 3) = false ∧ (r.kind == 4) = false) ∨ ((r.kind == 1) = false ∧ (r.kind == 2) = true ∧ (r.kind == 3) = false ∧ (r.kind == 4) = false) ∨ ((r.kind == 1) = false ∧ (r.kind == 2) = false ∧ (r.kind == 3) = true ∧ (r.kind == 4) = false) ∨ ((r.kind == 1) = false ∧ (r.kind == 2) = false ∧ (r.kind == 3) = false ∧ (r.kind == 4) = true) := by
      rcases (show r.kind = 1 ∨ r.kind = 2 ∨ r.kind = 3 ∨ r.kind = 4 by omega) with hk | hk | hk | hk <;> rw [hk] <;> decide
    clear hk1 hk4
    rcases hkk with ⟨p1, p2, p3, p4⟩ | ⟨p1, p2, p3, p4⟩ | ⟨p1, p2, p3, p4⟩ | ⟨p1, p2, p3, p4⟩
    · have hcv : (x.2.2.code == 1) = true := by rw [HCV.out, p2, p3, p4]; cases o <;> rfl
      rcases o with _ | _
      all_goals
        go_upto_region 20 with fail
        go_quiet (fail)
        go_wp2_with fail
        go_ret
        exact ⟨rfl, Below.draws HBE.out _⟩
    · rcases o with _ | _
      · have hcv : (x.2.2.code == 1) = true := by rw [HCV.out, p2, p3, p4]; rfl
        go_upto_region 20 with fail
        go_quiet (fail)
        go_wp2_with fail
        go_ret
        exact ⟨rfl, Below.draws HBE.out _⟩
      · have hcv : (x.2.2.code == 3) = true := by rw [HCV.out, p2, p3, p4]; rfl
        go_wp2_with fail
        go_ret
        exact ⟨rfl, HBE.out⟩
    · have hcv : (x.2.2.code == 2) = true := by rw [HCV.out, p2, p3, p4]; cases o <;> rfl
      rcases o with _ | _
      all_goals
        go_upto_region 20 with fail
        go_quiet (fail)
        go_wp2_with fail
        go_ret
        exact ⟨rfl, Below.draws HBE.out _⟩
    · rcases o with _ | _
      · rcases hha : (h == r.addr) with _ | _
        · have hcv : (x.2.2.code == 1) = true := by rw [HCV.out, p2, p3, p4, hha]; rfl
          go_upto_region 20 with fail
          go_quiet (fail)
          go_wp2_with fail
          go_ret
          exact ⟨rfl, Below.draws HBE.out _⟩
        · have hcv : (x.2.2.code == 2) = true := by rw [HCV.out, p2, p3, p4, hha]; rfl
          go_upto_region 20 with fail
          go_quiet (fail)
          go_wp2_with fail
          go_ret
          exact ⟨rfl, Below.draws HBE.out _⟩
      · have hcv : (x.2.2.code == 3) = true := by rw [HCV.out, p2, p3, p4]; rfl
        go_wp2_with fail
        go_ret
        exact ⟨rfl, HBE.out⟩

end Go.Proofs.Ytpjfjccjmbphmaa

namespace Go.Proofs.Ytpjfjccjmbphmaa
open Go.RowKit
open Go.ChangeShapes Go.WideShapes Go.ChangeAt

theorem code_holds : Rows.FnAtmCodeSaid :=
  OpenClaim.holds_of_wide 13 Try.f13 rfl rfl rfl rfl rfl rfl rfl ⟨rfl, rfl, rfl, rfl, rfl⟩ rfl rfl rfl rfl rfl (by kernel_rfl) Try.func13 (by kernel_rfl)
    (of_decide_eq_true (by kernel_rfl)) (by unfold Func.isWrapper; first | (rw [if_pos (by decide +kernel)]; kernel_rfl) | (rw [if_neg (by decide +kernel)]; exact ⟨rfl, rfl⟩))
    (fun os started H enc _ => code_lifted started enc 13 Try.f13 Rows.fnAtmCodeSpec rfl (by kernel_rfl) Try.func13
      (ChangeSpec.witness6 (enc := enc) (C := Try.checked) false ⟨#[], #[.slice none 0 0], []⟩ 8 (by kernel_rfl) (by kernel_rfl) (by kernel_rfl) (by kernel_rfl)) Try.params13 rfl (fun _ => ⟨rfl, rfl, rfl⟩) (code_any drawAtmDo_any))
#print axioms code_holds

end Go.Proofs.Ytpjfjccjmbphmaa
