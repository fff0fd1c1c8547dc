/-
  For every code the law FnAtmRead returns true, and its argument reads behind the call as it read before.
-/
import Derived.Test.YtpjfjccjmbphmaaJSa3
import Derived.Test.YtpjfjccjmbphmaaKDrA
import Derived.Test.YtpjfjccjmbphmaaJRow
set_option linter.unusedVariables false
set_option linter.unusedSimpArgs false
namespace Go.Proofs.Ytpjfjccjmbphmaa
open Go.RowKit

set_option maxRecDepth 4000 in
set_option maxHeartbeats 8000000 in
theorem read_any (hdraw : DrawDo) (v : Value) (bs : List Nat) (B : Nat) (w : World) (h : Bytes w B v bs) (hB : B ≤ w.heap.size) :
    Calls Try.prog 9 #[v] w fun e w' => e = .returned (.bool true) ∧ Below w.heap.size w w' := by
  obtain ⟨ao, cap, rfl, hlc, hcap, hln, hni, hr⟩ := h.opened
  clear hr
  by_cases hbig : (1048576 : Int) < (bs.length : Int)
  · go_enter Try.func9, Try.ntmps9
    go_wp2_with fail
    go_ret
    exact ⟨rfl, Below.refl _ _⟩
  · go_enter Try.func9, Try.ntmps9
    go_wp2_with fail
    refine (hdraw _ bs B w h hB).mono ?_
    rintro e w1 ⟨mv, ms, sv, ws, hs, who, rv, r, rfl, hm, hs0, hw0, hw3, hr0, hb1⟩
    have HM := hid hm; have HS := hid hs0; have HR := hid hr0; have HB1 := hid hb1
    have HID := hid (show I64 r.id ∧ I64 r.kind ∧ I64 r.addr ∧ I64 r.many by obtain ⟨_, _, _, _, _, h⟩ := hr0; exact h)
    obtain ⟨wa, wc, ha, hc, rfl, hs1, hs2⟩ := hs0.shape
    obtain ⟨da, dc, la, lc, rfl⟩ := hr0.shape
    have HS1 := hid hs1; have HS2 := hid hs2
    obtain ⟨x, hx⟩ : ∃ x, x = atmDo ms ws hs who r := ⟨_, rfl⟩
    have HX := hid hx; have HSM := hid (show Small x by rw [hx]; exact atmDo_small ..)
    have HCI := hid (fun W hb => implDo_v mv _ _ ms w1.heap.size ws hs who r W (HM.out.below hb) (HS.out.below hb) (HR.out.below hb) hb.size)
    have HCS := hid (fun W hb => specDo_v mv _ _ ms w1.heap.size ws hs who r W (HM.out.below hb) (HS.out.below hb) (HR.out.below hb) hb.size)
    rw [← hx] at HCI HCS
    clear hm hs0 hr0 hb1 hs1 hs2 hx h
    go_upto_region 8 with (first
      | (go_at_call 21; (with_reducible refine (HCI.out _ (two_in w1 _ _)).mono ?_); rintro e w3 ⟨xwa, xwc, xha, xhc, xda, xdc, rfl, i1, i2, i3, hb⟩; obtain ⟨B0, BR, hbx, hz3⟩ := law_open hb; have HB := hid hbx; have HI1 := hid i1; have HI2 := hid i2; have HI3 := hid i3; have HB0 := hid B0; have HBR := hid BR; have t0 := B0.lt; have t1 := BR.lt; obtain ⟨s0, s1⟩ := B0; obtain ⟨f0, f1, f2, f3, f4, f5, f6⟩ := BR; clear i1 i2 i3 hb hbx)
      | (go_at_call 22; refine (HCS.out _ (HB.out.trans ((two_in w3 _ _).mono HB.out.size))).mono ?_; rintro e w5 ⟨ywa, ywc, yha, yhc, yda, ydc, rfl, j1, j2, j3, hb⟩; obtain ⟨BX, BY, hbx, hz5⟩ := law_next hb; have HB0 := hid (HB0.out.below hbx HB0.out.lt); have HBR := hid (HBR.out.below hbx HBR.out.lt); have HB := hid (HB.out.trans (hbx.mono HB.out.size)); have HI1 := hid ((HI1.out.below hbx).mono hbx.size); have HI2 := hid ((HI2.out.below hbx).mono hbx.size); have HI3 := hid ((HI3.out.below hbx).mono hbx.size); have HJ3 := hid j3; have HBX := hid BX; have HBY := hid BY; have t0 := HB0.out.lt; have t1 := HBR.out.lt; obtain ⟨s0, s1⟩ := HB0.out; obtain ⟨f0, f1, f2, f3, f4, f5, f6⟩ := HBR.out; have t2 := BX.lt; have t3 := BY.lt; obtain ⟨x0, x1⟩ := BX; obtain ⟨y0, y1, y2⟩ := BY; clear j1 j2 j3 hb hbx)
      | (go_at_call 23; refine (crRsp_same x.2.2 _ _ _ _ w5.heap.size _ (HI3.out.below (two_in w5 _ _)) (HJ3.out.below (two_in w5 _ _)) (by simp; omega)).mono ?_; rintro e w7 ⟨rfl, hb⟩; obtain ⟨hbx, hz7⟩ := two_below hb; have HB0 := hid (HB0.out.below hbx HB0.out.lt); have HBR := hid (HBR.out.below hbx HBR.out.lt); have HBX := hid (HBX.out.below hbx HBX.out.lt); have HBY := hid (HBY.out.below hbx HBY.out.lt); have HB := hid (HB.out.trans (hbx.mono HB.out.size)); have HI1 := hid ((HI1.out.below hbx).mono hbx.size); have HI2 := hid ((HI2.out.below hbx).mono hbx.size); have HI3 := hid ((HI3.out.below hbx).mono hbx.size); have t0 := HB0.out.lt; have t1 := HBR.out.lt; obtain ⟨s0, s1⟩ := HB0.out; obtain ⟨f0, f1, f2, f3, f4, f5, f6⟩ := HBR.out; have t2 := HBX.out.lt; have t3 := HBY.out.lt; obtain ⟨x0, x1⟩ := HBX.out; obtain ⟨y0, y1, y2⟩ := HBY.out; clear hb hbx)
      | fail)
    by_cases hk : r.kind = 2
    case neg =>
      have hkb : (r.kind != 2) = true := by simpa using hk
      clear hk
      go_wp2_with (first | (go_at_call 18; refine (crOk_any _).mono ?_; rintro e w9 ⟨rfl, rfl⟩))
      go_ret
      exact ⟨rfl, HB1.out.trans (HB.out.mono HB1.out.size)⟩
    case pos =>
    have hkb : (r.kind != 2) = false := by simpa using hk
    have HK := hid hk
    clear hk
    by_cases hc : x.2.2.code = 1
    case neg =>
      have hcb : (x.2.2.code != 1) = true := by simpa using hc
      clear hc
      go_wp2_with (first | (go_at_call 18; refine (crOk_any _).mono ?_; rintro e w9 ⟨rfl, rfl⟩))
      go_ret
      exact ⟨rfl, HB1.out.trans (HB.out.mono HB1.out.size)⟩
    case pos =>
    have hcb : (x.2.2.code != 1) = false := by simpa using hc
    have hok : atmOkk ms ws hs who r = true := by
      rcases h : atmOkk ms ws hs who r with _ | _
      · rw [HX.out, atmDo_no h] at hc; simp at hc
      · rfl
    have HOK := hid hok
    have HC := hid hc
    clear hok hc
    obtain ⟨hi0, hi1⟩ : 0 ≤ r.id ∧ r.id ≤ 1 := id_of (okk_parts.1 HOK.out).2.2.2
    obtain ⟨hw0, hw2⟩ : 0 ≤ who ∧ who ≤ 2 := (ok1_of HOK.out).wh
    have HRO := hid (okk_parts.1 HOK.out).2.2.2
    obtain ⟨j, hj⟩ : ∃ j, j = 1 - r.id := ⟨_, rfl⟩
    have HJ := hid hj
    have hj0 : 0 ≤ j := by omega
    have hj1 : j ≤ 1 := by omega
    obtain ⟨xs, hxs⟩ : ∃ xs, xs = rqBurst r := ⟨_, rfl⟩
    have HXS := hid hxs
    obtain ⟨gd, hgd⟩ : ∃ gd, gd = getAll x.1 xs := ⟨_, rfl⟩
    have hlaw := read_law HOK.out HK.out (by rw [← HX.out]; exact HC.out)
    rw [← HX.out, ← hxs, ← hgd, ← hj] at hlaw
    have HRD := hid (show atmDo ms x.1 x.2.1 ((who + 1) % 3) ⟨j, 1, r.addr, r.many, r.wrap, [], []⟩ = (x.1, x.2.1, ⟨j, 1, gd⟩) from hlaw.1)
    have HWD := hid hlaw.2
    have hdat := (ok1_of HOK.out).data (.inl HK.out)
    rw [← hxs] at hdat
    have HDL := hid hdat.1; have HLL := hid hdat.2.1
    have hxl : 1 ≤ xs.length := by
      rw [hxs, show (rqBurst r).length = r.many.toNat from burst_lenA (adr_of HRO.out)]
      obtain ⟨_, _, hm, _⟩ := (adrOk_eq _ _ _).1 (adr_of HRO.out)
      omega
    have hgl : gd.length = xs.length := by rw [hgd, getAll_len]
    have hwl : ws.length = 64 := (ok1_of HOK.out).l
    have HIN := hid (show ∀ k, k < xs.length → 0 ≤ xs.getD k 0 ∧ xs.getD k 0 ≤ 63 from fun k hk => burst_mem (show xs.getD k 0 ∈ burst r.addr r.many r.wrap by rw [show burst r.addr r.many r.wrap = xs from hxs.symm]; exact getD_mem hk))
    have HGL := hid hgl; have HWL := hid hwl
    obtain ⟨hd1, hd2, hd3, hd4⟩ := HID.out
    have HQV := hid (fun W => show ReqV W w7.heap.size (.agg #[.int .i64 j, .int .i64 1, .int .i64 r.addr, .int .i64 r.many, .bool r.wrap, .slice none 0 0, .slice none 0 0]) ⟨j, 1, r.addr, r.many, r.wrap, [], []⟩ from ⟨_, _, rfl, Ints.nil _ _, Ints.nil _ _, by unfold I64; simp only; omega, by unfold I64; simp only; omega, hd3, hd4⟩)
    clear hlaw hgd hxs hdat hgl hwl hd1 hd2 hd3 hd4
    have ew : IntKind.i64.wrap (1 - r.id) = j := by rw [IntKind.wrap_i64]; omega
    go_upto_region 11 with fail
    simp only [← hj]
    clear hj ew
    go_upto_region 13 with (first
      | (go_at_call 21; go_loud ((with_reducible refine (implDo_v mv _ _ ms w7.heap.size x.1 x.2.1 ((who + 1) % 3) ⟨j, 1, r.addr, r.many, r.wrap, [], []⟩ _ (((HM.out.below HB.out).mono HB.out.size).below ((Below.refl _ _).alloc (Nat.le_refl _) _)) ((atmV_of HI1.out HI2.out).below ((Below.refl _ _).alloc (Nat.le_refl _) _)) (HQV.out _) (by simp)).mono ?_); rw [HRD.out]; rintro e w9 ⟨zwa, zwc, zha, zhc, zda, zdc, rfl, j1, j2, j3, hb⟩; obtain ⟨BZ, hbx, hz9⟩ := law_q hb; have HJ1 := hid j1; have HJ2 := hid j2; have HJ3 := hid j3; clear j1 j2 j3 hb BZ; have HB := hid (HB.out.trans (hbx.mono HB.out.size)); have HB0 := hid (HB0.out.below hbx HB0.out.lt); have ts := HB0.out.lt; obtain ⟨s0, s1⟩ := HB0.out; have HBR := hid (HBR.out.below hbx HBR.out.lt); have tf := HBR.out.lt; obtain ⟨f0, f1, f2, f3, f4, f5, f6⟩ := HBR.out; have HBX := hid (HBX.out.below hbx HBX.out.lt); have tx := HBX.out.lt; obtain ⟨x0, x1⟩ := HBX.out; have HBY := hid (HBY.out.below hbx HBY.out.lt); have ty := HBY.out.lt; obtain ⟨y0, y1, y2⟩ := HBY.out; have HI1 := hid ((HI1.out.below hbx).mono hbx.size); have HI2 := hid ((HI2.out.below hbx).mono hbx.size); have HI3 := hid ((HI3.out.below hbx).mono hbx.size); clear hbx))
      | (go_at_call 26; (with_reducible refine (implBurst_any _ _ _ _).mono ?_); rintro e w11 ⟨u, rfl, hu, hb, hfr⟩; obtain ⟨BZ, BU, hbx, hz11⟩ := law_next hb; have HU := hid (show Ints w11 w11.heap.size u xs by rw [HXS.out]; exact hu); have HBZ := hid BZ; have HBU := hid BU; have tz := BZ.lt; have tu := BU.lt; obtain ⟨qz0, qz1⟩ := BZ; obtain ⟨qu0, qu1, qu2⟩ := BU; clear hu hfr hb; have HB := hid (HB.out.trans (hbx.mono HB.out.size)); have HB0 := hid (HB0.out.below hbx HB0.out.lt); have ts := HB0.out.lt; obtain ⟨s0, s1⟩ := HB0.out; have HBR := hid (HBR.out.below hbx HBR.out.lt); have tf := HBR.out.lt; obtain ⟨f0, f1, f2, f3, f4, f5, f6⟩ := HBR.out; have HBX := hid (HBX.out.below hbx HBX.out.lt); have tx := HBX.out.lt; obtain ⟨x0, x1⟩ := HBX.out; have HBY := hid (HBY.out.below hbx HBY.out.lt); have ty := HBY.out.lt; obtain ⟨y0, y1, y2⟩ := HBY.out; have HI1 := hid ((HI1.out.below hbx).mono hbx.size); have HI2 := hid ((HI2.out.below hbx).mono hbx.size); have HI3 := hid ((HI3.out.below hbx).mono hbx.size); have HJ1 := hid ((HJ1.out.below hbx).mono hbx.size); have HJ2 := hid ((HJ2.out.below hbx).mono hbx.size); have HJ3 := hid ((HJ3.out.below hbx).mono hbx.size); clear hbx)
      | fail)
    have hws := (HS1.out.below HB.out).mono HB.out.size
    obtain ⟨_, _, er, hrd, hrl, _⟩ := (HR.out.below HB.out).mono HB.out.size
    simp at er
    obtain ⟨rfl, rfl⟩ := er
    obtain ⟨ua, uc, rfl, _⟩ := HU.out.opened
    obtain ⟨_, _, eo, _, _, _, _, ho⟩ := (hws).opened
    simp only [Value.slice.injEq, true_and] at eo
    obtain ⟨rfl, rfl⟩ := eo
    obtain ⟨sb, so, rfl, sbl, sc⟩ := ho (by rw [HWL.out]; omega)
    have SC := hid sc
    clear ho sc
    obtain ⟨_, _, eo, _, _, _, _, ho⟩ := (HJ3.out).opened
    simp only [Value.slice.injEq, true_and] at eo
    obtain ⟨rfl, rfl⟩ := eo
    obtain ⟨gb, gw, rfl, gbl, gcc⟩ := ho (by rw [HGL.out]; omega)
    have GCC := hid gcc
    clear ho gcc
    obtain ⟨_, _, eo, _, _, _, _, ho⟩ := (HU.out).opened
    simp only [Value.slice.injEq, true_and] at eo
    obtain ⟨rfl, rfl⟩ := eo
    obtain ⟨ub, uo, rfl, ubl, uc⟩ := ho (by omega)
    have UC := hid uc
    clear ho uc
    obtain ⟨_, _, eo, _, _, _, _, ho⟩ := (hrd).opened
    simp only [Value.slice.injEq, true_and] at eo
    obtain ⟨rfl, rfl⟩ := eo
    obtain ⟨db, dw, rfl, dbl, dcc⟩ := ho (by rw [HDL.out]; omega)
    have DCC := hid dcc
    clear ho dcc
    obtain ⟨_, _, eo, _, _, _, _, ho⟩ := (hrl).opened
    simp only [Value.slice.injEq, true_and] at eo
    obtain ⟨rfl, rfl⟩ := eo
    obtain ⟨lb, lw, rfl, lbl, lcc⟩ := ho (by rw [HLL.out]; omega)
    have LCC := hid lcc
    clear ho lcc
    have HB1W := hid (HB1.out.trans (HB.out.mono HB1.out.size))
    clear hws hrd hrl
    go_wp2_with fail
    go_loopw [15] (fun i wr => ∃ k : Nat, i = .int .i64 k ∧ k ≤ xs.length ∧ Drew w11 wr) (fun i _ => xs.length - (intOf i).toNat)
    case atStart => exact ⟨0, rfl, by omega, Drew.refl _⟩
    case round =>
      clear s0 s1 f0 f1 f2 f3 f4 f5 f6 x0 x1 y0 y1 y2 qz0 qz1 qu0 qu1 qu2 ts tf tx ty tz tu
      obtain ⟨k, rfl, hkm, hdw⟩ := hrel
      have hbr := hdw.below w11.heap.size
      have HDW := hid hdw
      obtain ⟨s0, s1⟩ := HB0.out.below hbr HB0.out.lt
      obtain ⟨f0, f1, f2, f3, f4, f5, f6⟩ := HBR.out.below hbr HBR.out.lt
      obtain ⟨qu0, qu1, qu2⟩ := HBU.out.below hbr HBU.out.lt
      clear hdw
      by_cases hlt : k < xs.length
      · obtain ⟨a, ha⟩ := Int.eq_ofNat_of_zero_le (HIN.out k hlt).1
        have ha63 : a < 64 := by have := (HIN.out k hlt).2; omega
        have hk1 := HDL.out; have hk2 := HLL.out; have hk3 := HGL.out; have hk4 := HWL.out
        have cu := (hbr.cell (p := ⟨ub, uo + k, none⟩) (by exact ubl)).trans (UC.out k hlt)
        rw [ha] at cu
        have cs := (hbr.cell (p := ⟨sb, so + a, none⟩) (by exact sbl)).trans (SC.out a (by omega))
        have cd := (hbr.cell (p := ⟨db, dw + k, none⟩) (by exact dbl)).trans (DCC.out k (by omega))
        have cl := (hbr.cell (p := ⟨lb, lw + k, none⟩) (by exact lbl)).trans (LCC.out k (by omega))
        have cg := (hbr.cell (p := ⟨gb, gw + k, none⟩) (by exact gbl)).trans (GCC.out k (by omega))
        have hwd := HWD.out k hlt
        rw [ha, show ((a : Int)).toNat = a from rfl] at hwd
        rw [hwd] at cg
        obtain ⟨o, ho⟩ : ∃ o, o = ws.getD a 0 := ⟨_, rfl⟩
        obtain ⟨dn, hdn⟩ : ∃ o, o = r.data.getD k 0 := ⟨_, rfl⟩
        obtain ⟨ln, hln⟩ : ∃ o, o = r.lanes.getD k 0 := ⟨_, rfl⟩
        rw [← ho, ← hdn, ← hln] at cg; rw [← ho] at cs; rw [← hdn] at cd; rw [← hln] at cl
        obtain ⟨v, hv⟩ : ∃ v, v = wrdPut o dn ln := ⟨_, rfl⟩
        have HWP := hid (fun W => show Calls Try.prog 28 #[.int .i64 o, .int .i64 dn, .int .i64 ln] W fun e w' => e = .returned (.int .i64 v) ∧ W = w' by rw [hv]; exact implWrdPut_any o dn ln W)
        rw [← hv] at cg
        have hs4 : a < ws.length := by omega
        have hk5 : k < r.data.length := by omega
        have hk6 : k < r.lanes.length := by omega
        have hk7 : k < gd.length := by omega
        clear hv ho hdn hln hwd ha hk1 hk2 hk3 hk4
        go_upto_region 16 with fail
        go_quiet ((go_at_call 28; exact Same.quiet (HWP.out _)))
        go_wp2_with fail
        go_roundw
        case rel => exact ⟨k + 1, by go_num, by omega, HDW.out.trans (Drew.one _ _)⟩
        case measure => simp [intOf]; omega
      · obtain rfl : k = xs.length := by omega
        have HBq := hid hbr
        obtain ⟨qz0, qz1⟩ := HBZ.out.below hbr HBZ.out.lt
        obtain ⟨x0, x1⟩ := HBX.out.below hbr HBX.out.lt
        go_wp2_with (first | (go_at_call 24; (with_reducible refine (crAtm_same x.1 x.2.1 _ _ _ _ _ _ _ _ w11.heap.size _ (HJ1.out.below HBq.out) (HJ2.out.below HBq.out) (HI1.out.below HBq.out) (HI2.out.below HBq.out) HBq.out.size).mono ?_); rintro e w13 ⟨rfl, hb⟩))
        go_ret
        exact ⟨rfl, HB1W.out.trans ((HBq.out.trans (hb.mono HBq.out.size)).mono (by have := HB.out.size; have := HB1.out.size; omega))⟩

end Go.Proofs.Ytpjfjccjmbphmaa

namespace Go.Proofs.Ytpjfjccjmbphmaa
open Go.RowKit
open Go.ChangeShapes Go.WideShapes Go.ChangeAt

theorem read_holds : Rows.FnAtmReadSaid :=
  OpenClaim.holds_of_wide 9 Try.f9 rfl rfl rfl rfl rfl rfl rfl ⟨rfl, rfl, rfl, rfl, rfl⟩ rfl rfl rfl rfl rfl (by kernel_rfl) Try.func9 (by kernel_rfl)
    (of_decide_eq_true (by kernel_rfl)) (by unfold Func.isWrapper; first | (rw [if_pos (by decide +kernel)]; kernel_rfl) | (rw [if_neg (by decide +kernel)]; exact ⟨rfl, rfl⟩))
    (fun os started H enc _ => code_lifted started enc 9 Try.f9 Rows.fnAtmReadSpec rfl (by kernel_rfl) Try.func9
      (ChangeSpec.witness6 (enc := enc) (C := Try.checked) false ⟨#[], #[.slice none 0 0], []⟩ 8 (by kernel_rfl) (by kernel_rfl) (by kernel_rfl) (by kernel_rfl)) Try.params9 rfl (fun _ => ⟨rfl, rfl, rfl⟩) (read_any drawAtmDo_any))
#print axioms read_holds

end Go.Proofs.Ytpjfjccjmbphmaa
