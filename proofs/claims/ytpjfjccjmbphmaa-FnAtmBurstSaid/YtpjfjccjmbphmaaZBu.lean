/-
  For every code the law FnAtmBurst returns true, and its argument reads behind the call as it read before.
-/
import Derived.Test.YtpjfjccjmbphmaaKBu1
import Derived.Test.YtpjfjccjmbphmaaKDrA
import Derived.Test.YtpjfjccjmbphmaaKRow
set_option linter.unusedVariables false
set_option linter.unusedSimpArgs false
namespace Go.Proofs.Ytpjfjccjmbphmaa
open Go.RowKit

set_option maxRecDepth 4000 in
set_option maxHeartbeats 8000000 in
theorem burst_any (hdraw : DrawDo) (v : Value) (bs : List Nat) (B : Nat) (w : World) (h : Bytes w B v bs) (hB : B ≤ w.heap.size) :
    Calls Try.prog 10 #[v] w fun e w' => e = .returned (.bool true) ∧ Below w.heap.size w w' := by
  obtain ⟨ao, cap, rfl, hlc, hcap, hln, hni, hr⟩ := h.opened
  clear hr
  by_cases hbig : (1048576 : Int) < (bs.length : Int)
  · go_enter Try.func10, Try.ntmps10
    go_wp2_with fail
    go_ret
    exact ⟨rfl, Below.refl _ _⟩
  · go_enter Try.func10, Try.ntmps10
    go_wp2_with fail
    refine (hdraw _ bs B w h hB).mono ?_
    rintro e w1 ⟨mv, ms, sv, ws, hs, who, rv, r, rfl, hm, hs0, hw0, hw3, hr0, hb1⟩
    have HM := hid hm; have HS := hid hs0; have HR := hid hr0; have HB1 := hid hb1
    have HID := hid (show I64 r.id ∧ I64 r.kind ∧ I64 r.addr ∧ I64 r.many by obtain ⟨_, _, _, _, _, h⟩ := hr0; exact h)
    obtain ⟨wa, wc, ha, hc, rfl, hs1, hs2⟩ := hs0.shape
    obtain ⟨da, dc, la, lc, rfl⟩ := hr0.shape
    have HS1 := hid hs1; have HS2 := hid hs2
    obtain ⟨x, hx⟩ : ∃ x, x = atmDo ms ws hs who r := ⟨_, rfl⟩
    have HX := hid hx; have HSM := hid (show Small x by rw [hx]; exact atmDo_small ..)
    have HCI := hid (fun W hb => implDo_v mv _ _ ms w1.heap.size ws hs who r W (HM.out.below hb) (HS.out.below hb) (HR.out.below hb) hb.size)
    have HCS := hid (fun W hb => specDo_v mv _ _ ms w1.heap.size ws hs who r W (HM.out.below hb) (HS.out.below hb) (HR.out.below hb) hb.size)
    rw [← hx] at HCI HCS
    clear hm hs0 hr0 hb1 hs1 hs2 hx h
    go_upto_region 8 with (first
      | (go_at_call 21; (with_reducible refine (HCI.out _ (two_in w1 _ _)).mono ?_); rintro e w3 ⟨xwa, xwc, xha, xhc, xda, xdc, rfl, i1, i2, i3, hb⟩; obtain ⟨B0, BR, hbx, hz3⟩ := law_open hb; have HB := hid hbx; have HI1 := hid i1; have HI2 := hid i2; have HI3 := hid i3; have HB0 := hid B0; have HBR := hid BR; have t0 := B0.lt; have t1 := BR.lt; obtain ⟨s0, s1⟩ := B0; obtain ⟨f0, f1, f2, f3, f4, f5, f6⟩ := BR; clear i1 i2 i3 hb hbx)
      | (go_at_call 22; refine (HCS.out _ (HB.out.trans ((two_in w3 _ _).mono HB.out.size))).mono ?_; rintro e w5 ⟨ywa, ywc, yha, yhc, yda, ydc, rfl, j1, j2, j3, hb⟩; obtain ⟨BX, BY, hbx, hz5⟩ := law_next hb; have HB0 := hid (HB0.out.below hbx HB0.out.lt); have HBR := hid (HBR.out.below hbx HBR.out.lt); have HB := hid (HB.out.trans (hbx.mono HB.out.size)); have HI1 := hid ((HI1.out.below hbx).mono hbx.size); have HI2 := hid ((HI2.out.below hbx).mono hbx.size); have HI3 := hid ((HI3.out.below hbx).mono hbx.size); have HJ3 := hid j3; have HBX := hid BX; have HBY := hid BY; have t0 := HB0.out.lt; have t1 := HBR.out.lt; obtain ⟨s0, s1⟩ := HB0.out; obtain ⟨f0, f1, f2, f3, f4, f5, f6⟩ := HBR.out; have t2 := BX.lt; have t3 := BY.lt; obtain ⟨x0, x1⟩ := BX; obtain ⟨y0, y1, y2⟩ := BY; clear j1 j2 j3 hb hbx)
      | (go_at_call 23; refine (crRsp_same x.2.2 _ _ _ _ w5.heap.size _ (HI3.out.below (two_in w5 _ _)) (HJ3.out.below (two_in w5 _ _)) (by simp; omega)).mono ?_; rintro e w7 ⟨rfl, hb⟩; obtain ⟨hbx, hz7⟩ := two_below hb; have HB0 := hid (HB0.out.below hbx HB0.out.lt); have HBR := hid (HBR.out.below hbx HBR.out.lt); have HBX := hid (HBX.out.below hbx HBX.out.lt); have HBY := hid (HBY.out.below hbx HBY.out.lt); have HB := hid (HB.out.trans (hbx.mono HB.out.size)); have HI1 := hid ((HI1.out.below hbx).mono hbx.size); have HI2 := hid ((HI2.out.below hbx).mono hbx.size); have HI3 := hid ((HI3.out.below hbx).mono hbx.size); have t0 := HB0.out.lt; have t1 := HBR.out.lt; obtain ⟨s0, s1⟩ := HB0.out; obtain ⟨f0, f1, f2, f3, f4, f5, f6⟩ := HBR.out; have t2 := HBX.out.lt; have t3 := HBY.out.lt; obtain ⟨x0, x1⟩ := HBX.out; obtain ⟨y0, y1, y2⟩ := HBY.out; clear hb hbx)
      | fail)
    by_cases hcd : x.2.2.code = 1
    case neg =>
      have hcb : (x.2.2.code != 1) = true := by simpa using hcd
      clear hcd
      go_wp2_with (first | (go_at_call 18; refine (crOk_any _).mono ?_; rintro e w9 ⟨rfl, rfl⟩))
      go_ret
      exact ⟨rfl, HB1.out.trans (HB.out.mono HB1.out.size)⟩
    case pos =>
    have hcb : (x.2.2.code != 1) = false := by simpa using hcd
    have hok : atmOkk ms ws hs who r = true := by
      rcases h : atmOkk ms ws hs who r with _ | _
      · rw [HX.out, atmDo_no h] at hcd; simp at hcd
      · rfl
    have HOK := hid hok
    have HC := hid hcd
    clear hok hcd
    by_cases hk : r.kind = 1 ∨ r.kind = 2
    case neg =>
      have hkb : (r.kind != 1) = true := by simp; omega
      have hkc : (r.kind != 2) = true := by simp; omega
      clear hk
      go_wp2_with (first | (go_at_call 18; refine (crOk_any _).mono ?_; rintro e w9 ⟨rfl, rfl⟩))
      go_ret
      exact ⟨rfl, HB1.out.trans (HB.out.mono HB1.out.size)⟩
    case pos =>
    go_cut [59] from 47 (fun v wd => v = .bool false ∧ w7 = wd)
    case first =>
      rcases hk with hk | hk
      · have hkb : (r.kind != 1) = false := by simpa using hk
        clear hk
        go_wp2_with fail
        all_goals
          go_meet
          case rel => exact ⟨rfl, rfl⟩
      · have hkb : (r.kind != 1) = true := by simp; omega
        have hkc : (r.kind != 2) = false := by simpa using hk
        clear hk
        go_wp2_with fail
        all_goals
          go_meet
          case rel => exact ⟨rfl, rfl⟩
    case rest =>
    obtain ⟨rfl, rfl⟩ := hcut
    have HK := hid hk
    clear hk hcb
    obtain ⟨d1, l1, e, hrd, hrl, _⟩ := HR.out
    simp at e
    obtain ⟨rfl, rfl⟩ := e
    have HRD := hid hrd; have HRL := hid hrl
    clear hrd hrl
    have ok1 := ok1_of HOK.out
    have HWL := hid (show ws.length ≠ 0 by rw [ok1.l]; omega)
    have HHL := hid (show hs.length ≠ 0 by rw [ok1.h]; omega)
    obtain ⟨xs, hxs⟩ : ∃ xs, xs = rqBurst r := ⟨_, rfl⟩
    have HXS := hid hxs
    have hxl : 1 ≤ xs.length ∧ xs.length ≤ 4 := by
      rw [hxs, show (rqBurst r).length = r.many.toNat from burst_lenA ok1.ad]
      obtain ⟨_, _, hm, _⟩ := (adrOk_eq _ _ _).1 ok1.ad
      omega
    have HXL := hid hxl
    have HIN := hid (show ∀ k, k < xs.length → I64 (xs.getD k 0) from fun k hk => by have := burst_mem (show xs.getD k 0 ∈ burst r.addr r.many r.wrap by rw [show burst r.addr r.many r.wrap = xs from HXS.out.symm]; exact getD_mem hk); unfold I64; omega)
    have HDK := hid (show ∀ k, k < xs.length → r.kind = 2 → k < r.data.length ∧ k < r.lanes.length from fun k hk h2 => by have := ok1.data (.inl h2); rw [← HXS.out] at this; omega)
    have hlw := burst_law0 HOK.out HK.out (by rw [← HX.out]; exact HC.out)
    rw [← HX.out, ← HXS.out] at hlw
    have HLW := hid hlw.1
    have HST := hid (show ∀ k, k < xs.length → atmDo ms (wsK ws r k) (hsK hs r k) who (oneOf r (xs.getD k 0) k) = (wsK ws r (k + 1), hsK hs r (k + 1), ⟨r.id, 1, if r.kind = 1 then [ws.getD (xs.getD k 0).toNat 0] else []⟩) by
      rw [HXS.out]; exact fun k hk => burst_step HOK.out HK.out (by rw [← HX.out]; exact HC.out) k hk)
    have HWS := hid (show ∀ k, k < xs.length → wdK ws r (k + 1) = wdK ws r k ++ (if r.kind = 1 then [ws.getD (xs.getD k 0).toNat 0] else []) by
      rw [HXS.out]; exact fun k hk => words_step HK.out k hk)
    clear hxs hxl hlw ok1
    go_upto_region 11 with (first
      | (go_at_call 26; (with_reducible refine (implBurst_any _ _ _ _).mono ?_); rintro e w9 ⟨u, rfl, hu, hbx, hfr⟩; have HU := hid (show Ints w9 w9.heap.size u xs by rw [HXS.out]; exact hu); clear hu hfr; have HB := hid (HB.out.trans (hbx.mono HB.out.size)); have HB0 := hid (HB0.out.below hbx HB0.out.lt); have ts := HB0.out.lt; obtain ⟨s0, s1⟩ := HB0.out; have HBR := hid (HBR.out.below hbx HBR.out.lt); have tf := HBR.out.lt; obtain ⟨f0, f1, f2, f3, f4, f5, f6⟩ := HBR.out; have HBX := hid (HBX.out.below hbx HBX.out.lt); have tx := HBX.out.lt; obtain ⟨x0, x1⟩ := HBX.out; have HBY := hid (HBY.out.below hbx HBY.out.lt); have ty := HBY.out.lt; obtain ⟨y0, y1, y2⟩ := HBY.out; have HI1 := hid ((HI1.out.below hbx).mono hbx.size); have HI2 := hid ((HI2.out.below hbx).mono hbx.size); have HI3 := hid ((HI3.out.below hbx).mono hbx.size); clear hbx)
      | fail)
    go_upto_region 13 with fail
    obtain ⟨_, uc, rfl, _, _, _, _, hr3⟩ := HU.out.opened
    obtain ⟨ub, uo, rfl, hub, huc⟩ := hr3 (by have := HXL.out; omega)
    have HVC := hid huc
    clear hr3 huc
    obtain ⟨W, hW⟩ : ∃ W, W = (w9.alloc (.cells #[.slice wa ws.length wc, .slice ha hs.length hc] 28)).alloc (.cells #[] 3) := ⟨_, rfl⟩
    rw [← hW]
    have HST0 := hid (BuRel.start (r := r) (HS1.out.below HB.out) (HS2.out.below HB.out) HWL.out HHL.out HB.out.size hW)
    have HBW := hid (show Below w9.heap.size w9 W by rw [hW]; exact two_in _ _ _)
    clear hW
    go_wp2_with fail
    go_loopw [13, 14] (fun v i wr => ∃ (k : Nat) (av bv : Value), i = .int .i64 k ∧ k ≤ xs.length ∧ BuRel ws hs r w9.heap.size k v av bv wr ∧ Below w9.heap.size w9 wr) (fun _ i _ => xs.length - (intOf i).toNat)
    case atStart => exact ⟨0, _, _, by go_num, by omega, HST0.out, HBW.out⟩
    case round =>
      obtain ⟨k, av, bv, rfl, hkx, hrel, hbw⟩ := hrel
      have HR := hid hrel; have HBR2 := hid hbw
      clear hrel hbw s0 s1 f0 f1 f2 f3 f4 f5 f6 x0 x1 y0 y1 y2
      by_cases hlt : k < xs.length
      · go_upto_region 16 with fail
        obtain ⟨xk, hxk⟩ : ∃ xk, xk = atmDo ms (wsK ws r k) (hsK hs r k) who (oneOf r (xs.getD k 0) k) := ⟨_, rfl⟩
        have HXK := hid hxk
        have HSK := hid (show Small xk by rw [hxk]; exact atmDo_small ..)
        have HEK := hid (hxk.trans (HST.out k hlt))
        clear hxk
        go_cut [15, 16] from 76 to 89 (fun p q wd => BuP p q xk wr wd)
        case first =>
          rename_i J K' hJ hK
          exact bu_region mv _ _ _ _ _ _ _ _ _ _ _ _ _ _ _ _ _ _ _ _ _ _ _ _ _ _ _ _ _ _ _ _ _ _ _ _ _ _ _ _ _ _ _ _ _ _ _ _ _ _ _ _ _ _ _ _ _ _ _ _ _ _ _ _ _ _ _ _ _ _ _ _ _ _ _ _ _ _ _ _ _ _ _ _ _ ms who (w1.heap.size + 1) w9.heap.size ub uo xs.length uc k av bv _ _ (xs.getD k 0) r (wsK ws r k) (hsK hs r k) xk HXK wr HR.out.1 (HBR.out.below HBR2.out HBR.out.lt) ((HBR2.out.cell hub).trans (HVC.out k hlt)) (Nat.lt_of_lt_of_le hub HBR2.out.size) hlt
            ((HM.out.below (HB.out.trans (HBR2.out.mono HB.out.size))).mono (HB.out.trans (HBR2.out.mono HB.out.size)).size) HR.out.2.1 HR.out.2.2.1 (((HRD.out.below HB.out).below (HBR2.out.mono HB.out.size)).mono (HB.out.trans (HBR2.out.mono HB.out.size)).size) (((HRL.out.below HB.out).below (HBR2.out.mono HB.out.size)).mono (HB.out.trans (HBR2.out.mono HB.out.size)).size)
            ⟨HID.out.1, HID.out.2.1⟩ (HIN.out k hlt) (HDK.out k hlt) HXL.out.2 _ _ _ _ _ _ _ _ _ _ _ _ _ _ _ _ (fun u15 u16 u76 u77 u78 u79 u80 u81 u82 u83 u84 u85 u86 u87 u88 u89 wd h => hK _ _ (Met.intro (hJ _ _ ⟨u15, u16, u76, u77, u78, u79, u80, u81, u82, u83, u84, u85, u86, u87, u88, u89, h, rfl⟩)))
        case rest =>
          obtain ⟨ga, gr, a, b, d, rfl, rfl, hA, hR, hY, hb1, hgy, hgr, hmid⟩ := HR.out.mid hcut (by have := HSK.out.lw; omega) (by have := HSK.out.lh; omega) (by have := HSK.out.ld; omega) HSK.out.w HSK.out.h HSK.out.d
          have HBD := hid (HBR2.out.trans (hb1.mono HBR2.out.size))
          obtain ⟨k0, k1, m0, m1⟩ := hY.cells
          obtain ⟨a0, a1, _, _⟩ := hA.cells
          obtain ⟨r0, r1, r2, _, _, _⟩ := hR.cells
          have HMID := hid hmid
          have hcode : (xk.2.2.code != 1) = false := by rw [HEK.out]; rfl
          clear hY hA hR hb1 hcut
          obtain ⟨_, _, _, qa, qb, _⟩ := hmid _ rfl
          obtain ⟨aa, ac, ea, _⟩ := qa.opened
          obtain ⟨ba, bc, eb, _⟩ := qb.opened
          clear qa qb hmid
          subst ea eb
          go_upto_region 20 with fail
          obtain ⟨W2, hW2⟩ : ∃ W2, W2 = (wc.setCell ⟨w9.heap.size, 0, none⟩ (.slice aa xk.1.length ac)).setCell ⟨w9.heap.size, 1, none⟩ (.slice ba xk.2.1.length bc) := ⟨_, rfl⟩
          rw [← hW2]
          obtain ⟨q1, q2, q3, q4, q5, q6, q7, q8, q9, q10, q11, q12⟩ := HMID.out W2 hW2
          obtain ⟨_, _, z2, _, _, _⟩ := q2.cells
          have HQ1 := hid q1; have HQ3 := hid q3; have HQ4 := hid q4; have HQ5 := hid q5; have HQ6 := hid q6; have HQ7 := hid q7; have HQ8 := hid q8; have HQ9 := hid q9; have HQ10 := hid q10; have HQ11 := hid q11; have HQ12 := hid q12
          clear hW2 q1 q2 q3 q4 q5 q6 q7 q8 q9 q10 q11 q12 k0 k1 m0 m1 a0 a1 r0 r1 r2 hcode
          go_wp2_with (first
            | (at_builtin; go_must (refine wpList_catN elem_int rowI rowI_len rowI_one W2 rfl _ _ rfl (w9.heap.size + 1) _ (wdK ws r k) (by rfl) HQ3.out d xk.2.2.data W2.heap.size (by rfl) HQ6.out.1 (by have := wdK_len ws r k; have := HSK.out.ld; have := HXL.out; omega) (by have := wdK_len ws r k; have := HSK.out.ld; have := HXL.out; omega) HQ8.out ?_; intro v' w11 ho3 hb3 hk3 hn3))
            | fail)
          go_roundw
          case rel => exact ⟨k + 1, _, _, by go_num, by omega, BuRel.next HQ1.out (fun q hq => (OwnR.lt HQ3.out q hq).1) (by rw [show wsK ws r (k + 1) = xk.1 from (congrArg (fun z => z.1) HEK.out).symm]; exact HQ4.out) (by rw [show hsK hs r (k + 1) = xk.2.1 from (congrArg (fun z => z.2.1) HEK.out).symm]; exact HQ5.out) HQ9.out HQ10.out HQ11.out HQ12.out ho3 (by rw [HWS.out k hlt, HEK.out]) hb3 hk3 hn3, (HBD.out.trans (HQ7.out)).trans (hb3.mono (by omega))⟩
          case measure => simp [intOf]; omega
      · obtain rfl : k = xs.length := by omega
        have hbx := HBR2.out
        have HB := hid (HB.out.trans (hbx.mono HB.out.size))
        have HB0 := hid (HB0.out.below hbx HB0.out.lt)
        have ts := HB0.out.lt
        obtain ⟨s0, s1⟩ := HB0.out
        have HBR := hid (HBR.out.below hbx HBR.out.lt)
        have tf := HBR.out.lt
        obtain ⟨f0, f1, f2, f3, f4, f5, f6⟩ := HBR.out
        have HBX := hid (HBX.out.below hbx HBX.out.lt)
        have tx := HBX.out.lt
        obtain ⟨x0, x1⟩ := HBX.out
        have HBY := hid (HBY.out.below hbx HBY.out.lt)
        have ty := HBY.out.lt
        obtain ⟨y0, y1, y2⟩ := HBY.out
        have HI1 := hid ((HI1.out.below hbx).mono hbx.size)
        have HI2 := hid ((HI2.out.below hbx).mono hbx.size)
        have HI3 := hid ((HI3.out.below hbx).mono hbx.size)
        clear hbx
        obtain ⟨p1, p2, p3, p4, _, _, _, _⟩ := HR.out
        obtain ⟨k0, k1, m0, m1⟩ := p1.cells
        have p2 : Ints wr wr.heap.size av x.1 := by rw [HLW.out]; exact p2
        have p3 : Ints wr wr.heap.size bv x.2.1 := by rw [HLW.out]; exact p3
        obtain ⟨aa, ac, rfl, _⟩ := p2.opened
        obtain ⟨ba, bc, rfl, _⟩ := p3.opened
        have p4 := (p4.ints (by have := wdK_len ws r xs.length; have := HXL.out; omega) (by have h := HSM.out.d; rwa [HLW.out] at h))
        rw [show wdK ws r xs.length = x.2.2.data from (congrArg (fun z => z.2.2.data) HLW.out).symm] at p4
        have P2 := hid p2; have P3 := hid p3; have P4 := hid p4
        clear p1 p2 p3 p4
        go_wp2_with (first
          | (go_at_call 24; go_loud (refine (crAtm_same x.1 x.2.1 _ _ _ _ _ _ _ _ wr.heap.size _ P2.out P3.out HI1.out HI2.out (Nat.le_refl _)).mono ?_; rintro e w11 ⟨rfl, hbx⟩; have P4 := hid ((P4.out.below hbx).mono hbx.size); have HB := hid (HB.out.trans (hbx.mono HB.out.size)); have HB0 := hid (HB0.out.below hbx HB0.out.lt); have ts := HB0.out.lt; obtain ⟨s0, s1⟩ := HB0.out; have HBR := hid (HBR.out.below hbx HBR.out.lt); have tf := HBR.out.lt; obtain ⟨f0, f1, f2, f3, f4, f5, f6⟩ := HBR.out; have HBX := hid (HBX.out.below hbx HBX.out.lt); have tx := HBX.out.lt; obtain ⟨x0, x1⟩ := HBX.out; have HBY := hid (HBY.out.below hbx HBY.out.lt); have ty := HBY.out.lt; obtain ⟨y0, y1, y2⟩ := HBY.out; have HI1 := hid ((HI1.out.below hbx).mono hbx.size); have HI2 := hid ((HI2.out.below hbx).mono hbx.size); have HI3 := hid ((HI3.out.below hbx).mono hbx.size); clear hbx))
          | (go_at_call 25; go_loud (refine (crInts_same _ _ x.2.2.data _ _ _ P4.out HI3.out).mono ?_; rintro e w13 ⟨rfl, hd⟩; have hbx := hd.below w11.heap.size; have HB := hid (HB.out.trans (hbx.mono HB.out.size)); have HB0 := hid (HB0.out.below hbx HB0.out.lt); have ts := HB0.out.lt; obtain ⟨s0, s1⟩ := HB0.out; have HBR := hid (HBR.out.below hbx HBR.out.lt); have tf := HBR.out.lt; obtain ⟨f0, f1, f2, f3, f4, f5, f6⟩ := HBR.out; have HBX := hid (HBX.out.below hbx HBX.out.lt); have tx := HBX.out.lt; obtain ⟨x0, x1⟩ := HBX.out; have HBY := hid (HBY.out.below hbx HBY.out.lt); have ty := HBY.out.lt; obtain ⟨y0, y1, y2⟩ := HBY.out; have HI1 := hid ((HI1.out.below hbx).mono hbx.size); have HI2 := hid ((HI2.out.below hbx).mono hbx.size); have HI3 := hid ((HI3.out.below hbx).mono hbx.size); clear hbx))
          | fail)
        go_ret
        exact ⟨rfl, HB1.out.trans (HB.out.mono HB1.out.size)⟩

end Go.Proofs.Ytpjfjccjmbphmaa

namespace Go.Proofs.Ytpjfjccjmbphmaa
open Go.RowKit
open Go.ChangeShapes Go.WideShapes Go.ChangeAt

theorem burst_holds : Rows.FnAtmBurstSaid :=
  OpenClaim.holds_of_wide 10 Try.f10 rfl rfl rfl rfl rfl rfl rfl ⟨rfl, rfl, rfl, rfl, rfl⟩ rfl rfl rfl rfl rfl (by kernel_rfl) Try.func10 (by kernel_rfl)
    (of_decide_eq_true (by kernel_rfl)) (by unfold Func.isWrapper; first | (rw [if_pos (by decide +kernel)]; kernel_rfl) | (rw [if_neg (by decide +kernel)]; exact ⟨rfl, rfl⟩))
    (fun os started H enc _ => code_lifted started enc 10 Try.f10 Rows.fnAtmBurstSpec rfl (by kernel_rfl) Try.func10
      (ChangeSpec.witness6 (enc := enc) (C := Try.checked) false ⟨#[], #[.slice none 0 0], []⟩ 8 (by kernel_rfl) (by kernel_rfl) (by kernel_rfl) (by kernel_rfl)) Try.params10 rfl (fun _ => ⟨rfl, rfl, rfl⟩) (burst_any drawAtmDo_any))
#print axioms burst_holds

end Go.Proofs.Ytpjfjccjmbphmaa
