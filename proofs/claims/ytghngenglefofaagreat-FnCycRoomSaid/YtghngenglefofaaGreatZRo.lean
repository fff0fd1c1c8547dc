/- For every code the law FnCycRoom returns true, and its argument reads behind the call as it read before. -/
import Derived.Test.YtghngenglefofaaGreatGLc0
import Derived.Test.YtghngenglefofaaGreatGDp
set_option linter.unusedVariables false
set_option linter.unusedSimpArgs false
namespace Go.Proofs.YtghngenglefofaaGreat
open Go.RowKit
set_option maxRecDepth 8000 in
set_option maxHeartbeats 16000000 in
theorem room_any (hdraw : DrawPl) (v : Value) (bs : List Nat) (B : Nat) (w : World) (h : Bytes w B v bs) (hB : B ≤ w.heap.size) :
  Calls Tryz.prog 4 #[v] w fun e w' => e = .returned (.bool true) ∧ Below w.heap.size w w' := by
 obtain ⟨ao, cap, rfl, hlc, hcap, hln, hni, hr⟩ := h.opened
 clear hr
 by_cases hbig : (1048576 : Int) < (bs.length : Int)
 ·go_enter Tryz.func4, Tryz.ntmps4
  go_wp2_with fail
  go_ret
  exact ⟨rfl, Below.refl _ _⟩
 ·go_enter Tryz.func4, Tryz.ntmps4
  go_wp2_with fail
  refine (hdraw _ bs B w h hB).mono ?_
  rintro e w1 ⟨u, iv, c, ins, rfl, hbus, hbv, hins, hil, hb1⟩
  obtain ⟨mv, lb, lo, lc, pb, po, pc, QQ, K, rfl, ⟨ma, mn, mk, rfl⟩, _, _, _, _, _, _⟩ := hbv.opened hbus
  obtain ⟨ia, ic, rfl, ic1, ic2, ic3, _, hcell⟩ := hins.opened
  have HBV := hid hbv; have HCELL := hid hcell; have HB1 := hid hb1
  obtain ⟨il, hil2⟩ : ∃ x, x = ins.length := ⟨_, rfl⟩
  rw [← hil2] at HCELL ic1 ic3 hil ⊢
  have HIL := hid hil2
  clear hbv hins hcell hb1 hil2 h
  go_upto_region 4 with fail
  obtain ⟨w2, hw2⟩ : ∃ W, W = w1.alloc (.cells #[.slice ma mn mk, .slice (some ⟨lb, lo, none⟩) 4 lc, .slice (some ⟨pb, po, none⟩) 3 pc] 27) := ⟨_, rfl⟩
  obtain ⟨gb, hgb⟩ : ∃ g, g = w1.heap.size := ⟨_, rfl⟩
  have X0 := hid (show Bx w2 gb [.slice ma mn mk, .slice (some ⟨lb, lo, none⟩) 4 lc, .slice (some ⟨pb, po, none⟩) 3 pc] by rw [hw2, hgb]; exact Bx.new w1 #[.slice ma mn mk, .slice (some ⟨lb, lo, none⟩) 4 lc, .slice (some ⟨pb, po, none⟩) 3 pc] 27 (by simp))
  have HB2 := hid (show Below w1.heap.size w1 w2 by rw [hw2]; exact (Below.refl _ _).alloc (Nat.le_refl _) _)
  rw [← hw2, ← hgb]
  have HGB := hid hgb
  clear hw2 hgb
  go_upto_region 5 with (go_at_call 16; go_loud ((with_reducible refine (cycNew_any _).mono ?_)); rintro e w3 hcop; obtain ⟨V, N, C, D, y0, y1, y2, y3, y4, m0, m1, m2, m3, m4, j0, j1, j2, j3, j4, hE, rfl, hr, hb3⟩ := hcop.sl; have HE := hid hE; have HR := hid hr; have HB3 := hid hb3; clear hcop hE hr hb3)
  obtain ⟨w4, hw4⟩ : ∃ W, W = w3.alloc (.cells #[.slice y0 m0 j0, .slice y1 m1 j1, .slice y2 m2 j2, .slice y3 m3 j3, .slice y4 m4 j4] 39) := ⟨_, rfl⟩
  obtain ⟨gs, hgs⟩ : ∃ g, g = w3.heap.size := ⟨_, rfl⟩
  have hb4 : Below w3.heap.size w3 w4 := by rw [hw4]; exact (Below.refl _ _).alloc (Nat.le_refl _) _
  have HS := hid (show CyBox w4 gs cy0 from CyBox.new HR.out hb4 (by omega) (by
   obtain ⟨e0, e1, e2, e3, e4⟩ := HE.out
   rw [e0, e1, e2, e3, e4, hw4, hgs]; exact Bx.new w3 #[.slice y0 m0 j0, .slice y1 m1 j1, .slice y2 m2 j2, .slice y3 m3 j3, .slice y4 m4 j4] 39 (by simp)))
  have X04 := hid ((X0.out.below HB3.out X0.out.lt).below hb4 (by have := X0.out.lt; have := HB3.out.size; omega))
  have HB4 := hid ((HB2.out.trans (HB3.out.mono HB2.out.size)).trans (hb4.mono (Nat.le_trans HB2.out.size HB3.out.size)))
  have hgg : gb < gs := by have := X0.out.lt; have := HB3.out.size; omega
  have h1s : w1.heap.size ≤ gs := by have := HB2.out.size; have := HB3.out.size; omega
  rw [← hw4, ← hgs]
  clear hw4 hgs hb4
  go_wp2_with fail
  go_loopw [6] (fun i wr => ∃ k : Nat, i = .int .i64 k ∧ k ≤ il ∧ CyBox wr gs (runC c (ins.take k) cy0) ∧ Bx wr gb [.slice ma mn mk, .slice (some ⟨lb, lo, none⟩) 4 lc, .slice (some ⟨pb, po, none⟩) 3 pc] ∧ Below w1.heap.size w1 wr) (fun i _ => il - (intOf i).toNat)
  case atStart => exact ⟨0, rfl, Nat.zero_le _, by simpa [runC] using HS.out, X04.out, HB4.out⟩
  case round =>
   clear HS X04 HB4 HE HR
   obtain ⟨k, rfl, hk, hs, hx0, hbr⟩ := hrel
   have HS := hid hs; have X := hid hx0; have HBR := hid hbr
   have HG := hid (show Good c (runC c (ins.take k) cy0) from good_run hbus _ (good_zero c))
   obtain ⟨wo, hwo⟩ : ∃ W, W = wr := ⟨_, rfl⟩
   subst hwo
   clear hs hx0 hbr
   by_cases hlt : k < il
   ·have hki : (k : Int) < (il : Int) := by omega
    obtain ⟨b, off, rfl, hbB, hrow⟩ := HCELL.out (by omega)
    obtain ⟨ra, rc, ta, tc, sa, sc, hiv, c0, c1, c2⟩ := hrow k hlt
    obtain ⟨st, hst⟩ : ∃ s, s = runC c (ins.take k) cy0 := ⟨_, rfl⟩
    have HSN := hid (show runC c (ins.take (k + 1)) cy0 = cyc c (ins.getD k default) st by rw [hst]; exact runC_snoc c ins k (by rw [← HIL.out]; exact hlt) cy0)
    rw [← hst] at HS HG
    obtain ⟨z0, z1, z2, z3, z4, n0, n1, n2, n3, n4, k0, k1, k2, k3, k4, P, Q, hx, hv⟩ := HS.out.view hbus HG.out
    obtain ⟨t0, t1, t2, t3, t4⟩ := hx.five.1
    obtain ⟨b0, b1, b2⟩ := X.out.three.1
    rw [← HBR.out.cell (p := ⟨b, _, none⟩) hbB] at c0 c1 c2
    go_upto_region 8 with fail
    obtain ⟨w9, hw9⟩ : ∃ w9, w9 = wo.drew := ⟨_, rfl⟩
    have hb9 : Below wo.heap.size wo w9 := by rw [hw9]; exact (Below.refl _ _).drew
    have hz9 : w9.heap.size = wo.heap.size := by rw [hw9]; rfl
    have HST := hid (show Calls Tryz.prog 17 #[.agg #[.slice ma mn mk, .slice (some ⟨lb, lo, none⟩) 4 lc, .slice (some ⟨pb, po, none⟩) 3 pc], .agg #[.slice z0 n0 k0, .slice z1 n1 k1, .slice z2 n2 k2, .slice z3 n3 k3, .slice z4 n4 k4], .agg #[.slice ra 3 rc, .slice ta 4 tc, .slice sa 3 sc]] w9 (CopP (cyc c (ins.getD k default) st) w9) from
     cycStep_any hbus (B := wo.heap.size) (((HBV.out.below HBR.out).mono HBR.out.size).below hb9) (hv.below hb9) (((hiv.below HBR.out).mono HBR.out.size).below hb9) (by omega) HG.out)
    have HS9 := hid (HS.out.below hb9)
    have HB9 := hid hb9; have HZ9 := hid hz9
    have X9 := hid (X.out.below hb9 X.out.lt)
    refine wp_region_still_tail 6 (by kernel_rfl) (by kernel_rfl) ?_
    change wpStill Tryz.prog _ wo.drew (fun a' => wpList Tryz.prog _ _ _ a' wo.drew) _ _
    rw [← hw9]
    have kc : ∀ {p : Addr} {v : Value}, wo.cell? p = some v → w9.cell? p = some v := fun h => by rw [hw9]; exact h
    replace t0 := kc t0; replace t1 := kc t1; replace t2 := kc t2; replace t3 := kc t3; replace t4 := kc t4; replace b0 := kc b0; replace b1 := kc b1; replace b2 := kc b2; replace c0 := kc c0; replace c1 := kc c1; replace c2 := kc c2
    clear hw9 kc hb9 hx hv hiv hz9 hrow
    simp only [List.take_succ_cons, List.take_zero, List.drop_succ_cons, List.drop_zero]
    repeat still_step
    refine wpStill_nil ?_
    clear t0 t1 t2 t3 t4 b0 b1 b2 c0 c1 c2
    go_upto_region 9 with (go_at_call 17; go_loud ((with_reducible refine (HST.out).mono ?_)); rintro e wa hcop; obtain ⟨z0, z1, z2, z3, z4, n0, n1, n2, n3, n4, k0, k1, k2, k3, k4, rfl, ⟨_, _, _, _, _, hxa⟩, hba, hsb⟩ := hcop.store HS9.out; obtain ⟨⟨q0, q1, q2, q3, q4⟩, f0, f1, f2, f3, f4⟩ := hxa.five; have hrl := hxa.lt; have HBA := hid hba; have HSB := hid hsb; clear hcop hxa hba hsb)
    clear q0 q1 q2 q3 q4 f0 f1 f2 f3 f4 hrl
    obtain ⟨wb, hwb⟩ : ∃ W, W = ((((wa.setCell ⟨gs, 0, none⟩ (.slice z0 n0 k0)).setCell ⟨gs, 1, none⟩ (.slice z1 n1 k1)).setCell ⟨gs, 2, none⟩ (.slice z2 n2 k2)).setCell ⟨gs, 3, none⟩ (.slice z3 n3 k3)).setCell ⟨gs, 4, none⟩ (.slice z4 n4 k4) := ⟨_, rfl⟩
    rw [← hwb] at HSB
    rw [← hwb]
    have XB := hid (show Bx wb gb [.slice ma mn mk, .slice (some ⟨lb, lo, none⟩) 4 lc, .slice (some ⟨pb, po, none⟩) 3 pc] from (X9.out.below HBA.out X9.out.lt).kept (by rw [hwb]; exact put5_other _ (by omega)))
    have HBB := hid (show Below w1.heap.size w1 wb by
     have h9 := (HBR.out.trans (HB9.out.mono HBR.out.size)).trans (HBA.out.mono (by have := HBR.out.size; have := HZ9.out; omega))
     rw [hwb]; exact ((((h9.setCell (p := ⟨gs, _, none⟩) h1s _).setCell (p := ⟨gs, _, none⟩) h1s _).setCell (p := ⟨gs, _, none⟩) h1s _).setCell (p := ⟨gs, _, none⟩) h1s _).setCell (p := ⟨gs, _, none⟩) h1s _)
    have HG2 := hid (good_step hbus (inp := ins.getD k default) HG.out)
    obtain ⟨st2, hst2⟩ : ∃ s, s = cyc c (ins.getD k default) st := ⟨_, rfl⟩
    rw [← hst2] at HSB HG2 HSN
    clear hwb hst2 HS HST HS9 HBA HB9 HZ9 X9
    obtain ⟨u0, u1, u4, v0, v1, l0, l1, l4, pg, po2, pc2, tg, tp, tc, P2, Q2, hx2, _, hpr, hqr, hpf, hqf⟩ := HSB.out.rows hbus HG2.out
    obtain ⟨t0, t1, t2, t3, t4⟩ := hx2.five.1
    have HPR := hid hpr; have HQR := hid hqr; have HPF := hid hpf; have HQF := hid hqf
    clear hx2 hpr hqr hpf hqf t0 t4
    go_wp2_with fail
    go_loop [7, 9] (fun s i => ∃ m : Nat, i = .int .i64 m ∧ m ≤ 3 ∧ s = .int .i64 (outsN st2 m : Nat) ∧ outsN st2 m ≤ 4 * m) (fun _ i => 3 - (intOf i).toNat)
    case atStart => exact ⟨0, by go_num, Nat.zero_le _, rfl, by simp [outsN]⟩
    case round =>
     obtain ⟨m, rfl, hm, rfl, hsm⟩ := hrel
     by_cases hlt2 : m < 3
     ·have hmi : (m : Int) < 3 := by omega
      obtain ⟨qa, qc, oa, oc, he⟩ := HPF.out m hlt2
      have hp5 := HPR.out m hlt2
      rw [he] at hp5
      have p1 := hp5 1 (by omega); have p2 := hp5 2 (by omega)
      simp only [rowPS, sl, List.getElem?_cons_zero, List.getElem?_cons_succ, Nat.add_zero] at p1 p2
      obtain ⟨qn, hqn⟩ : ∃ x, x = (st2.ports m).queue.length := ⟨_, rfl⟩
      obtain ⟨on, hon⟩ : ∃ x, x = (st2.ports m).out.length := ⟨_, rfl⟩
      rw [← hqn] at p1; rw [← hon] at p2
      have hq2 : qn ≤ 2 := by rw [hqn]; exact (HG2.out.p m hlt2).q2
      have ho4 : on ≤ 4 := by rw [hon]; exact (HG2.out.p m hlt2).o4
      have e1 : decide ((2 : Int) < (qn : Int)) = false := by simp; omega
      have e2 : decide ((4 : Int) < (on : Int)) = false := by simp; omega
      have HON := hid (show outsN st2 (m + 1) = outsN st2 m + on by rw [outsN_succ, hon])
      have H4 := hid (show outsN st2 (m + 1) ≤ 4 * (m + 1) by rw [HON.out]; omega)
      obtain ⟨sm, hsm2⟩ : ∃ x, x = outsN st2 m := ⟨_, rfl⟩
      rw [← hsm2] at hsm HON ⊢
      obtain ⟨sy, hsy⟩ : ∃ y, y = sm + on := ⟨_, rfl⟩
      rw [← hsy] at HON
      have ew : IntKind.i64.wrap ((sm : Int) + (on : Int)) = (sy : Int) := by rw [IntKind.wrap_i64]; omega
      clear hp5 he hqn hon hq2 ho4 hsm2 hsy
      go_wp2_with fail
      go_round
      case rel => exact ⟨m + 1, by go_num, by omega, by rw [HON.out], H4.out⟩
      case measure => simp [intOf]; omega
     ·obtain rfl : m = 3 := by omega
      rw [show (((3 : Nat)) : Int) = (3 : Int) from rfl]
      obtain ⟨so, hso⟩ : ∃ x, x = outsN st2 3 := ⟨_, rfl⟩
      rw [← hso]
      have HSO := hid hso
      clear hso hsm
      go_wp2_with fail
      obtain ⟨wo, hwo⟩ : ∃ W, W = wb := ⟨_, rfl⟩
      subst hwo
      go_loopw [8, 10] (fun s i wr => ∃ m : Nat, i = .int .i64 m ∧ m ≤ 4 ∧ s = .int .i64 (heldN st2 m : Nat) ∧ heldN st2 m ≤ 4 * m ∧ ∃ n, wr = wo.drewN n) (fun _ i _ => 4 - (intOf i).toNat)
      case atStart => exact ⟨0, by go_num, Nat.zero_le _, rfl, by simp [heldN], 0, rfl⟩
      case round =>
       obtain ⟨m, rfl, hm, rfl, hsm, nd, rfl⟩ := hrel
       by_cases hlt2 : m < 4
       ·have hmi : (m : Int) < 4 := by omega
        obtain ⟨qa, qc, oa, oc, he⟩ := HQF.out m hlt2
        have hp5 := HQR.out m hlt2
        rw [he] at hp5
        have p1 := hp5 0 (by omega); have p2 := hp5 1 (by omega)
        simp only [rowSS, sl, List.getElem?_cons_zero, List.getElem?_cons_succ, Nat.add_zero] at p1 p2
        obtain ⟨qn, hqn⟩ : ∃ x, x = (st2.slaves m).pipe.length := ⟨_, rfl⟩
        obtain ⟨on, hon⟩ : ∃ x, x = (st2.slaves m).done.length := ⟨_, rfl⟩
        rw [← hqn] at p1; rw [← hon] at p2
        have hq2 : qn ≤ 2 := by rw [hqn]; exact (HG2.out.s m hlt2).p2
        have ho4 : on ≤ 2 := by rw [hon]; exact (HG2.out.s m hlt2).d2
        have e1 : decide ((2 : Int) < (qn : Int)) = false := by simp; omega
        have e2 : decide ((2 : Int) < (on : Int)) = false := by simp; omega
        have HON := hid (show heldN st2 (m + 1) = heldN st2 m + (qn + on) by rw [heldN_succ, hqn, hon])
        have H4 := hid (show heldN st2 (m + 1) ≤ 4 * (m + 1) by rw [HON.out]; omega)
        obtain ⟨sm, hsm2⟩ : ∃ x, x = heldN st2 m := ⟨_, rfl⟩
        rw [← hsm2] at hsm HON ⊢
        obtain ⟨s1, hs1⟩ : ∃ y, y = sm + qn := ⟨_, rfl⟩
        obtain ⟨sy, hsy⟩ : ∃ y, y = s1 + on := ⟨_, rfl⟩
        rw [show sm + (qn + on) = sy by omega] at HON
        have ew1 : IntKind.i64.wrap ((sm : Int) + (qn : Int)) = (s1 : Int) := by rw [IntKind.wrap_i64]; omega
        have ew : IntKind.i64.wrap ((s1 : Int) + (on : Int)) = (sy : Int) := by rw [IntKind.wrap_i64]; omega
        clear hp5 he hqn hon hq2 ho4 hsm2 hsy hs1
        obtain ⟨wx, hwx⟩ : ∃ x, x = wo.drewN nd := ⟨_, rfl⟩
        have kd : ∀ {p : Addr} {v : Value}, wo.cell? p = some v → wx.cell? p = some v := fun h => by rw [hwx]; exact h
        have t2 := kd t2; have t3 := kd t3; have p1 := kd p1; have p2 := kd p2
        rw [← hwx]
        have HWX := hid hwx
        clear hwx kd
        go_upto_region 22 with fail
        go_quiet (fail)
        go_wp2_with fail
        go_roundw
        case rel => exact ⟨m + 1, by go_num, by omega, by rw [HON.out], H4.out, by rw [HWX.out]; first | exact ⟨_, rfl⟩ | exact ⟨nd + 1, rfl⟩ | exact ⟨_, World.drewN_drewN ..⟩ | exact ⟨_, by simp⟩⟩
        case measure => simp [intOf]; omega
       ·obtain rfl : m = 4 := by omega
        have hev : heldN st2 4 = so := by rw [HSO.out]; exact Good.even hbus HG2.out
        rw [show (((4 : Nat)) : Int) = (4 : Int) from rfl, hev]
        have HBN := hid (show Below wo.heap.size wo (wo.drewN nd) from Below.draws (Below.refl _ _) nd)
        clear hsm hev
        go_wp2_with fail
        go_roundw
        case rel => exact ⟨k + 1, by go_num, by omega, by rw [HSN.out]; exact HSB.out.below HBN.out, XB.out.below HBN.out XB.out.lt, HBB.out.trans (HBN.out.mono HBB.out.size)⟩
        case measure => simp [intOf]; omega
   ·obtain rfl : k = il := by omega
    have hki2 : decide ((k : Int) < (k : Int)) = false := by simp
    rw [show ins.take k = ins from List.take_of_length_le (by rw [HIL.out]; exact Nat.le_refl _)] at HS HG
    obtain ⟨z0, z1, z2, z3, z4, n0, n1, n2, n3, n4, k0, k1, k2, k3, k4, P, Q, hx, hv⟩ := HS.out.view hbus HG.out
    obtain ⟨t0, t1, t2, t3, t4⟩ := hx.five.1
    obtain ⟨b0, b1, b2⟩ := X.out.three.1
    have HOK := hid (cycOk_any hbus ((HBV.out.below HBR.out).mono HBR.out.size) hv (Nat.le_refl _) HG.out)
    clear hx hv
    go_wp2_with (first
     | (go_at_call 18; go_loud ((with_reducible refine (HOK.out).mono ?_)); rintro e w8 ⟨rfl, hb8⟩; have HB8 := hid hb8; clear hb8 t0 t1 t2 t3 t4 b0 b1 b2)
     | (go_at_call 19; refine (crOk_any _).mono ?_; rintro e w9 ⟨rfl, rfl⟩))
    go_ret
    exact ⟨rfl, (HB1.out.trans (HBR.out.mono HB1.out.size)).trans (HB8.out.mono (Nat.le_trans HB1.out.size HBR.out.size))⟩
end Go.Proofs.YtghngenglefofaaGreat
namespace Go.Proofs.YtghngenglefofaaGreat
open Go.RowKit
open Go.ChangeShapes Go.WideShapes Go.ChangeAt
theorem room_holds : Rows.FnCycRoomSaid :=
 OpenClaim.holds_of_wide 4 Tryz.f4 rfl rfl rfl rfl rfl rfl rfl ⟨rfl, rfl, rfl, rfl, rfl⟩ rfl rfl rfl rfl rfl (by kernel_rfl) Tryz.func4 (by kernel_rfl)
  (of_decide_eq_true (by kernel_rfl)) (by unfold Func.isWrapper; first | (rw [if_pos (by decide +kernel)]; kernel_rfl) | (rw [if_neg (by decide +kernel)]; exact ⟨rfl, rfl⟩))
  (fun os started H enc _ => code_lifted started enc 4 Tryz.f4 Rows.fnCycRoomSpec rfl (by kernel_rfl) Tryz.func4
   (ChangeSpec.witness6 (enc := enc) (C := Tryz.checked) false ⟨#[], #[.slice none 0 0], []⟩ 8 (by kernel_rfl) (by kernel_rfl) (by kernel_rfl) (by kernel_rfl)) Tryz.params4 rfl (fun _ => ⟨rfl, rfl, rfl⟩) (room_any drawPlay_any))
#print axioms room_holds
end Go.Proofs.YtghngenglefofaaGreat
