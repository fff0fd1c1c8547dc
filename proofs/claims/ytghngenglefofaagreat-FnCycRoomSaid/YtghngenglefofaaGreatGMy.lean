/- A cycle: whether one who asks may be let in at a store (may). -/
import Derived.Test.YtghngenglefofaaGreatGMf
set_option linter.unusedVariables false
set_option linter.unusedSimpArgs false
namespace Go.Proofs.YtghngenglefofaaGreat
open Go.RowKit
theorem queue_head {w : World} {base : Nat} {qa : Option Addr} {m qc n : Nat} {rest : List Nat} (h : Owns w base 3 1 rowN (.slice qa m qc) (n :: rest)) (hn : (n :: rest).length ≤ 140737488351232) :
  ∃ b off, qa = some ⟨b, off, none⟩ ∧ b < w.heap.size ∧ w.cell? ⟨b, off, none⟩ = some (.int .i64 (n : Nat)) := by
 obtain ⟨ao, cap, hv, _, _, _, _, h3⟩ := h.arr (fun _ => rfl) hn
 obtain ⟨b, off, ha, hlt, hc⟩ := h3 (by simp)
 simp only [Value.slice.injEq] at hv
 refine ⟨b, off, hv.1.trans ha, hlt, ?_⟩
 have := hc 0 (by simp) 0 (by omega)
 simpa [rowN] using this
theorem slv_nat {ms : List MR} {r : Rq} (hm : mapOk ms = true) : slaveOf ms r = ((slaveOf ms r).toNat : Nat) := by
 have h : 0 ≤ slaveOf ms r := by
  unfold slaveOf
  split
  ·omega
  ·rename_i h
   have hlt := wholeOf_lt ms (rqBurst r)
   have hk : (wholeOf ms (rqBurst r)).toNat < ms.length := by omega
   simp only [mapOk, Bool.and_eq_true, List.all_eq_true] at hm
   have h2 := hm.2 _ (List.mem_range.2 hk)
   simp only [rangeOk, Bool.and_eq_true, inB, decide_eq_true_eq] at h2
   omega
 omega
set_option maxRecDepth 4000 in
set_option maxHeartbeats 8000000 in
theorem may_any {c : Cfg} (hbus : Bus c) {w : World} {base S Hb : Nat} {L : Nat → Value} {st : Cy} {ev : List Ev} {V : Nat → Value} {N : Nat → Nat} {C : Nat → List Value} {D : Nat → List TJV} (hm : CyM w base S Hb L st ev V N C D) (hg : Good c st) {B : Nat} {ma : Option Addr} {mn mk lb lo lc pb po' pc' : Nat} {Q : Nat → Option Addr} {K : Nat → Nat} (hc : BusO w B c ma mn mk lb lo lc pb po' pc' Q K) (hB : B ≤ base) {who s : Nat} (hw : who < 3) (hs : s < 4) :
  Calls Tryz.prog 129 #[.pointer (some ⟨S, 0, none⟩), .agg #[.slice ma mn mk, .slice (some ⟨lb, lo, none⟩) 4 lc, .slice (some ⟨pb, po', none⟩) 3 pc'], .int .i64 who, .int .i64 s] w fun e w' => e = .returned (.bool (may c st who s)) ∧ Below w.heap.size w w' := by
 have hbw : base ≤ w.heap.size := Nat.le_trans hm.s0 (Nat.le_of_lt (heap_lt' hm.bs))
 have hS := heap_lt' hm.bs
 obtain ⟨w0, hw0⟩ : ∃ W, W = ((w.alloc (.cells #[.slice ma mn mk, .slice (some ⟨lb, lo, none⟩) 4 lc, .slice (some ⟨pb, po', none⟩) 3 pc'] 27)).alloc (.cells #[.int .i64 who] 3)).alloc (.cells #[.int .i64 s] 3) := ⟨_, rfl⟩
 have hb0 : Below w.heap.size w w0 := by rw [hw0]; exact (((Below.refl _ _).alloc (Nat.le_refl _) _).alloc (by simp) _).alloc (by simp; omega) _
 have hz0 : w0.heap.size = w.heap.size + 3 := by rw [hw0]; simp
 have B1 := hid (show BusB w0 w.heap.size ma mn mk lb lo lc pb po' pc' by
  unfold BusB; rw [hw0, ((Below.refl _ _).alloc (Nat.le_refl _) _).block _ (by simp; omega), ((Below.refl _ _).alloc (Nat.le_refl _) _).block _ (by simp)]; exact alloc_at _ _ rfl)
 have B2 := hid (show IntB w0 (w.heap.size + 1) who by
  unfold IntB; rw [hw0, ((Below.refl _ _).alloc (Nat.le_refl _) _).block _ (by simp)]; exact alloc_at _ _ (by simp))
 have B4 := hid (show IntB w0 (w.heap.size + 2) s by unfold IntB; rw [hw0]; exact alloc_at _ _ (by simp))
 have hm0 := hm.below hb0
 have HM0 := hid hm0
 have HO := hid (hc.below (hb0.mono (Nat.le_trans hB hbw)))
 obtain ⟨pg, po, pc, hV2, hpc, hpc2, hpb, hpz⟩ := hm0.ports
 obtain ⟨p0, p1, p2, p3, pf⟩ := hm0.port hV2 hw
 obtain ⟨q0, q1, q2, q3, q4, qf⟩ := hm0.box
 rw [hV2] at q2
 obtain ⟨qa, qc, hqs, _, _⟩ := (hm0.oQueue hw).shape
 obtain ⟨oa, oc, hos, _, _⟩ := (hm0.oOut hw).shape
 rw [hqs] at p1
 rw [hos] at p2
 obtain ⟨ql, hql⟩ : ∃ x, x = (st.ports who).queue.length := ⟨_, rfl⟩
 obtain ⟨ol, hol⟩ : ∃ x, x = (st.ports who).out.length := ⟨_, rfl⟩
 obtain ⟨nx, hnx⟩ : ∃ x, x = (st.ports who).next := ⟨_, rfl⟩
 obtain ⟨ls, hls⟩ : ∃ x, x = (st.ports who).last := ⟨_, rfl⟩
 rw [← hnx] at p0; rw [← hql] at p1; rw [← hol] at p2; rw [← hls] at p3
 have hQo := hm0.oQueue hw
 rw [hqs] at hQo
 have HQS := hid hqs; have HOS := hid hos; have HOO := hid (hm0.oOut hw)
 rw [hos] at HOO
 obtain ⟨x0, x1, x2, x3⟩ := B1.out.cells
 obtain ⟨y0, y1⟩ := B2.out.cells
 obtain ⟨u0, u1⟩ := B4.out.cells
 have hwi : (who : Int) < 3 := by omega
 have HB0 := hid hb0
 have HBW := hid hbw; have HBB := hid hB; have HG := hid (hg.p who hw)
 have hS0 : S < w0.heap.size := by omega
 have HZ := hid hz0
 obtain ⟨w1, hw1⟩ : ∃ W, W = (w0.alloc (.cells #[.int .i64 nx, .slice qa ql qc, .slice oa ol oc, .int .i64 ls] 47)).drew := ⟨_, rfl⟩
 have hb1 : Below w0.heap.size w0 w1 := by rw [hw1]; exact ((Below.refl _ _).alloc (Nat.le_refl _) _).drew
 have hpt : w1.heap[w0.heap.size]? = some (.cells #[.int .i64 nx, .slice qa ql qc, .slice oa ol oc, .int .i64 ls] 47 (0, 0)) := by rw [hw1]; exact alloc_at _ _ rfl
 have hz1 := heap_lt' hpt
 obtain ⟨c1, c2⟩ : w1.cell? ⟨w0.heap.size, 1, none⟩ = some (.slice qa ql qc) ∧ w1.cell? ⟨w0.heap.size, 2, none⟩ = some (.slice oa ol oc) := by refine ⟨?_, ?_⟩ <;> simp [World.cell?, hpt]
 have v0 := (hb1.cell (p := ⟨w.heap.size, 0, none⟩) x3).trans x0
 have v1 := (hb1.cell (p := ⟨w.heap.size, 1, none⟩) x3).trans x1
 have v2 := (hb1.cell (p := ⟨w.heap.size, 2, none⟩) x3).trans x2
 have v3 := (hb1.cell (p := ⟨w.heap.size + 1, 0, none⟩) y1).trans y0
 have v4 := (hb1.cell (p := ⟨w.heap.size + 2, 0, none⟩) u1).trans u0
 have hO4 := (hg.p who hw).o4
 have hNX := (hg.p who hw).nx
 have hQQ := (hg.p who hw).q
 have HOUT := hid (hg.p who hw).o
 have HB1 := hid hb1
 have HQO := hid hQo
 have HQL := hid hql; have HOL := hid hol
 have HPT := hid hpt
 have HNX := hid hnx; have HNXX := hid hNX; have HQQ := hid hQQ
 have hwn := hw
 have HG := hid (hg.p who hw)
 have hql2 : ql ≤ 2 := by rw [hql]; exact (hg.p who hw).q2
 have hb1' := hb1
 have hBz : B ≤ w0.heap.size := Nat.le_trans hB (Nat.le_trans hbw hb0.size)
 clear hNX hQQ
 clear hm0 hb0 hqs hos q0 q1 q3 q4 qf hz0 hpc hpc2 hpb hV2 hbw hpt hQo hnx hls hql hol hm hg hc
 by_cases hq0 : ql = 0
 ·have e1 : ((ql : Int) == 0) = true := by simpa using hq0
  have HM := hid (show may c st who s = false by unfold may; rw [show (st.ports who).queue = [] from List.eq_nil_of_length_eq_zero (by rw [← HQL.out]; exact hq0)])
  clear hq0
  go_enter Tryz.func129, Tryz.ntmps129
  go_upto_region 1 with fail
  rw [← hw0]
  clear hw0
  go_region
  rw [← hw1]
  clear hw1
  go_upto_region 2 with fail
  go_quiet (fail)
  go_wp2_with fail
  go_ret
  exact ⟨by rw [HM.out]; rfl, HB0.out.trans ((HB1.out.trans (Below.draws (Below.refl _ _) _)).mono HB0.out.size)⟩
 obtain ⟨n, rest, hcons⟩ : ∃ n rest, (st.ports who).queue = n :: rest := by
  rcases hqq : (st.ports who).queue with _ | ⟨n, rest⟩
  ·exfalso; apply hq0; rw [HQL.out, hqq]; rfl
  ·exact ⟨n, rest, rfl⟩
 have HCONS := hid hcons
 clear hcons
 have e1 : ((ql : Int) == 0) = false := by simpa using hq0
 by_cases ho4 : 4 ≤ ol
 ·have e2 : (4 : Int) ≤ (ol : Int) := by omega
  have HM := hid (show may c st who s = false by
   unfold may; rw [HCONS.out]
   have : decide ((st.ports who).out.length < 4) = false := by rw [← HOL.out]; simpa using ho4
   simp only [this, Bool.false_and])
  clear hq0
  go_enter Tryz.func129, Tryz.ntmps129
  go_upto_region 1 with fail
  rw [← hw0]
  clear hw0
  go_region
  rw [← hw1]
  clear hw1
  go_upto_region 2 with fail
  go_quiet (fail)
  go_wp2_with fail
  go_ret
  exact ⟨by rw [HM.out]; rfl, HB0.out.trans ((HB1.out.trans (Below.draws (Below.refl _ _) _)).mono HB0.out.size)⟩
 have hnq : n < (c.prog who).length := by
  have h1 := HQQ.out
  rw [HCONS.out] at h1
  obtain ⟨h2, _, _⟩ := range'_cons h1
  have h3 := HNXX.out
  have h4 := (HG.out).qn
  rw [HCONS.out] at h4
  simp only [List.length_cons] at h2 h4
  omega
 obtain ⟨qb, qo, hqa, hqb, hqn⟩ := queue_head (n := n) (rest := rest) (by rw [← HCONS.out]; exact HQO.out) (by rw [← HCONS.out, ← HQL.out]; have := hql2; omega)
 obtain ⟨rb, ro, da, dc, la, lc', hrq, hrb, hrv, r0, r1, r2, r3, r4, r5, r6⟩ := (HO.out.below (hb1'.mono hBz)).at hwn hnq
 have hpq := (HO.out.below (hb1'.mono hBz)).prog who hwn
 rw [hrq] at hpq
 obtain ⟨iy, hiy⟩ : ∃ y, y = (c.req who n).id := ⟨_, rfl⟩
 obtain ⟨ik, hik⟩ : ∃ y, y = (c.req who n).kind := ⟨_, rfl⟩
 obtain ⟨ia, hia⟩ : ∃ y, y = (c.req who n).addr := ⟨_, rfl⟩
 obtain ⟨im, him⟩ : ∃ y, y = (c.req who n).many := ⟨_, rfl⟩
 obtain ⟨ip, hip⟩ : ∃ y, y = (c.req who n).wrap := ⟨_, rfl⟩
 obtain ⟨dn, hdn⟩ : ∃ y, y = (c.req who n).data.length := ⟨_, rfl⟩
 obtain ⟨ln, hln⟩ : ∃ y, y = (c.req who n).lanes.length := ⟨_, rfl⟩
 obtain ⟨pn, hpn⟩ : ∃ y, y = (c.prog who).length := ⟨_, rfl⟩
 rw [← hiy] at r0; rw [← hik] at r1; rw [← hia] at r2; rw [← him] at r3; rw [← hip] at r4; rw [← hdn] at r5; rw [← hln] at r6; rw [← hpn] at hpq
 obtain ⟨sv, hsv⟩ : ∃ y, y = c.slv who n := ⟨_, rfl⟩
 have HSV := hid (show slaveAt c.ms (wholeOf c.ms (burst ia im ip)) = (sv : Int) by
  rw [hsv, hia, him, hip]; exact slv_nat (r := c.req who n) hbus.ms)
 have v5 := (hb1.cell (p := ⟨qb, qo, none⟩) (show qb < w0.heap.size from hqb)).trans hqn
 subst hqa
 have hni : (n : Int) < (pn : Int) := by rw [hpn]; omega
 have hqi : (0 : Int) < (ql : Int) := by omega
 have hqp : 0 < ql := by omega
 have hqd : decide (0 < ql) = true := by simpa using hqp
 have ho4i : (ol : Int) < 4 := by omega
 have e2 : decide ((4 : Int) ≤ (ol : Int)) = false := by simp; omega
 have e3 : decide (4 ≤ ol) = false := by simpa using ho4
 have hrbz : rb < w1.heap.size := Nat.lt_of_lt_of_le hrb (Nat.le_trans hBz hb1.size)
 have hpbz : pb < w1.heap.size := Nat.lt_of_lt_of_le HO.out.hpb (Nat.le_trans hBz hb1.size)
 have hqbz : qb < w1.heap.size := Nat.lt_of_lt_of_le hqb hb1.size
 have hg1z : w.heap.size < w1.heap.size := Nat.lt_of_lt_of_le x3 hb1.size
 have hg2z : w.heap.size + 1 < w1.heap.size := Nat.lt_of_lt_of_le y1 hb1.size
 have hg4z : w.heap.size + 2 < w1.heap.size := Nat.lt_of_lt_of_le u1 hb1.size
 have HHI := hid hiy; have HPN := hid hpn; have HSVV := hid hsv
 have HBM := hid ((HO.out.below (hb1'.mono hBz)).ms)
 have HBZ := hid hBz
 clear hiy hik hia him hip hdn hln hpn hsv hb1' hrv hrq
 by_cases hys : sv = s
 ·have e5 : ((sv : Int) != (s : Int)) = false := by subst hys; simp
  obtain ⟨iz, hiz⟩ : ∃ y, y = c.id who n := ⟨_, rfl⟩
  have HIZ := hid hiz
  obtain ⟨av, hav⟩ : ∃ b, b = (st.ports who).out.any (mayB c who s iz) := ⟨_, rfl⟩
  have HAV := hid hav
  clear hav
  have HM := hid (show may c st who s = !av by
   unfold may; rw [HCONS.out]
   have k1 : decide ((st.ports who).out.length < 4) = true := by rw [← HOL.out]; simp; omega
   have k2 : (c.slv who n == s) = true := by rw [← HSVV.out]; simpa using hys
   simp only [k1, k2, Bool.true_and]
   rw [HAV.out, HIZ.out]; rfl)
  clear hiz
  go_enter Tryz.func129, Tryz.ntmps129
  go_upto_region 1 with fail
  rw [← hw0]
  clear hw0
  go_region
  rw [← hw1]
  clear hw1
  go_upto_region 2 with fail
  go_region_held3 (fun w' => w'.cell? ⟨w.heap.size, 0, none⟩ = some (.slice ma mn mk) ∧ w'.cell? ⟨w.heap.size, 2, none⟩ = some ((.slice (some ⟨pb, po', none⟩) 3 pc')) ∧ w'.cell? ⟨w.heap.size + 1, 0, none⟩ = some ((.int .i64 who)) ∧ w'.cell? ⟨w.heap.size + 2, 0, none⟩ = some ((.int .i64 s)) ∧ w'.cell? ⟨w0.heap.size, 1, none⟩ = some ((.slice (some ⟨qb, qo, none⟩) ql qc)) ∧ w'.cell? ⟨w0.heap.size, 2, none⟩ = some ((.slice oa ol oc)) ∧ w'.cell? ⟨pb, po' + who, none⟩ = some ((.slice (some ⟨rb, ro, none⟩) pn (K who))) ∧ w'.cell? ⟨qb, qo, none⟩ = some ((.int .i64 n)) ∧ w'.cell? ⟨rb, ro + n * 7, none⟩ = some ((.int .i64 iy)) ∧ w'.cell? ⟨rb, ro + n * 7 + 1, none⟩ = some ((.int .i64 ik)) ∧ w'.cell? ⟨rb, ro + n * 7 + 2, none⟩ = some ((.int .i64 ia)) ∧ w'.cell? ⟨rb, ro + n * 7 + 3, none⟩ = some ((.int .i64 im)) ∧ w'.cell? ⟨rb, ro + n * 7 + 4, none⟩ = some ((.bool ip)) ∧ w'.cell? ⟨rb, ro + n * 7 + 5, none⟩ = some ((.slice da dn dc)) ∧ w'.cell? ⟨rb, ro + n * 7 + 6, none⟩ = some ((.slice la ln lc')) ∧ w'.cell? ⟨w.heap.size, 1, none⟩ = some (.slice (some ⟨lb, lo, none⟩) 4 lc))
   (first | exact s6 | go_keep)
   (first
    | (go_at_call 54; (with_reducible refine (slave_val _ c.ms iy ik ia im ip (.slice da dn dc) (.slice la ln lc') ⟨_, _, _, rfl⟩ ⟨_, _, _, rfl⟩ B _ (HBM.out.below (Below.refl _ _).drew) (le_drew' (Nat.le_trans HBZ.out HB1.out.size))).mono ?_); rw [HSV.out]; rintro e w5 ⟨rfl, hb5⟩; have hb5' := (show Below w1.heap.size w1 w1.drew from (Below.refl _ _).drew).trans hb5; have HB5 := hid hb5'; have s6 : w5.cell? ⟨w.heap.size, 0, none⟩ = some (.slice ma mn mk) ∧ w5.cell? ⟨w.heap.size, 2, none⟩ = some ((.slice (some ⟨pb, po', none⟩) 3 pc')) ∧ w5.cell? ⟨w.heap.size + 1, 0, none⟩ = some ((.int .i64 who)) ∧ w5.cell? ⟨w.heap.size + 2, 0, none⟩ = some ((.int .i64 s)) ∧ w5.cell? ⟨w0.heap.size, 1, none⟩ = some ((.slice (some ⟨qb, qo, none⟩) ql qc)) ∧ w5.cell? ⟨w0.heap.size, 2, none⟩ = some ((.slice oa ol oc)) ∧ w5.cell? ⟨pb, po' + who, none⟩ = some ((.slice (some ⟨rb, ro, none⟩) pn (K who))) ∧ w5.cell? ⟨qb, qo, none⟩ = some ((.int .i64 n)) ∧ w5.cell? ⟨rb, ro + n * 7, none⟩ = some ((.int .i64 iy)) ∧ w5.cell? ⟨rb, ro + n * 7 + 1, none⟩ = some ((.int .i64 ik)) ∧ w5.cell? ⟨rb, ro + n * 7 + 2, none⟩ = some ((.int .i64 ia)) ∧ w5.cell? ⟨rb, ro + n * 7 + 3, none⟩ = some ((.int .i64 im)) ∧ w5.cell? ⟨rb, ro + n * 7 + 4, none⟩ = some ((.bool ip)) ∧ w5.cell? ⟨rb, ro + n * 7 + 5, none⟩ = some ((.slice da dn dc)) ∧ w5.cell? ⟨rb, ro + n * 7 + 6, none⟩ = some ((.slice la ln lc')) ∧ w5.cell? ⟨w.heap.size, 1, none⟩ = some (.slice (some ⟨lb, lo, none⟩) 4 lc) := ⟨(hb5'.cell (p := ⟨w.heap.size, 0, none⟩) hg1z).trans v0, (hb5'.cell (p := ⟨w.heap.size, 2, none⟩) hg1z).trans v2, (hb5'.cell (p := ⟨w.heap.size + 1, 0, none⟩) hg2z).trans v3, (hb5'.cell (p := ⟨w.heap.size + 2, 0, none⟩) hg4z).trans v4, (hb5'.cell (p := ⟨w0.heap.size, 1, none⟩) hz1).trans c1, (hb5'.cell (p := ⟨w0.heap.size, 2, none⟩) hz1).trans c2, (hb5'.cell (p := ⟨pb, po' + who, none⟩) hpbz).trans hpq, (hb5'.cell (p := ⟨qb, qo, none⟩) hqbz).trans v5, (hb5'.cell (p := ⟨rb, ro + n * 7, none⟩) hrbz).trans r0, (hb5'.cell (p := ⟨rb, ro + n * 7 + 1, none⟩) hrbz).trans r1, (hb5'.cell (p := ⟨rb, ro + n * 7 + 2, none⟩) hrbz).trans r2, (hb5'.cell (p := ⟨rb, ro + n * 7 + 3, none⟩) hrbz).trans r3, (hb5'.cell (p := ⟨rb, ro + n * 7 + 4, none⟩) hrbz).trans r4, (hb5'.cell (p := ⟨rb, ro + n * 7 + 5, none⟩) hrbz).trans r5, (hb5'.cell (p := ⟨rb, ro + n * 7 + 6, none⟩) hrbz).trans r6, (hb5'.cell (p := ⟨w.heap.size, 1, none⟩) hg1z).trans v1⟩; clear hb5 hb5'))
  have t0 := (HB5.out.cell (p := ⟨w.heap.size, 0, none⟩) hg1z).trans v0
  have t1 := (HB5.out.cell (p := ⟨w.heap.size, 1, none⟩) hg1z).trans v1
  have t2 := (HB5.out.cell (p := ⟨w.heap.size, 2, none⟩) hg1z).trans v2
  have t3 := (HB5.out.cell (p := ⟨w.heap.size + 1, 0, none⟩) hg2z).trans v3
  have t4 := (HB5.out.cell (p := ⟨w0.heap.size, 1, none⟩) hz1).trans c1
  have t5 := (HB5.out.cell (p := ⟨qb, qo, none⟩) hqbz).trans v5
  have z1' := Nat.lt_of_lt_of_le hg1z HB5.out.size
  have z2' := Nat.lt_of_lt_of_le hg2z HB5.out.size
  have z3' := Nat.lt_of_lt_of_le hz1 HB5.out.size
  have z4' := Nat.lt_of_lt_of_le hqbz HB5.out.size
  have hBw5 : B ≤ w5.heap.size := Nat.le_trans HBZ.out (Nat.le_trans HB1.out.size HB5.out.size)
  have hnn : n < (c.prog who).length := by rw [← HPN.out]; omega
  have HBA := hid (HB1.out.trans (HB5.out.mono HB1.out.size))
  clear s6
  go_upto_region 4 with fail
  go_cut [10] from 46 to 52 (fun p wd => ∃ g, p = .pointer (some ⟨g, 0, none⟩) ∧ w5.heap.size ≤ g ∧ IntB wd g iz ∧ Below w5.heap.size w5 wd)
  case first =>
   rename_i J K' hJ hK
   exact mf_region _ _ _ _ _ _ _ _ _ _ _ _ _ _ _ _ _ _ _ _ _ _ _ _ _ _ _ _ _ _ _ _ _ _ _ _ _ _ _ _ _ _ _ _ _ _ _ _ _ _ _ _ _ _ _ _ _ _ _ _ _ _ _ _ _ _ _ _ _ _ _ _ _ _ _ hbus (HO.out.below (HBA.out.mono HBZ.out)) hBw5 hwn hnn HIZ t0 t1 t2 z1' t3 z2' t4 z3' t5 z4' hqi hqp (fun u10 u46 u47 u48 u49 u50 u51 u52 wd h => hK _ _ (Met.intro (hJ _ _ ⟨u10, u46, u47, u48, u49, u50, u51, u52, h, rfl⟩)))
  case rest =>
   obtain ⟨w6, hw6⟩ : ∃ W, W = wc := ⟨_, rfl⟩
   subst hw6
   obtain ⟨gi, rfl, hgi, hI6, hb6⟩ := hcut
   have HI6 := hid hI6
   have HB6 := hid (HBA.out.trans (hb6.mono HBA.out.size))
   have t6 := (hb6.cell (p := ⟨w0.heap.size, 2, none⟩) z3').trans ((HB5.out.cell (p := ⟨w0.heap.size, 2, none⟩) hz1).trans c2)
   have HJB := hid (show Jbs w0 w0.heap.size (.slice oa ol oc) (st.ports who).out by rw [HOL.out]; exact jbs_of HOO.out (by omega))
   clear hI6 hb6
   go_wp2_with (first
    | (go_at_call 147; refine (hasJb_any 148 _ (callable_of Tryz.func148 (by kernel_rfl) (by kernel_rfl)) (mayB c who s iz) _ (st.ports who).out w0.heap.size _ (HJB.out.below HB6.out) HB6.out.size ?_).mono ?_; (· intro j w8 hj hb8; have hb08 := HB6.out.trans (hb8.mono HB6.out.size); exact mayTest_any hbus (HO.out.below (hb08.mono HBZ.out)) (Nat.le_trans HBZ.out hb08.size) hwn (by have h1 := (HOUT.out j hj).2.2; have h2 := HNXX.out; omega) (B1.out.below hb08 x3) (B2.out.below hb08 y1) (HI6.out.below hb8 (heap_lt' HI6.out)) (B4.out.below hb08 u1)); unfold HasJP; rw [← HAV.out]; rintro e w7 ⟨rfl, hb7⟩; have HB7 := hid hb7; clear hb7))
   go_ret
   exact ⟨by rw [HM.out]; rfl, HB0.out.trans ((HB6.out.trans (HB7.out.mono HB6.out.size)).mono HB0.out.size)⟩
 ·have e5 : ((sv : Int) != (s : Int)) = true := by simp only [bne_iff_ne]; omega
  have HM := hid (show may c st who s = false by
   unfold may; rw [HCONS.out]
   have : (c.slv who n == s) = false := by rw [← HSVV.out]; simpa using hys
   simp only [this, Bool.and_false, Bool.false_and])
  clear hys
  go_enter Tryz.func129, Tryz.ntmps129
  go_upto_region 1 with fail
  rw [← hw0]
  clear hw0
  go_region
  rw [← hw1]
  clear hw1
  go_upto_region 2 with fail
  go_region_held3 (fun w' => w'.cell? ⟨w.heap.size, 0, none⟩ = some (.slice ma mn mk) ∧ w'.cell? ⟨w.heap.size, 2, none⟩ = some ((.slice (some ⟨pb, po', none⟩) 3 pc')) ∧ w'.cell? ⟨w.heap.size + 1, 0, none⟩ = some ((.int .i64 who)) ∧ w'.cell? ⟨w.heap.size + 2, 0, none⟩ = some ((.int .i64 s)) ∧ w'.cell? ⟨w0.heap.size, 1, none⟩ = some ((.slice (some ⟨qb, qo, none⟩) ql qc)) ∧ w'.cell? ⟨w0.heap.size, 2, none⟩ = some ((.slice oa ol oc)) ∧ w'.cell? ⟨pb, po' + who, none⟩ = some ((.slice (some ⟨rb, ro, none⟩) pn (K who))) ∧ w'.cell? ⟨qb, qo, none⟩ = some ((.int .i64 n)) ∧ w'.cell? ⟨rb, ro + n * 7, none⟩ = some ((.int .i64 iy)) ∧ w'.cell? ⟨rb, ro + n * 7 + 1, none⟩ = some ((.int .i64 ik)) ∧ w'.cell? ⟨rb, ro + n * 7 + 2, none⟩ = some ((.int .i64 ia)) ∧ w'.cell? ⟨rb, ro + n * 7 + 3, none⟩ = some ((.int .i64 im)) ∧ w'.cell? ⟨rb, ro + n * 7 + 4, none⟩ = some ((.bool ip)) ∧ w'.cell? ⟨rb, ro + n * 7 + 5, none⟩ = some ((.slice da dn dc)) ∧ w'.cell? ⟨rb, ro + n * 7 + 6, none⟩ = some ((.slice la ln lc')) ∧ w'.cell? ⟨w.heap.size, 1, none⟩ = some (.slice (some ⟨lb, lo, none⟩) 4 lc))
   (first | exact s6 | go_keep)
   (first
    | (go_at_call 54; (with_reducible refine (slave_val _ c.ms iy ik ia im ip (.slice da dn dc) (.slice la ln lc') ⟨_, _, _, rfl⟩ ⟨_, _, _, rfl⟩ B _ (HBM.out.below (Below.refl _ _).drew) (le_drew' (Nat.le_trans HBZ.out HB1.out.size))).mono ?_); rw [HSV.out]; rintro e w5 ⟨rfl, hb5⟩; have hb5' := (show Below w1.heap.size w1 w1.drew from (Below.refl _ _).drew).trans hb5; have HB5 := hid hb5'; have s6 : w5.cell? ⟨w.heap.size, 0, none⟩ = some (.slice ma mn mk) ∧ w5.cell? ⟨w.heap.size, 2, none⟩ = some ((.slice (some ⟨pb, po', none⟩) 3 pc')) ∧ w5.cell? ⟨w.heap.size + 1, 0, none⟩ = some ((.int .i64 who)) ∧ w5.cell? ⟨w.heap.size + 2, 0, none⟩ = some ((.int .i64 s)) ∧ w5.cell? ⟨w0.heap.size, 1, none⟩ = some ((.slice (some ⟨qb, qo, none⟩) ql qc)) ∧ w5.cell? ⟨w0.heap.size, 2, none⟩ = some ((.slice oa ol oc)) ∧ w5.cell? ⟨pb, po' + who, none⟩ = some ((.slice (some ⟨rb, ro, none⟩) pn (K who))) ∧ w5.cell? ⟨qb, qo, none⟩ = some ((.int .i64 n)) ∧ w5.cell? ⟨rb, ro + n * 7, none⟩ = some ((.int .i64 iy)) ∧ w5.cell? ⟨rb, ro + n * 7 + 1, none⟩ = some ((.int .i64 ik)) ∧ w5.cell? ⟨rb, ro + n * 7 + 2, none⟩ = some ((.int .i64 ia)) ∧ w5.cell? ⟨rb, ro + n * 7 + 3, none⟩ = some ((.int .i64 im)) ∧ w5.cell? ⟨rb, ro + n * 7 + 4, none⟩ = some ((.bool ip)) ∧ w5.cell? ⟨rb, ro + n * 7 + 5, none⟩ = some ((.slice da dn dc)) ∧ w5.cell? ⟨rb, ro + n * 7 + 6, none⟩ = some ((.slice la ln lc')) ∧ w5.cell? ⟨w.heap.size, 1, none⟩ = some (.slice (some ⟨lb, lo, none⟩) 4 lc) := ⟨(hb5'.cell (p := ⟨w.heap.size, 0, none⟩) hg1z).trans v0, (hb5'.cell (p := ⟨w.heap.size, 2, none⟩) hg1z).trans v2, (hb5'.cell (p := ⟨w.heap.size + 1, 0, none⟩) hg2z).trans v3, (hb5'.cell (p := ⟨w.heap.size + 2, 0, none⟩) hg4z).trans v4, (hb5'.cell (p := ⟨w0.heap.size, 1, none⟩) hz1).trans c1, (hb5'.cell (p := ⟨w0.heap.size, 2, none⟩) hz1).trans c2, (hb5'.cell (p := ⟨pb, po' + who, none⟩) hpbz).trans hpq, (hb5'.cell (p := ⟨qb, qo, none⟩) hqbz).trans v5, (hb5'.cell (p := ⟨rb, ro + n * 7, none⟩) hrbz).trans r0, (hb5'.cell (p := ⟨rb, ro + n * 7 + 1, none⟩) hrbz).trans r1, (hb5'.cell (p := ⟨rb, ro + n * 7 + 2, none⟩) hrbz).trans r2, (hb5'.cell (p := ⟨rb, ro + n * 7 + 3, none⟩) hrbz).trans r3, (hb5'.cell (p := ⟨rb, ro + n * 7 + 4, none⟩) hrbz).trans r4, (hb5'.cell (p := ⟨rb, ro + n * 7 + 5, none⟩) hrbz).trans r5, (hb5'.cell (p := ⟨rb, ro + n * 7 + 6, none⟩) hrbz).trans r6, (hb5'.cell (p := ⟨w.heap.size, 1, none⟩) hg1z).trans v1⟩; clear hb5 hb5'))
  go_wp2_with fail
  go_ret
  exact ⟨by rw [HM.out]; rfl, HB0.out.trans ((HB1.out.trans (HB5.out.mono HB1.out.size)).mono HB0.out.size)⟩
end Go.Proofs.YtghngenglefofaaGreat
