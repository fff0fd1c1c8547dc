/- Draws: what is asked: the block in which it lies. -/
import Derived.Test.YtenjbhbcacocjaaGreatGDl
import Derived.Test.YtenjbhbcacocjaaGreatGXt
import Derived.Test.YtenjbhbcacocjaaGreatGDr3
set_option linter.unusedVariables false
set_option linter.unusedSimpArgs false
namespace Go.Proofs.YtenjbhbcacocjaaGreat
open Go.RowKit
theorem wpOp_skip {P:Program} {ops:Array Oper} {Q:Exit → Act → World → Prop} {i:Nat} {o:Oper} {K:Act → World → Prop} {a:Act} {w:World} (ho:ops[i]? = some o) (hw:Region.wanted o (yielded ops a.tmps) = false) (h:K (a.put o.dst undef) w):wpOp P ops Q i K a w:=by
 unfold wpOp
 simp only [ho]
 rw [if_neg (by simp [hw])]
 exact h
def myA (jv:Value) (g1 g2 g3 g4 G:Nat) (u6 u7 u8 u9 u10 u11 u12 u13 u14 u15 u16 u17 u18 u19:Value):Act:={ tmps:=#[jv,.pointer (some ⟨g1,0,none⟩),.pointer (some ⟨g2,0,none⟩),.pointer (some ⟨g3,0,none⟩),.pointer (some ⟨g4,0,none⟩),.pointer (some ⟨G,0,none⟩),u6,u7,u8,u9,u10,u11,u12,u13,u14,u15,u16,u17,u18,u19],defers:=[] }
def myI (jv:Value) (g1 g2 g3 g4 G:Nat) (ma:Option Addr) (mn mk lb lo lc pb po pc who n:Nat) (id y:Int) (wq:World) (listed:Array Bool) (a:Act) (w':World):Prop :=
 ∃ u6 u7 u8 u9 u10 u11 u12 u13 u14 u15 u16 u17 u18 u19:Value,a = myA jv g1 g2 g3 g4 G u6 u7 u8 u9 u10 u11 u12 u13 u14 u15 u16 u17 u18 u19 ∧
   (listed.getD 0 false = true → u7 = .agg #[.slice ma mn mk,.slice (some ⟨lb,lo,none⟩) 4 lc,.slice (some ⟨pb,po,none⟩) 3 pc]) ∧
   (listed.getD 1 false = true → u8 = .int .i64 who) ∧
   (listed.getD 2 false = true → u9 = .pointer (some ⟨G,1,none⟩)) ∧
   (listed.getD 3 false = true → u10 = .int .i64 n) ∧
   (listed.getD 4 false = true → u11 = .int .i64 y) ∧
   (listed.getD 5 false = true → u12 = .int .i64 id) ∧
   (listed.getD 6 false = true → u13 = .bool false) ∧
   (listed.getD 7 false = true → u14 = .bool false) ∧
   (listed.getD 12 false = true → u19 = .bool false) ∧
   (listed.getD 13 false = true → u6 = .bool false) ∧
   Below wq.heap.size wq w'
set_option maxRecDepth 100000 in
set_option maxHeartbeats 8000000 in
theorem mayTestF_any {c:Cfg} (hbus:Bus c) {w w0:World} {B:Nat} {ma:Option Addr} {mn mk lb lo lc pb po pc:Nat} {Q:Nat → Option Addr} {K:Nat → Nat} (HO:BusO w0 B c ma mn mk lb lo lc pb po pc Q K) (HB0:Below w.heap.size w w0) (hBw:B ≤ w0.heap.size) {who s:Nat} {id y:Int} {j:Jb} {g1 g2 g3 g4:Nat}
  (hj:w0.heap[w.heap.size]? = some (.cells #[.int .i64 j.who,.int .i64 j.n,.int .i64 j.left] 64 (0,0)))
  (x0:w0.cell? ⟨g1,0,none⟩ = some (.slice ma mn mk)) (x1:w0.cell? ⟨g1,1,none⟩ = some (.slice (some ⟨lb,lo,none⟩) 4 lc)) (x2:w0.cell? ⟨g1,2,none⟩ = some (.slice (some ⟨pb,po,none⟩) 3 pc)) (x3:g1 < w0.heap.size)
  (y0:w0.cell? ⟨g2,0,none⟩ = some (.int .i64 who)) (y1:g2 < w0.heap.size) (z0:w0.cell? ⟨g3,0,none⟩ = some (.int .i64 id)) (z1:g3 < w0.heap.size)
  (hwi:who < 3) (hni:j.n < (c.prog who).length) (hy:y = c.id who j.n) (he1:(y == id) = false) (HM:Hid (mayB c who s id j = false))
  (hw0:w0 = w.alloc (.cells #[.int .i64 j.who,.int .i64 j.n,.int .i64 j.left] 64)) :
  Calls Tryz.prog 161 #[.agg #[.int .i64 j.who,.int .i64 j.n,.int .i64 j.left],.pointer (some ⟨g1,0,none⟩),.pointer (some ⟨g2,0,none⟩),.pointer (some ⟨g3,0,none⟩),.pointer (some ⟨g4,0,none⟩)] w fun e w' => e = .returned (.bool (mayB c who s id j)) ∧ Below w.heap.size w w':=by
 have HY:=hid hy;have HE:=hid he1
 have hG:w.heap.size < w0.heap.size:=heap_lt' hj
 have j1:w0.cell? ⟨w.heap.size,1,none⟩ = some (.int .i64 j.n):=by simp [World.cell?,hj]
 clear hy he1 hj
 go_enter Tryz.func161,Tryz.ntmps161
 go_upto_region 1 with fail
 rw [← hw0]
 clear hw0
 generalize hg:w.heap.size = G at hG j1
 have hgs:G ≤ w.heap.size:=Nat.le_of_eq hg.symm
 have HGS:=hid hg
 clear hg
 refine wp_region_inv3 (myI (.agg #[.int .i64 j.who,.int .i64 j.n,.int .i64 j.left]) g1 g2 g3 g4 G ma mn mk lb lo lc pb po pc who j.n id y w0) (by kernel_rfl) (by kernel_rfl) ?_ ?_ ?_
 ·exact ⟨_,_,_,_,_,_,_,_,_,_,_,_,_,_,rfl,(fun h => absurd h (by rw [getD_replicate_false];simp)),(fun h => absurd h (by rw [getD_replicate_false];simp)),(fun h => absurd h (by rw [getD_replicate_false];simp)),(fun h => absurd h (by rw [getD_replicate_false];simp)),(fun h => absurd h (by rw [getD_replicate_false];simp)),(fun h => absurd h (by rw [getD_replicate_false];simp)),(fun h => absurd h (by rw [getD_replicate_false];simp)),(fun h => absurd h (by rw [getD_replicate_false];simp)),(fun h => absurd h (by rw [getD_replicate_false];simp)),(fun h => absurd h (by rw [getD_replicate_false];simp)),(Below.refl _ _).drew⟩
 ·intro listed a w' i o hI hsz ho hl he hcl
  have hi:i < 14:=(Array.getElem?_eq_some_iff.1 ho).1
  have e:i = 0 ∨ i = 1 ∨ i = 2 ∨ i = 3 ∨ i = 4 ∨ i = 5 ∨ i = 6 ∨ i = 7 ∨ i = 8 ∨ i = 9 ∨ i = 10 ∨ i = 11 ∨ i = 12 ∨ i = 13:=by omega
  clear hi
  rcases e with rfl | rfl | rfl | rfl | rfl | rfl | rfl | rfl | rfl | rfl | rfl | rfl | rfl | rfl
  all_goals (have ho2:=ho;obtain rfl:=Option.some.inj ho2.symm;clear ho2)
  ·as_aux_lemma =>
    obtain ⟨u6,u7,u8,u9,u10,u11,u12,u13,u14,u15,u16,u17,u18,u19,rfl,F0,F1,F2,F3,F4,F5,F6,F7,F12,F13,hx⟩:=hI
    have q0:=(hx.cell (p:=⟨g1,0,none⟩) x3).trans x0
    have q1:=(hx.cell (p:=⟨g1,1,none⟩) x3).trans x1
    have q2:=(hx.cell (p:=⟨g1,2,none⟩) x3).trans x2
    refine wpOp_stepy ho rfl (fun K hK => ?_)
    unfold myA
    go_simp
    exact hK _ _ ⟨_,_,_,_,_,_,_,_,_,_,_,_,_,_,rfl,fun _ => rfl,cy F1 rfl,cy F2 rfl,cy F3 rfl,cy F4 rfl,cy F5 rfl,cy F6 rfl,cy F7 rfl,cy F12 rfl,cy F13 rfl,hx⟩
  ·as_aux_lemma =>
    obtain ⟨u6,u7,u8,u9,u10,u11,u12,u13,u14,u15,u16,u17,u18,u19,rfl,F0,F1,F2,F3,F4,F5,F6,F7,F12,F13,hx⟩:=hI
    have q0:=(hx.cell (p:=⟨g2,0,none⟩) y1).trans y0
    refine wpOp_stepy ho rfl (fun K hK => ?_)
    unfold myA
    go_simp
    exact hK _ _ ⟨_,_,_,_,_,_,_,_,_,_,_,_,_,_,rfl,cy F0 rfl,fun _ => rfl,cy F2 rfl,cy F3 rfl,cy F4 rfl,cy F5 rfl,cy F6 rfl,cy F7 rfl,cy F12 rfl,cy F13 rfl,hx⟩
  ·as_aux_lemma =>
    obtain ⟨u6,u7,u8,u9,u10,u11,u12,u13,u14,u15,u16,u17,u18,u19,rfl,F0,F1,F2,F3,F4,F5,F6,F7,F12,F13,hx⟩:=hI
    refine wpOp_stepy ho rfl (fun K hK => ?_)
    unfold myA
    go_simp
    exact hK _ _ ⟨_,_,_,_,_,_,_,_,_,_,_,_,_,_,rfl,cy F0 rfl,cy F1 rfl,fun _ => rfl,cy F3 rfl,cy F4 rfl,cy F5 rfl,cy F6 rfl,cy F7 rfl,cy F12 rfl,cy F13 rfl,hx⟩
  ·as_aux_lemma =>
    obtain ⟨u6,u7,u8,u9,u10,u11,u12,u13,u14,u15,u16,u17,u18,u19,rfl,F0,F1,F2,F3,F4,F5,F6,F7,F12,F13,hx⟩:=hI
    have l2:=he ⟨2,.data⟩ (by simp) rfl
    have e:=F2 l2;subst e
    have q0:=(hx.cell (p:=⟨G,1,none⟩) hG).trans j1
    refine wpOp_stepy ho rfl (fun K hK => ?_)
    unfold myA
    go_simp
    exact hK _ _ ⟨_,_,_,_,_,_,_,_,_,_,_,_,_,_,rfl,cy F0 rfl,cy F1 rfl,cy F2 rfl,fun _ => rfl,cy F4 rfl,cy F5 rfl,cy F6 rfl,cy F7 rfl,cy F12 rfl,cy F13 rfl,hx⟩
  ·as_aux_lemma =>
    obtain ⟨u6,u7,u8,u9,u10,u11,u12,u13,u14,u15,u16,u17,u18,u19,rfl,F0,F1,F2,F3,F4,F5,F6,F7,F12,F13,hx⟩:=hI
    have l0:=he ⟨0,.data⟩ (by simp) rfl
    have l1:=he ⟨1,.data⟩ (by simp) rfl
    have l3:=he ⟨3,.data⟩ (by simp) rfl
    have e:=F0 l0;subst e
    have e:=F1 l1;subst e
    have e:=F3 l3;subst e
    refine wpOp_stepy ho rfl (fun K hK => ?_)
    unfold myA
    go_simp
    (with_reducible refine (id_any hbus (B:=B) (HO.below (hx.mono hBw)) (Nat.le_trans hBw hx.size) hwi hni).mono ?_)
    rw [← HY.out]
    rintro e w'' ⟨rfl,hb1⟩
    go_wp2_with fail
    exact ⟨_,_,_,_,_,_,_,_,_,_,_,_,_,_,rfl,fun _ => rfl,fun _ => rfl,cy F2 rfl,fun _ => rfl,fun _ => rfl,cy F5 rfl,cy F6 rfl,cy F7 rfl,cy F12 rfl,cy F13 rfl,hx.trans (hb1.mono hx.size)⟩
  ·as_aux_lemma =>
    obtain ⟨u6,u7,u8,u9,u10,u11,u12,u13,u14,u15,u16,u17,u18,u19,rfl,F0,F1,F2,F3,F4,F5,F6,F7,F12,F13,hx⟩:=hI
    have q0:=(hx.cell (p:=⟨g3,0,none⟩) z1).trans z0
    refine wpOp_stepy ho rfl (fun K hK => ?_)
    unfold myA
    go_simp
    exact hK _ _ ⟨_,_,_,_,_,_,_,_,_,_,_,_,_,_,rfl,cy F0 rfl,cy F1 rfl,cy F2 rfl,cy F3 rfl,cy F4 rfl,fun _ => rfl,cy F6 rfl,cy F7 rfl,cy F12 rfl,cy F13 rfl,hx⟩
  ·as_aux_lemma =>
    obtain ⟨u6,u7,u8,u9,u10,u11,u12,u13,u14,u15,u16,u17,u18,u19,rfl,F0,F1,F2,F3,F4,F5,F6,F7,F12,F13,hx⟩:=hI
    have l4:=he ⟨4,.data⟩ (by simp) rfl
    have l5:=he ⟨5,.data⟩ (by simp) rfl
    have e:=F4 l4;subst e
    have e:=F5 l5;subst e
    have e1:=HE.out
    refine wpOp_stepy ho rfl (fun K hK => ?_)
    unfold myA
    go_simp
    exact hK _ _ ⟨_,_,_,_,_,_,_,_,_,_,_,_,_,_,rfl,cy F0 rfl,cy F1 rfl,cy F2 rfl,cy F3 rfl,cy F4 rfl,cy F5 rfl,fun _ => (by first | rfl | rw [e1]),cy F7 rfl,cy F12 rfl,cy F13 rfl,hx⟩
  ·as_aux_lemma =>
    obtain ⟨u6,u7,u8,u9,u10,u11,u12,u13,u14,u15,u16,u17,u18,u19,rfl,F0,F1,F2,F3,F4,F5,F6,F7,F12,F13,hx⟩:=hI
    have l6:=he ⟨6,.data⟩ (by simp) rfl
    have e:=F6 l6;subst e
    refine wpOp_stepy ho rfl (fun K hK => ?_)
    unfold myA
    go_simp
    exact hK _ _ ⟨_,_,_,_,_,_,_,_,_,_,_,_,_,_,rfl,cy F0 rfl,cy F1 rfl,cy F2 rfl,cy F3 rfl,cy F4 rfl,cy F5 rfl,cy F6 rfl,fun _ => rfl,cy F12 rfl,cy F13 rfl,hx⟩
  ·as_aux_lemma =>
    obtain ⟨u6,u7,u8,u9,u10,u11,u12,u13,u14,u15,u16,u17,u18,u19,rfl,F0,F1,F2,F3,F4,F5,F6,F7,F12,F13,hx⟩:=hI
    have l7:=he ⟨7,.guard⟩ (by simp) rfl
    have e:=F7 l7;subst e
    refine wpOp_skip ho rfl ?_
    exact ⟨_,_,_,_,_,_,_,_,_,_,_,_,_,_,rfl,cy F0 rfl,cy F1 rfl,cy F2 rfl,cy F3 rfl,cy F4 rfl,cy F5 rfl,cy F6 rfl,cy F7 rfl,cy F12 rfl,cy F13 rfl,hx⟩
  ·as_aux_lemma =>
    obtain ⟨u6,u7,u8,u9,u10,u11,u12,u13,u14,u15,u16,u17,u18,u19,rfl,F0,F1,F2,F3,F4,F5,F6,F7,F12,F13,hx⟩:=hI
    have l7:=he ⟨7,.guard⟩ (by simp) rfl
    have e:=F7 l7;subst e
    refine wpOp_skip ho rfl ?_
    exact ⟨_,_,_,_,_,_,_,_,_,_,_,_,_,_,rfl,cy F0 rfl,cy F1 rfl,cy F2 rfl,cy F3 rfl,cy F4 rfl,cy F5 rfl,cy F6 rfl,cy F7 rfl,cy F12 rfl,cy F13 rfl,hx⟩
  ·as_aux_lemma =>
    obtain ⟨u6,u7,u8,u9,u10,u11,u12,u13,u14,u15,u16,u17,u18,u19,rfl,F0,F1,F2,F3,F4,F5,F6,F7,F12,F13,hx⟩:=hI
    have l7:=he ⟨7,.guard⟩ (by simp) rfl
    have e:=F7 l7;subst e
    refine wpOp_skip ho rfl ?_
    exact ⟨_,_,_,_,_,_,_,_,_,_,_,_,_,_,rfl,cy F0 rfl,cy F1 rfl,cy F2 rfl,cy F3 rfl,cy F4 rfl,cy F5 rfl,cy F6 rfl,cy F7 rfl,cy F12 rfl,cy F13 rfl,hx⟩
  ·as_aux_lemma =>
    obtain ⟨u6,u7,u8,u9,u10,u11,u12,u13,u14,u15,u16,u17,u18,u19,rfl,F0,F1,F2,F3,F4,F5,F6,F7,F12,F13,hx⟩:=hI
    have l7:=he ⟨7,.guard⟩ (by simp) rfl
    have e:=F7 l7;subst e
    refine wpOp_skip ho rfl ?_
    exact ⟨_,_,_,_,_,_,_,_,_,_,_,_,_,_,rfl,cy F0 rfl,cy F1 rfl,cy F2 rfl,cy F3 rfl,cy F4 rfl,cy F5 rfl,cy F6 rfl,cy F7 rfl,cy F12 rfl,cy F13 rfl,hx⟩
  ·as_aux_lemma =>
    obtain ⟨u6,u7,u8,u9,u10,u11,u12,u13,u14,u15,u16,u17,u18,u19,rfl,F0,F1,F2,F3,F4,F5,F6,F7,F12,F13,hx⟩:=hI
    have l7:=he ⟨7,.data⟩ (by simp) rfl
    have e:=F7 l7;subst e
    refine wpOp_stepy ho rfl (fun K hK => ?_)
    unfold myA
    go_simp
    exact hK _ _ ⟨_,_,_,_,_,_,_,_,_,_,_,_,_,_,rfl,cy F0 rfl,cy F1 rfl,cy F2 rfl,cy F3 rfl,cy F4 rfl,cy F5 rfl,cy F6 rfl,cy F7 rfl,fun _ => rfl,cy F13 rfl,hx⟩
  ·as_aux_lemma =>
    obtain ⟨u6,u7,u8,u9,u10,u11,u12,u13,u14,u15,u16,u17,u18,u19,rfl,F0,F1,F2,F3,F4,F5,F6,F7,F12,F13,hx⟩:=hI
    have l12:=he ⟨12,.data⟩ (by simp) rfl
    have e:=F12 l12;subst e
    refine wpOp_stepy ho rfl (fun K hK => ?_)
    unfold myA
    go_simp
    exact hK _ _ ⟨_,_,_,_,_,_,_,_,_,_,_,_,_,_,rfl,cy F0 rfl,cy F1 rfl,cy F2 rfl,cy F3 rfl,cy F4 rfl,cy F5 rfl,cy F6 rfl,cy F7 rfl,cy F12 rfl,fun _ => rfl,hx⟩
 ·intro listed a w' hI hd
  obtain ⟨u6,u7,u8,u9,u10,u11,u12,u13,u14,u15,u16,u17,u18,u19,rfl,F0,F1,F2,F3,F4,F5,F6,F7,F12,F13,hx⟩:=hI
  have e6:=F13 (hd 13 (by show 13 < 14;omega))
  clear F0 F1 F2 F3 F4 F5 F6 F7 F12 F13 hd
  subst e6
  unfold myA
  have HX:=hid hx
  clear hx
  go_wp2_with fail
  go_ret
  exact ⟨by rw [HM.out];rfl,HB0.trans (HX.out.mono HB0.size)⟩
set_option maxHeartbeats 4000000 in
theorem mayTest_any {c:Cfg} (hbus:Bus c) {w:World} {B:Nat} {ma:Option Addr} {mn mk lb lo lc pb po pc:Nat} {Q:Nat → Option Addr} {K:Nat → Nat} (h:BusO w B c ma mn mk lb lo lc pb po pc Q K) (hB:B ≤ w.heap.size) {who s:Nat} {id:Int} {j:Jb} (hw:who < 3) (hn:j.n < (c.prog who).length)
  {g1 g2 g3 g4:Nat} (b1:BusB w g1 ma mn mk lb lo lc pb po pc) (b2:IntB w g2 who) (b3:IntB w g3 id) (b4:IntB w g4 s) :
  Calls Tryz.prog 161 #[.agg #[.int .i64 j.who,.int .i64 j.n,.int .i64 j.left],.pointer (some ⟨g1,0,none⟩),.pointer (some ⟨g2,0,none⟩),.pointer (some ⟨g3,0,none⟩),.pointer (some ⟨g4,0,none⟩)] w fun e w' => e = .returned (.bool (mayB c who s id j)) ∧ Below w.heap.size w w':=by
 obtain ⟨w0,hw0⟩:∃ W,W = w.alloc (.cells #[.int .i64 j.who,.int .i64 j.n,.int .i64 j.left] 64):=⟨_,rfl⟩
 have hb0:Below w.heap.size w w0:=by rw [hw0];exact (Below.refl _ _).alloc (Nat.le_refl _) _
 have hj:w0.heap[w.heap.size]? = some (.cells #[.int .i64 j.who,.int .i64 j.n,.int .i64 j.left] 64 (0,0)):=by rw [hw0];exact alloc_at _ _ rfl
 have hz0:w.heap.size < w0.heap.size:=heap_lt' hj
 have HO:=hid (h.below (hb0.mono hB))
 have B1:=hid (b1.below hb0 (heap_lt' b1));have B2:=hid (b2.below hb0 (heap_lt' b2));have B3:=hid (b3.below hb0 (heap_lt' b3));have B4:=hid (b4.below hb0 (heap_lt' b4))
 obtain ⟨x0,x1,x2,x3⟩:=B1.out.cells
 obtain ⟨y0,y1⟩:=B2.out.cells
 obtain ⟨z0,z1⟩:=B3.out.cells
 obtain ⟨u0,u1⟩:=B4.out.cells
 obtain ⟨j0,j1,j2⟩:w0.cell? ⟨w.heap.size,0,none⟩ = some (.int .i64 j.who) ∧ w0.cell? ⟨w.heap.size,1,none⟩ = some (.int .i64 j.n) ∧ w0.cell? ⟨w.heap.size,2,none⟩ = some (.int .i64 j.left):=by refine ⟨?_,?_,?_⟩ <;> simp [World.cell?,hj]
 have HB0:=hid hb0;have HBZ:=hid hB;have HJ:=hid hj
 obtain ⟨y,hy⟩:∃ y,y = c.id who j.n:=⟨_,rfl⟩
 have HY:=hid hy
 have hwi:=hid hw;have hni:=hid hn
 by_cases hq:y = id
 ·have e1:(y == id) = true:=by simpa using hq
  have HM:=hid (show mayB c who s id j = (j.left != s) by unfold mayB;rw [← hy,e1];rfl)
  have e2:((j.left:Int) != (s:Int)) = (j.left != s):=by rw [Bool.eq_iff_iff];simp only [bne_iff_ne];omega
  clear hy hq hj hb0
  go_enter Tryz.func161,Tryz.ntmps161
  go_upto_region 1 with fail
  rw [← hw0]
  clear hw0
  go_region_held3 (fun w' => (w'.cell? ⟨g1,0,none⟩ = some (.slice ma mn mk) ∧ w'.cell? ⟨g1,1,none⟩ = some (.slice (some ⟨lb,lo,none⟩) 4 lc) ∧ w'.cell? ⟨g1,2,none⟩ = some (.slice (some ⟨pb,po,none⟩) 3 pc)) ∧ w'.cell? ⟨g2,0,none⟩ = some (.int .i64 who) ∧ w'.cell? ⟨g3,0,none⟩ = some (.int .i64 id) ∧ w'.cell? ⟨g4,0,none⟩ = some (.int .i64 s) ∧ w'.cell? ⟨w.heap.size,1,none⟩ = some (.int .i64 j.n) ∧ w'.cell? ⟨w.heap.size,2,none⟩ = some (.int .i64 j.left))
   (first | exact s6 | go_keep)
   (first
    | (go_at_call 97;(with_reducible refine (id_any hbus (B:=B) (HO.out.below (Below.refl _ _).drew) (le_drew' (Nat.le_trans HBZ.out HB0.out.size)) hwi.out hni.out).mono ?_);rw [← HY.out];rintro e w5 ⟨rfl,hb5⟩;have hb5':=(show Below w0.heap.size w0 w0.drew from (Below.refl _ _).drew).trans hb5;have HB5:=hid hb5';have s6:=And.intro (And.intro ((hb5'.cell (p:=⟨g1,_,none⟩) x3).trans x0) (And.intro ((hb5'.cell (p:=⟨g1,_,none⟩) x3).trans x1) ((hb5'.cell (p:=⟨g1,_,none⟩) x3).trans x2))) (And.intro ((hb5'.cell (p:=⟨g2,_,none⟩) y1).trans y0) (And.intro ((hb5'.cell (p:=⟨g3,_,none⟩) z1).trans z0) (And.intro ((hb5'.cell (p:=⟨g4,_,none⟩) u1).trans u0) (And.intro ((hb5'.cell (p:=⟨w.heap.size,_,none⟩) hz0).trans j1) ((hb5'.cell (p:=⟨w.heap.size,_,none⟩) hz0).trans j2)))));clear hb5 hb5'))
  go_wp2_with fail
  go_ret
  exact ⟨by rw [HM.out];rfl,HB0.out.trans (HB5.out.mono HB0.out.size)⟩
 ·have e1:(y == id) = false:=by simpa using hq
  have HM:=hid (show mayB c who s id j = false by unfold mayB;rw [← hy,e1];rfl)
  exact mayTestF_any hbus HO.out HB0.out (Nat.le_trans hB hb0.size) HJ.out x0 x1 x2 x3 y0 y1 z0 z1 hwi.out hni.out hy e1 HM hw0
end Go.Proofs.YtenjbhbcacocjaaGreat
namespace Go.Proofs.YtenjbhbcacocjaaGreat
open Go.RowKit
attribute [local go_sem ↓] Go.wp_at_zero Go.wp_at_succ
theorem tab5 (a b c d e:Int) {n:Nat} (h:n < 5):∃ y:Int,([Value.int .i64 a,.int .i64 b,.int .i64 c,.int .i64 d,.int .i64 e]:List Value)[n]? = some (.int .i64 y) ∧ (y = a ∨ y = b ∨ y = c ∨ y = d ∨ y = e):=by
 rcases (show n = 0 ∨ n = 1 ∨ n = 2 ∨ n = 3 ∨ n = 4 by omega) with rfl | rfl | rfl | rfl | rfl
 ·exact ⟨a,rfl,.inl rfl⟩
 ·exact ⟨b,rfl,.inr (.inl rfl)⟩
 ·exact ⟨c,rfl,.inr (.inr (.inl rfl))⟩
 ·exact ⟨d,rfl,.inr (.inr (.inr (.inl rfl)))⟩
 ·exact ⟨e,rfl,.inr (.inr (.inr (.inr rfl)))⟩
end Go.Proofs.YtenjbhbcacocjaaGreat
namespace Go.Proofs.YtenjbhbcacocjaaGreat
open Go.RowKit
def QW (w:World) (g:Nat) (id kind addr many:Int) (wp:Bool) (dv lv:Value):Prop :=
 w.heap[g]? = some (.cells #[.int .i64 id,.int .i64 kind,.int .i64 addr,.int .i64 many,.bool wp,dv,lv] 59 (0,0))
theorem QW.lt {w:World} {g:Nat} {id kind addr many:Int} {wp:Bool} {dv lv:Value} (h:QW w g id kind addr many wp dv lv):g < w.heap.size:=lt_of_heap h
theorem QW.cells {w:World} {g:Nat} {id kind addr many:Int} {wp:Bool} {dv lv:Value} (h:QW w g id kind addr many wp dv lv) :
  w.cell? ⟨g,0,none⟩ = some (.int .i64 id) ∧ w.cell? ⟨g,1,none⟩ = some (.int .i64 kind) ∧ w.cell? ⟨g,2,none⟩ = some (.int .i64 addr) ∧ w.cell? ⟨g,3,none⟩ = some (.int .i64 many) ∧ w.cell? ⟨g,4,none⟩ = some (.bool wp) ∧ w.cell? ⟨g,5,none⟩ = some dv ∧ w.cell? ⟨g,6,none⟩ = some lv:=by
 unfold QW at h
 refine ⟨?_,?_,?_,?_,?_,?_,?_⟩ <;> simp [World.cell?,h]
theorem QW.unfrozen {w:World} {g:Nat} {id kind addr many:Int} {wp:Bool} {dv lv:Value} (h:QW w g id kind addr many wp dv lv) :
  w.frozen? ⟨g,0,none⟩ = false ∧ w.frozen? ⟨g,1,none⟩ = false ∧ w.frozen? ⟨g,2,none⟩ = false ∧ w.frozen? ⟨g,3,none⟩ = false ∧ w.frozen? ⟨g,4,none⟩ = false ∧ w.frozen? ⟨g,5,none⟩ = false ∧ w.frozen? ⟨g,6,none⟩ = false:=by
 unfold QW at h
 refine ⟨?_,?_,?_,?_,?_,?_,?_⟩ <;> simp [World.frozen?,h]
theorem QW.keep {w w':World} {g:Nat} {id kind addr many:Int} {wp:Bool} {dv lv:Value} (h:QW w g id kind addr many wp dv lv) (e:w'.heap[g]? = w.heap[g]?):QW w' g id kind addr many wp dv lv:=by
 unfold QW at h ⊢;rw [e];exact h
theorem QW.touch {w w':World} {r g:Nat} {id kind addr many:Int} {wp:Bool} {dv lv:Value} (h:QW w g id kind addr many wp dv lv) (ht:Touch r w w') (hr:g ≠ r):QW w' g id kind addr many wp dv lv:=h.keep (ht.block g h.lt hr)
theorem QW.below {w w':World} {C g:Nat} {id kind addr many:Int} {wp:Bool} {dv lv:Value} (h:QW w g id kind addr many wp dv lv) (hb:Below C w w') (hr:g < C):QW w' g id kind addr many wp dv lv:=h.keep (hb.block g hr)
theorem QW.alloc {w:World} {g:Nat} {id kind addr many:Int} {wp:Bool} {dv lv:Value} (h:QW w g id kind addr many wp dv lv) (o:Obj):QW (w.alloc o) g id kind addr many wp dv lv:=h.below ((Below.refl w.heap.size w).alloc (Nat.le_refl _) o) h.lt
theorem QW.drewd {w:World} {g:Nat} {id kind addr many:Int} {wp:Bool} {dv lv:Value} (h:QW w g id kind addr many wp dv lv):QW w.drew g id kind addr many wp dv lv:=h
theorem QW.setc {w:World} {g:Nat} {id kind addr many:Int} {wp:Bool} {dv lv:Value} (h:QW w g id kind addr many wp dv lv) (b o:Nat) (u:Value) (hr:g ≠ b):QW (w.setCell ⟨b,o,none⟩ u) g id kind addr many wp dv lv:=h.keep (Below.heap_setCell _ _ _ _ hr)
theorem QW.new (w:World) {id kind addr many:Int} {wp:Bool} {dv lv:Value}:QW (w.alloc (.cells #[.int .i64 id,.int .i64 kind,.int .i64 addr,.int .i64 many,.bool wp,dv,lv] 59)) w.heap.size id kind addr many wp dv lv:=by
 show (w.heap.push _)[w.heap.size]? = _;simp
theorem QW.set0 {w:World} {g:Nat} {id kind addr many:Int} {wp:Bool} {dv lv:Value} (h:QW w g id kind addr many wp dv lv) (x:Int):QW (w.setCell ⟨g,0,none⟩ (.int .i64 x)) g x kind addr many wp dv lv:=by
 unfold QW at h ⊢;simp [World.setCell,Array.getElem?_modify,h]
theorem QW.set1 {w:World} {g:Nat} {id kind addr many:Int} {wp:Bool} {dv lv:Value} (h:QW w g id kind addr many wp dv lv) (x:Int):QW (w.setCell ⟨g,1,none⟩ (.int .i64 x)) g id x addr many wp dv lv:=by
 unfold QW at h ⊢;simp [World.setCell,Array.getElem?_modify,h]
theorem QW.set2 {w:World} {g:Nat} {id kind addr many:Int} {wp:Bool} {dv lv:Value} (h:QW w g id kind addr many wp dv lv) (x:Int):QW (w.setCell ⟨g,2,none⟩ (.int .i64 x)) g id kind x many wp dv lv:=by
 unfold QW at h ⊢;simp [World.setCell,Array.getElem?_modify,h]
theorem QW.set3 {w:World} {g:Nat} {id kind addr many:Int} {wp:Bool} {dv lv:Value} (h:QW w g id kind addr many wp dv lv) (x:Int):QW (w.setCell ⟨g,3,none⟩ (.int .i64 x)) g id kind addr x wp dv lv:=by
 unfold QW at h ⊢;simp [World.setCell,Array.getElem?_modify,h]
theorem QW.set4 {w:World} {g:Nat} {id kind addr many:Int} {wp:Bool} {dv lv:Value} (h:QW w g id kind addr many wp dv lv) (x:Bool):QW (w.setCell ⟨g,4,none⟩ (.bool x)) g id kind addr many x dv lv:=by
 unfold QW at h ⊢;simp [World.setCell,Array.getElem?_modify,h]
theorem QW.set5 {w:World} {g:Nat} {id kind addr many:Int} {wp:Bool} {dv lv:Value} (h:QW w g id kind addr many wp dv lv) (x:Value):QW (w.setCell ⟨g,5,none⟩ x) g id kind addr many wp x lv:=by
 unfold QW at h ⊢;simp [World.setCell,Array.getElem?_modify,h]
theorem QW.set6 {w:World} {g:Nat} {id kind addr many:Int} {wp:Bool} {dv lv:Value} (h:QW w g id kind addr many wp dv lv) (x:Value):QW (w.setCell ⟨g,6,none⟩ x) g id kind addr many wp dv x:=by
 unfold QW at h ⊢;simp [World.setCell,Array.getElem?_modify,h]
theorem QW.ofNew {r:Nat} {w w':World} {id kind addr many:Int} {wp:Bool} {dv lv:Value} (ht:Touch r (w.alloc (.cells #[.int .i64 id,.int .i64 kind,.int .i64 addr,.int .i64 many,.bool wp,dv,lv] 59)) w') (hr:r < w.heap.size):QW w' w.heap.size id kind addr many wp dv lv:=(QW.new w).touch ht (by omega)
def TW (w:World) (g:Nat) (xs:Array Value):Prop:=w.heap[g]? = some (.cells xs 3 (0,0))
theorem TW.at_ {w:World} {g:Nat} {xs:Array Value} (h:TW w g xs) (i:Nat) (v:Value) (hv:xs[i]? = some v):w.cell? ⟨g,i,none⟩ = some v:=by
 unfold TW at h;simp [World.cell?,h,hv]
theorem TW.touch {w w':World} {r g:Nat} {xs:Array Value} (h:TW w g xs) (ht:Touch r w w') (hr:g ≠ r):TW w' g xs:=by
 unfold TW at h ⊢;rw [ht.block g (lt_of_heap h) hr];exact h
theorem TW.ofNew {r:Nat} {w w':World} {xs:Array Value} (ht:Touch r (w.alloc (.cells xs 3)) w') (hr:r < w.heap.size):TW w' w.heap.size xs :=
 TW.touch (w:=w.alloc (.cells xs 3)) (by show (w.heap.push _)[w.heap.size]? = _;simp) ht (by omega)
theorem TW.alloc {w:World} {g:Nat} {xs:Array Value} (h:TW w g xs) (o:Obj):TW (w.alloc o) g xs:=by
 have hl:=lt_of_heap h
 unfold TW at h ⊢
 rw [((Below.refl w.heap.size w).alloc (Nat.le_refl _) o).block g hl];exact h
theorem tab4 (a b c d:Int) {n:Nat} (h:n < 4):∃ y:Int,([Value.int .i64 a,.int .i64 b,.int .i64 c,.int .i64 d]:List Value)[n]? = some (.int .i64 y) ∧ (y = a ∨ y = b ∨ y = c ∨ y = d):=by
 rcases (show n = 0 ∨ n = 1 ∨ n = 2 ∨ n = 3 by omega) with rfl | rfl | rfl | rfl
 ·exact ⟨a,rfl,.inl rfl⟩
 ·exact ⟨b,rfl,.inr (.inl rfl)⟩
 ·exact ⟨c,rfl,.inr (.inr (.inl rfl))⟩
 ·exact ⟨d,rfl,.inr (.inr (.inr rfl))⟩
theorem loadVar_req (w:World) (g:Nat) (a b c d e f k:Value) (h0:w.cell? ⟨g,0,none⟩ = some a) (h1:w.cell? ⟨g,1,none⟩ = some b) (h2:w.cell? ⟨g,2,none⟩ = some c) (h3:w.cell? ⟨g,3,none⟩ = some d) (h4:w.cell? ⟨g,4,none⟩ = some e) (h5:w.cell? ⟨g,5,none⟩ = some f) (h6:w.cell? ⟨g,6,none⟩ = some k) :
  (loadVar 59 ⟨g,0,none⟩).run Tryz.prog w = .ok (.agg #[a,b,c,d,e,f,k]) w:=by
 simp [loadVar,go_sem,h0,h1,h2,h3,h4,h5,h6]
abbrev qz (w:World) (g:Nat):Prop:=QW w g 0 0 0 0 false (.slice none 0 0) (.slice none 0 0)
end Go.Proofs.YtenjbhbcacocjaaGreat
