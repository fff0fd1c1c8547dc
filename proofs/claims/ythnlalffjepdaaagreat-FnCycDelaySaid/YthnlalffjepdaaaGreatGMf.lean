/- A cycle: whether one who asks may be let in at a store (may). -/
import Derived.Test.YthnlalffjepdaaaGreatGTh
import Derived.Test.YthnlalffjepdaaaGreatGDr3
import Derived.Test.YthnlalffjepdaaaGreatGDq0
set_option linter.unusedVariables false
set_option linter.unusedSimpArgs false
namespace Go.Proofs.YthnlalffjepdaaaGreat
open Go.RowKit
theorem IntB.new (w:World) (n:Int):IntB (w.alloc (.cells #[.int .i64 n] 3)) w.heap.size n:=alloc_at _ _ rfl
theorem IntB.fz {w:World} {g:Nat} {n:Int} (h:IntB w g n):w.frozen? ⟨g,0,none⟩=false:=by
 unfold IntB at h;simp[World.frozen?,h]
theorem IntB.put {w:World} {g:Nat} {n:Int} (h:IntB w g n) (m:Int):IntB (w.setCell ⟨g,0,none⟩ (.int .i64 m)) g m:=by
 unfold IntB at h ⊢;simp[World.setCell,Array.getElem?_modify,h]
def mfA (i0 i1 i2 i3 i4 i7 i8 i11 i12 i13 i14 i15 i16 i17 i18 i19 i20 i21 i22 i23 i24 i25 i26 i27 i28 i29 i30 i31 i32 i33 i34 i35 i36 i37 i38 i39 i40 i41 i42 i43 i44 i45 i53 i54 i55 i56 i57:Value) (g1:Nat) (g2:Nat) (gp:Nat) (u10 u46 u47 u48 u49 u50 u51 u52:Value):Act:={ tmps:=#[i0,i1,i2,i3,i4,.pointer (some ⟨g1,0,none⟩),.pointer (some ⟨g2,0,none⟩),i7,i8,.pointer (some ⟨gp,0,none⟩),u10,i11,i12,i13,i14,i15,i16,i17,i18,i19,i20,i21,i22,i23,i24,i25,i26,i27,i28,i29,i30,i31,i32,i33,i34,i35,i36,i37,i38,i39,i40,i41,i42,i43,i44,i45,u46,u47,u48,u49,u50,u51,u52,i53,i54,i55,i56,i57],defers:=[] }
def mfI (i0 i1 i2 i3 i4 i7 i8 i11 i12 i13 i14 i15 i16 i17 i18 i19 i20 i21 i22 i23 i24 i25 i26 i27 i28 i29 i30 i31 i32 i33 i34 i35 i36 i37 i38 i39 i40 i41 i42 i43 i44 i45 i53 i54 i55 i56 i57:Value) (g1:Nat) (g2:Nat) (gp:Nat) (ma:Option Addr) (mn:Nat) (mk:Nat) (lb:Nat) (lo:Nat) (lc:Nat) (pb:Nat) (po:Nat) (pc:Nat) (who:Nat) (n:Nat) (iz:Int) (qb:Nat) (qo:Nat) (ql:Nat) (qc:Nat) (wq:World) (listed:Array Bool) (a:Act) (w':World):Prop :=
 ∃ u10 u46 u47 u48 u49 u50 u51 u52 : Value, a = mfA i0 i1 i2 i3 i4 i7 i8 i11 i12 i13 i14 i15 i16 i17 i18 i19 i20 i21 i22 i23 i24 i25 i26 i27 i28 i29 i30 i31 i32 i33 i34 i35 i36 i37 i38 i39 i40 i41 i42 i43 i44 i45 i53 i54 i55 i56 i57 g1 g2 gp u10 u46 u47 u48 u49 u50 u51 u52 ∧
   (listed.getD 0 false=true→u46=.agg #[.slice ma mn mk,.slice (some ⟨lb,lo,none⟩) 4 lc,.slice (some ⟨pb,po,none⟩) 3 pc]) ∧
   (listed.getD 1 false=true→u47=.int .i64 who) ∧
   (listed.getD 2 false=true→u48=.pointer (some ⟨gp,1,none⟩)) ∧
   (listed.getD 3 false=true→u49=.slice (some ⟨qb,qo,none⟩) ql qc) ∧
   (listed.getD 4 false=true→u50=.pointer (some ⟨qb,qo,none⟩)) ∧
   (listed.getD 5 false=true→u51=.int .i64 n) ∧
   (listed.getD 6 false=true→u52=.int .i64 iz) ∧
   (listed.getD 7 false=true→listed.getD 8 false=false→∃g,u10=.pointer (some ⟨g,0,none⟩)∧wq.heap.size≤g∧IntB w' g 0) ∧
   (listed.getD 8 false=true→∃g,u10=.pointer (some ⟨g,0,none⟩)∧wq.heap.size≤g∧IntB w' g iz) ∧
   Below wq.heap.size wq w'
noncomputable def mfCode:Code:=(Tryz.f164.body.bind (regionIn 4)).getD .skip
set_option maxRecDepth 100000 in
set_option maxHeartbeats 16000000 in
theorem mf_region (i0 i1 i2 i3 i4 i7 i8 i11 i12 i13 i14 i15 i16 i17 i18 i19 i20 i21 i22 i23 i24 i25 i26 i27 i28 i29 i30 i31 i32 i33 i34 i35 i36 i37 i38 i39 i40 i41 i42 i43 i44 i45 i53 i54 i55 i56 i57 j10 j46 j47 j48 j49 j50 j51 j52 : Value) (g1 : Nat) (g2 : Nat) (gp : Nat) (ma : Option Addr) (mn : Nat) (mk : Nat) (lb : Nat) (lo : Nat) (lc : Nat) (pb : Nat) (po : Nat) (pc : Nat) (who : Nat) (n : Nat) (iz : Int) (qb : Nat) (qo : Nat) (ql : Nat) (qc : Nat) (wq : World)
  {c:Cfg} (hbus:Bus c) {B:Nat} {QQ:Nat→Option Addr} {KK:Nat→Nat} (HO:BusO wq B c ma mn mk lb lo lc pb po pc QQ KK) (hBw:B≤wq.heap.size) (hwi:who<3) (hni:n<(c.prog who).length) (HY:Hid (iz=c.id who n))
  (t0:wq.cell? ⟨g1,0,none⟩=some (.slice ma mn mk)) (t1:wq.cell? ⟨g1,1,none⟩=some (.slice (some ⟨lb,lo,none⟩) 4 lc)) (t2:wq.cell? ⟨g1,2,none⟩=some (.slice (some ⟨pb,po,none⟩) 3 pc)) (z1:g1<wq.heap.size)
  (t3:wq.cell? ⟨g2,0,none⟩=some (.int .i64 who)) (z2:g2<wq.heap.size) (t4:wq.cell? ⟨gp,1,none⟩=some (.slice (some ⟨qb,qo,none⟩) ql qc)) (z3:gp<wq.heap.size) (t5:wq.cell? ⟨qb,qo,none⟩=some (.int .i64 n)) (z4:qb<wq.heap.size)
  (hqi:(0:Int)<(ql:Int)) (hqp:0<ql)
  {K:Act→World→Prop} {Q':Exit→Act→World→Prop}
  (hK:∀(u10 u46 u47 u48 u49 u50 u51 u52:Value) w', (∃g,u10=.pointer (some ⟨g,0,none⟩)∧wq.heap.size≤g∧IntB w' g iz∧Below wq.heap.size wq w')→K (mfA i0 i1 i2 i3 i4 i7 i8 i11 i12 i13 i14 i15 i16 i17 i18 i19 i20 i21 i22 i23 i24 i25 i26 i27 i28 i29 i30 i31 i32 i33 i34 i35 i36 i37 i38 i39 i40 i41 i42 i43 i44 i45 i53 i54 i55 i56 i57 g1 g2 gp u10 u46 u47 u48 u49 u50 u51 u52) w') :
  mfCode.wp Tryz.prog (Exit.then K Q') (mfA i0 i1 i2 i3 i4 i7 i8 i11 i12 i13 i14 i15 i16 i17 i18 i19 i20 i21 i22 i23 i24 i25 i26 i27 i28 i29 i30 i31 i32 i33 i34 i35 i36 i37 i38 i39 i40 i41 i42 i43 i44 i45 i53 i54 i55 i56 i57 g1 g2 gp j10 j46 j47 j48 j49 j50 j51 j52) wq:=by
 conv=>arg 2;whnf
 refine wp_region_inv3 (mfI i0 i1 i2 i3 i4 i7 i8 i11 i12 i13 i14 i15 i16 i17 i18 i19 i20 i21 i22 i23 i24 i25 i26 i27 i28 i29 i30 i31 i32 i33 i34 i35 i36 i37 i38 i39 i40 i41 i42 i43 i44 i45 i53 i54 i55 i56 i57 g1 g2 gp ma mn mk lb lo lc pb po pc who n iz qb qo ql qc wq) (by kernel_rfl) (by kernel_rfl) ?_ ?_ ?_
 ·exact⟨_,_,_,_,_,_,_,_,rfl,(fun h=>absurd h (by rw[getD_replicate_false];simp)),(fun h=>absurd h (by rw[getD_replicate_false];simp)),(fun h=>absurd h (by rw[getD_replicate_false];simp)),(fun h=>absurd h (by rw[getD_replicate_false];simp)),(fun h=>absurd h (by rw[getD_replicate_false];simp)),(fun h=>absurd h (by rw[getD_replicate_false];simp)),(fun h=>absurd h (by rw[getD_replicate_false];simp)),(fun h _=>absurd h (by rw[getD_replicate_false];simp)),(fun h=>absurd h (by rw[getD_replicate_false];simp)),(Below.refl _ _).drew⟩
 ·intro listed a w' i o hI hsz ho hl he hcl;have hi:i<9:=(Array.getElem?_eq_some_iff.1 ho).1;have e:i=0∨i=1∨i=2∨i=3∨i=4∨i=5∨i=6∨i=7∨i=8:=by omega
  clear hi;rcases e with rfl|rfl|rfl|rfl|rfl|rfl|rfl|rfl|rfl
  all_goals (have ho2:=ho;obtain rfl:=Option.some.inj ho2.symm;clear ho2)
  ·as_aux_lemma=>
    obtain⟨u10,u46,u47,u48,u49,u50,u51,u52,rfl,F0,F1,F2,F3,F4,F5,F6,F7,F8,hx⟩:=hI;have q_t0:=(hx.cell (p:=⟨g1,0,none⟩) z1).trans t0;have q_t1:=(hx.cell (p:=⟨g1,1,none⟩) z1).trans t1;have q_t2:=(hx.cell (p:=⟨g1,2,none⟩) z1).trans t2;refine wpOp_stepy ho rfl (fun K hK=>?_);unfold mfA;go_simp;exact hK _ _ ⟨_,_,_,_,_,_,_,_,rfl,fun _=>rfl,cy F1 rfl,cy F2 rfl,cy F3 rfl,cy F4 rfl,cy F5 rfl,cy F6 rfl,cyu F7 rfl rfl,cy F8 rfl,hx⟩
  ·as_aux_lemma=>
    obtain⟨u10,u46,u47,u48,u49,u50,u51,u52,rfl,F0,F1,F2,F3,F4,F5,F6,F7,F8,hx⟩:=hI;have q_t3:=(hx.cell (p:=⟨g2,0,none⟩) z2).trans t3;refine wpOp_stepy ho rfl (fun K hK=>?_);unfold mfA;go_simp;exact hK _ _ ⟨_,_,_,_,_,_,_,_,rfl,cy F0 rfl,fun _=>rfl,cy F2 rfl,cy F3 rfl,cy F4 rfl,cy F5 rfl,cy F6 rfl,cyu F7 rfl rfl,cy F8 rfl,hx⟩
  ·as_aux_lemma=>
    obtain⟨u10,u46,u47,u48,u49,u50,u51,u52,rfl,F0,F1,F2,F3,F4,F5,F6,F7,F8,hx⟩:=hI;refine wpOp_stepy ho rfl (fun K hK=>?_);unfold mfA;go_simp;exact hK _ _ ⟨_,_,_,_,_,_,_,_,rfl,cy F0 rfl,cy F1 rfl,fun _=>rfl,cy F3 rfl,cy F4 rfl,cy F5 rfl,cy F6 rfl,cyu F7 rfl rfl,cy F8 rfl,hx⟩
  ·as_aux_lemma=>
    obtain⟨u10,u46,u47,u48,u49,u50,u51,u52,rfl,F0,F1,F2,F3,F4,F5,F6,F7,F8,hx⟩:=hI;have l2:=he ⟨2,.data⟩ (by simp) rfl;have e:=F2 l2;subst e;have q_t4:=(hx.cell (p:=⟨gp,1,none⟩) z3).trans t4;refine wpOp_stepy ho rfl (fun K hK=>?_);unfold mfA;go_simp;exact hK _ _ ⟨_,_,_,_,_,_,_,_,rfl,cy F0 rfl,cy F1 rfl,cy F2 rfl,fun _=>rfl,cy F4 rfl,cy F5 rfl,cy F6 rfl,cyu F7 rfl rfl,cy F8 rfl,hx⟩
  ·as_aux_lemma=>
    obtain⟨u10,u46,u47,u48,u49,u50,u51,u52,rfl,F0,F1,F2,F3,F4,F5,F6,F7,F8,hx⟩:=hI;have l3:=he ⟨3,.data⟩ (by simp) rfl;have e:=F3 l3;subst e;have hq1:=hqi;have hq2:=hqp;refine wpOp_stepy ho rfl (fun K hK=>?_);unfold mfA;go_simp;exact hK _ _ ⟨_,_,_,_,_,_,_,_,rfl,cy F0 rfl,cy F1 rfl,cy F2 rfl,cy F3 rfl,fun _=>rfl,cy F5 rfl,cy F6 rfl,cyu F7 rfl rfl,cy F8 rfl,hx⟩
  ·as_aux_lemma=>
    obtain⟨u10,u46,u47,u48,u49,u50,u51,u52,rfl,F0,F1,F2,F3,F4,F5,F6,F7,F8,hx⟩:=hI;have l4:=he ⟨4,.data⟩ (by simp) rfl;have e:=F4 l4;subst e;have q_t5:=(hx.cell (p:=⟨qb,qo,none⟩) z4).trans t5;refine wpOp_stepy ho rfl (fun K hK=>?_);unfold mfA;go_simp;exact hK _ _ ⟨_,_,_,_,_,_,_,_,rfl,cy F0 rfl,cy F1 rfl,cy F2 rfl,cy F3 rfl,cy F4 rfl,fun _=>rfl,cy F6 rfl,cyu F7 rfl rfl,cy F8 rfl,hx⟩
  ·as_aux_lemma=>
    obtain⟨u10,u46,u47,u48,u49,u50,u51,u52,rfl,F0,F1,F2,F3,F4,F5,F6,F7,F8,hx⟩:=hI;have l0:=he ⟨0,.data⟩ (by simp) rfl;have l1:=he ⟨1,.data⟩ (by simp) rfl;have l5:=he ⟨5,.data⟩ (by simp) rfl;have e:=F0 l0;subst e;have e:=F1 l1;subst e;have e:=F5 l5;subst e;refine wpOp_stepy ho rfl (fun K hK=>?_);unfold mfA;go_simp
    (with_reducible refine(id_any hbus (B:=B) (HO.below (hx.mono hBw)) (Nat.le_trans hBw hx.size) hwi hni).mono ?_)
    rw[←HY.out];rintro e w'' ⟨rfl,hb1⟩
    go_wp2_with fail
    exact⟨_,_,_,_,_,_,_,_,rfl,fun _=>rfl,fun _=>rfl,cy F2 rfl,cy F3 rfl,cy F4 rfl,fun _=>rfl,fun _=>rfl,fun hj hu=>(let ⟨g,e1,e2,e3⟩:=(cyu F7 rfl rfl hj hu);⟨g,e1,e2,e3.below hb1 (heap_lt' e3)⟩),fun hj=>absurd (hcl 8 _ rfl (by rwa [sgy (by decide)]at hj) ⟨6,.data⟩ (by simp) rfl) (by rw[getD_both hl];simp),hx.trans (hb1.mono hx.size)⟩
  ·as_aux_lemma=>
    obtain⟨u10,u46,u47,u48,u49,u50,u51,u52,rfl,F0,F1,F2,F3,F4,F5,F6,F7,F8,hx⟩:=hI;refine wpOp_stepy ho rfl (fun K hK=>?_);unfold mfA;have hb1:Below w'.heap.size w' (w'.alloc (.cells #[.int .i64 0] 3)):=(Below.refl _ _).alloc (Nat.le_refl _) _;go_simp;exact hK _ _ ⟨_,_,_,_,_,_,_,_,rfl,cy F0 rfl,cy F1 rfl,cy F2 rfl,cy F3 rfl,cy F4 rfl,cy F5 rfl,cy F6 rfl,fun _ _=>⟨_,rfl,hx.size,IntB.new _ _⟩,fun hj=>absurd (hcl 8 _ rfl (by rwa [sgy (by decide)]at hj) ⟨7,.data⟩ (by simp) rfl) (by rw[getD_both hl];simp),hx.trans (hb1.mono hx.size)⟩
  ·as_aux_lemma=>
    obtain⟨u10,u46,u47,u48,u49,u50,u51,u52,rfl,F0,F1,F2,F3,F4,F5,F6,F7,F8,hx⟩:=hI;have l7:=he ⟨7,.data⟩ (by simp) rfl;have l6:=he ⟨6,.data⟩ (by simp) rfl;obtain⟨g,rfl,g1l,hI3⟩:=F7 l7 (getD_both hl);have e:=F6 l6;subst e;obtain⟨k0,_⟩:=hI3.cells;have k1:=hI3.fz;refine wpOp_stepy ho rfl (fun K hK=>?_);unfold mfA;have ht:Touch g w' (w'.setCell ⟨g,0,none⟩ (.int .i64 iz)):=Touch.setCell _ _ _ _;go_simp;exact hK _ _ ⟨_,_,_,_,_,_,_,_,rfl,cy F0 rfl,cy F1 rfl,cy F2 rfl,cy F3 rfl,cy F4 rfl,cy F5 rfl,cy F6 rfl,fun _ hu=>absurd hu (by rw[sgiy hl];simp),fun _=>⟨g,rfl,g1l,hI3.put _⟩,hx.trans (ht.below g1l hx.size)⟩
 ·intro listed a w' hI hd;obtain⟨u10,u46,u47,u48,u49,u50,u51,u52,rfl,F0,F1,F2,F3,F4,F5,F6,F7,F8,hx⟩:=hI;have e8:=F8 (hd 8 (by show 8<9;omega));obtain⟨g,e1,e2,e3⟩:=e8;exact hK _ _ _ _ _ _ _ _ w' ⟨g,e1,e2,e3,hx⟩
theorem queue_head {w : World} {base : Nat} {qa : Option Addr} {m qc n : Nat} {rest : List Nat} (h : Owns w base 3 1 rowN (.slice qa m qc) (n :: rest)) (hn : (n :: rest).length ≤ 140737488351232) :
  ∃b off,qa=some ⟨b,off,none⟩∧b<w.heap.size∧w.cell? ⟨b,off,none⟩=some (.int .i64 (n:Nat)):=by
 obtain⟨ao,cap,hv,_,_,_,_,h3⟩:=h.arr (fun _=>rfl) hn;obtain⟨b,off,ha,hlt,hc⟩:=h3 (by simp);simp only[Value.slice.injEq]at hv;refine⟨b,off,hv.1.trans ha,hlt,?_⟩;have:=hc 0 (by simp) 0 (by omega);simpa[rowN]using this
theorem slv_nat {ms:List MR} {r:Rq} (hm:mapOk ms=true):slaveOf ms r=((slaveOf ms r).toNat:Nat):=by
 have h:0≤slaveOf ms r:=by
  unfold slaveOf
  split
  ·omega
  ·rename_i h;have hlt:=wholeOf_lt ms (rqBurst r);have hk:(wholeOf ms (rqBurst r)).toNat<ms.length:=by omega
   simp only[mapOk,Bool.and_eq_true,List.all_eq_true]at hm;have h2:=hm.2 _ (List.mem_range.2 hk);simp only[rangeOk,Bool.and_eq_true,inB,decide_eq_true_eq]at h2;omega
 omega
set_option maxRecDepth 4000 in
set_option maxHeartbeats 8000000 in
theorem may_any {c : Cfg} (hbus : Bus c) {w : World} {base S Hb : Nat} {L : Nat → Value} {st : Cy} {ev : List Ev} {V : Nat → Value} {N : Nat → Nat} {C : Nat → List Value} {D : Nat → List TJV} (hm : CyM w base S Hb L st ev V N C D) (hg : Good c st) {B : Nat} {ma : Option Addr} {mn mk lb lo lc pb po' pc' : Nat} {Q : Nat → Option Addr} {K : Nat → Nat} (hc : BusO w B c ma mn mk lb lo lc pb po' pc' Q K) (hB : B ≤ base) {who s : Nat} (hw : who < 3) (hs : s < 4) :
  Calls Tryz.prog 164 #[.pointer (some ⟨S,0,none⟩),.agg #[.slice ma mn mk,.slice (some ⟨lb,lo,none⟩) 4 lc,.slice (some ⟨pb,po', none⟩) 3 pc'],.int .i64 who,.int .i64 s] w fun e w' => e=.returned (.bool (may c st who s))∧Below w.heap.size w w':=by
 have hbw:base≤w.heap.size:=Nat.le_trans hm.s0 (Nat.le_of_lt (heap_lt' hm.bs));have hS:=heap_lt' hm.bs;obtain⟨w0,hw0⟩:∃W,W=((w.alloc (.cells #[.slice ma mn mk,.slice (some ⟨lb,lo,none⟩) 4 lc,.slice (some ⟨pb,po', none⟩) 3 pc'] 27)).alloc (.cells #[.int .i64 who] 3)).alloc (.cells #[.int .i64 s] 3):=⟨_,rfl⟩
 have hb0:Below w.heap.size w w0:=by rw[hw0];exact(((Below.refl _ _).alloc (Nat.le_refl _) _).alloc (by simp) _).alloc (by simp;omega) _
 have hz0:w0.heap.size=w.heap.size+3:=by rw[hw0];simp
 have B1 := hid (show BusB w0 w.heap.size ma mn mk lb lo lc pb po' pc' by
  unfold BusB;rw[hw0,((Below.refl _ _).alloc (Nat.le_refl _) _).block _ (by simp;omega),((Below.refl _ _).alloc (Nat.le_refl _) _).block _ (by simp)];exact alloc_at _ _ rfl)
 have B2 := hid (show IntB w0 (w.heap.size + 1) who by
  unfold IntB;rw[hw0,((Below.refl _ _).alloc (Nat.le_refl _) _).block _ (by simp)];exact alloc_at _ _ (by simp))
 have B4:=hid (show IntB w0 (w.heap.size+2) s by unfold IntB;rw[hw0];exact alloc_at _ _ (by simp));have hm0:=hm.below hb0;have HM0:=hid hm0;have HO:=hid (hc.below (hb0.mono (Nat.le_trans hB hbw)));obtain⟨pg,po,pc,hV2,hpc,hpc2,hpb,hpz⟩:=hm0.ports;obtain⟨p0,p1,p2,p3,pf⟩:=hm0.port hV2 hw;obtain⟨q0,q1,q2,q3,q4,qf⟩:=hm0.box;rw[hV2]at q2;obtain⟨qa,qc,hqs,_,_⟩:=(hm0.oQueue hw).shape;obtain⟨oa,oc,hos,_,_⟩:=(hm0.oOut hw).shape;rw[hqs]at p1;rw[hos]at p2;obtain⟨ql,hql⟩:∃x,x=(st.ports who).queue.length:=⟨_,rfl⟩
 obtain⟨ol,hol⟩:∃x,x=(st.ports who).out.length:=⟨_,rfl⟩
 obtain⟨nx,hnx⟩:∃x,x=(st.ports who).next:=⟨_,rfl⟩
 obtain⟨ls,hls⟩:∃x,x=(st.ports who).last:=⟨_,rfl⟩
 rw[←hnx]at p0;rw[←hql]at p1;rw[←hol]at p2;rw[←hls]at p3;have hQo:=hm0.oQueue hw;rw[hqs]at hQo;have HQS:=hid hqs;have HOS:=hid hos;have HOO:=hid (hm0.oOut hw);rw[hos]at HOO;obtain⟨x0,x1,x2,x3⟩:=B1.out.cells;obtain⟨y0,y1⟩:=B2.out.cells;obtain⟨u0,u1⟩:=B4.out.cells;have hwi:(who:Int)<3:=by omega
 have HB0:=hid hb0;have HBW:=hid hbw;have HBB:=hid hB;have HG:=hid (hg.p who hw);have hS0:S<w0.heap.size:=by omega
 have HZ:=hid hz0;obtain⟨w1,hw1⟩:∃W,W=(w0.alloc (.cells #[.int .i64 nx,.slice qa ql qc,.slice oa ol oc,.int .i64 ls] 52)).drew:=⟨_,rfl⟩
 have hb1:Below w0.heap.size w0 w1:=by rw[hw1];exact((Below.refl _ _).alloc (Nat.le_refl _) _).drew
 have hpt:w1.heap[w0.heap.size]? = some (.cells #[.int .i64 nx,.slice qa ql qc,.slice oa ol oc,.int .i64 ls] 52 (0,0)):=by rw[hw1];exact alloc_at _ _ rfl
 have hz1:=heap_lt' hpt;obtain⟨c1,c2⟩:w1.cell? ⟨w0.heap.size,1,none⟩=some (.slice qa ql qc)∧w1.cell? ⟨w0.heap.size,2,none⟩=some (.slice oa ol oc):=by refine⟨?_,?_⟩ <;> simp[World.cell?,hpt]
 have v0:=(hb1.cell (p:=⟨w.heap.size,0,none⟩) x3).trans x0;have v1:=(hb1.cell (p:=⟨w.heap.size,1,none⟩) x3).trans x1;have v2:=(hb1.cell (p:=⟨w.heap.size,2,none⟩) x3).trans x2;have v3:=(hb1.cell (p:=⟨w.heap.size+1,0,none⟩) y1).trans y0;have v4:=(hb1.cell (p:=⟨w.heap.size+2,0,none⟩) u1).trans u0;have hO4:=(hg.p who hw).o4;have hNX:=(hg.p who hw).nx;have hQQ:=(hg.p who hw).q;have HOUT:=hid (hg.p who hw).o;have HB1:=hid hb1;have HQO:=hid hQo;have HQL:=hid hql;have HOL:=hid hol;have HPT:=hid hpt;have HNX:=hid hnx;have HNXX:=hid hNX;have HQQ:=hid hQQ;have hwn:=hw;have HG:=hid (hg.p who hw);have hql2:ql≤2:=by rw[hql];exact(hg.p who hw).q2
 have hb1':=hb1;have hBz:B≤w0.heap.size:=Nat.le_trans hB (Nat.le_trans hbw hb0.size);clear hNX hQQ;clear hm0 hb0 hqs hos q0 q1 q3 q4 qf hz0 hpc hpc2 hpb hV2 hbw hpt hQo hnx hls hql hol hm hg hc;by_cases hq0:ql=0
 ·have e1:((ql:Int)==0)=true:=by simpa using hq0
  have HM:=hid (show may c st who s=false by unfold may;rw[show(st.ports who).queue=[] from List.eq_nil_of_length_eq_zero (by rw[←HQL.out];exact hq0)]);clear hq0
  go_enter Tryz.func164,Tryz.ntmps164
  go_upto_region 1 with fail
  rw[←hw0];clear hw0
  go_region
  rw[←hw1];clear hw1
  go_upto_region 2 with fail
  go_quiet (fail)
  go_wp2_with fail
  go_ret
  exact⟨by rw[HM.out];rfl,HB0.out.trans ((HB1.out.trans (Below.draws (Below.refl _ _) _)).mono HB0.out.size)⟩
 obtain⟨n,rest,hcons⟩:∃n rest,(st.ports who).queue=n::rest:=by
  rcases hqq:(st.ports who).queue with _|⟨n,rest⟩
  ·exfalso;apply hq0;rw[HQL.out,hqq];rfl
  ·exact⟨n,rest,rfl⟩
 have HCONS:=hid hcons;clear hcons;have e1:((ql:Int)==0)=false:=by simpa using hq0
 by_cases ho4:4≤ol
 ·have e2:(4:Int)≤(ol:Int):=by omega
  have HM := hid (show may c st who s = false by
   unfold may;rw[HCONS.out];have:decide ((st.ports who).out.length<4)=false:=by rw[←HOL.out];simpa using ho4
   simp only[this,Bool.false_and])
  clear hq0
  go_enter Tryz.func164,Tryz.ntmps164
  go_upto_region 1 with fail
  rw[←hw0];clear hw0
  go_region
  rw[←hw1];clear hw1
  go_upto_region 2 with fail
  go_quiet (fail)
  go_wp2_with fail
  go_ret
  exact⟨by rw[HM.out];rfl,HB0.out.trans ((HB1.out.trans (Below.draws (Below.refl _ _) _)).mono HB0.out.size)⟩
 have hnq:n<(c.prog who).length:=by
  have h1:=HQQ.out;rw[HCONS.out]at h1;obtain⟨h2,_,_⟩:=range'_cons h1;have h3:=HNXX.out;have h4:=(HG.out).qn;rw[HCONS.out]at h4;simp only[List.length_cons]at h2 h4;omega
 obtain⟨qb,qo,hqa,hqb,hqn⟩:=queue_head (n:=n) (rest:=rest) (by rw[←HCONS.out];exact HQO.out) (by rw[←HCONS.out,←HQL.out];have:=hql2;omega);obtain⟨rb,ro,da,dc,la,lc', hrq,hrb,hrv,r0,r1,r2,r3,r4,r5,r6⟩:=(HO.out.below (hb1'.mono hBz)).at hwn hnq;have hpq:=(HO.out.below (hb1'.mono hBz)).prog who hwn;rw[hrq]at hpq;obtain⟨iy,hiy⟩:∃y,y=(c.req who n).id:=⟨_,rfl⟩
 obtain⟨ik,hik⟩:∃y,y=(c.req who n).kind:=⟨_,rfl⟩
 obtain⟨ia,hia⟩:∃y,y=(c.req who n).addr:=⟨_,rfl⟩
 obtain⟨im,him⟩:∃y,y=(c.req who n).many:=⟨_,rfl⟩
 obtain⟨ip,hip⟩:∃y,y=(c.req who n).wrap:=⟨_,rfl⟩
 obtain⟨dn,hdn⟩:∃y,y=(c.req who n).data.length:=⟨_,rfl⟩
 obtain⟨ln,hln⟩:∃y,y=(c.req who n).lanes.length:=⟨_,rfl⟩
 obtain⟨pn,hpn⟩:∃y,y=(c.prog who).length:=⟨_,rfl⟩
 rw[←hiy]at r0;rw[←hik]at r1;rw[←hia]at r2;rw[←him]at r3;rw[←hip]at r4;rw[←hdn]at r5;rw[←hln]at r6;rw[←hpn]at hpq;obtain⟨sv,hsv⟩:∃y,y=c.slv who n:=⟨_,rfl⟩
 have HSV := hid (show slaveAt c.ms (wholeOf c.ms (burst ia im ip)) = (sv : Int) by
  rw[hsv,hia,him,hip];exact slv_nat (r:=c.req who n) hbus.ms)
 have v5:=(hb1.cell (p:=⟨qb,qo,none⟩) (show qb<w0.heap.size from hqb)).trans hqn;subst hqa;have hni:(n:Int)<(pn:Int):=by rw[hpn];omega
 have hqi:(0:Int)<(ql:Int):=by omega
 have hqp:0<ql:=by omega
 have hqd:decide (0<ql)=true:=by simpa using hqp
 have ho4i:(ol:Int)<4:=by omega
 have e2:decide ((4:Int)≤(ol:Int))=false:=by simp;omega
 have e3:decide (4≤ol)=false:=by simpa using ho4
 have hrbz:rb<w1.heap.size:=Nat.lt_of_lt_of_le hrb (Nat.le_trans hBz hb1.size);have hpbz:pb<w1.heap.size:=Nat.lt_of_lt_of_le HO.out.hpb (Nat.le_trans hBz hb1.size);have hqbz:qb<w1.heap.size:=Nat.lt_of_lt_of_le hqb hb1.size;have hg1z:w.heap.size<w1.heap.size:=Nat.lt_of_lt_of_le x3 hb1.size;have hg2z:w.heap.size+1<w1.heap.size:=Nat.lt_of_lt_of_le y1 hb1.size;have hg4z:w.heap.size+2<w1.heap.size:=Nat.lt_of_lt_of_le u1 hb1.size;have HHI:=hid hiy;have HPN:=hid hpn;have HSVV:=hid hsv;have HBM:=hid ((HO.out.below (hb1'.mono hBz)).ms);have HBZ:=hid hBz;clear hiy hik hia him hip hdn hln hpn hsv hb1' hrv hrq;by_cases hys:sv=s
 ·have e5:((sv:Int) != (s:Int))=false:=by subst hys;simp
  obtain⟨iz,hiz⟩:∃y,y=c.id who n:=⟨_,rfl⟩
  have HIZ:=hid hiz;obtain⟨av,hav⟩:∃b,b=(st.ports who).out.any (mayB c who s iz):=⟨_,rfl⟩
  have HAV:=hid hav;clear hav
  have HM := hid (show may c st who s = !av by
   unfold may;rw[HCONS.out];have k1:decide ((st.ports who).out.length<4)=true:=by rw[←HOL.out];simp;omega
   have k2:(c.slv who n==s)=true:=by rw[←HSVV.out];simpa using hys
   simp only[k1,k2,Bool.true_and];rw[HAV.out,HIZ.out];rfl)
  clear hiz
  go_enter Tryz.func164,Tryz.ntmps164
  go_upto_region 1 with fail
  rw[←hw0];clear hw0
  go_region
  rw[←hw1];clear hw1
  go_upto_region 2 with fail
  go_region_held3 (fun w' => w'.cell? ⟨w.heap.size, 0, none⟩ = some (.slice ma mn mk) ∧ w'.cell? ⟨w.heap.size, 2, none⟩ = some ((.slice (some ⟨pb, po', none⟩) 3 pc')) ∧ w'.cell? ⟨w.heap.size + 1, 0, none⟩ = some ((.int .i64 who)) ∧ w'.cell? ⟨w.heap.size + 2, 0, none⟩ = some ((.int .i64 s)) ∧ w'.cell? ⟨w0.heap.size, 1, none⟩ = some ((.slice (some ⟨qb, qo, none⟩) ql qc)) ∧ w'.cell? ⟨w0.heap.size, 2, none⟩ = some ((.slice oa ol oc)) ∧ w'.cell? ⟨pb, po' + who, none⟩ = some ((.slice (some ⟨rb, ro, none⟩) pn (K who))) ∧ w'.cell? ⟨qb, qo, none⟩ = some ((.int .i64 n)) ∧ w'.cell? ⟨rb, ro + n * 7, none⟩ = some ((.int .i64 iy)) ∧ w'.cell? ⟨rb, ro + n * 7 + 1, none⟩ = some ((.int .i64 ik)) ∧ w'.cell? ⟨rb, ro + n * 7 + 2, none⟩ = some ((.int .i64 ia)) ∧ w'.cell? ⟨rb, ro + n * 7 + 3, none⟩ = some ((.int .i64 im)) ∧ w'.cell? ⟨rb, ro + n * 7 + 4, none⟩ = some ((.bool ip)) ∧ w'.cell? ⟨rb, ro + n * 7 + 5, none⟩ = some ((.slice da dn dc)) ∧ w'.cell? ⟨rb, ro + n * 7 + 6, none⟩ = some ((.slice la ln lc')) ∧ w'.cell? ⟨w.heap.size, 1, none⟩ = some (.slice (some ⟨lb, lo, none⟩) 4 lc))
   (first|exact s6|go_keep)
   (first
    |(go_at_call 78;(with_reducible refine(slave_val _ c.ms iy ik ia im ip (.slice da dn dc) (.slice la ln lc') ⟨_,_,_,rfl⟩ ⟨_,_,_,rfl⟩ B _ (HBM.out.below (Below.refl _ _).drew) (le_drew' (Nat.le_trans HBZ.out HB1.out.size))).mono ?_);rw[HSV.out];rintro e w5 ⟨rfl,hb5⟩;have hb5':=(show Below w1.heap.size w1 w1.drew from(Below.refl _ _).drew).trans hb5;have HB5:=hid hb5';have s6:w5.cell? ⟨w.heap.size,0,none⟩=some (.slice ma mn mk)∧w5.cell? ⟨w.heap.size,2,none⟩=some ((.slice (some ⟨pb,po', none⟩) 3 pc'))∧w5.cell? ⟨w.heap.size+1,0,none⟩=some ((.int .i64 who))∧w5.cell? ⟨w.heap.size+2,0,none⟩=some ((.int .i64 s))∧w5.cell? ⟨w0.heap.size,1,none⟩=some ((.slice (some ⟨qb,qo,none⟩) ql qc))∧w5.cell? ⟨w0.heap.size,2,none⟩=some ((.slice oa ol oc))∧w5.cell? ⟨pb,po' + who,none⟩=some ((.slice (some ⟨rb,ro,none⟩) pn (K who)))∧w5.cell? ⟨qb,qo,none⟩=some ((.int .i64 n))∧w5.cell? ⟨rb,ro+n * 7,none⟩=some ((.int .i64 iy))∧w5.cell? ⟨rb,ro+n * 7+1,none⟩=some ((.int .i64 ik))∧w5.cell? ⟨rb,ro+n * 7+2,none⟩=some ((.int .i64 ia))∧w5.cell? ⟨rb,ro+n * 7+3,none⟩=some ((.int .i64 im))∧w5.cell? ⟨rb,ro+n * 7+4,none⟩=some ((.bool ip))∧w5.cell? ⟨rb,ro+n * 7+5,none⟩=some ((.slice da dn dc))∧w5.cell? ⟨rb,ro+n * 7+6,none⟩=some ((.slice la ln lc'))∧w5.cell? ⟨w.heap.size,1,none⟩=some (.slice (some ⟨lb,lo,none⟩) 4 lc):=⟨(hb5'.cell (p:=⟨w.heap.size,0,none⟩) hg1z).trans v0,(hb5'.cell (p:=⟨w.heap.size,2,none⟩) hg1z).trans v2,(hb5'.cell (p:=⟨w.heap.size+1,0,none⟩) hg2z).trans v3,(hb5'.cell (p:=⟨w.heap.size+2,0,none⟩) hg4z).trans v4,(hb5'.cell (p:=⟨w0.heap.size,1,none⟩) hz1).trans c1,(hb5'.cell (p:=⟨w0.heap.size,2,none⟩) hz1).trans c2,(hb5'.cell (p:=⟨pb,po' + who,none⟩) hpbz).trans hpq,(hb5'.cell (p:=⟨qb,qo,none⟩) hqbz).trans v5,(hb5'.cell (p:=⟨rb,ro+n * 7,none⟩) hrbz).trans r0,(hb5'.cell (p:=⟨rb,ro+n * 7+1,none⟩) hrbz).trans r1,(hb5'.cell (p:=⟨rb,ro+n * 7+2,none⟩) hrbz).trans r2,(hb5'.cell (p:=⟨rb,ro+n * 7+3,none⟩) hrbz).trans r3,(hb5'.cell (p:=⟨rb,ro+n * 7+4,none⟩) hrbz).trans r4,(hb5'.cell (p:=⟨rb,ro+n * 7+5,none⟩) hrbz).trans r5,(hb5'.cell (p:=⟨rb,ro+n * 7+6,none⟩) hrbz).trans r6,(hb5'.cell (p:=⟨w.heap.size,1,none⟩) hg1z).trans v1⟩;clear hb5 hb5'))
  have t0:=(HB5.out.cell (p:=⟨w.heap.size,0,none⟩) hg1z).trans v0;have t1:=(HB5.out.cell (p:=⟨w.heap.size,1,none⟩) hg1z).trans v1;have t2:=(HB5.out.cell (p:=⟨w.heap.size,2,none⟩) hg1z).trans v2;have t3:=(HB5.out.cell (p:=⟨w.heap.size+1,0,none⟩) hg2z).trans v3;have t4:=(HB5.out.cell (p:=⟨w0.heap.size,1,none⟩) hz1).trans c1;have t5:=(HB5.out.cell (p:=⟨qb,qo,none⟩) hqbz).trans v5;have z1':=Nat.lt_of_lt_of_le hg1z HB5.out.size;have z2':=Nat.lt_of_lt_of_le hg2z HB5.out.size;have z3':=Nat.lt_of_lt_of_le hz1 HB5.out.size;have z4':=Nat.lt_of_lt_of_le hqbz HB5.out.size;have hBw5:B≤w5.heap.size:=Nat.le_trans HBZ.out (Nat.le_trans HB1.out.size HB5.out.size);have hnn:n<(c.prog who).length:=by rw[←HPN.out];omega
  have HBA:=hid (HB1.out.trans (HB5.out.mono HB1.out.size));clear s6
  go_upto_region 4 with fail
  go_cut [10] from 46 to 52 (fun p wd=>∃g,p=.pointer (some ⟨g,0,none⟩)∧w5.heap.size≤g∧IntB wd g iz∧Below w5.heap.size w5 wd)
  case first=>
   rename_i J K' hJ hK;exact mf_region _ _ _ _ _ _ _ _ _ _ _ _ _ _ _ _ _ _ _ _ _ _ _ _ _ _ _ _ _ _ _ _ _ _ _ _ _ _ _ _ _ _ _ _ _ _ _ _ _ _ _ _ _ _ _ _ _ _ _ _ _ _ _ _ _ _ _ _ _ _ _ _ _ _ _ hbus (HO.out.below (HBA.out.mono HBZ.out)) hBw5 hwn hnn HIZ t0 t1 t2 z1' t3 z2' t4 z3' t5 z4' hqi hqp (fun u10 u46 u47 u48 u49 u50 u51 u52 wd h=>hK _ _ (Met.intro (hJ _ _ ⟨u10,u46,u47,u48,u49,u50,u51,u52,h,rfl⟩)))
  case rest=>
   obtain⟨w6,hw6⟩:∃W,W=wc:=⟨_,rfl⟩
   subst hw6;obtain⟨gi,rfl,hgi,hI6,hb6⟩:=hcut;have HI6:=hid hI6;have HB6:=hid (HBA.out.trans (hb6.mono HBA.out.size));have t6:=(hb6.cell (p:=⟨w0.heap.size,2,none⟩) z3').trans ((HB5.out.cell (p:=⟨w0.heap.size,2,none⟩) hz1).trans c2);have HJB:=hid (show Jbs w0 w0.heap.size (.slice oa ol oc) (st.ports who).out by rw[HOL.out];exact jbs_of HOO.out (by omega));clear hI6 hb6
   go_wp2_with (first
    |(go_at_call 184;refine(hasJb_any 185 _ (callable_of Tryz.func185 (by kernel_rfl) (by kernel_rfl)) (mayB c who s iz) _ (st.ports who).out w0.heap.size _ (HJB.out.below HB6.out) HB6.out.size ?_).mono ?_;(· intro j w8 hj hb8;have hb08:=HB6.out.trans (hb8.mono HB6.out.size);exact mayTest_any hbus (HO.out.below (hb08.mono HBZ.out)) (Nat.le_trans HBZ.out hb08.size) hwn (by have h1:=(HOUT.out j hj).2.2;have h2:=HNXX.out;omega) (B1.out.below hb08 x3) (B2.out.below hb08 y1) (HI6.out.below hb8 (heap_lt' HI6.out)) (B4.out.below hb08 u1));unfold HasJP;rw[←HAV.out];rintro e w7 ⟨rfl,hb7⟩;have HB7:=hid hb7;clear hb7))
   go_ret
   exact⟨by rw[HM.out];rfl,HB0.out.trans ((HB6.out.trans (HB7.out.mono HB6.out.size)).mono HB0.out.size)⟩
 ·have e5:((sv:Int) != (s:Int))=true:=by simp only[bne_iff_ne];omega
  have HM := hid (show may c st who s = false by
   unfold may;rw[HCONS.out];have:(c.slv who n==s)=false:=by rw[←HSVV.out];simpa using hys
   simp only[this,Bool.and_false,Bool.false_and])
  clear hys
  go_enter Tryz.func164,Tryz.ntmps164
  go_upto_region 1 with fail
  rw[←hw0];clear hw0
  go_region
  rw[←hw1];clear hw1
  go_upto_region 2 with fail
  go_region_held3 (fun w' => w'.cell? ⟨w.heap.size, 0, none⟩ = some (.slice ma mn mk) ∧ w'.cell? ⟨w.heap.size, 2, none⟩ = some ((.slice (some ⟨pb, po', none⟩) 3 pc')) ∧ w'.cell? ⟨w.heap.size + 1, 0, none⟩ = some ((.int .i64 who)) ∧ w'.cell? ⟨w.heap.size + 2, 0, none⟩ = some ((.int .i64 s)) ∧ w'.cell? ⟨w0.heap.size, 1, none⟩ = some ((.slice (some ⟨qb, qo, none⟩) ql qc)) ∧ w'.cell? ⟨w0.heap.size, 2, none⟩ = some ((.slice oa ol oc)) ∧ w'.cell? ⟨pb, po' + who, none⟩ = some ((.slice (some ⟨rb, ro, none⟩) pn (K who))) ∧ w'.cell? ⟨qb, qo, none⟩ = some ((.int .i64 n)) ∧ w'.cell? ⟨rb, ro + n * 7, none⟩ = some ((.int .i64 iy)) ∧ w'.cell? ⟨rb, ro + n * 7 + 1, none⟩ = some ((.int .i64 ik)) ∧ w'.cell? ⟨rb, ro + n * 7 + 2, none⟩ = some ((.int .i64 ia)) ∧ w'.cell? ⟨rb, ro + n * 7 + 3, none⟩ = some ((.int .i64 im)) ∧ w'.cell? ⟨rb, ro + n * 7 + 4, none⟩ = some ((.bool ip)) ∧ w'.cell? ⟨rb, ro + n * 7 + 5, none⟩ = some ((.slice da dn dc)) ∧ w'.cell? ⟨rb, ro + n * 7 + 6, none⟩ = some ((.slice la ln lc')) ∧ w'.cell? ⟨w.heap.size, 1, none⟩ = some (.slice (some ⟨lb, lo, none⟩) 4 lc))
   (first|exact s6|go_keep)
   (first
    |(go_at_call 78;(with_reducible refine(slave_val _ c.ms iy ik ia im ip (.slice da dn dc) (.slice la ln lc') ⟨_,_,_,rfl⟩ ⟨_,_,_,rfl⟩ B _ (HBM.out.below (Below.refl _ _).drew) (le_drew' (Nat.le_trans HBZ.out HB1.out.size))).mono ?_);rw[HSV.out];rintro e w5 ⟨rfl,hb5⟩;have hb5':=(show Below w1.heap.size w1 w1.drew from(Below.refl _ _).drew).trans hb5;have HB5:=hid hb5';have s6:w5.cell? ⟨w.heap.size,0,none⟩=some (.slice ma mn mk)∧w5.cell? ⟨w.heap.size,2,none⟩=some ((.slice (some ⟨pb,po', none⟩) 3 pc'))∧w5.cell? ⟨w.heap.size+1,0,none⟩=some ((.int .i64 who))∧w5.cell? ⟨w.heap.size+2,0,none⟩=some ((.int .i64 s))∧w5.cell? ⟨w0.heap.size,1,none⟩=some ((.slice (some ⟨qb,qo,none⟩) ql qc))∧w5.cell? ⟨w0.heap.size,2,none⟩=some ((.slice oa ol oc))∧w5.cell? ⟨pb,po' + who,none⟩=some ((.slice (some ⟨rb,ro,none⟩) pn (K who)))∧w5.cell? ⟨qb,qo,none⟩=some ((.int .i64 n))∧w5.cell? ⟨rb,ro+n * 7,none⟩=some ((.int .i64 iy))∧w5.cell? ⟨rb,ro+n * 7+1,none⟩=some ((.int .i64 ik))∧w5.cell? ⟨rb,ro+n * 7+2,none⟩=some ((.int .i64 ia))∧w5.cell? ⟨rb,ro+n * 7+3,none⟩=some ((.int .i64 im))∧w5.cell? ⟨rb,ro+n * 7+4,none⟩=some ((.bool ip))∧w5.cell? ⟨rb,ro+n * 7+5,none⟩=some ((.slice da dn dc))∧w5.cell? ⟨rb,ro+n * 7+6,none⟩=some ((.slice la ln lc'))∧w5.cell? ⟨w.heap.size,1,none⟩=some (.slice (some ⟨lb,lo,none⟩) 4 lc):=⟨(hb5'.cell (p:=⟨w.heap.size,0,none⟩) hg1z).trans v0,(hb5'.cell (p:=⟨w.heap.size,2,none⟩) hg1z).trans v2,(hb5'.cell (p:=⟨w.heap.size+1,0,none⟩) hg2z).trans v3,(hb5'.cell (p:=⟨w.heap.size+2,0,none⟩) hg4z).trans v4,(hb5'.cell (p:=⟨w0.heap.size,1,none⟩) hz1).trans c1,(hb5'.cell (p:=⟨w0.heap.size,2,none⟩) hz1).trans c2,(hb5'.cell (p:=⟨pb,po' + who,none⟩) hpbz).trans hpq,(hb5'.cell (p:=⟨qb,qo,none⟩) hqbz).trans v5,(hb5'.cell (p:=⟨rb,ro+n * 7,none⟩) hrbz).trans r0,(hb5'.cell (p:=⟨rb,ro+n * 7+1,none⟩) hrbz).trans r1,(hb5'.cell (p:=⟨rb,ro+n * 7+2,none⟩) hrbz).trans r2,(hb5'.cell (p:=⟨rb,ro+n * 7+3,none⟩) hrbz).trans r3,(hb5'.cell (p:=⟨rb,ro+n * 7+4,none⟩) hrbz).trans r4,(hb5'.cell (p:=⟨rb,ro+n * 7+5,none⟩) hrbz).trans r5,(hb5'.cell (p:=⟨rb,ro+n * 7+6,none⟩) hrbz).trans r6,(hb5'.cell (p:=⟨w.heap.size,1,none⟩) hg1z).trans v1⟩;clear hb5 hb5'))
  go_wp2_with fail
  go_ret
  exact⟨by rw[HM.out];rfl,HB0.out.trans ((HB1.out.trans (HB5.out.mono HB1.out.size)).mono HB0.out.size)⟩
end Go.Proofs.YthnlalffjepdaaaGreat
