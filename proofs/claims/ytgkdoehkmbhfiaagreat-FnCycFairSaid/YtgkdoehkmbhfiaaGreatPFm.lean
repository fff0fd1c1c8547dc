/- BusAlone of the reference. -/
import Derived.Test.YtgkdoehkmbhfiaaGreatPFt
import Derived.Test.YtgkdoehkmbhfiaaGreatPLc0
import Derived.Test.YtgkdoehkmbhfiaaGreatPDat
import Derived.Test.YtgkdoehkmbhfiaaGreatPTg
import Derived.Test.YtgkdoehkmbhfiaaGreatPCr1
import Derived.Test.YtgkdoehkmbhfiaaGreatPMs
import Derived.Test.YtgkdoehkmbhfiaaGreatPCloneP
import Derived.Test.YtgkdoehkmbhfiaaGreatPCv
import Derived.Test.YtgkdoehkmbhfiaaGreatPDo4
import Derived.Test.YtgkdoehkmbhfiaaGreatPE1
import Derived.Test.YtgkdoehkmbhfiaaGreatPCs
import Derived.Outline
set_option linter.unusedVariables false
set_option linter.unusedSimpArgs false
set_option maxHeartbeats 16000000
namespace Go.Proofs.YtgkdoehkmbhfiaaGreat
open Go.RowKit
theorem Bx.fourC {W:World} {H:Nat} {a b c d:Value} (h:Bx W H [a,b,c,d]):W.cell? ⟨H,0,none⟩=some a∧W.cell? ⟨H,1,none⟩=some b∧W.cell? ⟨H,2,none⟩=some c∧W.cell? ⟨H,3,none⟩=some d:=⟨h.c 0 (by simp),h.c 1 (by simp),h.c 2 (by simp),h.c 3 (by simp)⟩
theorem Bx.sevenC {W:World} {H:Nat} {a b c d e f g:Value} (h:Bx W H [a,b,c,d,e,f,g]):W.cell? ⟨H,0,none⟩=some a∧W.cell? ⟨H,1,none⟩=some b∧W.cell? ⟨H,2,none⟩=some c∧W.cell? ⟨H,3,none⟩=some d∧W.cell? ⟨H,4,none⟩=some e∧W.cell? ⟨H,5,none⟩=some f∧W.cell? ⟨H,6,none⟩=some g:=⟨h.c 0 (by simp),h.c 1 (by simp),h.c 2 (by simp),h.c 3 (by simp),h.c 4 (by simp),h.c 5 (by simp),h.c 6 (by simp)⟩
theorem mayQ_cons {c:Cfg} {st:Cy} {w n:Nat} {rest:List Nat} (h:(st.ports w).queue=n::rest):mayQ c st w=(decide ((st.ports w).out.length<4)&&!(st.ports w).out.any fun o=>c.id w o.n==c.id w n&&o.left != c.slv w n):=by
 unfold mayQ;rw[h]
def reqC (wo : World) (cs : List Value) (us : List Value) (W : World) : Prop := Below wo.heap.size wo W ∧ match us with
 |[]=>True
 |[p]=>∃g,p=.pointer (some ⟨g,0,none⟩)∧wo.heap.size≤g∧Bx W g [.int .i64 0,.int .i64 0,.int .i64 0,.int .i64 0,.bool false,.slice none 0 0,.slice none 0 0]
 |p::_=>∃g,p=.pointer (some ⟨g,0,none⟩)∧wo.heap.size≤g∧Bx W g cs
set_option maxRecDepth 8000 in
theorem crMay_any {c : Cfg} (hbus : Bus c) {x : Cy} (hgx : Good c x) {w : World} {B : Nat} {u : Value} {y0 y1 y2 y3 y4 : Option Addr} {m0 m1 m2 m3 m4 j0 j1 j2 j3 j4 : Nat} {P' : List PS} {Q' : List SS} (hbv : BusV w B u c) (hv' : CyV w B (.slice y0 m0 j0) (.slice y1 m1 j1) (.slice y2 m2 j2) (.slice y3 m3 j3) (.slice y4 m4 j4) x P' Q') (hB : B ≤ w.heap.size) {q : Nat} (hq : q < 3) :
    Calls Tryz.prog 12 #[u,.agg #[.slice y0 m0 j0,.slice y1 m1 j1,.slice y2 m2 j2,.slice y3 m3 j3,.slice y4 m4 j4],.int .i64 q] w fun e w' => e=.returned (.bool (mayQ c x q))∧Below w.heap.size w w':=by
  obtain⟨mv,lb,lo,lc,pb,po,pc,QQ,K,rfl,⟨ma,mn,mk,rfl⟩,hmaps,-,hpb2,-,hpc,hrq⟩:=hbv.opened hbus;replace hpc:=hpc q hq;replace hrq:=hrq q hq;obtain⟨_,_,_,_,_,_,pg,pq,pk,_,_,_,-,-,e2,-,-,hpb,-,hpr,-⟩:=hv'.rows;simp only[Value.slice.injEq]at e2;obtain⟨rfl,rfl,rfl⟩:=e2;obtain⟨qa,qc,oa,oc,c0,c1,c2,c3,hqq,pj⟩:=hpr q hq;obtain⟨nx,hnx⟩:∃n,n=(x.ports q).next:=⟨_,rfl⟩
  obtain⟨lst,hlst⟩:∃n,n=(x.ports q).last:=⟨_,rfl⟩
  obtain⟨on,hon⟩:∃n,n=(x.ports q).out.length:=⟨_,rfl⟩
  obtain⟨qn,hqn⟩:∃n,n=(x.ports q).queue.length:=⟨_,rfl⟩
  have ho4:on≤4:=by rw[hon];exact(hgx.p q hq).o4
  rw[←hon]at c2 pj;rw[←hqn]at c1 hqq;rw[←hnx]at c0;rw[←hlst]at c3;have HON:=hid hon;have HQN:=hid hqn;have hq3:(q:Int)<3:=by omega
  obtain⟨w2,hw2⟩:∃W,W=(w.alloc (.cells #[.slice ma mn mk,.slice (some ⟨lb,lo,none⟩) 4 lc,.slice (some ⟨pb,po,none⟩) 3 pc] 27)).alloc (.cells #[.slice y0 m0 j0,.slice y1 m1 j1,.slice (some ⟨pg,pq,none⟩) 3 j2,.slice y3 m3 j3,.slice y4 m4 j4] 39):=⟨_,rfl⟩
  obtain⟨gy,hgy⟩:∃g,g=w.heap.size+1:=⟨_,rfl⟩
  obtain⟨gz,hgz⟩:∃g,g=w.heap.size:=⟨_,rfl⟩
  have hb2:Below w.heap.size w w2:=by rw[hw2];exact((Below.refl _ _).alloc (Nat.le_refl _) _).alloc (by simp) _
  have XZ := hid (show Bx w2 gz [.slice ma mn mk, .slice (some ⟨lb, lo, none⟩) 4 lc, .slice (some ⟨pb, po, none⟩) 3 pc] by
    have h:=Bx.new w #[.slice ma mn mk,.slice (some ⟨lb,lo,none⟩) 4 lc,.slice (some ⟨pb,po,none⟩) 3 pc] 27 (by simp);rw[hw2,hgz];exact h.below ((Below.refl _ _).alloc (Nat.le_refl _) _) h.lt)
  have XY := hid (show Bx w2 gy [.slice y0 m0 j0, .slice y1 m1 j1, .slice (some ⟨pg, pq, none⟩) 3 j2, .slice y3 m3 j3, .slice y4 m4 j4] by
    have h:=Bx.new (w.alloc (.cells #[.slice ma mn mk,.slice (some ⟨lb,lo,none⟩) 4 lc,.slice (some ⟨pb,po,none⟩) 3 pc] 27)) #[.slice y0 m0 j0,.slice y1 m1 j1,.slice (some ⟨pg,pq,none⟩) 3 j2,.slice y3 m3 j3,.slice y4 m4 j4] 39 (by simp);rw[hw2,hgy];simpa using h)
  have HB2:=hid hb2;have hcw:∀{o:Nat} {v:Value},w.cell? ⟨pg,o,none⟩=some v→w2.cell? ⟨pg,o,none⟩=some v:=fun h=>(hb2.cell (p:=⟨pg,_,none⟩) (Nat.lt_of_lt_of_le hpb hB)).trans h
  have c0:=hcw c0;have c1:=hcw c1;have c2:=hcw c2;have c3:=hcw c3;have hpc2:=(hb2.cell (p:=⟨pb,_,none⟩) (Nat.lt_of_lt_of_le hpb2 hB)).trans hpc;have HPC:=hid hpc2;have PJ:=hid (Jbs.mono ((Jbs.mono pj hB).below hb2) hb2.size);have QN:=hid (Arr.mono (Arr.below (Arr.mono hqq hB) hb2) hb2.size);have HRQ:=hid ((hrq.below (hb2.mono hB)).mono (Nat.le_trans hB hb2.size));have HMP:=hid ((hmaps.below (hb2.mono hB)).mono (Nat.le_trans hB hb2.size));have KV:=hid (show ∀W,Below w2.heap.size w2 W→∀{p:Addr} {v:Value},w2.cell? p=some v→W.cell? p=some v from fun W hW {_ _} h=>(hW.cell (World.block_lt_of_cell? w2 _ h)).trans h);have HW2:=hid hw2;have HGY:=hid hgy;have HGZ:=hid hgz;clear hw2 hgy hgz hb2 hpb hpb2 hpc hpc2 pj hqq hpr hrq hmaps hv' hbv hB hon hqn hcw hnx hlst
  go_enter Tryz.func12,Tryz.ntmps12
  go_upto_region 1 with fail
  rw[←HW2.out,←HGY.out,←HGZ.out];clear HW2 HGY;have b2:=XY.out.five.1.2.2.1
  go_upto_region 2 with fail
  obtain⟨w3,hw3⟩:∃W,W=w2.alloc (.cells #[.int .i64 nx,.slice qa qn qc,.slice oa on oc,.int .i64 lst] 48):=⟨_,rfl⟩
  obtain⟨gp,hgp⟩:∃g,g=w2.heap.size:=⟨_,rfl⟩
  have hb3:Below w2.heap.size w2 w3:=by rw[hw3];exact(Below.refl _ _).alloc (Nat.le_refl _) _
  have XP:=hid (show Bx w3 gp [.int .i64 nx,.slice qa qn qc,.slice oa on oc,.int .i64 lst] by rw[hw3,hgp];exact Bx.new w2 #[.int .i64 nx,.slice qa qn qc,.slice oa on oc,.int .i64 lst] 48 (by simp));rw[←hw3,←hgp];have HB3:=hid hb3;clear hw3 hgp hb3 c0 c1 c2 c3 b2;obtain⟨p0,p1,p2,p3⟩:=XP.out.fourC;by_cases hq0:qn=0
  · have hqe : ((qn : Int) == 0) = true := by simp [hq0]
    have HNO := hid (show mayQ c x q = false from by
      have:(x.ports q).queue=[]:=List.eq_nil_of_length_eq_zero (by rw[←HQN.out];exact hq0);unfold mayQ;rw[this])
    clear hq0
    go_wp2_with fail
    go_ret
    exact⟨by rw[HNO.out];rfl,HB2.out.trans (HB3.out.mono HB2.out.size)⟩
  · obtain⟨n,rest,hqr⟩:∃n rest,(x.ports q).queue=n::rest:=by
      cases hh:(x.ports q).queue with
      |nil=>rw[hh]at HQN;exact absurd HQN.out (by simpa using hq0)
      |cons a b=>exact⟨a,b,rfl⟩
    have HQR:=hid hqr;have hqe:((qn:Int)==0)=false:=by simp;omega
    have hn:n<(c.prog q).length:=by
      have h1:=(hgx.p q hq).q;have h2:=(hgx.p q hq).nx;have h3:=(hgx.p q hq).qn;have h4:n∈(x.ports q).queue:=by rw[hqr];exact List.mem_cons_self ..
      rw[h1,List.mem_range'_1]at h4;omega
    by_cases h4:on=4
    · have HNO := hid (show mayQ c x q = false from by
        rw[mayQ_cons hqr,←HON.out,h4];rfl)
      subst h4;clear hq0 hqr
      go_wp2_with fail
      go_ret
      exact⟨by rw[HNO.out];rfl,HB2.out.trans (HB3.out.mono HB2.out.size)⟩
    · have hlt4 : decide ((4 : Int) ≤ (on : Int)) = false := by simp; omega
      have hlt4':decide (4≤on)=false:=by simp;omega
      have HM := hid (show mayQ c x q = !((x.ports q).out.any fun o => c.id q o.n == c.id q n && o.left != c.slv q n) from by
        rw[mayQ_cons hqr,←HON.out,show decide (on<4)=true from by simp;omega];rfl)
      obtain⟨qb,qo,qcap,hqe2,-,-,-,hqc⟩:=Arr.at (f:=rowN) QN.out (by rw[hqr];simp);simp only[Value.slice.injEq]at hqe2;obtain⟨hq1,-,hq2⟩:=hqe2;subst hq1 hq2;have n0:=hqc 0 default (by rw[hqr];simp) 0 (by omega);simp only[hqr,rowN,List.getElem?_cons_zero,List.getD_cons_zero,Nat.zero_mul,Nat.add_zero]at n0;obtain⟨qx,qcx,he,-,-,-,-,hrr⟩:=HRQ.out.opened;obtain⟨rb,ro,hra,hrb,hrr⟩:=hrr (by omega);simp only[Value.slice.injEq]at he;obtain⟨he1,-,he3⟩:=he
      have HPC2 := hid (show w2.cell? ⟨pb, po + q, none⟩ = some (.slice (some ⟨rb, ro, none⟩) (c.prog q).length qcx) from by
        have h:=HPC.out;rw[he1,he3,hra]at h;exact h)
      have HRR := hid (show ∀ i, i < (c.prog q).length → w2.cell? ⟨rb, ro + i * 7, none⟩ = some (.int .i64 (c.id q i)) from fun i hi => by
        obtain⟨_,_,_,_,_,h,_⟩:=hrr i hi;exact h)
      obtain⟨da,dc,la,lc2,hrv,r0,r1,r2,r3,r4,r5,r6⟩:=hrr n hn;obtain⟨rqv,hrqe⟩:∃r,r=(c.prog q).getD n default:=⟨_,rfl⟩
      rw[←hrqe]at hrv r0 r1 r2 r3 r4 r5 r6;have HRS:=hid (fun(W:World) (hW:Below w2.heap.size w2 W)=>reqSlave_nat hbus hq hn (by rw[←hrqe];exact implReqSlave_any _ _ c.ms rqv _ W (HMP.out.below hW) (hrv.below hW) hW.size));have HID:=hid (show rqv.id=c.id q n from by rw[hrqe];rfl);obtain⟨pl,hpl⟩:∃l,l=(c.prog q).length:=⟨_,rfl⟩
      have HPL:=hid hpl;rw[←hpl]at hn HPC2 HRR;have i2:(n:Int)<(pl:Int):=by omega
      have pc0:=KV.out _ HB3.out HPC2.out;have z2:=KV.out _ HB3.out XZ.out.three.1.2.2;have n0:=KV.out _ HB3.out n0;replace r0:=KV.out _ HB3.out r0;replace r1:=KV.out _ HB3.out r1;replace r2:=KV.out _ HB3.out r2;replace r3:=KV.out _ HB3.out r3;replace r4:=KV.out _ HB3.out r4;replace r5:=KV.out _ HB3.out r5;replace r6:=KV.out _ HB3.out r6;have hn0:decide ((0:Int)<(qn:Int))=true:=by simp;omega
      have hn0':(0:Int)<(qn:Int):=by omega
      have hn1:0<qn:=by omega
      have hn2:decide (0<qn)=true:=by simp;omega
      have hn3:qn≠0:=hq0;clear hq0 h4 hqr hqc hrr hrb hra he1 he3 hrv hrqe hpl
      go_upto_region 4 with fail
      obtain⟨CC,hCC⟩:∃CC:List Value→World→Prop,CC=reqC w3 [.int .i64 rqv.id,.int .i64 rqv.kind,.int .i64 rqv.addr,.int .i64 rqv.many,.bool rqv.wrap,.slice da rqv.data.length dc,.slice la rqv.lanes.length lc2]:=⟨_,rfl⟩
      have hC0:CC [] w3.drew:=by rw[hCC];exact⟨(Below.refl _ _).drew,trivial⟩
      have hTC:∀us W,CC us W→Below w3.heap.size w3 W:=by rw[hCC];exact fun us W h=>h.1
      have HCC:=hid hCC;have hne:Nonempty (Ph CC):=⟨⟨([],w3.drew),hC0⟩⟩
      have pc:∀{p:Addr} {v:Value},w3.cell? p=some v→∀x:Ph CC,x.1.2.cell? p=some v:=fun hc x=>((hTC _ _ x.2).cell (World.block_lt_of_cell? w3 _ hc)).trans hc
      replace p1:=pc p1;replace pc0:=pc pc0;replace z2:=pc z2;replace n0:=pc n0;replace r0:=pc r0;replace r1:=pc r1;replace r2:=pc r2;replace r3:=pc r3;replace r4:=pc r4;replace r5:=pc r5;replace r6:=pc r6;clear hCC hTC pc;refine zA6 CC [(11,false),(12,false)] [] (by kernel_rfl) (by kernel_rfl) hC0 ?_
      repeat (
        (with_reducible refine wq1_q ⟨rfl,rfl⟩ (fun K hK=>?_))
        go_simp
        first
          |((with_reducible refine hK _ ?_);clear hK K)
          |((with_reducible refine zA7 (by simp[undef]) (hK _ ?_));clear hK K)
          | (apply Exists.intro
             (with_reducible refine⟨fun _=>?_,hK _ ?_⟩)
             (fail)
             clear hK K))
      iterate 2 refine wq1_v rfl ?_
      refine zC7 ?_;clear hne p1 pc0 z2 n0 r0 r1 r2 r3 r4 r5 r6;refine wq2_v _ rfl rfl ?_ ?_
      · intro W hW KA hKA
        rw[HCC.out]at hW hKA;go_simp;exact hKA _ _ _ ⟨hW.1.alloc hW.1.size _,W.heap.size,rfl,hW.1.size,Bx.new W #[.int .i64 0,.int .i64 0,.int .i64 0,.int .i64 0,.bool false,.slice none 0 0,.slice none 0 0] 52 (by simp)⟩ rfl
      intro v0 KA hKA;go_simp;refine hKA _ ?_;clear hKA KA;refine wq2_v _ rfl rfl ?_ ?_
      · intro W hW KA hKA
        rw[HCC.out]at hW hKA;obtain⟨hb,g,rfl,hgg,hx⟩:=hW;obtain⟨⟨d0,d1,d2,d3,d4,d5,d6⟩,f0,f1,f2,f3,f4,f5,f6⟩:=hx.seven;go_simp;exact hKA undef _ _ ⟨((((((hb.setCell (p:=⟨g,_,none⟩) hgg _).setCell (p:=⟨g,_,none⟩) hgg _).setCell (p:=⟨g,_,none⟩) hgg _).setCell (p:=⟨g,_,none⟩) hgg _).setCell (p:=⟨g,_,none⟩) hgg _).setCell (p:=⟨g,_,none⟩) hgg _).setCell (p:=⟨g,_,none⟩) hgg _,g,rfl,hgg,((((((hx.set 0 (by simp) _).set 1 (by simp) _).set 2 (by simp) _).set 3 (by simp) _).set 4 (by simp) _).set 5 (by simp) _).set 6 (by simp) _⟩ rfl
      intro v1 KA hKA;go_simp;refine hKA _ ?_;clear hKA KA;refine zD0 ?_;intro w4 hwd;rw[HCC.out]at hwd;obtain⟨hb4,gr,rfl,hgr,hx4⟩:=hwd;have XR:=hid (show Bx w4 gr [.int .i64 rqv.id,.int .i64 rqv.kind,.int .i64 rqv.addr,.int .i64 rqv.many,.bool rqv.wrap,.slice da rqv.data.length dc,.slice la rqv.lanes.length lc2] from hx4);clear hC0 HCC hgr hx4;have HB4:=hid (HB3.out.trans (hb4.mono HB3.out.size));have XP4:=hid (XP.out.below hb4 XP.out.lt);have KW:=hid (show ∀W,Below w4.heap.size w4 W→∀{p:Addr} {v:Value},w4.cell? p=some v→W.cell? p=some v from fun W hW {_ _} h=>(hW.cell (World.block_lt_of_cell? w4 _ h)).trans h);clear hb4 p0 p2 p3 HB3 XP
      go_wp2_with fail
      go_loopw [9] (fun i wr=>∃k:Nat,i=.int .i64 k∧k≤on∧Below w4.heap.size w4 wr∧((x.ports q).out.take k).any (fun o=>c.id q o.n==c.id q n&&o.left != c.slv q n)=false) (fun i _=>on - (intOf i).toNat)
      case atStart=>exact⟨0,by go_num,Nat.zero_le _,Below.refl _ _,rfl⟩
      case round=>
        obtain⟨k,rfl,hk,hbr,hno⟩:=hrel;have HNO:=hid hno;have HBR:=hid hbr;obtain⟨yo,hyo⟩:∃W,W=wr:=⟨_,rfl⟩
        subst hyo;clear hbr hno;have p2:=KW.out _ HBR.out XP4.out.fourC.2.2.1;by_cases hlt:k<on
        · have hki : (k : Int) < (on : Int) := by omega
          have hkl:k<(x.ports q).out.length:=by rw[←HON.out];exact hlt
          obtain⟨ob,oo,ocap,he,-,-,-,hoc⟩:=Arr.at (f:=jbRow) PJ.out (by omega);simp only[Value.slice.injEq]at he;obtain⟨ho1,-,ho3⟩:=he;subst ho1 ho3;have o1:=hoc k default hkl 1 (by omega);have o2:=hoc k default hkl 2 (by omega);obtain⟨o,ho⟩:∃o,o=(x.ports q).out.getD k default:=⟨_,rfl⟩
          rw[←ho]at o1 o2
          have HTK := hid (show ((x.ports q).out.take (k + 1)).any (fun o => c.id q o.n == c.id q n && o.left != c.slv q n) = (c.id q o.n == c.id q n && o.left != c.slv q n) by
            rw[List.take_add_one,List.any_append,HNO.out];have:(x.ports q).out[k]?.toList=[o]:=by rw[ho];simp[List.getD,hkl]
            rw[this];simp)
          have hom:o∈(x.ports q).out:=by rw[ho];exact zC2 hkl
          have HOM:=hid hom;have honp:o.n<pl:=by
            have h1:=((hgx.p q hq).o o hom).2.2;have h2:=(hgx.p q hq).nx;rw[HPL.out];omega
          obtain⟨onn,honn⟩:∃x,x=o.n:=⟨_,rfl⟩
          obtain⟨ol,hol⟩:∃x,x=o.left:=⟨_,rfl⟩
          simp only[jbRow,List.getElem?_cons_zero,List.getElem?_cons_succ,Nat.add_zero]at o1 o2;rw[←honn]at o1 honp;rw[←hol]at o2;have HONN:=hid honn;have HOL:=hid hol;have g0:=HRR.out onn honp;obtain⟨ia,hia⟩:∃i,i=c.id q onn:=⟨_,rfl⟩
          obtain⟨ib,hib⟩:∃i,i=rqv.id:=⟨_,rfl⟩
          obtain⟨sv,hsv⟩:∃s,s=c.slv q n:=⟨_,rfl⟩
          rw[←hia]at g0;obtain⟨a0,a1,a2,a3,a4,a5,a6⟩:=XR.out.sevenC;rw[←hib]at a0;have HIA:=hid hia;have HIB:=hid hib;have HSV:=hid hsv;have HRS2:=hid (show ∀W,Below w2.heap.size w2 W→Calls Tryz.prog 13 #[.slice ma mn mk,.agg #[.int .i64 ib,.int .i64 rqv.kind,.int .i64 rqv.addr,.int .i64 rqv.many,.bool rqv.wrap,.slice da rqv.data.length dc,.slice la rqv.lanes.length lc2]] W fun e w' => e=.returned (.int .i64 (sv:Nat))∧Below W.heap.size W w' from by rw[hib,hsv];exact HRS.out);have i5:(onn:Int)<(pl:Int):=by omega
          have HBY:=hid (HB4.out.trans (HBR.out.mono HB4.out.size));replace o1:=KV.out _ HBY.out o1;replace o2:=KV.out _ HBY.out o2;replace g0:=KV.out _ HBY.out g0;have pc0:=KV.out _ HBY.out HPC2.out;have z0:=KV.out _ HBY.out XZ.out.three.1.1;have z2:=KV.out _ HBY.out XZ.out.three.1.2.2;replace a0:=KW.out _ HBR.out a0;replace a1:=KW.out _ HBR.out a1;replace a2:=KW.out _ HBR.out a2;replace a3:=KW.out _ HBR.out a3;replace a4:=KW.out _ HBR.out a4;replace a5:=KW.out _ HBR.out a5;replace a6:=KW.out _ HBR.out a6;clear hoc ho honn hol hom hia hib hsv hn0 hn0' hn1 hn2 hn3 hqe hlt4 hlt4'
          go_upto_region 8 with fail
          by_cases hie:ia=ib
          · subst hie
            have hie2:(ia==ia)=true:=by simp
            by_cases hse:ol=sv
            · subst hse
              have hse2:((ol:Int) != (ol:Int))=false:=by simp
              obtain⟨CC,hCC⟩:∃CC:List Value→World→Prop,CC=fun us W=>Below yo.heap.size yo W:=⟨_,rfl⟩
              have hC0:CC [] yo.drew:=by rw[hCC];exact(Below.refl _ _).drew
              have hTC:∀us W,CC us W→Below yo.heap.size yo W:=by rw[hCC];exact fun us W h=>h
              have HTC:=hid hTC;have HCL:=hid (show ∀us W W', CC us W→Below W.heap.size W W' → CC us W' by rw[hCC];exact fun us W W' h h2=>h.trans (h2.mono h.size));have hne:Nonempty (Ph CC):=⟨⟨([],yo.drew),hC0⟩⟩
              have pc:∀{p:Addr} {v:Value},yo.cell? p=some v→∀x:Ph CC,x.1.2.cell? p=some v:=fun hc x=>((hTC _ _ x.2).cell (World.block_lt_of_cell? yo _ hc)).trans hc
              replace p2:=pc p2;replace o1:=pc o1;replace o2:=pc o2;replace g0:=pc g0;replace pc0:=pc pc0;replace z0:=pc z0;replace z2:=pc z2;replace a0:=pc a0;replace a1:=pc a1;replace a2:=pc a2;replace a3:=pc a3;replace a4:=pc a4;replace a5:=pc a5;replace a6:=pc a6;clear hCC hTC pc;refine zA6 CC [] [] (by kernel_rfl) (by kernel_rfl) hC0 ?_
              try simp only[List.append_eq,List.cons_append,List.nil_append]
              repeat (
                (with_reducible refine wq1_q ⟨rfl,rfl⟩ (fun K hK=>?_))
                go_simp
                first
                  |((with_reducible refine hK _ ?_);clear hK K)
                  |((with_reducible refine zA7 (by simp[undef]) (hK _ ?_));clear hK K)
                  | (apply Exists.intro
                     (with_reducible refine⟨fun _=>?_,hK _ ?_⟩)
                     (go_at_call 13;rename_i x;exact(HRS2.out _ (HBY.out.trans ((HTC.out _ _ x.2).mono HBY.out.size))).mono fun _ _ ⟨he,hb⟩=>⟨he,HCL.out _ _ _ x.2 hb⟩)
                     clear hK K))
              refine zC7 ?_;refine zD0 ?_;intro wz hwz;have HBZ:=hid (HTC.out _ _ hwz);clear hwz hC0 HTC HCL hne p2 o1 o2 g0 pc0 z0 z2 a0 a1 a2 a3 a4 a5 a6
              go_wp2_with fail
              go_roundw
              case rel=>exact⟨k+1,by go_num,by omega,HBR.out.trans (HBZ.out.mono HBR.out.size),by rw[HTK.out,←HOL.out,HSV.out];simp⟩
              case measure=>simp[intOf];omega
            · have hse2 : ((ol : Int) != (sv : Int)) = true := by simp; omega
              have HSE:=hid hse;clear hse;obtain⟨CC,hCC⟩:∃CC:List Value→World→Prop,CC=fun us W=>Below yo.heap.size yo W:=⟨_,rfl⟩
              have hC0:CC [] yo.drew:=by rw[hCC];exact(Below.refl _ _).drew
              have hTC:∀us W,CC us W→Below yo.heap.size yo W:=by rw[hCC];exact fun us W h=>h
              have HTC:=hid hTC;have HCL:=hid (show ∀us W W', CC us W→Below W.heap.size W W' → CC us W' by rw[hCC];exact fun us W W' h h2=>h.trans (h2.mono h.size));have hne:Nonempty (Ph CC):=⟨⟨([],yo.drew),hC0⟩⟩
              have pc:∀{p:Addr} {v:Value},yo.cell? p=some v→∀x:Ph CC,x.1.2.cell? p=some v:=fun hc x=>((hTC _ _ x.2).cell (World.block_lt_of_cell? yo _ hc)).trans hc
              replace p2:=pc p2;replace o1:=pc o1;replace o2:=pc o2;replace g0:=pc g0;replace pc0:=pc pc0;replace z0:=pc z0;replace z2:=pc z2;replace a0:=pc a0;replace a1:=pc a1;replace a2:=pc a2;replace a3:=pc a3;replace a4:=pc a4;replace a5:=pc a5;replace a6:=pc a6;clear hCC hTC pc;refine zA6 CC [] [] (by kernel_rfl) (by kernel_rfl) hC0 ?_
              try simp only[List.append_eq,List.cons_append,List.nil_append]
              repeat (
                (with_reducible refine wq1_q ⟨rfl,rfl⟩ (fun K hK=>?_))
                go_simp
                first
                  |((with_reducible refine hK _ ?_);clear hK K)
                  |((with_reducible refine zA7 (by simp[undef]) (hK _ ?_));clear hK K)
                  | (apply Exists.intro
                     (with_reducible refine⟨fun _=>?_,hK _ ?_⟩)
                     (go_at_call 13;rename_i x;exact(HRS2.out _ (HBY.out.trans ((HTC.out _ _ x.2).mono HBY.out.size))).mono fun _ _ ⟨he,hb⟩=>⟨he,HCL.out _ _ _ x.2 hb⟩)
                     clear hK K))
              refine zC7 ?_;refine zD0 ?_;intro wz hwz;have HBZ:=hid (HTC.out _ _ hwz);clear hwz hC0 HTC HCL hne p2 o1 o2 g0 pc0 z0 z2 a0 a1 a2 a3 a4 a5 a6
              have HF := hid (show mayQ c x q = false from by
                rw[HM.out,Bool.not_eq_false', List.any_eq_true];exact⟨o,HOM.out,by rw[←HONN.out,←HIA.out,←HID.out,←HIB.out,←HOL.out,←HSV.out];simpa using HSE.out⟩)
              go_wp2_with fail
              go_ret
              exact⟨by rw[HF.out];rfl,HB2.out.trans ((HBY.out.trans (HBZ.out.mono HBY.out.size)).mono HB2.out.size)⟩
          · have hie2 : (ia == ib) = false := by simpa using hie
            have HIE:=hid hie;clear hie;obtain⟨CC,hCC⟩:∃CC:List Value→World→Prop,CC=fun us W=>Below yo.heap.size yo W:=⟨_,rfl⟩
            have hC0:CC [] yo.drew:=by rw[hCC];exact(Below.refl _ _).drew
            have hTC:∀us W,CC us W→Below yo.heap.size yo W:=by rw[hCC];exact fun us W h=>h
            have HTC:=hid hTC;have HCL:=hid (show ∀us W W', CC us W→Below W.heap.size W W' → CC us W' by rw[hCC];exact fun us W W' h h2=>h.trans (h2.mono h.size));have hne:Nonempty (Ph CC):=⟨⟨([],yo.drew),hC0⟩⟩
            have pc:∀{p:Addr} {v:Value},yo.cell? p=some v→∀x:Ph CC,x.1.2.cell? p=some v:=fun hc x=>((hTC _ _ x.2).cell (World.block_lt_of_cell? yo _ hc)).trans hc
            replace p2:=pc p2;replace o1:=pc o1;replace o2:=pc o2;replace g0:=pc g0;replace pc0:=pc pc0;replace z0:=pc z0;replace z2:=pc z2;replace a0:=pc a0;replace a1:=pc a1;replace a2:=pc a2;replace a3:=pc a3;replace a4:=pc a4;replace a5:=pc a5;replace a6:=pc a6;clear hCC hTC pc;refine zA6 CC [] [] (by kernel_rfl) (by kernel_rfl) hC0 ?_
            try simp only[List.append_eq,List.cons_append,List.nil_append]
            repeat (
              (with_reducible refine wq1_q ⟨rfl,rfl⟩ (fun K hK=>?_))
              go_simp
              first
                |((with_reducible refine hK _ ?_);clear hK K)
                |((with_reducible refine zA7 (by simp[undef]) (hK _ ?_));clear hK K)
                | (apply Exists.intro
                   (with_reducible refine⟨fun _=>?_,hK _ ?_⟩)
                   (fail)
                   clear hK K))
            refine zC7 ?_;refine zD0 ?_;intro wz hwz;have HBZ:=hid (HTC.out _ _ hwz);clear hwz hC0 HTC HCL hne p2 o1 o2 g0 pc0 z0 z2 a0 a1 a2 a3 a4 a5 a6
            go_wp2_with fail
            go_roundw
            case rel=>exact⟨k+1,by go_num,by omega,HBR.out.trans (HBZ.out.mono HBR.out.size),by rw[HTK.out,←HONN.out,←HIA.out,←HID.out,←HIB.out,hie2];rfl⟩
            case measure=>simp[intOf];omega
        · obtain rfl : k = on := by omega
          have hkk:decide ((k:Int)<(k:Int))=false:=by simp
          have HT := hid (show mayQ c x q = true from by
            rw[HM.out,Bool.not_eq_true'];have h:=HNO.out
            rwa [List.take_of_length_le (by rw[HON.out];exact Nat.le_refl _)]at h)
          go_wp2_with fail
          go_ret
          exact⟨by rw[HT.out];rfl,HB2.out.trans ((HB4.out.trans (HBR.out.mono HB4.out.size)).mono HB2.out.size)⟩
end Go.Proofs.YtgkdoehkmbhfiaaGreat
namespace Go.Proofs.YtgkdoehkmbhfiaaGreat
open Go.RowKit
def ResetD (wo:World) (base g n:Nat) (V:Nat→Value) (A:Nat→List Nat) (i:Nat) (W:World):Prop :=
 ∃V', BoxL W base 3 1 rowN g n V' (upd A i [])∧KeptX (InL g n V) wo W∧Below base wo W∧∀b,InL g n V' b→InL g n V b∨wo.heap.size≤b
def resetC (wo : World) (base g n : Nat) (V : Nat → Value) (A : Nat → List Nat) (i : Nat) (us : List Value) (W : World) : Prop := match us with
 |[]=>Below wo.heap.size wo W
 |[v]=>Below wo.heap.size wo W∧∃h,v=.slice (some ⟨h,0,none⟩) 0 0∧wo.heap.size≤h∧Owns W base 3 1 rowN v ([]:List Nat)
 |[_,_]=>ResetD wo base g n V A i W
 |_=>False
section
variable {wo W : World} {base g n i : Nat} {V : Nat → Value} {A : Nat → List Nat}
theorem zK6 (hb:BoxL wo base 3 1 rowN g n V A) (h:resetC wo base g n V A i [] W):resetC wo base g n V A i [.slice (some ⟨W.heap.size,0,none⟩) 0 0] (W.alloc (.cells #[] 3)):=by
 have h1:Below wo.heap.size wo W:=h;exact⟨h1.alloc h1.size _,W.heap.size,rfl,h1.size,Owns.lit (Nat.le_trans hb.lb (Nat.le_trans (Nat.le_of_lt hb.bx.lt) h1.size))⟩
theorem reset_cell {v:Value} (hb:BoxL wo base 3 1 rowN g n V A) (hi:i<n) (h:resetC wo base g n V A i [v] W):W.cell? ⟨g,i,none⟩=some (V i)∧W.frozen? ⟨g,i,none⟩=false :=
 ⟨(hb.below h.1).cell hi,(hb.below h.1).free hi⟩
theorem zK5 {v v1:Value} (hb:BoxL wo base 3 1 rowN g n V A) (hi:i<n) (h:resetC wo base g n V A i [v] W):resetC wo base g n V A i [v,v1] (W.setCell ⟨g,i,none⟩ v):=by
 obtain⟨h1,k,rfl,hk,ho⟩:=h;have hn:∀b,(Value.slice (some ⟨k,0,none⟩) 0 0).ownBlock=some b→(V i).ownBlock=some b∨wo.heap.size≤b:=fun b e=>by
  simp only[Value.ownBlock,Option.some.injEq]at e;exact .inr (e▸hk)
 have hg:=hb.bx.lt;have hB:=hb.put hi ho (fun b hb2 _=>h1.block b hb2) hn;refine⟨_,hB,⟨by simp only[World.size_setCell];exact h1.size,fun b hbl hne=>?_⟩,(h1.mono (Nat.le_trans hb.lb (Nat.le_of_lt hg))).setCell (p:=⟨g,i,none⟩) hb.lb _,fun b hbb=>inL_put hi hn hbb⟩;rw[Below.heap_setCell _ _ _ _ (fun e=>hne (.inl e))];exact h1.block b hbl
end
end Go.Proofs.YtgkdoehkmbhfiaaGreat
namespace Go.Proofs.YtgkdoehkmbhfiaaGreat
open Go.RowKit
theorem zI5 (x:Bool):(rowB x).length=1:=rfl
theorem Owns.cellB {w:World} {base e g n c:Nat} {xs:List Bool} (h:Owns w base e 1 rowB (.slice (some ⟨g,0,none⟩) n c) xs) (k:Nat) (hk:k<xs.length):w.cell? ⟨g,k,none⟩=some (.bool (xs.getD k false)):=by
 have:=h.cellAt zI5 k 0 false hk (by omega);simpa[rowB]using this
theorem Owns.putB {w:World} {base e g n c:Nat} {xs:List Bool} (h:Owns w base e 1 rowB (.slice (some ⟨g,0,none⟩) n c) xs) (k:Nat) (hk:k<xs.length) (x:Bool):Owns (w.setCell ⟨g,k,none⟩ (.bool x)) base e 1 rowB (.slice (some ⟨g,0,none⟩) n c) (xs.set k x):=by
 have:=h.putRow zI5 k 0 false x (.bool x) hk (by omega) (by simp[rowB]);simpa using this
theorem Bx.touch {w w':World} {r g:Nat} {cs:List Value} (h:Bx w g cs) (ht:Touch r w w') (hn:g≠r):Bx w' g cs:=h.kept (ht.block g h.lt hn)
theorem Bx.setc {w:World} {g:Nat} {cs:List Value} (h:Bx w g cs) (b o:Nat) (u:Value) (hn:g≠b):Bx (w.setCell ⟨b,o,none⟩ u) g cs:=h.kept (Below.heap_setCell _ _ _ _ hn)
theorem loadVar_in (w:World) (g:Nat) (a b c:Value) (h0:w.cell? ⟨g,0,none⟩=some a) (h1:w.cell? ⟨g,1,none⟩=some b) (h2:w.cell? ⟨g,2,none⟩=some c):(loadVar 45 ⟨g,0,none⟩).run Tryz.prog w=.ok (.agg #[a,b,c]) w:=by
 simp[loadVar,go_sem,h0,h1,h2]
abbrev T3:List Bool:=[true,true,true]
abbrev F4:List Bool:=[false,false,false,false]
structure InO (w:World) (lo g1 g2 g3:Nat) (xs zs ys:List Bool):Prop where
 o1:Owns w lo 4 1 rowB (.slice (some ⟨g1,0,none⟩) 3 3) xs
 o2:Owns w lo 4 1 rowB (.slice (some ⟨g2,0,none⟩) 4 4) zs
 o3:Owns w lo 4 1 rowB (.slice (some ⟨g3,0,none⟩) 3 3) ys
 l1:xs.length=3
 l2:zs.length=4
 l3:ys.length=3
 n12:g1<g2
 n23:g2<g3
theorem InO.kept {w w':World} {lo g1 g2 g3:Nat} {xs zs ys:List Bool} (h:InO w lo g1 g2 g3 xs zs ys) (hk:∀k,lo≤k→k<w.heap.size→w'.heap[k]? = w.heap[k]?):InO w' lo g1 g2 g3 xs zs ys :=
 ⟨OwnR.kept h.o1 fun k hk2=>hk k (OwnR.lt h.o1 k hk2).1 (OwnR.lt h.o1 k hk2).2,OwnR.kept h.o2 fun k hk2=>hk k (OwnR.lt h.o2 k hk2).1 (OwnR.lt h.o2 k hk2).2,OwnR.kept h.o3 fun k hk2=>hk k (OwnR.lt h.o3 k hk2).1 (OwnR.lt h.o3 k hk2).2,h.l1,h.l2,h.l3,h.n12,h.n23⟩
theorem InO.lt {w:World} {lo g1 g2 g3:Nat} {xs zs ys:List Bool} (h:InO w lo g1 g2 g3 xs zs ys):lo≤g1∧g1<g2∧g2<g3∧g3<w.heap.size:=⟨(OwnR.lt h.o1 g1 rfl).1,h.n12,h.n23,(OwnR.lt h.o3 g3 rfl).2⟩
theorem InO.put1 {w:World} {lo g1 g2 g3:Nat} {xs zs ys:List Bool} (h:InO w lo g1 g2 g3 xs zs ys) (k:Nat) (hk:k<3) (b:Bool):InO (w.setCell ⟨g1,k,none⟩ (.bool b)) lo g1 g2 g3 (xs.set k b) zs ys :=
 ⟨h.o1.putB k (by rw[h.l1];exact hk) b,h.o2.set' g1 k _ (fun j hj=>by have:=h.n12;simp[Value.ownBlock]at hj;omega),h.o3.set' g1 k _ (fun j hj=>by have:=h.n12;have:=h.n23;simp[Value.ownBlock]at hj;omega),by simp[h.l1],h.l2,h.l3,h.n12,h.n23⟩
theorem InO.put2 {w:World} {lo g1 g2 g3:Nat} {xs zs ys:List Bool} (h:InO w lo g1 g2 g3 xs zs ys) (k:Nat) (hk:k<4) (b:Bool):InO (w.setCell ⟨g2,k,none⟩ (.bool b)) lo g1 g2 g3 xs (zs.set k b) ys :=
 ⟨h.o1.set' g2 k _ (fun j hj=>by have:=h.n12;simp[Value.ownBlock]at hj;omega),h.o2.putB k (by rw[h.l2];exact hk) b,h.o3.set' g2 k _ (fun j hj=>by have:=h.n23;simp[Value.ownBlock]at hj;omega),h.l1,by simp[h.l2],h.l3,h.n12,h.n23⟩
theorem InO.put3 {w:World} {lo g1 g2 g3:Nat} {xs zs ys:List Bool} (h:InO w lo g1 g2 g3 xs zs ys) (k:Nat) (hk:k<3) (b:Bool):InO (w.setCell ⟨g3,k,none⟩ (.bool b)) lo g1 g2 g3 xs zs (ys.set k b) :=
 ⟨h.o1.set' g3 k _ (fun j hj=>by have:=h.n12;have:=h.n23;simp[Value.ownBlock]at hj;omega),h.o2.set' g3 k _ (fun j hj=>by have:=h.n23;simp[Value.ownBlock]at hj;omega),h.o3.putB k (by rw[h.l3];exact hk) b,h.l1,h.l2,by simp[h.l3],h.n12,h.n23⟩
theorem InO.boxed {w w':World} {lo g1 g2 g3:Nat} {xs zs ys:List Bool} (h:InO w lo g1 g2 g3 xs zs ys) {b:Nat} (hk:∀k,k≠b→w'.heap[k]? = w.heap[k]?) (hb:b<g1):InO w' lo g1 g2 g3 xs zs ys:=by
 have h1:=h.n12;have h2:=h.n23;exact⟨OwnR.kept h.o1 fun k hk2=>hk k (by simp[Value.ownBlock]at hk2;omega),OwnR.kept h.o2 fun k hk2=>hk k (by simp[Value.ownBlock]at hk2;omega),OwnR.kept h.o3 fun k hk2=>hk k (by simp[Value.ownBlock]at hk2;omega),h.l1,h.l2,h.l3,h.n12,h.n23⟩
def InAllP (w:World) (e:Ending) (w':World):Prop:=∃g1 g2 g3,e=.returned (.agg #[.slice (some ⟨g1,0,none⟩) 3 3,.slice (some ⟨g2,0,none⟩) 4 4,.slice (some ⟨g3,0,none⟩) 3 3])∧InO w' w.heap.size g1 g2 g3 T3 F4 T3∧Below w.heap.size w w'
theorem inAll_any (w:World):Calls Tryz.prog 133 #[] w (InAllP w):=by
 go_enter Tryz.func133,Tryz.ntmps133
 go_wp2_with fail
 refine bodyPost_ret (zB3 Tryz.results133 _ _ ⟨w.heap.size,0,none⟩ (.agg #[.slice (some ⟨w.heap.size+1,0,none⟩) 3 3,.slice (some ⟨w.heap.size+1+1,0,none⟩) 4 4,.slice (some ⟨w.heap.size+1+1+1,0,none⟩) 3 3]) rfl (loadVar_in _ _ _ _ _ (by simp[go_sem]) (by simp[go_sem]) (by simp[go_sem]))) rfl ⟨_,_,_,rfl,⟨?_,?_,?_,rfl,rfl,rfl,by omega,by omega⟩,?_⟩
 ·have:=((Owns.litOf (w:=w.alloc (.cells #[.slice (some ⟨w.heap.size+1,0,none⟩) 3 3,.slice (some ⟨w.heap.size+1+1,0,none⟩) 4 4,.slice (some ⟨w.heap.size+1+1+1,0,none⟩) 3 3] 45)) (base:=w.heap.size) (e:=4) (f:=rowB) T3 #[.bool true,.bool true,.bool true] (by simp) zI5 rfl (by unfold maxLen;simp)).allocd (.cells #[.bool false,.bool false,.bool false,.bool false] 4)).allocd (.cells #[.bool true,.bool true,.bool true] 4);simpa using this
 ·have:=(Owns.litOf (w:=(w.alloc (.cells #[.slice (some ⟨w.heap.size+1,0,none⟩) 3 3,.slice (some ⟨w.heap.size+1+1,0,none⟩) 4 4,.slice (some ⟨w.heap.size+1+1+1,0,none⟩) 3 3] 45)).alloc (.cells #[.bool true,.bool true,.bool true] 4)) (base:=w.heap.size) (e:=4) (f:=rowB) F4 #[.bool false,.bool false,.bool false,.bool false] (by simp;omega) zI5 rfl (by unfold maxLen;simp)).allocd (.cells #[.bool true,.bool true,.bool true] 4);simpa using this
 ·have:=Owns.litOf (w:=((w.alloc (.cells #[.slice (some ⟨w.heap.size+1,0,none⟩) 3 3,.slice (some ⟨w.heap.size+1+1,0,none⟩) 4 4,.slice (some ⟨w.heap.size+1+1+1,0,none⟩) 3 3] 45)).alloc (.cells #[.bool true,.bool true,.bool true] 4)).alloc (.cells #[.bool false,.bool false,.bool false,.bool false] 4)) (base:=w.heap.size) (e:=4) (f:=rowB) T3 #[.bool true,.bool true,.bool true] (by simp;omega) zI5 rfl (by unfold maxLen;simp);simpa using this
 ·exact((((Below.refl _ _).alloc (Nat.le_refl _) _).alloc (by simp) _).alloc (by simp;omega) _).alloc (by simp;omega) _
def InDr (r B:Nat) (bs:List Nat) (p:Nat) (w:World) (e:Ending) (w':World):Prop :=
 ∃g1 g2 g3 xs zs ys q,e=.returned (.agg #[.slice (some ⟨g1,0,none⟩) 3 3,.slice (some ⟨g2,0,none⟩) 4 4,.slice (some ⟨g3,0,none⟩) 3 3])∧InO w' w.heap.size g1 g2 g3 xs zs ys∧q≤p+10∧RdAt w' r B bs q∧Touch r w w'
set_option maxRecDepth 4000 in
theorem l20In_any (r B : Nat) (bs : List Nat) (p : Nat) (n : Int) (w : World) (h : RdAt w r B bs p) (hp : p ≤ 900000000) (h1 : 1 ≤ n) (hn : n ≤ 1099511627776) :
  Calls Tryz.prog 84 #[.pointer (some ⟨r,0,none⟩),.int .i64 n] w (InDr r B bs p w):=by
 have hrw:=h.lt;have HR0:=hid h;clear h
 go_enter Tryz.func84,Tryz.ntmps84
 go_upto_region 2 with(go_at_call 133;(with_reducible refine(inAll_any _).mono ?_);rintro e w1 ⟨g1,g2,g3,rfl,ho,hb⟩;have HO1:=hid ho;have HB1:=hid hb;clear ho hb)
 obtain⟨w2,hw2⟩:∃W,W=w1.alloc (.cells #[.slice (some ⟨g1,0,none⟩) 3 3,.slice (some ⟨g2,0,none⟩) 4 4,.slice (some ⟨g3,0,none⟩) 3 3] 45):=⟨_,rfl⟩
 obtain⟨gi,hgi⟩:∃g,g=w1.heap.size:=⟨_,rfl⟩
 rw[←hw2,←hgi];have hb2:Below w1.heap.size w1 w2:=by rw[hw2];exact(Below.refl _ _).alloc (Nat.le_refl _) _
 have hb01:Below w.heap.size w w1:=((Below.refl _ _).alloc (Nat.le_refl _) _).trans (HB1.out.mono (by simp));have HLO:=hid HO1.out.lt;have HX:=hid (show Bx w2 gi [.slice (some ⟨g1,0,none⟩) 3 3,.slice (some ⟨g2,0,none⟩) 4 4,.slice (some ⟨g3,0,none⟩) 3 3] by rw[hw2,hgi];exact Bx.new w1 #[.slice (some ⟨g1,0,none⟩) 3 3,.slice (some ⟨g2,0,none⟩) 4 4,.slice (some ⟨g3,0,none⟩) 3 3] 45 (by simp));have HY:=hid (show Bx w2 w.heap.size [vnil,vnil,vnil] from((Bx.new w #[vnil,vnil,vnil] 45 (by simp)).below HB1.out (by simp)).below hb2 (by have:=HB1.out.size;simp at this;omega));have HO2:=hid (HO1.out.kept (w':=w2) fun k _ hk=>hb2.block k hk);have HT2:=hid (show Touch r w w2 from(Touch.of_below hb01 (Nat.le_refl _)).trans (Touch.of_below hb2 (Nat.le_refl _)));have HR2:=hid ((HR0.out.kept hb01 hrw).kept hb2 (by have:=hb01.size;omega));have h0lo:=HO1.out.lt;simp only[World.size_alloc]at h0lo;have hn1:g1<gi:=by omega
 have hn3:g3<gi:=by omega
 have hgr1:w.heap.size<g1:=by omega
 obtain⟨_,h12,h23,_⟩:=h0lo;have hg10:g1≠w.heap.size:=by omega
 have hSZ:=hid (show w.heap.size≤(w.alloc (.cells #[vnil,vnil,vnil] 45)).heap.size by simp);clear hw2 hgi hb2 hb01
 go_wp2_with fail
 go_loopw [6] (fun i wr=>∃(k q:Nat) (xs ys:List Bool),i=.int .i64 (k:Nat)∧k≤3∧q≤p+2 * k∧RdAt wr r B bs q∧InO wr w.heap.size g1 g2 g3 xs F4 ys∧Touch r w wr∧Bx wr gi [.slice (some ⟨g1,0,none⟩) 3 3,.slice (some ⟨g2,0,none⟩) 4 4,.slice (some ⟨g3,0,none⟩) 3 3]∧Bx wr w.heap.size [vnil,vnil,vnil]) (fun i _=>3 - (intOf i).toNat)
 case atStart=>exact⟨0,p,T3,T3,by go_num,by omega,by omega,HR2.out,⟨HO2.out.o1.rebase hSZ.out,HO2.out.o2.rebase hSZ.out,HO2.out.o3.rebase hSZ.out,HO2.out.l1,HO2.out.l2,HO2.out.l3,HO2.out.n12,HO2.out.n23⟩,HT2.out,HX.out,HY.out⟩
 case round=>
  clear HX HY HO2 HT2 HR2;obtain⟨k,q,xs,ys,rfl,hk,hq,hrd,ho,ht,hx,hy⟩:=hrel;have HO:=hid ho;have HT:=hid ht;have HX:=hid hx;have HY:=hid hy;have HRD:=hid hrd;have h3l:=ho.lt.2.2.2;have hxl:=hx.lt;clear ho ht hx hy hrd;by_cases hlt:k<3
  ·have hki:(k:Int)<3:=by omega
   obtain⟨x0,x1,x2⟩:=HX.out.three.1
   go_upto_region 5 with fail
   go_region_held3 (fun w' => w'.cell? ⟨gi, 0, none⟩ = some (.slice (some ⟨g1, 0, none⟩) 3 3)) (first | exact z1 | (rw [World.cell?_setCell_far _ _ _ _ (by show g1 ≠ gi; omega)]; exact z1) | go_keep)
    (first|(go_at_call 82;(with_reducible refine(zC1 r B bs q n _ HRD.out.drewd (by omega) h1 hn).mono ?_);rintro e w4 ⟨y,rfl,hy0,hy1,h4,ht4⟩;have HT4:=hid (show Touch r wr w4 from(Touch.refl r wr).drewd.trans ht4);have HX4:=hid (HX.out.touch HT4.out (by omega));have z1:=HX4.out.three.1.1;have HO4:=hid (HO.out.kept (w':=w4) fun k h1 h2=>HT4.out.block k h2 (by omega));have zc:=HO4.out.o1.cellB k (by rw[HO4.out.l1];omega);have zf:=HO4.out.o1.frozenAt k;have HY4:=hid (HY.out.touch HT4.out (by omega));have HRD4:=hid h4;clear h4 ht4))
   clear z1 zc zf x0 x1 x2
   go_upto_region 6 with fail
   obtain⟨w5,hw5⟩:∃W,W=w4.setCell ⟨g1,k,none⟩ (.bool (decide (0<y))):=⟨_,rfl⟩
   rw[←hw5];have HO5:=hid (show InO w5 w.heap.size g1 g2 g3 (xs.set k (decide (0<y))) F4 ys by rw[hw5];exact HO4.out.put1 k hlt _);have HX5:=hid (show Bx w5 gi _ by rw[hw5];exact HX4.out.setc g1 k _ (by omega));have HY5:=hid (show Bx w5 w.heap.size _ by rw[hw5];exact HY4.out.setc g1 k _ (by omega));have HRD5:=hid (show RdAt w5 r B bs (q+1) by rw[hw5];exact HRD4.out.setNew hrw (by omega) k _);have HT5:=hid (show Touch r w w5 by rw[hw5];exact(HT.out.trans HT4.out).setNew (by omega) _);have hxl5:=HX5.out.lt;have h3l5:=HO5.out.lt.2.2.2;clear hw5;obtain⟨x0,x1,x2⟩:=HX5.out.three.1
   go_region_held3 (fun w' => w'.cell? ⟨gi, 2, none⟩ = some (.slice (some ⟨g3, 0, none⟩) 3 3)) (first | exact z1 | (rw [World.cell?_setCell_far _ _ _ _ (by show g3 ≠ gi; omega)]; exact z1) | go_keep)
    (first|(go_at_call 82;(with_reducible refine(zC1 r B bs (q+1) n _ HRD5.out.drewd (by omega) h1 hn).mono ?_);rintro e w6 ⟨y2,rfl,hy20,hy21,h6,ht6⟩;have HT6:=hid (show Touch r w5 w6 from(Touch.refl r w5).drewd.trans ht6);have HX6:=hid (HX5.out.touch HT6.out (by omega));have z1:=HX6.out.three.1.2.2;have HO6:=hid (HO5.out.kept (w':=w6) fun k h1 h2=>HT6.out.block k h2 (by omega));have zc:=HO6.out.o3.cellB k (by rw[HO6.out.l3];omega);have zf:=HO6.out.o3.frozenAt k;have HY6:=hid (HY5.out.touch HT6.out (by omega));have HRD6:=hid h6;clear h6 ht6))
   clear z1 zc zf x0 x1 x2
   go_wp2_with fail
   go_roundw
   case rel=>exact⟨k+1,q+1+1,_,ys.set k (decide (0<y2)),by go_num,by omega,by omega,HRD6.out.setNew hrw (by omega) k _,HO6.out.put3 k hlt _,(HT5.out.trans HT6.out).setNew (by omega) _,HX6.out.setc g3 k _ (by omega),HY6.out.setc g3 k _ (by omega)⟩
   case measure=>simp[intOf];omega
  ·obtain rfl:k=3:=by omega
   have hq:q≤p+6:=by omega
   rw[show(((3:Nat)):Int)=(3:Int) from rfl]
   go_wp2_with fail
   go_loopw [7] (fun i wr=>∃(k q:Nat) (zs:List Bool),i=.int .i64 (k:Nat)∧k≤4∧q≤p+6+k∧RdAt wr r B bs q∧InO wr w.heap.size g1 g2 g3 xs zs ys∧Touch r w wr∧Bx wr gi [.slice (some ⟨g1,0,none⟩) 3 3,.slice (some ⟨g2,0,none⟩) 4 4,.slice (some ⟨g3,0,none⟩) 3 3]∧Bx wr w.heap.size [vnil,vnil,vnil]) (fun i _=>4 - (intOf i).toNat)
   case atStart=>exact⟨0,q,F4,by go_num,by omega,by omega,HRD.out,HO.out,HT.out,HX.out,HY.out⟩
   case round=>
    clear HX HY HO HT HRD hq hxl h3l;obtain⟨k,q,zs,rfl,hk,hq,hrd,ho,ht,hx,hy⟩:=hrel;have HO:=hid ho;have HT:=hid ht;have HX:=hid hx;have HY:=hid hy;have HRD:=hid hrd;have h3l:=ho.lt.2.2.2;have hxl:=hx.lt;clear ho ht hx hy hrd;by_cases hlt:k<4
    ·have hki:(k:Int)≤3:=by omega
     have hki4:(k:Int)<4:=by omega
     obtain⟨x0,x1,x2⟩:=HX.out.three.1
     go_upto_region 10 with fail
     go_region_held3 (fun w' => w'.cell? ⟨gi, 1, none⟩ = some (.slice (some ⟨g2, 0, none⟩) 4 4)) (first | exact z1 | (rw [World.cell?_setCell_far _ _ _ _ (by show g2 ≠ gi; omega)]; exact z1) | go_keep)
      (first|(go_at_call 82;(with_reducible refine(zC1 r B bs q n _ HRD.out.drewd (by omega) h1 hn).mono ?_);rintro e w4 ⟨y,rfl,hy0,hy1,h4,ht4⟩;have HT4:=hid (show Touch r wr w4 from(Touch.refl r wr).drewd.trans ht4);have HX4:=hid (HX.out.touch HT4.out (by omega));have z1:=HX4.out.three.1.2.1;have HO4:=hid (HO.out.kept (w':=w4) fun k h1 h2=>HT4.out.block k h2 (by omega));have zc:=HO4.out.o2.cellB k (by rw[HO4.out.l2];omega);have zf:=HO4.out.o2.frozenAt k;have HY4:=hid (HY.out.touch HT4.out (by omega));have HRD4:=hid h4;clear h4 ht4))
     clear z1 zc zf x0 x1 x2
     go_wp2_with fail
     go_roundw
     case rel=>exact⟨k+1,q+1,zs.set k (y==0),by go_num,by omega,by omega,HRD4.out.setNew hrw (by omega) k _,HO4.out.put2 k hlt _,(HT.out.trans HT4.out).setNew (by omega) _,HX4.out.setc g2 k _ (by omega),HY4.out.setc g2 k _ (by omega)⟩
     case measure=>simp[intOf];omega
    ·obtain rfl:k=4:=by omega
     obtain⟨x0,x1,x2⟩:=HX.out.three.1;obtain⟨⟨y0,y1,y2⟩,f0,f1,f2⟩:=HY.out.three;have hyl:=HY.out.lt
     go_wp2_with fail
     refine bodyPost_ret (zB3 Tryz.results84 _ _ ⟨w.heap.size,0,none⟩ (.agg #[.slice (some ⟨g1,0,none⟩) 3 3,.slice (some ⟨g2,0,none⟩) 4 4,.slice (some ⟨g3,0,none⟩) 3 3]) rfl (loadVar_in _ _ _ _ _ (by simp[go_sem, *]) (by simp[go_sem, *]) (by simp[go_sem, *]))) rfl ⟨_,_,_,xs,zs,ys,q,rfl,?_,by omega,?_,?_⟩
     ·refine HO.out.boxed (b:=w.heap.size) (fun k hk=>?_) (by omega);rw[Below.heap_setCell _ _ _ _ (by exact hk),Below.heap_setCell _ _ _ _ (by exact hk),Below.heap_setCell _ _ _ _ (by exact hk)]
     ·exact((HRD.out.setNew hrw (Nat.le_refl _) _ _).setNew hrw (Nat.le_refl _) _ _).setNew hrw (Nat.le_refl _) _ _
     ·exact((HT.out.setNew (Nat.le_refl _) _).setNew (Nat.le_refl _) _).setNew (Nat.le_refl _) _
def zQ:RqV:=(⟨0,0,0,0,false,[],[]⟩,.slice none 0 0,.slice none 0 0)
def zipQ (qs:List Rq) (vs:List (Value×Value)):List RqV:=List.zipWith (fun q p=>(q,p)) qs vs
theorem zC4 {qs:List Rq} {vs:List (Value×Value)} (h:vs.length=qs.length):(zipQ qs vs).length=qs.length:=by simp[zipQ,h]
theorem zipQ_get {qs:List Rq} {vs:List (Value×Value)} (h:vs.length=qs.length) {k:Nat} (hk:k<qs.length) (d:RqV):(zipQ qs vs).getD k d=(qs.getD k default,vs.getD k default):=by
 have hk2:k<vs.length:=by omega
 simp[zipQ,List.getD,List.getElem?_zipWith,hk,hk2]
theorem zC5 {α:Type} {xs:List α} {y d:α} {j:Nat} (h:j<xs.length):(xs++[y]).getD j d=xs.getD j d:=by
 simp only[List.getD];rw[List.getElem?_append_left h]
theorem zD8 {α:Type} {xs:List α} {y d:α}:(xs++[y]).getD xs.length d=y:=by simp[List.getD]
def BoxQ (w:World) (s:Nat) (r:Rq) (d l:Value):Prop:=w.heap[s]? = some (.cells #[.int .i64 r.id,.int .i64 r.kind,.int .i64 r.addr,.int .i64 r.many,.bool r.wrap,d,l] 52 (0,0))
theorem BoxQ.lt {w:World} {s:Nat} {r:Rq} {d l:Value} (h:BoxQ w s r d l):s<w.heap.size:=heap_lt h
theorem BoxQ.keep {w w':World} {s:Nat} {r:Rq} {d l:Value} (h:BoxQ w s r d l) (e:w'.heap[s]? = w.heap[s]?):BoxQ w' s r d l:=by unfold BoxQ at h ⊢;rw[e];exact h
theorem BoxQ.below {w w':World} {s C:Nat} {r:Rq} {d l:Value} (h:BoxQ w s r d l) (hb:Below C w w') (hx:s<C):BoxQ w' s r d l:=h.keep (hb.block s hx)
theorem BoxQ.bx {w:World} {s:Nat} {r:Rq} {d l:Value} (h:BoxQ w s r d l):Bx w s [.int .i64 r.id,.int .i64 r.kind,.int .i64 r.addr,.int .i64 r.many,.bool r.wrap,d,l]:=by
 unfold BoxQ at h;exact⟨fun j hj=>by simp[World.cell?,h],fun j hj=>by simp[World.frozen?,h],by simp⟩
theorem BoxQ.put5 {w:World} {s:Nat} {r:Rq} {d l:Value} (h:BoxQ w s r d l) (u:Value):BoxQ (w.setCell ⟨s,5,none⟩ u) s r u l:=by
 unfold BoxQ at h ⊢;simp[World.setCell,Array.getElem?_modify,h]
theorem BoxQ.put6 {w:World} {s:Nat} {r:Rq} {d l:Value} (h:BoxQ w s r d l) (u:Value):BoxQ (w.setCell ⟨s,6,none⟩ u) s r d u:=by
 unfold BoxQ at h ⊢;simp[World.setCell,Array.getElem?_modify,h]
theorem BoxQ.new (w:World) (r:Rq) (d l:Value):BoxQ (w.alloc (.cells #[.int .i64 r.id,.int .i64 r.kind,.int .i64 r.addr,.int .i64 r.many,.bool r.wrap,d,l] 52)) w.heap.size r d l:=by
 show(w.heap.push _)[w.heap.size]? = _;simp
theorem zH8:Elem 53 52 7 88:=zE9 Tryz.underlying53 (z:=(.agg #[.int .i64 0,.int .i64 0,.int .i64 0,.int .i64 0,.bool false,.slice none 0 0,.slice none 0 0])) (by kernel_rfl) rfl (by omega)
def row1 (u:Value):List Value:=[u]
theorem row1_len (u:Value):(row1 u).length=1:=rfl
theorem infoPQ:(Tryz.prog.info? 53).map (fun i=>(i.zero,i.size,i.bytes))=some (some (.slice none 0 0),1,24):=by kernel_rfl
def BoxB (w:World) (s:Nat) (a b p:Value):Prop:=w.heap[s]? = some (.cells #[a,b,p] 27 (0,0))
theorem BoxB.lt {w:World} {s:Nat} {a b p:Value} (h:BoxB w s a b p):s<w.heap.size:=heap_lt h
theorem BoxB.keep {w w':World} {s:Nat} {a b p:Value} (h:BoxB w s a b p) (e:w'.heap[s]? = w.heap[s]?):BoxB w' s a b p:=by unfold BoxB at h ⊢;rw[e];exact h
theorem BoxB.touch {w w':World} {s x:Nat} {a b p:Value} (h:BoxB w s a b p) (ht:Touch x w w') (hx:s≠x):BoxB w' s a b p:=h.keep (ht.block s h.lt hx)
theorem BoxB.below {w w':World} {s C:Nat} {a b p:Value} (h:BoxB w s a b p) (hb:Below C w w') (hx:s<C):BoxB w' s a b p:=h.keep (hb.block s hx)
theorem BoxB.bx {w:World} {s:Nat} {a b p:Value} (h:BoxB w s a b p):Bx w s [a,b,p]:=by
 unfold BoxB at h;exact⟨fun j hj=>by simp[World.cell?,h],fun j hj=>by simp[World.frozen?,h],by simp⟩
theorem BoxB.put {w:World} {s:Nat} {a b p:Value} (h:BoxB w s a b p) (a' b' p':Value):BoxB (((w.setCell ⟨s,0,none⟩ a').setCell ⟨s,1,none⟩ b').setCell ⟨s,2,none⟩ p') s a' b' p':=by
 unfold BoxB at h ⊢;simp[World.setCell,Array.getElem?_modify,h]
theorem BoxB.new (w:World) (a b p:Value):BoxB (w.alloc (.cells #[a,b,p] 27)) w.heap.size a b p:=by
 show(w.heap.push _)[w.heap.size]? = _;simp
theorem Owns.notB {α:Type} {f:α→List Value} {w:World} {base e sz g T:Nat} {v:Value} {xs:List α} {cs:Array Value} (h:Owns w base e sz f v xs) (hg:w.heap[g]? = some (.cells cs T (0,0))) (hT:T≠e):v.ownBlock≠some g:=by
 intro hk;obtain⟨_,h2⟩:=h;rcases h2 with⟨rfl,_⟩|⟨g', off,cap,cur,rfl,_,hh,_⟩
 ·simp[Value.ownBlock]at hk
 ·simp[Value.ownBlock]at hk;subst hk;rw[hh]at hg;simp only[Option.some.injEq,Obj.cells.injEq]at hg;exact hT hg.2.1.symm
theorem Owns.apartT {α β:Type} {f:α→List Value} {f2:β→List Value} {w:World} {base base2 e e2 sz sz2:Nat} {v u:Value} {xs:List α} {ys:List β} (h:Owns w base e sz f v xs) (h2:Owns w base2 e2 sz2 f2 u ys) (hT:e≠e2):Apart v u:=by
 intro k hk;obtain⟨_,h3⟩:=h;rcases h3 with⟨rfl,_⟩|⟨g', off,cap,cur,rfl,_,hh,_⟩
 ·simp[Value.ownBlock]at hk
 ·simp[Value.ownBlock]at hk;subst hk;exact h2.notB hh hT
abbrev SlV:=Option Addr×Nat×Nat
def slv (s:SlV):Value:=.slice s.1 s.2.1 s.2.2
abbrev RqS:=Rq×SlV×SlV
def rowS7 (y:RqS):List Value:=rowQ (y.1,slv y.2.1,slv y.2.2)
def toV (y:RqS):RqV:=(y.1,slv y.2.1,slv y.2.2)
theorem flat_toV (ys:List RqS):ys.flatMap rowS7=(ys.map toV).flatMap rowQ:=by rw[List.flatMap_map];rfl
theorem Owns.toV {w:World} {base e:Nat} {v:Value} {ys:List RqS} (h:Owns w base e 7 rowS7 v ys):Owns w base e 7 rowQ v (ys.map toV):=by
 unfold Owns at h ⊢;rw[List.length_map,←flat_toV];exact h
abbrev InX:=Inp×Nat×Nat×Nat
def rowX (x:InX):List Value:=[.slice (some ⟨x.2.1,0,none⟩) 3 3,.slice (some ⟨x.2.2.1,0,none⟩) 4 4,.slice (some ⟨x.2.2.2,0,none⟩) 3 3]
theorem rowX_len (x:InX):(rowX x).length=3:=rfl
theorem rowX_one (x:InX):∀u∈rowX x,u.oneCell' = true:=by
 intro u hu;simp only[rowX,List.mem_cons,List.not_mem_nil,or_false]at hu;rcases hu with rfl|rfl|rfl <;> rfl
theorem elem_in:Elem 28 45 3 72:=zE9 Tryz.underlying28 (z:=.agg #[.slice none 0 0,.slice none 0 0,.slice none 0 0]) (by kernel_rfl) rfl (by omega)
def InQ (w:World) (lo:Nat) (x:InX):Prop:=InO w lo x.2.1 x.2.2.1 x.2.2.2 x.1.ready x.1.stall x.1.send
theorem InQ.kept {w w':World} {lo:Nat} {x:InX} (h:InQ w lo x) (hk:∀k,lo≤k→k<w.heap.size→w'.heap[k]? = w.heap[k]?):InQ w' lo x:=InO.kept h hk
theorem InQ.rebase {w:World} {lo lo':Nat} {x:InX} (h:InQ w lo x) (hl:lo' ≤ lo):InQ w lo' x:=⟨h.o1.rebase hl,h.o2.rebase hl,h.o3.rebase hl,h.l1,h.l2,h.l3,h.n12,h.n23⟩
theorem InQ.push {w w':World} {lo lo':Nat} {v:Value} {xs:List InX} {x:InX} (h:InQ w lo x) (ho:Owns w lo' 45 3 rowX v xs) (hk:∀b,b<w.heap.size→v.ownBlock≠some b→w'.heap[b]? = w.heap[b]?):InQ w' lo x:=by
 have key:∀{u:Value} {ys:List Bool},Owns w lo 4 1 rowB u ys→Owns w' lo 4 1 rowB u ys:=fun hu=>OwnR.kept hu fun j hj=>hk j (OwnR.lt hu j hj).2 (fun e=>Owns.apartT hu ho (by decide) j hj e)
 exact⟨key h.o1,key h.o2,key h.o3,h.l1,h.l2,h.l3,h.n12,h.n23⟩
theorem InQ.inV {w:World} {lo:Nat} {x:InX} (h:InQ w lo x):InV w w.heap.size (.agg #[.slice (some ⟨x.2.1,0,none⟩) 3 3,.slice (some ⟨x.2.2.1,0,none⟩) 4 4,.slice (some ⟨x.2.2.2,0,none⟩) 3 3]) x.1:=by
 have h1:=h.o1.arr zI5 (by rw[h.l1];omega);have h2:=h.o2.arr zI5 (by rw[h.l2];omega);have h3:=h.o3.arr zI5 (by rw[h.l3];omega);refine⟨⟨some ⟨x.2.1,0,none⟩,3,some ⟨x.2.2.1,0,none⟩,4,some ⟨x.2.2.2,0,none⟩,3,by rw[h.l1,h.l2,h.l3],?_,?_,?_⟩,h.l1,h.l2,h.l3⟩
 ·rw[h.l1];exact h1
 ·rw[h.l2];exact h2
 ·rw[h.l3];exact h3
theorem ins_of {w:World} {lo lo':Nat} {v:Value} {xs:List InX} (ho:Owns w lo' 45 3 rowX v xs) (hx:∀x∈xs,InQ w lo x) (hl:xs.length≤1000000):Ins w w.heap.size v (xs.map (·.1)):=by
 refine⟨xs.map fun x=>.agg #[.slice (some ⟨x.2.1,0,none⟩) 3 3,.slice (some ⟨x.2.2.1,0,none⟩) 4 4,.slice (some ⟨x.2.2.2,0,none⟩) 3 3],?_,by simp,fun k hk d=>?_⟩
 ·rw[List.map_map];exact ho.arr rowX_len (by omega)
 ·simp only[List.length_map]at hk;have e:=(hx _ (List.getElem_mem hk)).inV;simpa[List.getD,hk]using e
def InsDr (r B:Nat) (bs:List Nat) (p:Nat) (w:World) (e:Ending) (w':World):Prop :=
 ∃v xs q,e=.returned v∧Owns w' w.heap.size 45 3 rowX v xs∧(∀x∈xs,InQ w' w.heap.size x)∧xs.length≤89∧q≤p+1000∧RdAt w' r B bs q∧Touch r w w'
set_option maxRecDepth 4000 in
theorem l20Ins_any (r B : Nat) (bs : List Nat) (p : Nat) (w : World) (h : RdAt w r B bs p) (hp : p ≤ 800000000) :
  Calls Tryz.prog 44 #[.pointer (some ⟨r,0,none⟩),.int .i64 90] w (InsDr r B bs p w):=by
 have hrw:=h.lt;have HR0:=hid (h.alloc (.cells #[] 45));clear h
 go_enter Tryz.func44,Tryz.ntmps44
 go_upto_region 2 with fail
 obtain⟨w1,hw1⟩:∃W,W=w.alloc (.cells #[] 45):=⟨_,rfl⟩
 have HO1:=hid (show Owns w1 w.heap.size 45 3 rowX (.slice (some ⟨w.heap.size,0,none⟩) 0 0) [] by rw[hw1];exact Owns.lit (Nat.le_refl _));have hb1:Below w.heap.size w w1:=by rw[hw1];exact(Below.refl _ _).alloc (Nat.le_refl _) _
 have hz1:w1.heap.size=w.heap.size+1:=by rw[hw1];simp
 rw[←hw1]at HR0 ⊢;have HB1:=hid hb1;clear hw1 hb1
 go_wp2_with (first
  |(go_at_call 82;(with_reducible refine(zC1 r B bs p 4 _ (HR0.out.alloc _) (by omega) (by omega) (by omega)).mono ?_);rintro e w2 ⟨z', rfl,z0,z1,h2,ht2⟩;obtain⟨z,rfl⟩:=Int.eq_ofNat_of_zero_le z0;have hz:z<4:=(by omega);obtain⟨y,hl1,hy⟩:=tab4 2 3 5 20 hz;have hl2:=zG5 hl1;clear hl1 hz z0;have tB:=Touch.tab ht2 (by omega) z _ hl2;rw[hz1]at tB;have HT2:=hid (((Touch.of_below HB1.out (Nat.le_refl _)).alloc _).trans ht2);have HR2:=hid h2;have hs2:=HT2.out.size;have HO2:=hid (((HO1.out).allocd (.cells #[.int .i64 2,.int .i64 3,.int .i64 5,.int .i64 20] 3)).touch ht2 hrw);clear h2 ht2 hl2)
  |(go_at_call 82;(with_reducible refine(zC1 r B bs (p+1) 90 _ HR2.out (by omega) (by omega) (by omega)).mono ?_);rintro e w3 ⟨m', rfl,m0,m1,h3,ht3⟩;obtain⟨m,rfl⟩:=Int.eq_ofNat_of_zero_le m0;have HT3:=hid (HT2.out.trans ht3);have HR3:=hid h3;have HO3:=hid (HO2.out.touch ht3 hrw);clear h3 ht3 tB m0))
 have hy1:1≤y:=by omega
 have hy2:y≤1099511627776:=by omega
 have hm:m≤89:=by omega
 clear hy hz1
 go_loopw [5,7] (fun v i wr=>∃(k q:Nat) (xs:List InX),i=.int .i64 (k:Nat)∧k+xs.length=m∧q≤p+2+10 * xs.length∧RdAt wr r B bs q∧Owns wr w.heap.size 45 3 rowX v xs∧(∀x∈xs,InQ wr w.heap.size x)∧Touch r w wr) (fun _ i _=>(intOf i).toNat)
 case atStart=>exact⟨m,p+1+1,[],rfl,by simp,by simp,HR3.out,HO3.out,(fun x hx=>by cases hx),HT3.out⟩
 case round=>
  clear HR3 HO3 HT3 HO2 HT2 HR2 HO1 HR0 HB1;obtain⟨k,q,xs,rfl,hk,hq,hrd,ho,hxs,ht⟩:=hrel;have HO:=hid ho;have HT:=hid ht;have HRD:=hid hrd;have HXS:=hid hxs;have hxl:xs.length≤89:=by omega
  have hwr:w.heap.size≤wr.heap.size:=ht.size;have HXL:=hid hxl;have HK:=hid hk;clear ho ht hrd hxs;by_cases hlt:0<k
  ·have hki:(0:Int)<(k:Int):=by omega
   have hk89:k≤89:=by omega
   clear hxl hk
   go_wp2_with (first
    |(go_at_call 84;(with_reducible refine(l20In_any r B bs q y _ HRD.out (by have:=HXL.out;omega) hy1 hy2).mono ?_);rintro e w4 ⟨g1,g2,g3,ra,za,sa,q4,rfl,ho4,hq4,h4,ht4⟩;have HO4:=hid (HO.out.touch ht4 hrw);have HXS4:=hid (fun x hx=>(HXS.out x hx).kept (w':=w4) fun k h1 h2=>ht4.block k h2 (by omega));have HT4:=hid (HT.out.trans ht4);have HIN:=hid (show InQ w4 w.heap.size (⟨ra,za,sa⟩,g1,g2,g3) from InQ.rebase ho4 hwr);have HR4:=hid h4;have HQ4:=hid hq4;have hs4:=ht4.size;clear ho4 hq4 h4 ht4)
    |(at_builtin;go_must (refine zB6 elem_in rowX rowX_len ((⟨ra,za,sa⟩,g1,g2,g3):InX) (rowX_one _) w4 rfl _ _ rfl w.heap.size _ xs (by rfl) HO4.out _ (by rfl) (by rfl) (by have:=HXL.out;omega) (by have:=HXL.out;omega) (by omega) ?_);intro v' w5 ho5 hz5 hk5 hv5 hb5;have HO5:=hid ho5;have HIN5:=hid (HIN.out.push HO4.out hk5);have HXS5:=hid (fun x hx=>(HXS4.out x hx).push HO4.out hk5);have HT5:=hid (HT4.out.bel hb5 (Nat.le_refl _));have HR5:=hid (HR4.out.kept hb5 hrw);clear ho5 hz5 hk5 hv5 hb5))
   go_roundw
   case rel => exact ⟨k - 1, q4, xs ++ [(⟨ra, za, sa⟩, g1, g2, g3)], by congr 1; omega, by have := HK.out; simp; omega, by have := HQ4.out; simp; omega, HR5.out, HO5.out, fun x hx => by
    rcases List.mem_append.1 hx with hx|hx
    ·exact HXS5.out x hx
    ·rw[List.mem_singleton.1 hx];exact HIN5.out,HT5.out⟩
   case measure=>simp[intOf];omega
  ·obtain rfl:k=0:=by omega
   go_wp2_with fail
   go_ret
   exact⟨_,xs,q,rfl,HO.out,HXS.out,HXL.out,by omega,HRD.out,HT.out⟩
theorem cells_ne {w:World} {g g' T T':Nat} {cs cs':Array Value} (h:w.heap[g]? = some (.cells cs T (0,0))) (h':w.heap[g']? = some (.cells cs' T' (0,0))) (hT:T≠T'):g≠g':=by
 intro e;subst e;rw[h]at h';simp only[Option.some.injEq,Obj.cells.injEq]at h';exact hT h'.2.1
set_option maxRecDepth 20000 in
theorem zF8 {ops : Array Oper} {rest : List Oper} {a : Act} {w : World} {Q : Exit → Act → World → Prop} (d : Option Nat) (ty : Nat) (pos : String) (aft : Array Edge) (t : Nat)
  {x0 x1 x2 x3 x4 x5 x6:Value} (hx:a.tmps.getD t undef=.agg #[x0,x1,x2,x3,x4,x5,x6]) (h1:(#[x0,x1,x2,x3,x4,x5,x6]:Array Value).all (·.oneCell')=true)
  (h:wpList Tryz.prog ops Q rest (a.put d (.slice (some ⟨w.heap.size,0,none⟩) 1 1)) (w.alloc (.cells #[x0,x1,x2,x3,x4,x5,x6] 52))) :
  wpList Tryz.prog ops Q ({ dst:=d,op:=.buildSlice 53 1 #[(0,.tmp t)],type:=ty,pos:=pos,after:=aft,guard:=none }::rest) a w:=by
 refine wpList_plain rfl fun K hK=>?_
 have h2:=hK _ _ h;obtain⟨tmps,defers⟩:=a;simp only[Array.getD_eq_getD_getElem?]at hx;go_simp;exact h2
theorem one7r (rq:Rq) (da la:Option Addr) (dn dc ln lc:Nat):∀u∈rowQ (rq,.slice da dn dc,.slice la ln lc),u.oneCell' = true:=by
 intro u hu;simp only[rowQ,List.mem_cons,List.not_mem_nil,or_false]at hu;rcases hu with rfl|rfl|rfl|rfl|rfl|rfl|rfl <;> rfl
def RqFit (q:Rq):Prop:=Rq20 q∧(∀y∈q.data,I64 y)∧(∀y∈q.lanes,I64 y)∧I64 q.id∧I64 q.kind∧I64 q.addr∧I64 q.many
theorem loadVar_bus (w:World) (g:Nat) (a b c:Value) (h0:w.cell? ⟨g,0,none⟩=some a) (h1:w.cell? ⟨g,1,none⟩=some b) (h2:w.cell? ⟨g,2,none⟩=some c):(loadVar 27 ⟨g,0,none⟩).run Tryz.prog w=.ok (.agg #[a,b,c]) w:=by
 simp[loadVar,go_sem,h0,h1,h2]
structure BFit (ms:List MR) (lat:List Int) (pss:List (List Rq)):Prop where
 m:ms.length≤1048576
 m6:∀r∈ms,MR64 r
 l:lat.length≤1048576
 l6:∀x∈lat,I64 x
 p:pss.length≤1048576
 q:∀p∈pss,p.length≤1048576∧∀q∈p,RqFit q
theorem BFit.nil:BFit [] [] []:=⟨by simp,by simp,by simp,by simp,by simp,by simp⟩
structure RdO (w:World) (lo:Nat) (v:Value) (qs:List Rq) (vs:List (Value×Value)):Prop where
 len:vs.length=qs.length
 rows:Owns w lo 52 7 rowQ v (zipQ qs vs)
 d:∀j,j<qs.length→Owns w lo 3 1 rowI (vs.getD j default).1 (qs.getD j default).data
 l:∀j,j<qs.length→Owns w lo 3 1 rowI (vs.getD j default).2 (qs.getD j default).lanes
theorem RdO.kept {w w':World} {lo:Nat} {v:Value} {qs:List Rq} {vs:List (Value×Value)} (h:RdO w lo v qs vs) (hk:∀k,lo≤k→k<w.heap.size→w'.heap[k]? = w.heap[k]?):RdO w' lo v qs vs :=
  { h with rows := OwnR.kept h.rows fun k hk2 => hk k (OwnR.lt h.rows k hk2).1 (OwnR.lt h.rows k hk2).2
           d:=fun j hj=>OwnR.kept (h.d j hj) fun k hk2=>hk k (OwnR.lt (h.d j hj) k hk2).1 (OwnR.lt (h.d j hj) k hk2).2
           l:=fun j hj=>OwnR.kept (h.l j hj) fun k hk2=>hk k (OwnR.lt (h.l j hj) k hk2).1 (OwnR.lt (h.l j hj) k hk2).2 }
theorem RdO.below {w w':World} {lo:Nat} {v:Value} {qs:List Rq} {vs:List (Value×Value)} (h:RdO w lo v qs vs) (hb:Below w.heap.size w w'):RdO w' lo v qs vs:=h.kept fun k _ hk=>hb.block k hk
theorem RdO.rebase {w:World} {lo lo':Nat} {v:Value} {qs:List Rq} {vs:List (Value×Value)} (h:RdO w lo v qs vs) (hl:lo' ≤ lo):RdO w lo' v qs vs :=
 { h with rows:=OwnR.rebase h.rows hl,d:=fun j hj=>OwnR.rebase (h.d j hj) hl,l:=fun j hj=>OwnR.rebase (h.l j hj) hl }
theorem RdO.keptT {w w':World} {lo:Nat} {v:Value} {qs:List Rq} {vs:List (Value×Value)} (h:RdO w lo v qs vs) (hk:∀(k:Nat) (cs:Array Value) (T:TypeId),w.heap[k]? = some (Obj.cells cs T (0,0))→(T=52∨T=3)→w'.heap[k]? = w.heap[k]?):RdO w' lo v qs vs:=by
 have key:∀{α:Type} {f:α→List Value} {e sz:Nat} {u:Value} {xs:List α},Owns w lo e sz f u xs→(e=52∨e=3)→Owns w' lo e sz f u xs:=by
  intro α f e sz u xs ho he;refine OwnR.kept ho fun k hk2=>?_
  obtain⟨_,h2⟩:=ho;rcases h2 with⟨rfl,_⟩|⟨g,off,cap,cur,rfl,_,hh,_⟩
  ·simp[Value.ownBlock]at hk2
  ·simp only[Value.ownBlock,Option.some.injEq]at hk2;subst hk2;exact hk _ _ _ hh he
 exact { h with rows:=key h.rows (.inl rfl),d:=fun j hj=>key (h.d j hj) (.inr rfl),l:=fun j hj=>key (h.l j hj) (.inr rfl) }
theorem RdO.reqs {w:World} {lo:Nat} {v:Value} {qs:List Rq} {vs:List (Value×Value)} (h:RdO w lo v qs vs) (hn:qs.length≤1048576) (hq:∀q∈qs,RqFit q):Reqs w w.heap.size v qs:=by
 have hr:=h.rows;have hl1:(zipQ qs vs).length=qs.length:=zC4 h.len;have key:=reqs_of (B:=w.heap.size) (P:=(·<w.heap.size)) (hr.arrD (P:=(·<w.heap.size)) (fun k hk=>(OwnR.lt hr k hk).2) zI4 (by omega)) (fun y hy=>?_) (fun b hb=>hb)
 ·have e:(zipQ qs vs).map (·.1)=qs:=by
   unfold zipQ;rw[List.map_zipWith];apply List.ext_getElem
   ·simp[h.len]
   ·intro i h1 h2;simp
  rw[e]at key;exact key
 ·obtain⟨k,hk,rfl⟩:=List.mem_iff_getElem.1 hy;have hk':k<qs.length:=by omega
  have e:(zipQ qs vs)[k]=(qs.getD k default,vs.getD k default):=by
   rw[←zipQ_get h.len hk' zQ];simp[List.getD,hk]
  rw[e];obtain⟨⟨b1,b2⟩,i1,i2,i3⟩:=hq _ (zC2 (d:=default) hk');exact⟨(h.d k hk').intsD (fun b hb=>(OwnR.lt (h.d k hk') b hb).2) (by omega) i1,(h.l k hk').intsD (fun b hb=>(OwnR.lt (h.l k hk') b hb).2) (by omega) i2,i3⟩
theorem RdO.snoc {w w':World} {lo:Nat} {v v' d l:Value} {qs:List Rq} {vs:List (Value×Value)} {r:Rq} (h:RdO w lo v qs vs) (hr:Owns w' lo 52 7 rowQ v' (zipQ qs vs++[(r,d,l)])) (hk:∀(k:Nat) (cs:Array Value) (T:TypeId),w.heap[k]? = some (Obj.cells cs T (0,0))→T=3→w'.heap[k]? = w.heap[k]?) (hd:Owns w' lo 3 1 rowI d r.data) (hl:Owns w' lo 3 1 rowI l r.lanes):RdO w' lo v' (qs++[r]) (vs++[(d,l)]):=by
 have key:∀{u:Value} {xs:List Int},Owns w lo 3 1 rowI u xs→Owns w' lo 3 1 rowI u xs:=by
  intro u xs ho;refine OwnR.kept ho fun k hk2=>?_
  obtain⟨_,h2⟩:=ho;rcases h2 with⟨rfl,_⟩|⟨g,off,cap,cur,rfl,_,hh,_⟩
  ·simp[Value.ownBlock]at hk2
  ·simp only[Value.ownBlock,Option.some.injEq]at hk2;subst hk2;exact hk _ _ _ hh rfl
 refine⟨by simp[h.len],?_,fun j hj=>?_,fun j hj=>?_⟩
 ·have e:zipQ (qs++[r]) (vs++[(d,l)])=zipQ qs vs++[(r,d,l)]:=by
   unfold zipQ;rw[List.zipWith_append h.len.symm];rfl
  rw[e];exact hr
 ·by_cases e:j<qs.length
  ·rw[zC5 e,zC5 (by rw[h.len];exact e)];exact key (h.d j e)
  ·obtain rfl:j=qs.length:=by simp at hj;omega
   rw[zD8,←h.len,zD8];exact hd
 ·by_cases e:j<qs.length
  ·rw[zC5 e,zC5 (by rw[h.len];exact e)];exact key (h.l j e)
  ·obtain rfl:j=qs.length:=by simp at hj;omega
   rw[zD8,←h.len,zD8];exact hl
end Go.Proofs.YtgkdoehkmbhfiaaGreat
