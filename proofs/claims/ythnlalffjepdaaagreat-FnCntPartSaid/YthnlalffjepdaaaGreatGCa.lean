/- A bus of one's own is a bus that may be read; a bus in a box of its own out of what copyOf gives. -/
import Derived.Test.YthnlalffjepdaaaGreatGSf
import Derived.Test.YthnlalffjepdaaaGreatGMs
import Derived.Test.YthnlalffjepdaaaGreatGTl
import Derived.Test.YthnlalffjepdaaaGreatGTk
import Derived.Test.YthnlalffjepdaaaGreatGPk
import Derived.Test.YthnlalffjepdaaaGreatGClCJ
import Derived.Test.YthnlalffjepdaaaGreatGSd2
set_option linter.unusedVariables false
set_option linter.unusedSimpArgs false
set_option maxHeartbeats 16000000
namespace Go.Proofs.YthnlalffjepdaaaGreat
open Go.RowKit
def AbsP (st : Cy) (w : World) (e : Ending) (w' : World) : Prop := ∃ (y0 y1 y2 y3 y4 y5 : Value) (wj dj : List TJ), wj.Perm (waits st) ∧ wj.Pairwise kLe ∧ dj.Perm (dones st) ∧ dj.Pairwise kLe ∧ e = .returned (.agg #[y0, y1, y2, y3, y4, y5]) ∧
 Ints w' w'.heap.size y0 st.ws∧Ints w' w'.heap.size y1 st.hs∧Nats w' w'.heap.size y2 (nexts st 3)∧JobsV w' w'.heap.size y3 wj∧JobsV w' w'.heap.size y4 dj∧JobsV w' w'.heap.size y5 st.told∧Below w.heap.size w w'
set_option maxRecDepth 8000 in
theorem cycAbs_any {c : Cfg} {w : World} {B : Nat} {a0 a1 a2 a3 a4 : Value} {st : Cy} {P : List PS} {Q : List SS} (h : CyV w B a0 a1 a2 a3 a4 st P Q) (hB : B ≤ w.heap.size) (hg : Good c st) (hsm : SmallC st) :
  Calls Tryz.prog 52 #[.agg #[a0,a1,a2,a3,a4]] w (AbsP st w):=by
 obtain⟨pg,pgo,pgc,rfl,pc1,pc2,pgB,hpc⟩:=h.ps.at (by rw[h.lp];omega)
 obtain⟨tg,tp,tc,rfl,tc1,tc2,tgB,htc⟩:=h.ss.at (by rw[h.lq];omega)
 obtain⟨ya,yn,yb,rfl⟩:∃a n c,a0=.slice a n c:=by obtain⟨a,c,e,_⟩:=h.ws.1;exact⟨a,_,c,e⟩
 obtain⟨za,zn,zb,rfl⟩:∃a n c,a1=.slice a n c:=by obtain⟨a,c,e,_⟩:=h.hs.1;exact⟨a,_,c,e⟩
 obtain⟨ua,un,ub,rfl⟩:∃a n c,a4=.slice a n c:=by obtain⟨D,⟨a,c,e,_⟩,_⟩:=h.told;exact⟨a,_,c,e⟩
 rw[h.lp]at h pc1 hpc ⊢;rw[h.lq]at h tc1 htc ⊢;have HC:=hid h;have HG:=hid hg;have HSM:=hid hsm;have HPC:=hid hpc;have HTC:=hid htc;obtain⟨w2,hw2⟩:∃W,W=((w.alloc (.cells #[.slice ya yn yb,.slice za zn zb,.slice (some ⟨pg,pgo,none⟩) 3 pgc,.slice (some ⟨tg,tp,none⟩) 4 tc,.slice ua un ub] 46)).alloc (.cells #[.slice none 0 0,.slice none 0 0,.slice none 0 0,.slice none 0 0,.slice none 0 0,.slice none 0 0] 93)).alloc (.cells #[.slice ya yn yb,.slice za zn zb,.slice none 0 0,.slice none 0 0,.slice none 0 0,.slice ua un ub] 93):=⟨_,rfl⟩
 have hb2:Below w.heap.size w w2:=by rw[hw2];exact(((Below.refl _ _).alloc (Nat.le_refl _) _).alloc (by simp) _).alloc (by simp;omega) _
 have hz2:w2.heap.size=w.heap.size+3:=by rw[hw2];simp
 obtain⟨gX,hgX⟩:∃g,g=w.heap.size+1+1:=⟨_,rfl⟩
 obtain⟨gR,hgR⟩:∃g,g=w.heap.size+1:=⟨_,rfl⟩
 have HM := hid (show AbM w2 w2 gX (.slice ya yn yb) (.slice za zn zb) (.slice ua un ub) (.slice none 0 0) (.slice none 0 0) (.slice none 0 0) (nexts st 0) ((qWs st 0).map rowW) [] from
  ⟨by rw[hw2];exact zA8 _ _ (by rw[hgX];simp),Owns.zero,Owns.zero,Owns.zero,fun k hk=>by simp[Value.ownBlock]at hk,Below.refl _ _⟩)
 have HSR := hid (show w2.heap[w.heap.size]? = some (.cells #[.slice ya yn yb, .slice za zn zb, .slice (some ⟨pg, pgo, none⟩) 3 pgc, .slice (some ⟨tg, tp, none⟩) 4 tc, .slice ua un ub] 46 (0, 0)) by
  rw[hw2,((Below.refl _ _).alloc (Nat.le_refl _) _).block _ (by simp;omega),((Below.refl _ _).alloc (Nat.le_refl _) _).block _ (by simp)];exact zA8 _ _ rfl)
 have HRS := hid (show w2.heap[gR]? = some (.cells #[.slice none 0 0, .slice none 0 0, .slice none 0 0, .slice none 0 0, .slice none 0 0, .slice none 0 0] 93 (0, 0)) by
  rw[hw2,((Below.refl _ _).alloc (Nat.le_refl _) _).block _ (by rw[hgR];simp)];exact zA8 _ _ (by rw[hgR];simp))
 have HB2:=hid hb2;have HZ2:=hid hz2;obtain⟨s1,s2⟩:w2.cell? ⟨w.heap.size,1,none⟩=w2.cell? ⟨w.heap.size,1,none⟩∧w2.cell? ⟨w.heap.size,2,none⟩=some (.slice (some ⟨pg,pgo,none⟩) 3 pgc):=⟨rfl,by simp[World.cell?,HSR.out]⟩
 clear h hg hsm hpc htc hb2 hz2 s1
 go_enter Tryz.func52,Tryz.ntmps52
 go_upto_region 2 with fail
 rw[←hw2,←hgX,←hgR];have HGX:=hid hgX;have HGR:=hid hgR;clear hw2 hgX hgR
 go_wp2_with fail
 clear s2
 go_loopw [20] (fun i wr=>∃k:Nat,i=.int .i64 k∧k≤3∧∃va vw W,AbM w2 wr gX (.slice ya yn yb) (.slice za zn zb) (.slice ua un ub) va vw (.slice none 0 0) (nexts st k) W []∧W=(qWs st k).map rowW) (fun i _=>3 - (intOf i).toNat)
 case atStart=>exact⟨0,by go_num,Nat.zero_le _,_,_,_,HM.out,rfl⟩
 case round=>
  clear HM;obtain⟨k,rfl,hk,va,vw,W,hm,hW⟩:=hrel;have HM:=hid hm;have HWE:=hid hW;have hgX:=HGX.out;have hgR:=HGR.out;have hz2:=HZ2.out;have hXz:=hm.cells.2.2;by_cases hlt:k<3
  ·have hki:(k:Int)<3:=by omega
   have hold:∀b,b<B→∀o,wr.cell? ⟨b,o,none⟩=w.cell? ⟨b,o,none⟩:=fun b hb o=>by
    rw[hm.bl.cell (p:=⟨b,o,none⟩) (by show b<gX;omega),HB2.out.cell (p:=⟨b,o,none⟩) (by show b<w.heap.size;omega)]
   have hp5:∀j,j<4→wr.cell? ⟨pg,pgo+k * 4+j,none⟩=(rowPS (P.getD k default))[j]?:=fun j hj=>by rw[hold pg pgB];exact HPC.out k default hlt j hj
   have hpn:=(HC.out.pn k hlt).1;have hq:=HC.out.q k hlt;obtain⟨x,hx⟩:∃x,x=P.getD k default:=⟨_,rfl⟩
   rw[←hx]at hp5 hpn hq;obtain⟨nx,⟨qa,qn,qc⟩,⟨oa,on,oc⟩,la⟩:=x;have p0:=hp5 0 (by omega);have p1:=hp5 1 (by omega);have p2:=hp5 2 (by omega);have p3:=hp5 3 (by omega);simp only[rowPS,sl,List.getElem?_cons_zero,List.getElem?_cons_succ,Nat.add_zero]at p0 p1 p2 p3;simp only[sl]at hq hpn;obtain⟨ql,hql⟩:∃l,l=(st.ports k).queue.length:=⟨_,rfl⟩
   obtain⟨ao,cp,e,hqc1,hqc2,_,_,hqcell⟩:=hq;simp only[Value.slice.injEq,List.length_map]at e hqc1 hqcell;obtain⟨rfl,rfl,rfl⟩:=e;rw[←hql]at p1 hqc1 hqcell;have HQC:=hid hqcell;have HQL:=hid hql;have HPN:=hid hpn;clear hp5 hx hqcell hql hpn hm hW hgX hgR hz2 hXz hold
   go_upto_region 5 with fail
   clear p0 p1 p2 p3;obtain⟨W3,hW3⟩:∃W,W=wr.alloc (.cells #[.int .i64 (nx:Nat),.slice qa ql qc,.slice oa on oc,.int .i64 (la:Nat)] 52):=⟨_,rfl⟩
   obtain⟨gp,hgp⟩:∃g,g=wr.heap.size:=⟨_,rfl⟩
   rw[←hW3,←hgp];have hb3:Below wr.heap.size wr W3:=by rw[hW3];exact(Below.refl _ _).alloc (Nat.le_refl _) _
   have hpt:W3.heap[gp]? = some (.cells #[.int .i64 (nx:Nat),.slice qa ql qc,.slice oa on oc,.int .i64 (la:Nat)] 52 (0,0)):=by rw[hW3];exact zA8 _ _ hgp
   have zp:=zA2 hpt;have n0:W3.cell? ⟨gp,0,none⟩=some (.int .i64 (nx:Nat)):=by simp[World.cell?,hpt]
   have HPT:=hid hpt;have HM3:=hid (HM.out.below hb3);have hgpo:va.ownBlock≠some gp:=fun e=>by have:=(OwnR.lt HM.out.oa gp e).2;omega
   have hgpX:gp≠gX:=by have:=HM.out.cells.2.2;omega
   have HGPO:=hid hgpo;have HGPX:=hid hgpX;obtain⟨⟨x0,x1,x2,x3,x4,x5⟩,xf,xz⟩:=HM3.out.cells;obtain⟨va1,va2,hvs,_,_⟩:=HM3.out.oa.shape;rw[show(nexts st k).length=k by simp[nexts]]at hvs;subst hvs;have HXF:=hid xf;have HLK:=hid (show(nexts st k).length=k by simp[nexts]);have HL2:=hid (show(nexts st k++[nx]).length=k+1 by simp[nexts]);clear hW3 hb3 hpt hgpo hgpX xf;have hgp':=hid hgp;clear hgp
   go_upto_region 6 with(at_builtin;go_must (refine zC1 zJ5 rowN (fun _=>rfl) nx (rowN_one _) W3 rfl _ _ rfl (gX+1) _ _ (by rfl) HM3.out.oa _ (by rfl) (by rfl) (by rw[HLK.out];omega) (by rw[HLK.out];omega) (by have:=HM3.out.cells.2.2;omega) ?_);intro vn wn ho hsz hkeep hnew hbb;obtain⟨na,nc,hnv,_,_⟩:=ho.shape;rw[HL2.out]at hnv;subst hnv;have HO:=hid ho;have HBB:=hid hbb;have HON:=hid (show OneB _ _ W3 wn from⟨hsz,hkeep,fun k hk=>by rcases hnew with h1|⟨k2,h1,h2⟩;(· exact .inl (h1▸hk));(· rw[h2]at hk;cases hk;exact .inr h1)⟩);have HKP:=hid hkeep;have HSZ:=hid hsz;clear ho hsz hkeep hnew hbb;have x2:=(show wn.cell? ⟨gX,2,none⟩=_ from by have:=HKP.out gX HM3.out.cells.2.2 (AbM.gap HM3.out.oa);simp[World.cell?,this,HM3.out.box];rfl);have f2:wn.frozen? ⟨gX,2,none⟩=false:=(by have:=HKP.out gX HM3.out.cells.2.2 (AbM.gap HM3.out.oa);simp[World.frozen?,this,HM3.out.box]))
   clear x0 x1 x2 x3 x4 x5;have HM4:=hid (HM3.out.setA HO.out HON.out HBB.out);obtain⟨w4,hw4⟩:∃W,W=wn.setCell ⟨gX,2,none⟩ (.slice na (k+1) nc):=⟨_,rfl⟩
   rw[←hw4]at HM4;rw[←hw4];have m1:w4.cell? ⟨gp,1,none⟩=some (.slice qa ql qc):=by
    rw[hw4,World.cell?_setCell_far _ _ _ _ (by show gX≠gp;exact Ne.symm HGPX.out)];have:=HKP.out gp zp HGPO.out;simp[World.cell?,this,HPT.out]
   clear hw4
   go_wp2_with fail
   clear m1 f2 x2
   go_loopw [35] (fun i wr=>∃m:Nat,i=.int .i64 m∧m≤ql∧∃va vw W,AbM w2 wr gX (.slice ya yn yb) (.slice za zn zb) (.slice ua un ub) va vw (.slice none 0 0) (nexts st (k+1)) W []∧W=(qWs st k++(qW st k).take m).map rowW) (fun i _=>ql - (intOf i).toNat)
   case atStart=>exact⟨0,by go_num,Nat.zero_le _,_,_,W,by rw[nexts_succ,←HPN.out];exact HM4.out,by rw[HWE.out];simp⟩
   case round=>
    clear HM HM3 HM4 HO HBB HON HKP HSZ HPT HGPO HGPX HWE hgp' HLK HL2 HXF zp;obtain⟨m,rfl,hm,va,vw,W,hM,hW⟩:=hrel;have HM:=hid hM;have HWE:=hid hW;by_cases hlt2:m<ql
    ·have hmi:(m:Int)<(ql:Int):=by omega
     obtain⟨qb,qo,rfl,hqB,hqcell⟩:=HQC.out (by omega);have hgX:=HGX.out;have hml:m<(st.ports k).queue.length:=by rw[←HQL.out];exact hlt2
     obtain⟨n,hn⟩:∃n,n=(st.ports k).queue.getD m 0:=⟨_,rfl⟩
     have qk:wr.cell? ⟨qb,qo+m,none⟩=some (.int .i64 (n:Nat)):=by
      rw[hM.bl.cell (p:=⟨qb,_,none⟩) (by show qb<gX;omega),HB2.out.cell (p:=⟨qb,_,none⟩) (by show qb<w.heap.size;omega)];have:=hqcell m hlt2 0 (by omega);simp only[Nat.mul_one,Nat.add_zero]at this;rw[this,hn];simp[List.getD,hml,rowN]
     have HN:=hid hn
     have HTK := hid (show (qW st k).take (m + 1) = (qW st k).take m ++ [⟨k, n, noRsp⟩] by
      rw[List.take_add_one];have:(qW st k)[m]? = some ⟨k,n,noRsp⟩:=by unfold qW;rw[List.getElem?_map,List.getElem?_eq_getElem hml,hn];simp[List.getD,hml]
      rw[this];rfl)
     have HLW := hid (show W.length ≤ 20 by
      have h1:=qWs_len HG.out (k:=k) (by omega);have h2:(qW st k).length≤2:=by unfold qW;rw[List.length_map];exact(HG.out.p k hlt).q2
      rw[HWE.out];simp only[List.length_map,List.length_append,List.length_take];omega)
     obtain⟨⟨x0,x1,x2,x3,x4,x5⟩,xf,xz⟩:=hM.cells;obtain⟨vw1,vw2,hvs,_,_⟩:=hM.ow.shape;subst hvs;clear hM hW hqcell hn hgX hml x0 x1 x2 x4 x5 xf;obtain⟨wo,hwo⟩:∃W,W=wr:=⟨_,rfl⟩
     subst hwo
     go_wp2_with (at_builtin;go_must (refine zC1 elem_tj rowA (fun _=>rfl) (rowW ⟨k,n,noRsp⟩) (rowA_one _) wo rfl _ _ rfl (gX+1) _ _ (by rfl) HM.out.ow _ (by rfl) (by rfl) (by have:=HLW.out;omega) (by have:=HLW.out;omega) (by have:=HM.out.cells.2.2;omega) ?_);intro vn wn ho hsz hkeep hnew hbb;obtain⟨na,nc,hnv,_,_⟩:=ho.shape;rw[List.length_append,List.length_singleton]at hnv;subst hnv;have HO:=hid ho;have HBB:=hid hbb;have HON:=hid (show OneB _ _ wo wn from⟨hsz,hkeep,fun k hk=>by rcases hnew with h1|⟨k2,h1,h2⟩;(· exact .inl (h1▸hk));(· rw[h2]at hk;cases hk;exact .inr h1)⟩);have HKP:=hid hkeep;clear ho hsz hkeep hnew hbb;have x3:=(show wn.cell? ⟨gX,3,none⟩=_ from by have:=HKP.out gX HM.out.cells.2.2 (AbM.gap HM.out.ow);simp[World.cell?,this,HM.out.box];rfl);have f3:wn.frozen? ⟨gX,3,none⟩=false:=(by have:=HKP.out gX HM.out.cells.2.2 (AbM.gap HM.out.ow);simp[World.frozen?,this,HM.out.box]))
     have HM5:=hid (HM.out.setW HO.out HON.out HBB.out);obtain⟨w5,hw5⟩:∃W', W' = wn.setCell ⟨gX,3,none⟩ (.slice na (W.length+1) nc):=⟨_,rfl⟩
     rw[←hw5]at HM5;rw[←hw5];clear hw5
     go_roundw
     case rel=>exact⟨m+1,by go_num,by omega,_,_,_,HM5.out,by rw[HWE.out,HTK.out];simp[rowW]⟩
     case measure=>simp[intOf];omega
    ·obtain rfl:m=ql:=by omega
     go_wp2_with fail
     go_roundw
     case rel=>exact⟨k+1,by go_num,by omega,va,vw,W,HM.out,by rw[HWE.out,qWs_succ,List.take_of_length_le (by unfold qW;rw[List.length_map,←HQL.out];exact Nat.le_refl _)]⟩
     case measure=>simp[intOf];omega
  ·obtain rfl:k=3:=by omega
   rw[show(((3:Nat)):Int)=(3:Int) from rfl];have s2:wr.cell? ⟨w.heap.size,3,none⟩=some (.slice (some ⟨tg,tp,none⟩) 4 tc):=by
    rw[hm.bl.cell (p:=⟨w.heap.size,3,none⟩) (by show w.heap.size<gX;omega)];have:=HSR.out;simp[World.cell?,this]
   clear hm hW hgX hgR hz2
   go_wp2_with fail
   clear s2
   go_loopw [52] (fun i wr=>∃k:Nat,i=.int .i64 k∧k≤4∧∃va vw vd W D,AbM w2 wr gX (.slice ya yn yb) (.slice za zn zb) (.slice ua un ub) va vw vd (nexts st 3) W D∧W=(qWs st 3++pWs st k).map rowW∧D.map (·.1)=dWs st k∧∀x∈D,Ints w B (toA x).2 x.1.rsp.data) (fun i _=>4 - (intOf i).toNat)
   case atStart=>exact⟨0,by go_num,Nat.zero_le _,va,vw,_,W,[],HM.out,by rw[HWE.out];simp[pWs],rfl,fun x hx=>by cases hx⟩
   case round=>
    clear HM HWE;obtain⟨k,rfl,hk,va,vw,vd,W,D,hM,hW,hD,hDI⟩:=hrel;have HM:=hid hM;have HWE:=hid hW;have HDE:=hid hD;have HDI:=hid hDI;have hgX:=HGX.out;have hgR:=HGR.out;have hz2:=HZ2.out;have hXz:=hM.cells.2.2;by_cases hlt:k<4
    ·have hki:(k:Int)<4:=by omega
     have hold:∀b,b<B→∀o,wr.cell? ⟨b,o,none⟩=w.cell? ⟨b,o,none⟩:=fun b hb o=>by
      rw[hM.bl.cell (p:=⟨b,o,none⟩) (by show b<gX;omega),HB2.out.cell (p:=⟨b,o,none⟩) (by show b<w.heap.size;omega)]
     have hp5:∀j,j<3→wr.cell? ⟨tg,tp+k * 3+j,none⟩=(rowSS (Q.getD k default))[j]?:=fun j hj=>by rw[hold tg tgB];exact HTC.out k default hlt j hj
     have hpv:=HC.out.p k hlt;obtain⟨DJ,dj1,dj2,dj3⟩:=HC.out.d k hlt;obtain⟨x,hx⟩:∃x,x=Q.getD k default:=⟨_,rfl⟩
     rw[←hx]at hp5 hpv dj1;obtain⟨⟨qa,qn,qc⟩,⟨da,dn,dc⟩,la⟩:=x;have p0:=hp5 0 (by omega);have p1:=hp5 1 (by omega);have p2:=hp5 2 (by omega);simp only[rowSS,sl,List.getElem?_cons_zero,List.getElem?_cons_succ,Nat.add_zero]at p0 p1 p2;simp only[sl]at hpv dj1;obtain⟨ao,cp,e,hqc1,hqc2,_,_,hqcell⟩:=hpv.opened;simp only[Value.slice.injEq]at e;obtain⟨rfl,rfl,rfl⟩:=e;obtain⟨pl,hpl⟩:∃x,x=(st.slaves k).pipe.length:=⟨_,rfl⟩
     rw[←hpl]at p0 hqc1 hqcell;obtain⟨AD,hAD⟩:=exA DJ fun x hx=>by obtain⟨ao,cap,e,_⟩:=(dj3 x hx).1;exact⟨_,_,_,e⟩
     subst hAD;rw[List.map_map]at dj1 dj2;have hdn:dn=AD.length:=by obtain⟨_,_,e,_⟩:=dj1;simp only[Value.slice.injEq,List.length_map]at e;exact e.2.1
     subst hdn;obtain⟨dl,hdl⟩:∃x,x=AD.length:=⟨_,rfl⟩
     rw[←hdl]at p1 dj1;have HQC:=hid hqcell;have HPL:=hid hpl;have HDL:=hid hdl;have HAR:=hid (show Arr w B 5 (.slice da dl dc) (AD.map rowA) from dj1);have HDJ2:=hid (show AD.map (·.1)=(st.slaves k).done from dj2);have HDJ3:=hid (show ∀x∈AD,Ints w B (toA x).2 x.1.rsp.data from fun x hx=>dj3 (toA x) (List.mem_map.2 ⟨x,hx,rfl⟩));clear hp5 hx hqcell hpl hdl dj1 dj2 dj3 hM hW hD hDI hgX hgR hz2 hXz hold hpv
     go_upto_region 15 with fail
     clear p0 p1 p2;obtain⟨W3,hW3⟩:∃W,W=wr.alloc (.cells #[.slice qa pl qc,.slice da dl dc,.int .i64 (la:Nat)] 50):=⟨_,rfl⟩
     obtain⟨gv,hgv⟩:∃g,g=wr.heap.size:=⟨_,rfl⟩
     rw[←hW3,←hgv];have hb3:Below wr.heap.size wr W3:=by rw[hW3];exact(Below.refl _ _).alloc (Nat.le_refl _) _
     have hpt:W3.heap[gv]? = some (.cells #[.slice qa pl qc,.slice da dl dc,.int .i64 (la:Nat)] 50 (0,0)):=by rw[hW3];exact zA8 _ _ hgv
     have n0:W3.cell? ⟨gv,0,none⟩=some (.slice qa pl qc):=by simp[World.cell?,hpt]
     have HPT:=hid hpt;have HM3:=hid (HM.out.below hb3);have HGV:=hid (show vw.ownBlock≠some gv from fun e=>by have:=(OwnR.lt HM.out.ow gv e).2;omega);have HGD:=hid (show vd.ownBlock≠some gv from fun e=>by have:=(OwnR.lt HM.out.od gv e).2;omega);have HGVX:=hid (show gv≠gX by have:=HM.out.cells.2.2;omega);clear hW3 hb3 hpt hgv
     go_wp2_with fail
     clear n0
     go_loopw [59] (fun i wr=>∃m:Nat,i=.int .i64 m∧m≤pl∧∃vw W,AbM w2 wr gX (.slice ya yn yb) (.slice za zn zb) (.slice ua un ub) va vw vd (nexts st 3) W D∧W=(qWs st 3++(pWs st k++(pW st k).take m)).map rowW∧wr.heap[gv]? = some (.cells #[.slice qa pl qc,.slice da dl dc,.int .i64 (la:Nat)] 50 (0,0))∧vw.ownBlock≠some gv) (fun i _=>pl - (intOf i).toNat)
     case atStart=>exact⟨0,by go_num,Nat.zero_le _,_,W,HM3.out,by rw[HWE.out];simp,HPT.out,HGV.out⟩
     case round=>
      clear HM HM3 HWE HPT HGV;obtain⟨m,rfl,hm,vw,W,hM,hW,hgv,hvg⟩:=hrel;have HM:=hid hM;have HWE:=hid hW;have HGV:=hid hgv;have HVG:=hid hvg;by_cases hlt2:m<pl
      ·have hmi:(m:Int)<(pl:Int):=by omega
       obtain⟨qb,qo,rfl,hqB,hqcell⟩:=HQC.out (by omega);have hgX:=HGX.out;have hml:m<(st.slaves k).pipe.length:=by rw[←HPL.out];exact hlt2
       obtain⟨y,hy⟩:∃y,y=(st.slaves k).pipe.getD m default:=⟨_,rfl⟩
       obtain⟨k0,k1,k2⟩:=hqcell m hlt2;rw[←HB2.out.cell (p:=⟨qb,_,none⟩) (by show qb<w.heap.size;omega),←hM.bl.cell (p:=⟨qb,_,none⟩) (by show qb<gX;omega),←hy]at k0 k1 k2;obtain⟨yw,yn', yf⟩:=y;simp only at k0 k1 k2
       have HTK := hid (show (pW st k).take (m + 1) = (pW st k).take m ++ [⟨yw, yn', noRsp⟩] by
        rw[List.take_add_one];have:(pW st k)[m]? = some ⟨yw,yn', noRsp⟩:=by
         unfold pW;rw[List.getElem?_map,List.getElem?_eq_getElem hml];have:(st.slaves k).pipe[m]=⟨yw,yn', yf⟩:=by rw[hy];simp[List.getD,hml]
         rw[this];rfl
        rw[this];rfl)
       have HLW := hid (show W.length ≤ 40 by
        have h1:=qWs_len HG.out (k:=3) (by omega);have h3:=pWs_len HG.out (k:=k) (by omega);have h2:(pW st k).length≤2:=by unfold pW;rw[List.length_map];exact(HG.out.s k hlt).p2
        rw[HWE.out];simp only[List.length_map,List.length_append,List.length_take];omega)
       have hXz:=hM.cells.2.2;clear hM hW hqcell hy hgX hml hgv hvg
       go_upto_region 18 with fail
       clear k0 k1 k2;obtain⟨W4,hW4⟩:∃W,W=wr.alloc (.cells #[.int .i64 (yw:Nat),.int .i64 (yn':Nat),.int .i64 (yf:Nat)] 75):=⟨_,rfl⟩
       obtain⟨gj,hgj⟩:∃g,g=wr.heap.size:=⟨_,rfl⟩
       rw[←hW4,←hgj];have hb4:Below wr.heap.size wr W4:=by rw[hW4];exact(Below.refl _ _).alloc (Nat.le_refl _) _
       have hjt:W4.heap[gj]? = some (.cells #[.int .i64 (yw:Nat),.int .i64 (yn':Nat),.int .i64 (yf:Nat)] 75 (0,0)):=by rw[hW4];exact zA8 _ _ hgj
       obtain⟨j0,j1⟩:W4.cell? ⟨gj,0,none⟩=some (.int .i64 (yw:Nat))∧W4.cell? ⟨gj,1,none⟩=some (.int .i64 (yn':Nat)):=by refine⟨?_,?_⟩ <;> simp[World.cell?,hjt]
       have zj:=zA2 hjt;have HM4:=hid (HM.out.below hb4);have HGV4:=hid ((hb4.block gv (zA2 HGV.out)).trans HGV.out);obtain⟨⟨x0,x1,x2,x3,x4,x5⟩,xf,xz⟩:=HM4.out.cells;obtain⟨vw1,vw2,hvs,_,_⟩:=HM4.out.ow.shape;subst hvs;clear hW4 hb4 hjt hgj x0 x1 x2 x4 x5 xf
       go_wp2_with (at_builtin;go_must (refine zC1 elem_tj rowA (fun _=>rfl) (rowW ⟨yw,yn', noRsp⟩) (rowA_one _) W4 rfl _ _ rfl (gX+1) _ _ (by rfl) HM4.out.ow _ (by rfl) (by rfl) (by have:=HLW.out;omega) (by have:=HLW.out;omega) (by have:=HM4.out.cells.2.2;omega) ?_);intro vn wn ho hsz hkeep hnew hbb;obtain⟨na,nc,hnv,_,_⟩:=ho.shape;rw[List.length_append,List.length_singleton]at hnv;subst hnv;have HO:=hid ho;have HBB:=hid hbb;have HON:=hid (show OneB _ _ W4 wn from⟨hsz,hkeep,fun k hk=>by rcases hnew with h1|⟨k2,h1,h2⟩;(· exact .inl (h1▸hk));(· rw[h2]at hk;cases hk;exact .inr h1)⟩);have HKP:=hid hkeep;clear ho hsz hkeep hnew hbb;have x3:=(show wn.cell? ⟨gX,3,none⟩=_ from by have:=HKP.out gX HM4.out.cells.2.2 (AbM.gap HM4.out.ow);simp[World.cell?,this,HM4.out.box];rfl);have f3:wn.frozen? ⟨gX,3,none⟩=false:=(by have:=HKP.out gX HM4.out.cells.2.2 (AbM.gap HM4.out.ow);simp[World.frozen?,this,HM4.out.box]))
       have HM5:=hid (HM4.out.setW HO.out HON.out HBB.out);have HGV5:=hid (show(wn.setCell ⟨gX,3,none⟩ (.slice na (W.length+1) nc)).heap[gv]? = _ from((Below.heap_setCell _ _ _ _ (show gv≠gX from HGVX.out)).trans (HKP.out gv (zA2 HGV4.out) HVG.out)).trans HGV4.out)
       have HVG5 := hid (show (Value.slice na (W.length + 1) nc).ownBlock ≠ some gv from fun e => by
        rcases HON.out.2.2 gv e with h1|h1
        ·exact HVG.out h1
        ·have:=zA2 HGV4.out;omega)
       obtain⟨w5,hw5⟩:∃W', W' = wn.setCell ⟨gX,3,none⟩ (.slice na (W.length+1) nc):=⟨_,rfl⟩
       rw[←hw5]at HM5 HGV5;rw[←hw5];clear hw5
       go_roundw
       case rel=>exact⟨m+1,by go_num,by omega,_,_,HM5.out,by rw[HWE.out,HTK.out];simp[rowW],HGV5.out,HVG5.out⟩
       case measure=>simp[intOf];omega
      ·obtain rfl:m=pl:=by omega
       have HWE2:=hid (show W=(qWs st 3++pWs st (k+1)).map rowW by rw[HWE.out,pWs_succ,List.take_of_length_le (by unfold pW;rw[List.length_map,←HPL.out];exact Nat.le_refl _)]);obtain⟨⟨x0,x1,x2,x3,x4,x5⟩,xf,xz⟩:=hM.cells;obtain⟨vd1,vd2,hvs,_,_⟩:=hM.od.shape;subst hvs;have v1:wr.cell? ⟨gv,1,none⟩=some (.slice da dl dc):=by simp[World.cell?,hgv]
       have zgv:=zA2 hgv;have hgX:=HGX.out;have HARR:=hid (show Arr wr B 5 (.slice da dl dc) (AD.map rowA) from(HAR.out.below (HB2.out.mono hB)).below (hM.bl.mono (by omega)))
       have HLD := hid (show D.length + AD.length ≤ 40 by
        have h1:=dWs_len HG.out (k:=k) (by omega);have h2:=(HG.out.s k hlt).d2;have h3:D.length=(dWs st k).length:=by rw[←HDE.out,List.length_map]
        have h4:AD.length=(st.slaves k).done.length:=by rw[←HDJ2.out,List.length_map]
        omega)
       clear hM hW hgv hvg x0 x1 x2 x3 x5 xf hgX;obtain⟨wo,hwo⟩:∃W,W=wr:=⟨_,rfl⟩
       subst hwo
       go_wp2_with (at_builtin;go_must (refine wpList_catL elem_tj rowA (fun _=>rfl) _ rfl _ _ rfl (gX+1) _ _ (by rfl) HM.out.od (.slice da dl dc) AD B (by rfl) HARR.out (fun y _=>rowA_one y) (by have:=HLD.out;omega) (by have:=HLD.out;omega) (by have:=HM.out.cells.2.2;omega) ?_);intro vn wn ho hbb hkeep hnew;obtain⟨na,nc,hnv,_,_⟩:=ho.shape;rw[List.length_append]at hnv;subst hnv;have HO:=hid ho;have HBB:=hid hbb;have HON:=hid (show OneB _ _ wo wn from⟨hbb.size,fun b hb hne=>hkeep b hb (fun e=>hne e.symm),hnew⟩);clear ho hbb hnew;have x4:=(show wn.cell? ⟨gX,4,none⟩=_ from by have:=HON.out.2.1 gX HM.out.cells.2.2 (AbM.gap HM.out.od);simp[World.cell?,this,HM.out.box];rfl);have f4:wn.frozen? ⟨gX,4,none⟩=false:=(by have:=HON.out.2.1 gX HM.out.cells.2.2 (AbM.gap HM.out.od);simp[World.frozen?,this,HM.out.box]);clear hkeep)
       have HM5:=hid (HM.out.setD HO.out HON.out HBB.out);obtain⟨w5,hw5⟩:∃W', W' = wn.setCell ⟨gX,4,none⟩ (.slice na (D.length+AD.length) nc):=⟨_,rfl⟩
       rw[←hw5]at HM5;rw[←hw5];clear hw5
       go_roundw
       case rel=>
        refine⟨k+1,by go_num,by omega,va,vw,_,W,D++AD,HM5.out,HWE2.out,?_,fun x hx=>?_⟩
        ·rw[List.map_append,HDE.out,HDJ2.out,dWs_succ]
        ·rcases List.mem_append.1 hx with h1|h1
         ·exact HDI.out x h1
         ·exact HDJ3.out x h1
       case measure=>simp[intOf];omega
    ·obtain rfl:k=4:=by omega
     rw[show(((4:Nat)):Int)=(4:Int) from rfl];clear hgX hgR hz2 hXz hW hD hDI;obtain⟨⟨x0,x1,x2,x3,x4,x5⟩,xf,xz⟩:=hM.cells;obtain⟨vw1,vw2,hvs,_,_⟩:=hM.ow.shape;obtain⟨vd1,vd2,hvs2,_,_⟩:=hM.od.shape;obtain⟨va1,va2,hvs3,_,_⟩:=hM.oa.shape;rw[show(nexts st 3).length=3 by simp[nexts]]at hvs3;subst hvs hvs2 hvs3
     have HLW := hid (show W.length ≤ 19 by
      have h1:=qWs_len HG.out (k:=3) (by omega);have h3:=pWs_len HG.out (k:=4) (by omega);rw[HWE.out];simp only[List.length_map,List.length_append];omega)
     have HLD := hid (show D.length ≤ 19 by
      have h1:=dWs_len HG.out (k:=4) (by omega);have h3:D.length=(dWs st 4).length:=by rw[←HDE.out,List.length_map]
      omega)
     clear hM x0 x1 x2 x4 x5 xf;obtain⟨wo,hwo⟩:∃W,W=wr:=⟨_,rfl⟩
     subst hwo
     go_upto_region 23 with(go_at_call 96;go_loud ((with_reducible refine(sortJobs_any HM.out.ow HLW.out).mono ?_));rintro e w5 ⟨rfl,ho5,hg5⟩;have HM5:=hid (HM.out.sortW ho5 hg5);clear ho5 hg5;have x4:=HM5.out.cells.1.2.2.2.2.1)
     clear x3
     go_upto_region 24 with(go_at_call 96;go_loud ((with_reducible refine(sortJobs_any HM5.out.od HLD.out).mono ?_));rintro e w6 ⟨rfl,ho6,hg6⟩;have HM6:=hid (HM5.out.sortD ho6 hg6);clear ho6 hg6;obtain⟨y0,y1,y2,y3,y4,y5⟩:=HM6.out.cells.1)
     clear x4;have hgX:=HGX.out;have hgR:=HGR.out;have hz2:=HZ2.out;have hXz:=HM6.out.cells.2.2;have hB6:B≤w6.heap.size:=by omega
     have HBW:=hid (show Below B w w6 from(HB2.out.mono hB).trans (HM6.out.bl.mono (by omega)));obtain⟨wj,hwj⟩:∃l,l=(zK3 aLt W).map (·.1):=⟨_,rfl⟩
     obtain⟨dj,hdj⟩:∃l,l=(zK3 aLt D).map (·.1):=⟨_,rfl⟩
     have hWl:(zK3 aLt W).length=W.length:=(zE9 aLt W).length_eq;have hDl:(zK3 aLt D).length=D.length:=(zE9 aLt D).length_eq
     have HJ3 := hid (show JobsV w6 w6.heap.size (.slice vw1 W.length vw2) wj from ⟨(zK3 aLt W).map toA, by
       have:=Owns.arr HM6.out.ow zD8 (by have:=HLW.out;omega);rw[List.map_map];exact this,by rw[hwj,List.map_map];rfl,fun x hx=>by
       obtain⟨a,ha,rfl⟩:=List.mem_map.1 hx;have ha2:=(zE9 aLt W).mem_iff.1 ha;rw[HWE.out]at ha2;obtain⟨j,hj,rfl⟩:=List.mem_map.1 ha2
       rw [show (toA (rowW j)).1.rsp.data = [] from by
        have:j.rsp=noRsp:=waits_none st j (by unfold waits;exact hj);show j.rsp.data=[];rw[this];rfl]
       exact(IntsD.nil w6 (fun b=>b<w6.heap.size)).to fun _ h=>h⟩)
     have HJ4 := hid (show JobsV w6 w6.heap.size (.slice vd1 D.length vd2) dj from ⟨(zK3 aLt D).map toA, by
       have:=Owns.arr HM6.out.od zD8 (by have:=HLD.out;omega);rw[List.map_map];exact this,by rw[hdj,List.map_map];rfl,fun x hx=>by
       obtain⟨a,ha,rfl⟩:=List.mem_map.1 hx;exact((HDI.out a ((zE9 aLt D).mem_iff.1 ha)).below HBW.out).mono hB6⟩)
     have HJ5:=hid (show JobsV w6 w6.heap.size (.slice ua un ub) st.told from(HC.out.told.below HBW.out).mono hB6);have HN2:=hid (show Nats w6 w6.heap.size (.slice va1 3 va2) (nexts st 3) from Owns.arr HM6.out.oa (fun _=>rfl) (by simp[nexts]));have HI0:=hid ((HC.out.ws.below HBW.out).mono hB6);have HI1:=hid ((HC.out.hs.below HBW.out).mono hB6)
     have HPW := hid (show wj.Perm (waits st) ∧ wj.Pairwise kLe from ⟨by
       have h1:=(zE9 aLt W).map (fun x:TJA=>x.1);rw[←hwj,HWE.out,List.map_map]at h1;have h2:(qWs st 3++pWs st 4).map ((fun x:TJA=>x.1) ∘ rowW)=waits st:=by unfold waits;exact List.map_id' _
       rw[h2]at h1;exact h1,by rw[hwj,List.pairwise_map];exact sorted_sorted ordA W⟩)
     have HPD := hid (show dj.Perm (dones st) ∧ dj.Pairwise kLe from ⟨by
       have h1:=(zE9 aLt D).map (fun x:TJA=>x.1);rw[←hdj,HDE.out]at h1;exact h1,by rw[hdj,List.pairwise_map];exact sorted_sorted ordA D⟩)
     have HS3 := hid (show ShortJ wj from ⟨by rw [HPW.out.1.length_eq]; have := qWs_len HG.out (k := 3) (by omega); have := pWs_len HG.out (k := 4) (by omega); simp only [waits, List.length_append]; omega, fun j hj => by
       rw[waits_none st j (HPW.out.1.mem_iff.1 hj)];simp[noRsp]⟩)
     have HS4 := hid (show ShortJ dj from ⟨by rw [HPD.out.1.length_eq]; have := dWs_len HG.out (k := 4) (by omega); simp only [dones]; omega, fun j hj => by
       obtain⟨s,hs,hj2⟩:=dones_mem (HPD.out.1.mem_iff.1 hj);exact(HSM.out.d s hs).2 j hj2⟩)
     have HS5:=hid (show ShortJ st.told from HSM.out.told)
     have HRR := hid (show Bx w6 gR [vnil, vnil, vnil, vnil, vnil, vnil] from by
      have hh:=(HM6.out.bl.block gR (by omega)).trans HRS.out;exact⟨fun j hj=>by simp[World.cell?,hh],fun j hj=>by simp[World.frozen?,hh],by simp⟩)
     have hRz:gR<w6.heap.size:=by omega
     have HBF:=hid (HB2.out.trans (HM6.out.bl.mono (by omega)));have hRw:w.heap.size≤gR:=by omega
     clear hgX hgR hz2 hwj hdj hWl hDl
     go_wp2_with (go_at_call 98;go_loud ((with_reducible refine(tlmCopy_any HI0.out HI1.out HN2.out HJ3.out HJ4.out HJ5.out (Nat.le_refl _) HSM.out.ws HSM.out.hs (by simp[nexts]) HS3.out HS4.out HS5.out).mono ?_));rintro e w7 ⟨z0,z1,z2,z3,z4,z5,rfl,i0,i1,i2,i3,i4,i5,hb7⟩;obtain⟨c0,d0,e0,rfl⟩:=intsD_sl i0;obtain⟨c1,d1,e1,rfl⟩:=intsD_sl i1;obtain⟨c2,d2,e2,rfl⟩:=arrD_sl i2;obtain⟨c3,d3,e3,rfl⟩:=zH6 i3;obtain⟨c4,d4,e4,rfl⟩:=zH6 i4;obtain⟨c5,d5,e5,rfl⟩:=zH6 i5;obtain⟨⟨r0,r1,r2,r3,r4,r5⟩,f0,f1,f2,f3,f4,f5⟩:=(HRR.out.below hb7 hRz).six;have I0:=hid i0;have I1:=hid i1;have I2:=hid i2;have I3:=hid i3;have I4:=hid i4;have I5:=hid i5;have HB7:=hid hb7;clear i0 i1 i2 i3 i4 i5 hb7 y0 y1 y2 y3 y4 y5)
     have ht:=touch6 gR w7 (.slice c0 d0 e0) (.slice c1 d1 e1) (.slice c2 d2 e2) (.slice c3 d3 e3) (.slice c4 d4 e4) (.slice c5 d5 e5);refine bodyPost_ret (zA4 Tryz.results52 _ _ ⟨gR,0,none⟩ (.agg #[.slice c0 d0 e0,.slice c1 d1 e1,.slice c2 d2 e2,.slice c3 d3 e3,.slice c4 d4 e4,.slice c5 d5 e5]) rfl (loadVar_tlm _ _ _ _ _ _ _ _ (by simp[go_sem, *]) (by simp[go_sem, *]) (by simp[go_sem, *]) (by simp[go_sem, *]) (by simp[go_sem, *]) (by simp[go_sem, *]))) rfl ?_;exact⟨_,_,_,_,_,_,wj,dj,HPW.out.1,HPW.out.2,HPD.out.1,HPD.out.2,rfl,(I0.out.tcB ht hRz).to fun _ h=>h.2,(I1.out.tcB ht hRz).to fun _ h=>h.2,(I2.out.tcB ht hRz).to fun _ h=>h.2,(I3.out.tcB ht hRz).to,(I4.out.tcB ht hRz).to,(I5.out.tcB ht hRz).to,(HBF.out.trans (HB7.out.mono (by have:=HBF.out.size;omega))).trans (ht.below hRw (by have:=HBF.out.size;have:=HB7.out.size;omega))⟩
theorem rspOk_len {r:Rs} (h:rspOk r=true):r.data.length≤4:=by
 unfold rspOk at h;simp only[Bool.and_eq_true,decide_eq_true_eq]at h;exact h.1.2
theorem zK4 {c:Cfg} (hb:Bus c) {st:Cy} (hg:Good c st):SmallC st:=by
 have ha:=hg.atm;simp only[atmOk,memOk,Bool.and_eq_true,beq_iff_eq]at ha;have h12:∀w,w<3→(st.ports w).next≤12:=fun w hw=>Nat.le_trans (hg.p w hw).nx (hb.twelve hw)
 refine⟨by omega,by omega,⟨?_,fun j hj=>?_⟩,fun i hi=>?_,fun i hi=>?_,fun s hs=>?_,fun s hs=>⟨?_,fun j hj=>?_⟩⟩
 ·have h1:st.told.length≤(kAll st).length:=by unfold kAll kTold;rw[List.length_append,List.length_append,List.length_map];omega
  rw[hg.many hb]at h1;have:=h12 0 (by omega);have:=h12 1 (by omega);have:=h12 2 (by omega);omega
 ·have:=rspOk_len (hg.t j hj).2.1;omega
 ·have:=(hg.p i hi).q2;omega
 ·have:=(hg.p i hi).o4;omega
 ·have:=(hg.s s hs).p2;omega
 ·have:=(hg.s s hs).d2;omega
 ·have:=rspOk_len ((hg.s s hs).dr j hj).1;omega
def outsN (st:Cy) (k:Nat):Nat:=((List.range k).map fun i=>(st.ports i).out.length).sum
def heldN (st:Cy) (k:Nat):Nat:=((List.range k).map fun s=>(st.slaves s).pipe.length+(st.slaves s).done.length).sum
theorem outsN_succ (st:Cy) (k:Nat):outsN st (k+1)=outsN st k+(st.ports k).out.length:=by unfold outsN;rw[List.range_succ];simp
theorem heldN_succ (st:Cy) (k:Nat):heldN st (k+1)=heldN st k+((st.slaves k).pipe.length+(st.slaves k).done.length):=by unfold heldN;rw[List.range_succ];simp
theorem Good.even {c:Cfg} (hb:Bus c) {st:Cy} (hg:Good c st):heldN st 4=outsN st 3:=by
 have:=hg.sums hb;simp[heldN,outsN,List.range_succ];omega
theorem Bx.four {W:World} {H:Nat} {a b c d:Value} (h:Bx W H [a,b,c,d]):(W.cell? ⟨H,0,none⟩=some a∧W.cell? ⟨H,1,none⟩=some b∧W.cell? ⟨H,2,none⟩=some c∧W.cell? ⟨H,3,none⟩=some d)∧W.frozen? ⟨H,0,none⟩=false∧W.frozen? ⟨H,1,none⟩=false∧W.frozen? ⟨H,2,none⟩=false∧W.frozen? ⟨H,3,none⟩=false :=
 ⟨⟨h.c 0 (by simp),h.c 1 (by simp),h.c 2 (by simp),h.c 3 (by simp)⟩,h.f 0 (by simp),h.f 1 (by simp),h.f 2 (by simp),h.f 3 (by simp)⟩
theorem JobsV.len {w:World} {B:Nat} {a:Option Addr} {n c:Nat} {js:List TJ} (h:JobsV w B (.slice a n c) js):n=js.length:=by
 obtain⟨D,⟨_,_,e,_⟩,hD,_⟩:=h;simp only[Value.slice.injEq,List.length_map]at e;rw[e.2.1,←hD,List.length_map]
theorem Jbs.len {w:World} {B:Nat} {a:Option Addr} {n c:Nat} {js:List Jb} (h:Jbs w B (.slice a n c) js):n=js.length:=by
 obtain⟨_,_,e,_⟩:=h;simp only[Value.slice.injEq,List.length_map]at e;exact e.2.1
theorem Nats.len {w:World} {B:Nat} {a:Option Addr} {n c:Nat} {js:List Nat} (h:Nats w B (.slice a n c) js):n=js.length:=by
 obtain⟨_,_,e,_⟩:=h;simp only[Value.slice.injEq,List.length_map]at e;exact e.2.1
set_option maxRecDepth 8000 in
theorem cycOk_any {c : Cfg} (hbus : Bus c) {w : World} {B : Nat} {u : Value} (hc : BusV w B u c) {a0 a1 a2 a3 a4 : Value} {st : Cy} {P : List PS} {Q : List SS} (h : CyV w B a0 a1 a2 a3 a4 st P Q) (hB : B ≤ w.heap.size) (hg : Good c st) :
  Calls Tryz.prog 30 #[u,.agg #[a0,a1,a2,a3,a4]] w fun e w' => e=.returned (.bool true)∧Below w.heap.size w w':=by
 obtain⟨mv,lb,lo,lc,pb,po,pc,QQ,K,rfl,⟨ma,mn,mk,rfl⟩,_,_,_,_,_,_⟩:=hc.opened hbus;obtain⟨pg,pgo,pgc,rfl,pc1,pc2,pgB,hpc⟩:=h.ps.at (by rw[h.lp];omega)
 obtain⟨tg,tp,tc,rfl,tc1,tc2,tgB,htc⟩:=h.ss.at (by rw[h.lq];omega)
 obtain⟨ya,yb,rfl⟩:∃a c,a0=.slice a st.ws.length c:=by obtain⟨a,c,e,_⟩:=h.ws.1;exact⟨a,c,by simpa using e⟩
 obtain⟨za,zb,rfl⟩:∃a c,a1=.slice a st.hs.length c:=by obtain⟨a,c,e,_⟩:=h.hs.1;exact⟨a,c,by simpa using e⟩
 obtain⟨ua,un,ub,rfl⟩:∃a n c,a4=.slice a n c:=by obtain⟨D,⟨a,c,e,_⟩,_⟩:=h.told;exact⟨a,_,c,e⟩
 rw[h.lp]at h pc1 hpc ⊢;rw[h.lq]at h tc1 htc ⊢;have HC:=hid h;have HG:=hid hg;have HPC:=hid hpc;have HTC:=hid htc;have HBV:=hid hc;obtain⟨yn,hyn⟩:∃x,x=st.ws.length:=⟨_,rfl⟩
 obtain⟨zn,hzn⟩:∃x,x=st.hs.length:=⟨_,rfl⟩
 rw[←hyn,←hzn]at HC ⊢;have HYN:=hid hyn;have HZN:=hid hzn
 have HBO := hid (fun (W : World) (hW : Below w.heap.size w W) => (show Calls Tryz.prog 25 #[.agg #[.slice ma mn mk, .slice (some ⟨lb, lo, none⟩) 4 lc, .slice (some ⟨pb, po, none⟩) 3 pc]] W fun e w' => e = .returned (.bool true) ∧ Below W.heap.size W w' from
  busOk_good hbus (HBV.out.below (hW.mono hB)) (Nat.le_trans hB hW.size)))
 have HAT := hid (fun (W : World) (hW : Below w.heap.size w W) => (show Calls Tryz.prog 79 #[.agg #[.slice ya yn yb, .slice za zn zb]] W fun e w' => e = .returned (.bool true) ∧ Below W.heap.size W w' from by
  have:=implAtmOk_any (.agg #[.slice ya yn yb,.slice za zn zb]) st.ws st.hs B W ⟨_,_,rfl,HC.out.ws.below (hW.mono hB),HC.out.hs.below (hW.mono hB)⟩ (Nat.le_trans hB hW.size);rw[HG.out.atm]at this;exact this))
 have HSL := hid (fun (W : World) (hW : Below w.heap.size w W) (s : Nat) (hs : s < 4) => (show Calls Tryz.prog 81 #[.agg #[.slice ma mn mk, .slice (some ⟨lb, lo, none⟩) 4 lc, .slice (some ⟨pb, po, none⟩) 3 pc], .agg #[.slice ya yn yb, .slice za zn zb, .slice (some ⟨pg, pgo, none⟩) 3 pgc, .slice (some ⟨tg, tp, none⟩) 4 tc, .slice ua un ub], .int .i64 s] W fun e w' => e = .returned (.bool true) ∧ Below W.heap.size W w' from
  slaveOk_any hbus (HBV.out.below (hW.mono hB)) (HC.out.below (hW.mono hB)) (Nat.le_trans hB hW.size) HG.out hs))
 have HAB := hid (fun (W : World) (hW : Below w.heap.size w W) => (show Calls Tryz.prog 52 #[.agg #[.slice ya yn yb, .slice za zn zb, .slice (some ⟨pg, pgo, none⟩) 3 pgc, .slice (some ⟨tg, tp, none⟩) 4 tc, .slice ua un ub]] W (AbsP st W) from
  cycAbs_any (HC.out.below (hW.mono hB)) (Nat.le_trans hB hW.size) HG.out (zK4 hbus HG.out)))
 obtain⟨w0,hw0⟩:∃W,W=(w.alloc (.cells #[.slice ma mn mk,.slice (some ⟨lb,lo,none⟩) 4 lc,.slice (some ⟨pb,po,none⟩) 3 pc] 27)).alloc (.cells #[.slice ya yn yb,.slice za zn zb,.slice (some ⟨pg,pgo,none⟩) 3 pgc,.slice (some ⟨tg,tp,none⟩) 4 tc,.slice ua un ub] 46):=⟨_,rfl⟩
 have hb0:Below w.heap.size w w0:=by rw[hw0];exact((Below.refl _ _).alloc (Nat.le_refl _) _).alloc (by simp) _
 have B1:=hid (show BusB w0 w.heap.size ma mn mk lb lo lc pb po pc by unfold BusB;rw[hw0,((Below.refl _ _).alloc (Nat.le_refl _) _).block _ (by simp)];exact zA8 _ _ rfl);obtain⟨gT,hgT⟩:∃g,g=w.heap.size+1:=⟨_,rfl⟩
 have HT := hid (show Bx w0 gT [.slice ya yn yb, .slice za zn zb, .slice (some ⟨pg, pgo, none⟩) 3 pgc, .slice (some ⟨tg, tp, none⟩) 4 tc, .slice ua un ub] by
  rw[hw0,hgT];have:=Bx.new (w.alloc (.cells #[.slice ma mn mk,.slice (some ⟨lb,lo,none⟩) 4 lc,.slice (some ⟨pb,po,none⟩) 3 pc] 27)) #[.slice ya yn yb,.slice za zn zb,.slice (some ⟨pg,pgo,none⟩) 3 pgc,.slice (some ⟨tg,tp,none⟩) 4 tc,.slice ua un ub] 46 (by simp);simpa using this)
 have HB0:=hid hb0;obtain⟨b0,b1,b2,bz⟩:=B1.out.cells;obtain⟨t0,t1,t2,t3,t4⟩:=HT.out.five.1;clear hc h hg hpc htc hyn hzn hb0
 go_enter Tryz.func30,Tryz.ntmps30
 go_upto_region 1 with fail
 rw[←hw0,←hgT];have HGT:=hid hgT;clear hw0 hgT
 go_upto_region 4 with (first
  |(go_at_call 25;go_loud ((with_reducible refine(HBO.out _ HB0.out).mono ?_));rintro e w1 ⟨rfl,hb1⟩;have HQ1:=hid hb1;have HB1:=hid (HB0.out.trans (hb1.mono HB0.out.size));have HT1:=hid (HT.out.below hb1 HT.out.lt);have BB1:=hid (B1.out.below hb1 (zA2 B1.out));clear hb1 t0 t1 t2 t3 t4 b0 b1 b2 bz;obtain⟨t0,t1,t2,t3,t4⟩:=HT1.out.five.1)
  |(go_at_call 79;go_loud ((with_reducible refine(HAT.out _ HB1.out).mono ?_));rintro e w2 ⟨rfl,hb2⟩;have HQ2:=hid (HQ1.out.trans (hb2.mono HQ1.out.size));have HB2:=hid (HB1.out.trans (hb2.mono HB1.out.size));have HT2:=hid (HT1.out.below hb2 HT1.out.lt);have BB2:=hid (BB1.out.below hb2 (zA2 BB1.out));clear hb2 t0 t1 t2 t3 t4;obtain⟨t0,t1,t2,t3,t4⟩:=HT2.out.five.1))
 clear t0 t1 t3 t4
 go_wp2_with fail
 clear t2
 go_loopw [5,35] (fun s i wr=>∃k:Nat,i=.int .i64 k∧k≤3∧s=.int .i64 (outsN st k:Nat)∧outsN st k≤4 * k∧Below w2.heap.size w2 wr) (fun _ i _=>3 - (intOf i).toNat)
 case atStart=>exact⟨0,by go_num,Nat.zero_le _,rfl,by simp[outsN],Below.refl _ _⟩
 case round=>
  obtain⟨k,rfl,hk,rfl,hsm,hbr⟩:=hrel;have HBR:=hid hbr;have HBW:=hid (HB2.out.trans (hbr.mono HB2.out.size));have HTR:=hid (HT2.out.below hbr HT2.out.lt);have BBR:=hid (BB2.out.below hbr (zA2 BB2.out));clear hbr;by_cases hlt:k<3
  ·have hki:(k:Int)<3:=by omega
   have hpn:=HC.out.pn k hlt;have hqv:=HC.out.q k hlt;have hov:=HC.out.o k hlt;have hp5:∀j,j<4→wr.cell? ⟨pg,pgo+k * 4+j,none⟩=(rowPS (P.getD k default))[j]?:=fun j hj=>by
    rw[HBW.out.cell (p:=⟨pg,_,none⟩) (by show pg<w.heap.size;omega)];exact HPC.out k default hlt j hj
   obtain⟨x,hx⟩:∃x,x=P.getD k default:=⟨_,rfl⟩
   rw[←hx]at hpn hqv hov hp5;obtain⟨nx,⟨qa,qn,qc⟩,⟨oa,on,oc⟩,la⟩:=x;have p0:=hp5 0 (by omega);have p1:=hp5 1 (by omega);have p2:=hp5 2 (by omega);have p3:=hp5 3 (by omega);simp only[rowPS,sl,List.getElem?_cons_zero,List.getElem?_cons_succ,Nat.add_zero]at p0 p1 p2 p3;simp only[sl]at hqv hov hpn;have hqn:=hqv.len;have hon:=hov.len
   have HPK := hid (fun (W : World) (hW : Below w.heap.size w W) => (show Calls Tryz.prog 80 #[.agg #[.slice ma mn mk, .slice (some ⟨lb, lo, none⟩) 4 lc, .slice (some ⟨pb, po, none⟩) 3 pc], .int .i64 k, .agg #[.int .i64 (nx : Nat), .slice qa qn qc, .slice oa on oc, .int .i64 (la : Nat)]] W fun e w' => e = .returned (.bool true) ∧ Below W.heap.size W w' from by
    have:=portOk_any hbus (HBV.out.below (hW.mono hB)) (Nat.le_trans hB hW.size) hlt (HG.out.p k hlt) (qa:=qa) (qc:=qc) (oa:=oa) (oc:=oc) (by rw[←hqn];exact hqv.below (hW.mono hB)) (by rw[←hon];exact hov.below (hW.mono hB));rw[←hpn.1,←hpn.2,←hqn,←hon]at this;exact this))
   have HON:=hid (show outsN st (k+1)=outsN st k+on by rw[outsN_succ,hon]);have ho4:on≤4:=by rw[hon];exact(HG.out.p k hlt).o4
   have H4:=hid (show outsN st (k+1)≤4 * (k+1) by rw[HON.out];omega);obtain⟨sm,hsm2⟩:∃x,x=outsN st k:=⟨_,rfl⟩
   rw[←hsm2]at hsm HON ⊢;obtain⟨sy,hsy⟩:∃y,y=sm+on:=⟨_,rfl⟩
   rw[←hsy]at HON;have ew:IntKind.i64.wrap ((sm:Int)+(on:Int))=(sy:Int):=by rw[IntKind.wrap_i64];omega
   clear hp5 hx hpn hqv hov hqn hon hsm2 ho4 hsy
   go_upto_region 7 with fail
   clear p0 p1 p2 p3;obtain⟨W3,hW3⟩:∃W,W=wr.alloc (.cells #[.int .i64 (nx:Nat),.slice qa qn qc,.slice oa on oc,.int .i64 (la:Nat)] 52):=⟨_,rfl⟩
   obtain⟨gp,hgp⟩:∃g,g=wr.heap.size:=⟨_,rfl⟩
   rw[←hW3,←hgp];have hb3:Below wr.heap.size wr W3:=by rw[hW3];exact(Below.refl _ _).alloc (Nat.le_refl _) _
   have hpt:Bx W3 gp [.int .i64 (nx:Nat),.slice qa qn qc,.slice oa on oc,.int .i64 (la:Nat)]:=by rw[hW3,hgp];exact Bx.new wr #[.int .i64 (nx:Nat),.slice qa qn qc,.slice oa on oc,.int .i64 (la:Nat)] 52 (by simp)
   have HPT:=hid hpt;have HB3:=hid hb3;have HBW3:=hid (HBW.out.trans (hb3.mono HBW.out.size));have BB3:=hid (BBR.out.below hb3 (zA2 BBR.out));obtain⟨b0,b1,b2,bz⟩:=BB3.out.cells;obtain⟨⟨n0,n1,n2,n3⟩,_⟩:=HPT.out.four;clear hW3 hgp hb3 hpt
   go_upto_region 9 with(go_at_call 80;go_loud ((with_reducible refine(HPK.out _ HBW3.out).mono ?_));rintro e w4 ⟨rfl,hb4⟩;have HB4:=hid hb4;have HPT4:=hid (HPT.out.below hb4 HPT.out.lt);clear hb4 n0 n1 n2 n3 b0 b1 b2 bz;obtain⟨⟨n0,n1,n2,n3⟩,_⟩:=HPT4.out.four)
   clear n0 n1 n3
   go_wp2_with fail
   go_roundw
   case rel=>exact⟨k+1,by go_num,by omega,by rw[HON.out],H4.out,(HBR.out.trans (HB3.out.mono HBR.out.size)).trans (HB4.out.mono (Nat.le_trans HBR.out.size HB3.out.size))⟩
   case measure=>simp[intOf];omega
  ·obtain rfl:k=3:=by omega
   rw[show(((3:Nat)):Int)=(3:Int) from rfl];obtain⟨so,hso⟩:∃x,x=outsN st 3:=⟨_,rfl⟩
   rw[←hso];have HSO:=hid hso;obtain⟨t0,t1,t2,t3,t4⟩:=HTR.out.five.1;clear hso hsm t0 t1 t2 t4
   go_wp2_with fail
   clear t3;obtain⟨wo,hwo⟩:∃W,W=wr:=⟨_,rfl⟩
   subst hwo
   go_loopw [6,54] (fun s i wr=>∃k:Nat,i=.int .i64 k∧k≤4∧s=.int .i64 (heldN st k:Nat)∧heldN st k≤4 * k∧Below wo.heap.size wo wr) (fun _ i _=>4 - (intOf i).toNat)
   case atStart=>exact⟨0,by go_num,Nat.zero_le _,rfl,by simp[heldN],Below.refl _ _⟩
   case round=>
    obtain⟨k,rfl,hk,rfl,hsm,hbr⟩:=hrel;have HBX:=hid (HBW.out.trans (hbr.mono HBW.out.size));have HTX:=hid (HTR.out.below hbr HTR.out.lt);have BBX:=hid (BBR.out.below hbr (zA2 BBR.out));have HBR2:=hid hbr;clear hbr;by_cases hlt:k<4
    ·have hki:(k:Int)<4:=by omega
     have hpv:=HC.out.p k hlt;have hdv:=HC.out.d k hlt;have hp5:∀j,j<3→wr.cell? ⟨tg,tp+k * 3+j,none⟩=(rowSS (Q.getD k default))[j]?:=fun j hj=>by
      rw[HBX.out.cell (p:=⟨tg,_,none⟩) (by show tg<w.heap.size;omega)];exact HTC.out k default hlt j hj
     obtain⟨x,hx⟩:∃x,x=Q.getD k default:=⟨_,rfl⟩
     rw[←hx]at hpv hdv hp5;obtain⟨⟨qa,qn,qc⟩,⟨da,dn,dc⟩,la⟩:=x;have p0:=hp5 0 (by omega);have p1:=hp5 1 (by omega);have p2:=hp5 2 (by omega);simp only[rowSS,sl,List.getElem?_cons_zero,List.getElem?_cons_succ,Nat.add_zero]at p0 p1 p2;simp only[sl]at hpv hdv;have hqn:=hpv.len;have hdn:=hdv.len;have q2:qn≤2:=by rw[hqn];exact(HG.out.s k hlt).p2
     have d2:dn≤2:=by rw[hdn];exact(HG.out.s k hlt).d2
     have HON:=hid (show heldN st (k+1)=heldN st k+(qn+dn) by rw[heldN_succ,hqn,hdn]);have H4:=hid (show heldN st (k+1)≤4 * (k+1) by rw[HON.out];omega);obtain⟨sm,hsm2⟩:∃x,x=heldN st k:=⟨_,rfl⟩
     rw[←hsm2]at hsm HON ⊢;obtain⟨hn,hhn⟩:∃y,y=qn+dn:=⟨_,rfl⟩
     rw[←hhn]at HON;obtain⟨sy,hsy⟩:∃y,y=sm+hn:=⟨_,rfl⟩
     rw[←hsy]at HON;have ew1:IntKind.i64.wrap ((qn:Int)+(dn:Int))=(hn:Int):=by rw[IntKind.wrap_i64];omega
     have ew:IntKind.i64.wrap ((sm:Int)+(hn:Int))=(sy:Int):=by rw[IntKind.wrap_i64];omega
     clear hp5 hx hpv hdv hqn hdn hsm2 q2 d2 hhn hsy;obtain⟨b0,b1,b2,bz⟩:=BBX.out.cells;obtain⟨t0,t1,t2,t3,t4⟩:=HTX.out.five.1
     go_upto_region 14 with fail
     clear p0 p1 p2 b0 b1 b2 bz t0 t1 t2 t3 t4;obtain⟨W3,hW3⟩:∃W,W=wr.alloc (.cells #[.slice qa qn qc,.slice da dn dc,.int .i64 (la:Nat)] 50):=⟨_,rfl⟩
     obtain⟨gp,hgp⟩:∃g,g=wr.heap.size:=⟨_,rfl⟩
     rw[←hW3,←hgp];have hb3:Below wr.heap.size wr W3:=by rw[hW3];exact(Below.refl _ _).alloc (Nat.le_refl _) _
     have hpt:Bx W3 gp [.slice qa qn qc,.slice da dn dc,.int .i64 (la:Nat)]:=by rw[hW3,hgp];exact Bx.new wr #[.slice qa qn qc,.slice da dn dc,.int .i64 (la:Nat)] 50 (by simp)
     have HPT:=hid hpt;have HB3:=hid hb3;have HBW3:=hid (HBX.out.trans (hb3.mono HBX.out.size));have BB3:=hid (BBX.out.below hb3 (zA2 BBX.out));have HT3:=hid (HTX.out.below hb3 HTX.out.lt);obtain⟨b0,b1,b2,bz⟩:=BB3.out.cells;obtain⟨t0,t1,t2,t3,t4⟩:=HT3.out.five.1;clear hW3 hgp hb3 hpt
     go_upto_region 16 with(go_at_call 81;go_loud ((with_reducible refine(HSL.out _ HBW3.out k hlt).mono ?_));rintro e w4 ⟨rfl,hb4⟩;have HB4:=hid hb4;have HPT4:=hid (HPT.out.below hb4 HPT.out.lt);clear hb4 b0 b1 b2 bz t0 t1 t2 t3 t4)
     obtain⟨⟨n0,n1,n2⟩,_⟩:=HPT4.out.three;clear n2
     go_wp2_with fail
     go_roundw
     case rel=>exact⟨k+1,by go_num,by omega,by rw[HON.out],H4.out,(HBR2.out.trans (HB3.out.mono HBR2.out.size)).trans (HB4.out.mono (Nat.le_trans HBR2.out.size HB3.out.size))⟩
     case measure=>simp[intOf];omega
    ·obtain rfl:k=4:=by omega
     have hev:heldN st 4=so:=by rw[HSO.out];exact Good.even hbus HG.out
     rw[show(((4:Nat)):Int)=(4:Int) from rfl,hev];obtain⟨b0,b1,b2,bz⟩:=BBX.out.cells;obtain⟨t0,t1,t2,t3,t4⟩:=HTX.out.five.1;have zt:=HTX.out.lt;clear hsm hev
     go_upto_region 18 with fail
     go_region_held3 (fun w' => w'.cell? ⟨w.heap.size, 0, none⟩ = some (.slice ma mn mk) ∧ w'.cell? ⟨w.heap.size, 1, none⟩ = some (.slice (some ⟨lb, lo, none⟩) 4 lc) ∧ w'.cell? ⟨w.heap.size, 2, none⟩ = some (.slice (some ⟨pb, po, none⟩) 3 pc) ∧ w'.cell? ⟨gT, 0, none⟩ = some (.slice ya yn yb) ∧ w'.cell? ⟨gT, 1, none⟩ = some (.slice za zn zb) ∧ w'.cell? ⟨gT, 2, none⟩ = some (.slice (some ⟨pg, pgo, none⟩) 3 pgc) ∧ w'.cell? ⟨gT, 3, none⟩ = some (.slice (some ⟨tg, tp, none⟩) 4 tc) ∧ w'.cell? ⟨gT, 4, none⟩ = some (.slice ua un ub))
      (first|exact s7|exact s6|go_keep)
      (first
       |(go_at_call 52;go_loud (with_reducible refine(HAB.out _ HBX.out.drew).mono ?_);rintro e w6 ⟨y0,y1,y2,y3,y4,y5,wj,dj,hw1,hw2,hd1,hd2,rfl,h0,h1,h2,h3,h4,h5,hb6⟩;have hb6':=(show Below wr.heap.size wr wr.drew from(Below.refl _ _).drew).trans hb6;have s6:w6.cell? ⟨w.heap.size,0,none⟩=some (.slice ma mn mk)∧w6.cell? ⟨w.heap.size,1,none⟩=some (.slice (some ⟨lb,lo,none⟩) 4 lc)∧w6.cell? ⟨w.heap.size,2,none⟩=some (.slice (some ⟨pb,po,none⟩) 3 pc)∧w6.cell? ⟨gT,0,none⟩=some (.slice ya yn yb)∧w6.cell? ⟨gT,1,none⟩=some (.slice za zn zb)∧w6.cell? ⟨gT,2,none⟩=some (.slice (some ⟨pg,pgo,none⟩) 3 pgc)∧w6.cell? ⟨gT,3,none⟩=some (.slice (some ⟨tg,tp,none⟩) 4 tc)∧w6.cell? ⟨gT,4,none⟩=some (.slice ua un ub):=⟨(hb6'.cell (p:=⟨w.heap.size,0,none⟩) bz).trans b0,(hb6'.cell (p:=⟨w.heap.size,1,none⟩) bz).trans b1,(hb6'.cell (p:=⟨w.heap.size,2,none⟩) bz).trans b2,(hb6'.cell (p:=⟨gT,0,none⟩) zt).trans t0,(hb6'.cell (p:=⟨gT,1,none⟩) zt).trans t1,(hb6'.cell (p:=⟨gT,2,none⟩) zt).trans t2,(hb6'.cell (p:=⟨gT,3,none⟩) zt).trans t3,(hb6'.cell (p:=⟨gT,4,none⟩) zt).trans t4⟩;have HB6:=hid hb6';have HTL:=hid (tlmAbs_any hbus (B:=w6.heap.size) ((HBV.out.below ((HBX.out.trans (hb6'.mono HBX.out.size)).mono hB)).mono (Nat.le_trans hB (Nat.le_trans HBX.out.size hb6'.size))) HG.out hw1 hw2 hd1 hd2 h0 h1 h2 h3 h4 h5 (Nat.le_refl _));have zt6:=Nat.lt_of_lt_of_le zt hb6'.size;have bz6:=Nat.lt_of_lt_of_le bz hb6'.size;clear hb6 hb6' hw1 hw2 hd1 hd2 h0 h1 h2 h3 h4 h5)
       |(go_at_call 82;go_loud (with_reducible refine(HTL.out).mono ?_);rintro e w7 ⟨rfl,hb7⟩;have s7:w7.cell? ⟨w.heap.size,0,none⟩=some (.slice ma mn mk)∧w7.cell? ⟨w.heap.size,1,none⟩=some (.slice (some ⟨lb,lo,none⟩) 4 lc)∧w7.cell? ⟨w.heap.size,2,none⟩=some (.slice (some ⟨pb,po,none⟩) 3 pc)∧w7.cell? ⟨gT,0,none⟩=some (.slice ya yn yb)∧w7.cell? ⟨gT,1,none⟩=some (.slice za zn zb)∧w7.cell? ⟨gT,2,none⟩=some (.slice (some ⟨pg,pgo,none⟩) 3 pgc)∧w7.cell? ⟨gT,3,none⟩=some (.slice (some ⟨tg,tp,none⟩) 4 tc)∧w7.cell? ⟨gT,4,none⟩=some (.slice ua un ub):=⟨(hb7.cell (p:=⟨w.heap.size,0,none⟩) bz6).trans s6.1,(hb7.cell (p:=⟨w.heap.size,1,none⟩) bz6).trans s6.2.1,(hb7.cell (p:=⟨w.heap.size,2,none⟩) bz6).trans s6.2.2.1,(hb7.cell (p:=⟨gT,0,none⟩) zt6).trans s6.2.2.2.1,(hb7.cell (p:=⟨gT,1,none⟩) zt6).trans s6.2.2.2.2.1,(hb7.cell (p:=⟨gT,2,none⟩) zt6).trans s6.2.2.2.2.2.1,(hb7.cell (p:=⟨gT,3,none⟩) zt6).trans s6.2.2.2.2.2.2.1,(hb7.cell (p:=⟨gT,4,none⟩) zt6).trans s6.2.2.2.2.2.2.2⟩;have HB7:=hid hb7;clear hb7))
     clear s6 s7
     go_wp2_with fail
     go_ret
     exact⟨rfl,(HBX.out.trans (HB6.out.mono HBX.out.size)).trans (HB7.out.mono (Nat.le_trans HBX.out.size HB6.out.size))⟩
theorem wordOk_i64 {x:Int} (h:zB3 x=true):I64 x:=by
 simp only[zB3,inB,Bool.and_eq_true,decide_eq_true_eq]at h
 constructor <;> omega
theorem atm_i64 {ws hs:List Int} (h:atmOk ws hs=true):(∀x∈ws,I64 x)∧∀x∈hs,I64 x:=by
 simp only[atmOk,memOk,Bool.and_eq_true,beq_iff_eq,List.all_eq_true]at h;refine⟨fun x hx=>wordOk_i64 (h.1.1.2 x hx),fun x hx=>?_⟩;have:=h.2 x hx;simp only[inB,Bool.and_eq_true,decide_eq_true_eq]at this
 constructor <;> omega
theorem cyV_raw {w : World} {base : Nat} {st : Cy} {ev : List Ev} {V : Nat → Value} {N : Nat → Nat} {C : Nat → List Value} {D : Nat → List TJV} (hr : Raw w base V N C) (hc : Cont st ev V N C D) (hd : ∀ κ, κ < 20 → ∀ x ∈ D κ, Ints w w.heap.size x.2 x.1.rsp.data) (hsm : SmallC st) (hws : ∀ x ∈ st.ws, I64 x) (hhs : ∀ x ∈ st.hs, I64 x) :
  ∃P Q,CyV w w.heap.size (V 0) (V 1) (V 2) (V 3) (V 4) st P Q:=by
 have hS:∃(A:Nat→Option Addr) (K:Nat→Nat),∀κ,κ<20→V κ=.slice (A κ) (N κ) (K κ):=by
  have:∀κ,∃(a:Option Addr) (k:Nat),κ<20→V κ=.slice a (N κ) k:=fun κ=>by
   by_cases h:κ<20
   ·obtain⟨a,k,e,_⟩:=(hr.own κ h).form;exact⟨a,k,fun _=>e⟩
   ·exact⟨none,0,fun h2=>absurd h2 h⟩
  exact⟨fun κ=>(this κ).choose,fun κ=>(this κ).choose_spec.choose,fun κ hκ=>(this κ).choose_spec.choose_spec hκ⟩
 obtain⟨A,K,hS⟩:=hS;have gP:∀i,i<3→((List.range 3).map fun i=>(⟨(st.ports i).next,(A (5+i),N (5+i),K (5+i)),(A (8+i),N (8+i),K (8+i)),(st.ports i).last⟩:PS)).getD i default=⟨(st.ports i).next,(A (5+i),N (5+i),K (5+i)),(A (8+i),N (8+i),K (8+i)),(st.ports i).last⟩:=fun i hi=>by simp[List.getD,hi]
 have gQ:∀i,i<4→((List.range 4).map fun i=>(⟨(A (11+i),N (11+i),K (11+i)),(A (15+i),N (15+i),K (15+i)),(st.slaves i).last⟩:SS)).getD i default=⟨(A (11+i),N (11+i),K (11+i)),(A (15+i),N (15+i),K (15+i)),(st.slaves i).last⟩:=fun i hi=>by simp[List.getD,hi]
 refine⟨(List.range 3).map fun i=>⟨(st.ports i).next,(A (5+i),N (5+i),K (5+i)),(A (8+i),N (8+i),K (8+i)),(st.ports i).last⟩,(List.range 4).map fun i=>⟨(A (11+i),N (11+i),K (11+i)),(A (15+i),N (15+i),K (15+i)),(st.slaves i).last⟩,?_,?_,?_,?_,?_,by simp,by simp,fun i hi=>?_,fun i hi=>?_,fun i hi=>?_,fun i hi=>?_,fun i hi=>?_,fun i hi=>?_⟩
 ·have h:=hr.own 0 (by omega);rw[hc.n0,hc.c0]at h;exact Owns.ints (e:=3) (base:=base) h (by have:=hsm.ws;omega) hws
 ·have h:=hr.own 1 (by omega);rw[hc.n1,hc.c1]at h;exact Owns.ints (e:=3) (base:=base) h (by have:=hsm.hs;omega) hhs
 ·have h:=hr.own 2 (by omega);rw[hc.n2]at h;refine OwnR.arr (sz:=4) h (by simp) (by omega) fun t ht j hj=>?_
  rw[hc.c2];have e:∀i,i<3→ptRow V (st.ports i) i=rowPS ⟨(st.ports i).next,(A (5+i),N (5+i),K (5+i)),(A (8+i),N (8+i),K (8+i)),(st.ports i).last⟩:=fun i hi=>by
   simp only[ptRow,rowPS,sl,hS (5+i) (by omega),hS (8+i) (by omega)]
  rw[e 0 (by omega),e 1 (by omega),e 2 (by omega)];rcases(show t=0∨t=1∨t=2 by omega)with rfl|rfl|rfl <;> rcases(show j=0∨j=1∨j=2∨j=3 by omega)with rfl|rfl|rfl|rfl <;> simp[rowPS,List.range_succ]
 ·have h:=hr.own 3 (by omega);rw[hc.n3]at h;refine OwnR.arr (sz:=3) h (by simp) (by omega) fun t ht j hj=>?_
  rw[hc.c3];have e:∀i,i<4→svRow V (st.slaves i) i=rowSS ⟨(A (11+i),N (11+i),K (11+i)),(A (15+i),N (15+i),K (15+i)),(st.slaves i).last⟩:=fun i hi=>by
   simp only[svRow,rowSS,sl,hS (11+i) (by omega),hS (15+i) (by omega)]
  rw[e 0 (by omega),e 1 (by omega),e 2 (by omega),e 3 (by omega)];rcases(show t=0∨t=1∨t=2∨t=3 by omega)with rfl|rfl|rfl|rfl <;> rcases(show j=0∨j=1∨j=2 by omega)with rfl|rfl|rfl <;> simp[rowSS,List.range_succ]
 ·have h:=hr.own 4 (by omega);have hl:(D 4).length=st.told.length:=by rw[←hc.t4,List.length_map]
  rw[hc.n4,hc.c4,←hl]at h;exact⟨D 4,Owns.arr (f:=tjRow) (e:=85) (base:=base) h (fun _=>rfl) (by have:=hsm.told.1;omega),hc.t4,hd 4 (by omega)⟩
 ·rw[gP i hi];exact⟨rfl,rfl⟩
 ·rw[gP i hi];have h:=hr.own (5+i) (by omega);rw[(ety_q hi).1,(ety_q hi).2,hc.nq i hi,hc.cq i hi]at h;have e:=hS (5+i) (by omega);show Nats w w.heap.size (.slice (A (5+i)) (N (5+i)) (K (5+i))) _;rw[←e];exact Owns.arr (f:=rowN) (e:=3) (base:=base) h (fun _=>rfl) (by have:=hsm.q i hi;omega)
 ·rw[gP i hi];have h:=hr.own (8+i) (by omega);rw[(ety_o hi).1,(ety_o hi).2,hc.no i hi,hc.co i hi]at h;have e:=hS (8+i) (by omega);show Jbs w w.heap.size (.slice (A (8+i)) (N (8+i)) (K (8+i))) _;rw[←e];exact Owns.arr (f:=jbRow) (e:=75) (base:=base) h (fun _=>rfl) (by have:=hsm.o i hi;omega)
 ·rw[gQ i hi]
 ·rw[gQ i hi];have h:=hr.own (11+i) (by omega);rw[(ety_p hi).1,(ety_p hi).2,hc.np i hi,hc.cp i hi]at h;have e:=hS (11+i) (by omega);show Jbs w w.heap.size (.slice (A (11+i)) (N (11+i)) (K (11+i))) _;rw[←e];exact Owns.arr (f:=jbRow) (e:=75) (base:=base) h (fun _=>rfl) (by have:=hsm.p i hi;omega)
 ·rw[gQ i hi];have h:=hr.own (15+i) (by omega);have hl:(D (15+i)).length=(st.slaves i).done.length:=by rw[←hc.td i hi,List.length_map]
  rw[(ety_d hi).1,(ety_d hi).2,hc.nd i hi,hc.cd i hi,←hl]at h;have e:=hS (15+i) (by omega);show JobsV w w.heap.size (.slice (A (15+i)) (N (15+i)) (K (15+i))) _;rw[←e];exact⟨D (15+i),Owns.arr (f:=tjRow) (e:=85) (base:=base) h (fun _=>rfl) (by have:=(hsm.d i hi).1;omega),hc.td i hi,hd (15+i) (by omega)⟩
theorem CyR.toV {c:Cfg} (hb:Bus c) {w:World} {base:Nat} {st:Cy} {V:Nat→Value} {N:Nat→Nat} {C:Nat→List Value} {D:Nat→List TJV} (h:CyR w base st V N C D) (hg:Good c st):∃P Q,CyV w w.heap.size (V 0) (V 1) (V 2) (V 3) (V 4) st P Q :=
 cyV_raw h.raw h.con (fun κ hκ x hx=>(h.dat κ hκ x hx).to fun b hb=>hb.2.1) (zK4 hb hg) (atm_i64 hg.atm).1 (atm_i64 hg.atm).2
theorem CyB.toV {c:Cfg} (hb:Bus c) {w:World} {base S:Nat} {X:Nat→Prop} {st:Cy} {V:Nat→Value} {N:Nat→Nat} {C:Nat→List Value} {D:Nat→List TJV} (h:CyB w base S X st V N C D) (hg:Good c st):∃P Q,CyV w w.heap.size (V 0) (V 1) (V 2) (V 3) (V 4) st P Q :=
 cyV_raw h.raw h.con (fun κ hκ x hx=>(h.dat κ hκ x hx).to fun b hb=>hb.1.1) (zK4 hb hg) (atm_i64 hg.atm).1 (atm_i64 hg.atm).2
theorem CyR.box {w w':World} {base S:Nat} {st:Cy} {V:Nat→Value} {N:Nat→Nat} {C:Nat→List Value} {D:Nat→List TJV} (h:CyR w base st V N C D) (hb:Below w.heap.size w w') (hS:w.heap.size≤S) (hs:w'.heap[S]? = some (.cells #[V 0,V 1,V 2,V 3,V 4] 46 (0,0))) (hbase:base≤w.heap.size):CyB w' base S (fun b=>base≤b) st V N C D:=by
 have h2:=h.below hb;refine⟨h2.raw,h2.con,h2.v19,hs,fun κ hκ e=>by have:=(h.raw.lt hκ e).2;omega,by omega,fun b hb2=>by have:=hb.size;omega,fun κ hκ x hx=>?_⟩;exact((h.dat κ hκ x hx).kept fun b hb2=>hb.block b hb2.2.1).weak fun b hb2=>⟨⟨Nat.lt_of_lt_of_le hb2.2.1 hb.size,hb2.2.2,by have:=hb2.2.1;omega⟩,hb2.1⟩
theorem CyB.cells {w:World} {base S:Nat} {X:Nat→Prop} {st:Cy} {V:Nat→Value} {N:Nat→Nat} {C:Nat→List Value} {D:Nat→List TJV} (h:CyB w base S X st V N C D):w.cell? ⟨S,0,none⟩=some (V 0)∧w.cell? ⟨S,1,none⟩=some (V 1)∧w.cell? ⟨S,2,none⟩=some (V 2)∧w.cell? ⟨S,3,none⟩=some (V 3)∧w.cell? ⟨S,4,none⟩=some (V 4)∧S<w.heap.size:=by
 refine⟨?_,?_,?_,?_,?_,zA2 h.bs⟩ <;> simp[World.cell?,h.bs]
end Go.Proofs.YthnlalffjepdaaaGreat
