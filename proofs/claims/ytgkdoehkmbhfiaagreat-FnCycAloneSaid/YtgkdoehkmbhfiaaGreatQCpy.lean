/- TlmState.copyOf: its drawn region 1 (by zA9). -/
import Derived.Test.YtgkdoehkmbhfiaaGreatQCp1
import Derived.Test.YtgkdoehkmbhfiaaGreatQDl
import Derived.Test.YtgkdoehkmbhfiaaGreatQRp0
import Derived.Test.YtgkdoehkmbhfiaaGreatQWrd
import Derived.Test.YtgkdoehkmbhfiaaGreatQLib
import Derived.Test.YtgkdoehkmbhfiaaGreatQFl
import Derived.BigGuardPart
import Derived.Deep.QuietTactic
import Derived.BigQuiet
set_option linter.unusedVariables false
set_option linter.unusedSimpArgs false
set_option maxHeartbeats 16000000
namespace Go.Proofs.YtgkdoehkmbhfiaaGreat
open Go.RowKit
structure SmallC (st:Cy):Prop where
 ws:st.ws.length≤1000
 hs:st.hs.length≤1000
 told:st.told.length≤1000∧∀j∈st.told,j.rsp.data.length≤1000
 q:∀i,i<3→(st.ports i).queue.length≤1000
 o:∀i,i<3→(st.ports i).out.length≤1000
 p:∀s,s<4→(st.slaves s).pipe.length≤1000
 d:∀s,s<4→(st.slaves s).done.length≤1000∧∀j∈(st.slaves s).done,j.rsp.data.length≤1000
theorem BoxC.ne {w:World} {g:Nat} {a b p d t:Value} (hB:BoxC w g a b p d t) {base e sz n:Nat} {v:Value} {xs:List Value} (ho:OwnR w base e sz v n xs) (hT:39≠e):v.ownBlock≠some g:=by
 intro hk;obtain⟨_,h2⟩:=ho;rcases h2 with⟨rfl,_⟩|⟨g', off,cap,cur,rfl,_,hh,_⟩
 ·simp[Value.ownBlock]at hk
 ·simp[Value.ownBlock]at hk;subst hk;unfold BoxC at hB;rw[hh]at hB;simp only[Option.some.injEq,Obj.cells.injEq]at hB;exact hT hB.2.1.symm
theorem Arr.at {w : World} {B sz : Nat} {v : Value} {α : Type} {f : α → List Value} {xs : List α} (h : Arr w B sz v (xs.map f)) (hn : xs.length ≠ 0) :
  ∃b off cap,v=.slice (some ⟨b,off,none⟩) xs.length cap∧xs.length≤cap∧cap≤9223372036854775807∧b<B∧∀t (d:α),t<xs.length→∀j,j<sz→w.cell? ⟨b,off+t * sz+j,none⟩=(f (xs.getD t d))[j]?:=by
 obtain⟨ao,cap,hv,h1,h2,h0,h9,h3⟩:=h;simp only[List.length_map]at hv h1 h0 h3;obtain⟨b,off,rfl,hlt,hc⟩:=h3 hn;refine⟨b,off,cap,hv,h1,h2,hlt,fun t d ht j hj=>?_⟩;rw[hc t ht j hj];simp[List.getD,ht]
theorem CyR.rebase {w:World} {base base':Nat} {st:Cy} {V:Nat→Value} {N:Nat→Nat} {C:Nat→List Value} {D:Nat→List TJV} (h:CyR w base st V N C D) (hb:base' ≤ base):CyR w base' st V N C D :=
 ⟨⟨fun κ hκ=>OwnR.rebase (h.raw.own κ hκ) hb,h.raw.ap⟩,h.con,h.v19,fun κ hκ x hx=>(h.dat κ hκ x hx).weak fun b h2=>⟨Nat.le_trans hb h2.1,h2.2⟩⟩
def CopP (st:Cy) (w:World) (e:Ending) (w':World):Prop:=∃V N C D,e=.returned (.agg #[V 0,V 1,V 2,V 3,V 4])∧CyR w' w.heap.size st V N C D∧Below w.heap.size w w'
set_option maxRecDepth 8000 in
theorem cycCopyV_any {w : World} {B : Nat} {a0 a1 a2 a3 a4 : Value} {st : Cy} {P : List PS} {Q : List SS} (h : CyV w B a0 a1 a2 a3 a4 st P Q) (hB : B ≤ w.heap.size) (hsm : SmallC st) :
  Calls Tryz.prog 45 #[.agg #[a0,a1,a2,a3,a4]] w (CopP st w):=by
 obtain⟨sg,so,sc,rfl,sc1,sc2,sg2,hsc⟩:=h.ps.at (by rw[h.lp];omega)
 obtain⟨tg,tp,tc,rfl,tc1,tc2,tg2,htc⟩:=h.ss.at (by rw[h.lq];omega)
 obtain⟨ya,yb,rfl⟩:∃a c,a0=.slice a st.ws.length c:=by obtain⟨a,c,e,_⟩:=h.ws.1;exact⟨a,c,by simpa using e⟩
 obtain⟨za,zb,rfl⟩:∃a c,a1=.slice a st.hs.length c:=by obtain⟨a,c,e,_⟩:=h.hs.1;exact⟨a,c,by simpa using e⟩
 obtain⟨ua,un,ub,rfl⟩:∃a n c,a4=.slice a n c:=by obtain⟨D,⟨a,c,e,_⟩,_⟩:=h.told;exact⟨a,_,c,e⟩
 rw[h.lp]at h sc1 hsc ⊢;rw[h.lq]at h tc1 htc ⊢;have HV:=hid h;have HSM:=hid hsm;have HSC:=hid hsc;have HTC:=hid htc;obtain⟨D0,hj1,hj2,hj3⟩:=h.told;have hd5:D0.length≤1000:=by have:=hsm.told.1;rw[←hj2,List.length_map]at this;exact this
 have hd6:∀x∈D0,x.1.rsp.data.length≤1000:=fun x hx=>hsm.told.2 x.1 (by rw[←hj2];exact List.mem_map.2 ⟨x,hx,rfl⟩)
 have HJ1:=hid hj1;have HJ2:=hid hj2;have HJ3:=hid hj3;have HD5:=hid hd5;have HD6:=hid hd6;clear h hsm hsc htc hj1 hj2 hj3 hd5 hd6
 go_enter Tryz.func45,Tryz.ntmps45
 go_upto_region 1 with fail
 obtain⟨W2,hW2⟩:∃W2,W2=(w.alloc (.cells #[.slice ya st.ws.length yb,.slice za st.hs.length zb,.slice (some ⟨sg,so,none⟩) 3 sc,.slice (some ⟨tg,tp,none⟩) 4 tc,.slice ua un ub] 39)).alloc (.cells #[.slice none 0 0,.slice none 0 0,.slice none 0 0,.slice none 0 0,.slice none 0 0] 39):=⟨_,rfl⟩
 have HB2:=hid (show Below w.heap.size w W2 by rw[hW2];exact(bx1 _ _).alloc (by simp) _);have HS:=hid (show Bx W2 w.heap.size [.slice ya st.ws.length yb,.slice za st.hs.length zb,.slice (some ⟨sg,so,none⟩) 3 sc,.slice (some ⟨tg,tp,none⟩) 4 tc,.slice ua un ub] by rw[hW2];exact(Bx.new w #[.slice ya st.ws.length yb,.slice za st.hs.length zb,.slice (some ⟨sg,so,none⟩) 3 sc,.slice (some ⟨tg,tp,none⟩) 4 tc,.slice ua un ub] _ (by simp)).below (bx1 _ _) (by simp));have HR:=hid (show Bx W2 (w.heap.size+1) [vnil,vnil,vnil,vnil,vnil] by rw[hW2];have:=Bx.new (w.alloc (.cells #[.slice ya st.ws.length yb,.slice za st.hs.length zb,.slice (some ⟨sg,so,none⟩) 3 sc,.slice (some ⟨tg,tp,none⟩) 4 tc,.slice ua un ub] 39)) #[vnil,vnil,vnil,vnil,vnil] 39 (by simp);simpa using this);rw[←hW2];have HZ:=hid (show W2.heap.size=w.heap.size+2 by rw[hW2];simp);clear hW2;have HV2:=hid ((HV.out.below (HB2.out.mono hB)).mono (show B≤W2.heap.size by have:=HB2.out.size;omega))
 go_cut [3] from 8 to 20 (fun u wd=>CpP u st.ws st.hs P Q st.told W2 wd)
 case first=>
  rename_i J K' hJ hK;exact cp1_region _ _ _ _ _ _ _ _ _ _ _ _ _ _ _ _ _ _ _ _ _ _ _ _ _ _ _ _ _ _ _ _ _ _ _ _ _ _ _ _ _ _ _ _ _ _ _ _ _ _ _ _ _ _ _ _ _ _ _ _ _ _ _ _ _ _ _ _ _ _ _ w.heap.size _ _ _ _ _ st.ws st.hs P Q st.told D0 W2 HS.out ⟨_,_,rfl,HV2.out.ws,HV2.out.hs⟩ HV2.out.ps HV2.out.ss ((HJ1.out.below (HB2.out.mono hB)).mono (by have:=HB2.out.size;omega)) HJ2.out (fun x hx=>((HJ3.out x hx).below (HB2.out.mono hB)).mono (by have:=HB2.out.size;omega)) (by have:=HSM.out.ws;omega) (by have:=HSM.out.hs;omega) (by rw[HV.out.lp];omega) (by rw[HV.out.lq];omega) HD5.out HD6.out (fun u3 u8 u9 u10 u11 u12 u13 u14 u15 u16 u17 u18 u19 u20 wd h=>hK _ _ (Met.intro (hJ _ _ ⟨u3,u8,u9,u10,u11,u12,u13,u14,u15,u16,u17,u18,u19,u20,h,rfl⟩)))
 case rest=>
  obtain⟨g,qa,qb,qp,qs,qt,m,D1,rfl,hg,hBx,hO,hm,ho,hD,hd,hl,hb⟩:=hcut;obtain⟨V,N,C,D,hC,rfl,rfl,rfl,rfl,rfl⟩:=CpM.start hO HV.out.lp HV.out.lq hm ho hD hd hl;obtain⟨ya2,yb2,e0⟩:∃a c,V 0=.slice a st.ws.length c:=by have:=(hC.raw.own 0 (by omega)).form;rw[hC.n0]at this;obtain⟨a,c,e,_⟩:=this;exact⟨a,c,e⟩
  obtain⟨za2,zb2,e1⟩:∃a c,V 1=.slice a st.hs.length c:=by have:=(hC.raw.own 1 (by omega)).form;rw[hC.n1]at this;obtain⟨a,c,e,_⟩:=this;exact⟨a,c,e⟩
  obtain⟨va2,vb2,e4⟩:∃a c,V 4=.slice a st.told.length c:=by have:=(hC.raw.own 4 (by omega)).form;rw[hC.n4]at this;obtain⟨a,c,e,_⟩:=this;exact⟨a,c,e⟩
  obtain⟨pg,po,pc,e2,pgb,pgz⟩:=hC.addr2;obtain⟨qg,qo,qc,e3,qgb,qgz⟩:=hC.addr3;have hgp:g≠pg:=fun e=>hBx.ne (hC.raw.own 2 (by omega)) (by decide) (by rw[e2,e];rfl)
  have hgq:g≠qg:=fun e=>hBx.ne (hC.raw.own 3 (by omega)) (by decide) (by rw[e3,e];rfl)
  rw[e0,e1,e2,e3,e4]at hBx;have HBx:=hid hBx;have HCx:=hid (show ∃V N C D,CpM wc W2.heap.size st P Q 0 0 V N C D∧V 0=.slice ya2 st.ws.length yb2∧V 1=.slice za2 st.hs.length zb2∧V 2=.slice (some ⟨pg,po,none⟩) 3 pc∧V 3=.slice (some ⟨qg,qo,none⟩) 4 qc∧V 4=.slice va2 st.told.length vb2 from⟨V,N,C,D,hC,e0,e1,e2,e3,e4⟩);have HBe:=hid (HB2.out.trans (hb.mono (by rw[HZ.out];omega)));have HSx:=hid (HS.out.below hb HS.out.lt);have HRx:=hid (HR.out.below hb HR.out.lt);have HGP:=hid hgp;have HGQ:=hid hgq;clear hBx hC hb e0 e1 e2 e3 e4 hO ho hD hd hl hgp hgq pgz qgz;obtain⟨⟨r0,r1,r2,r3,r4⟩,_⟩:=HSx.out.five
  go_wp2_with fail
  clear r0 r1 r2 r3 r4
  go_loopw [24] (fun i wr=>∃k:Nat,i=.int .i64 k∧k≤3∧BoxC wr g (.slice ya2 st.ws.length yb2) (.slice za2 st.hs.length zb2) (.slice (some ⟨pg,po,none⟩) 3 pc) (.slice (some ⟨qg,qo,none⟩) 4 qc) (.slice va2 st.told.length vb2)∧(∃V N C D,CpM wr W2.heap.size st P Q k 0 V N C D∧V 0=.slice ya2 st.ws.length yb2∧V 1=.slice za2 st.hs.length zb2∧V 2=.slice (some ⟨pg,po,none⟩) 3 pc∧V 3=.slice (some ⟨qg,qo,none⟩) 4 qc∧V 4=.slice va2 st.told.length vb2)∧Below w.heap.size w wr∧Bx wr w.heap.size [.slice ya st.ws.length yb,.slice za st.hs.length zb,.slice (some ⟨sg,so,none⟩) 3 sc,.slice (some ⟨tg,tp,none⟩) 4 tc,.slice ua un ub]∧Bx wr (w.heap.size+1) [vnil,vnil,vnil,vnil,vnil]) (fun i _=>3 - (intOf i).toNat)
  case atStart=>exact⟨0,rfl,by omega,HBx.out,HCx.out,HBe.out,HSx.out,HRx.out⟩
  case round=>
   clear HBx HCx HBe HSx HRx;obtain⟨k,rfl,hk3,hB1,⟨V,N,C,D,hC,e0,e1,e2,e3,e4⟩,hbl,hS,hR⟩:=hrel;have HBx:=hid hB1;have HCx:=hid hC;have HBe:=hid hbl;have HSx:=hid hS;have HRx:=hid hR;have HE:=hid (show V 0=.slice ya2 st.ws.length yb2∧V 1=.slice za2 st.hs.length zb2∧V 2=.slice (some ⟨pg,po,none⟩) 3 pc∧V 3=.slice (some ⟨qg,qo,none⟩) 4 qc∧V 4=.slice va2 st.told.length vb2 from⟨e0,e1,e2,e3,e4⟩);clear hB1 hC hbl hS hR e0 e1 e2 e3 e4;by_cases hlt:k<3
   ·obtain⟨x,hx⟩:∃x,x=P.getD k default:=⟨_,rfl⟩
    have hc:∀j,j<4→wr.cell? ⟨sg,so+k * 4+j,none⟩=(rowPS x)[j]?:=fun j hj=>by
     rw[hx,←HSC.out k default hlt j hj];exact HBe.out.cell (p:=⟨sg,_,none⟩) (Nat.lt_of_lt_of_le sg2 hB)
    have HX:=hid hx;clear hx;obtain⟨nx,⟨qa1,qn1,qc1⟩,⟨oa1,on1,oc1⟩,la⟩:=x;have c0:=hc 0 (by omega);have c1:=hc 1 (by omega);have c2:=hc 2 (by omega);have c3:=hc 3 (by omega);simp only[rowPS,sl,List.getElem?_cons_zero,List.getElem?_cons_succ,Nat.add_zero]at c0 c1 c2 c3;have hlti:(k:Int)<3:=by omega
    clear hc
    go_upto_region 5 with fail
    clear c0 c1 c2 c3;obtain⟨wo,hwo⟩:∃W,W=wr:=⟨_,rfl⟩
    subst hwo;obtain⟨W3,hW3⟩:∃W3,W3=wo.alloc (.cells #[.int .i64 (nx:Nat),.slice qa1 qn1 qc1,.slice oa1 on1 oc1,.int .i64 (la:Nat)] 48):=⟨_,rfl⟩
    rw[←hW3];have HB3:=hid (show Below wo.heap.size wo W3 by rw[hW3];exact bx1 _ _);have HE1:=hid (show W3.cell? ⟨wo.heap.size,1,none⟩=some (.slice qa1 qn1 qc1) by rw[hW3];simp[go_sem]);have HE2:=hid (show W3.cell? ⟨wo.heap.size,2,none⟩=some (.slice oa1 on1 oc1) by rw[hW3];simp[go_sem]);have HBy:=hid (HBx.out.below HB3.out HBx.out.lt);have HCy:=hid (HCx.out.below HB3.out);have HZ3:=hid (show W3.heap.size=wo.heap.size+1 by rw[hW3];simp);have HBl:=hid (HBe.out.trans (HB3.out.mono HBe.out.size));clear hW3;obtain⟨hv0,hv1,hv2,hv3,hv4⟩:=HE.out;obtain⟨pg', po', pc', e2', pgb', pgz'⟩:=HCx.out.addr2;rw[hv2]at e2';simp only[Value.slice.injEq,Option.some.injEq,Addr.mk.injEq]at e2';obtain⟨⟨rfl,rfl,_⟩,_,rfl⟩:=e2';have hO:=HCy.out.raw.own 2 (by omega);rw[HCy.out.n2,hv2]at hO;have hlen:(C 2).length=12:=hO.1;have hW2s:w.heap.size≤W2.heap.size:=HB2.out.size
    refine cp5_region _ _ _ _ _ _ _ _ _ _ _ _ _ _ _ _ _ _ _ _ _ _ _ _ _ _ _ _ _ _ _ _ _ _ _ _ _ _ _ _ _ _ _ _ _ _ _ _ _ _ _ _ _ _ _ _ _ _ _ _ _ _ _ _ _ _ _ _ _ g k wo.heap.size W2.heap.size pg po pc B (C 2) _ _ qa1 qn1 qc1 oa1 on1 oc1 (st.ports k).queue (st.ports k).out W3 HGP.out HBy.out.lt HBy.out.bx.five.1.2.2.1 (by have := HZ3.out; omega) (by omega) (by have := HBl.out.size; omega) hlt (by omega) (by have := HZ3.out; omega) hO (List.getElem?_eq_getElem (by rw [hlen]; omega)) (List.getElem?_eq_getElem (by rw [hlen]; omega)) HE1.out HE2.out
     (by have:=(HV.out.q k hlt).below (HBl.out.mono hB);rw[←HX.out]at this;exact this) (by have:=(HV.out.o k hlt).below (HBl.out.mono hB);rw[←HX.out]at this;exact this) (by have:=HSM.out.q k hlt;omega) (by have:=HSM.out.o k hlt;omega) ?_
    intro u29 u30 u31 u32 u33 u34 u35 u36 u37 u38 u39 u40 u41 u42 u43 u44 wc hcut;obtain⟨w5,hw5⟩:∃W,W=wc:=⟨_,rfl⟩
    subst hw5;obtain⟨V', N', C', hC', f0,f1,f2,f3,f4⟩:=HCy.out.port hlt hv2 (HV.out.pn k hlt) hcut (by have:=HBl.out.size;have:=HZ3.out;omega);obtain⟨uu,uv,_,_,_,_,hT⟩:=hcut;have HT:=hid hT;have HC':=hid hC';have HF:=hid (show V' 0=.slice ya2 st.ws.length yb2∧V' 1=.slice za2 st.hs.length zb2∧V' 2=.slice (some ⟨pg,po,none⟩) 3 pc∧V' 3=.slice (some ⟨qg,qo,none⟩) 4 qc∧V' 4=.slice va2 st.told.length vb2 from⟨f0.trans hv0,f1.trans hv1,f2.trans hv2,f3.trans hv3,f4.trans hv4⟩);clear hT hC' f0 f1 f2 f3 f4 hv0 hv1 hv2 hv3 hv4 hO hlen;unfold cp5A
    go_wp2_with fail
    go_roundw
    case rel=>
     have hs:=HZ3.out;have hw2:w.heap.size≤pg:=by omega
     refine⟨k+1,by go_num,by omega,HBy.out.touch HT.out HGP.out,⟨V', N', C', D,HC'.out,HF.out⟩,HBl.out.trans (HT.out.below hw2 HBl.out.size),?_,?_⟩
     ·exact(HSx.out.below HB3.out HSx.out.lt).kept (HT.out.block _ (by have:=HSx.out.lt;omega) (by have:=HZ.out;omega))
     ·exact(HRx.out.below HB3.out HRx.out.lt).kept (HT.out.block _ (by have:=HRx.out.lt;omega) (by have:=HZ.out;omega))
    case measure=>simp[intOf];omega
   ·obtain rfl:k=3:=by omega
    have HCx:=hid (show ∃V N C D,CpM wr W2.heap.size st P Q 3 0 V N C D∧V 0=.slice ya2 st.ws.length yb2∧V 1=.slice za2 st.hs.length zb2∧V 2=.slice (some ⟨pg,po,none⟩) 3 pc∧V 3=.slice (some ⟨qg,qo,none⟩) 4 qc∧V 4=.slice va2 st.told.length vb2 from⟨V,N,C,D,HCx.out,HE.out⟩);obtain⟨⟨r0,r1,r2,r3,r4⟩,_⟩:=HSx.out.five
    go_wp2_with fail
    clear r0 r1 r2 r3 r4
    go_loopw [49] (fun i wr=>∃k:Nat,i=.int .i64 k∧k≤4∧BoxC wr g (.slice ya2 st.ws.length yb2) (.slice za2 st.hs.length zb2) (.slice (some ⟨pg,po,none⟩) 3 pc) (.slice (some ⟨qg,qo,none⟩) 4 qc) (.slice va2 st.told.length vb2)∧(∃V N C D,CpM wr W2.heap.size st P Q 3 k V N C D∧V 0=.slice ya2 st.ws.length yb2∧V 1=.slice za2 st.hs.length zb2∧V 2=.slice (some ⟨pg,po,none⟩) 3 pc∧V 3=.slice (some ⟨qg,qo,none⟩) 4 qc∧V 4=.slice va2 st.told.length vb2)∧Below w.heap.size w wr∧Bx wr w.heap.size [.slice ya st.ws.length yb,.slice za st.hs.length zb,.slice (some ⟨sg,so,none⟩) 3 sc,.slice (some ⟨tg,tp,none⟩) 4 tc,.slice ua un ub]∧Bx wr (w.heap.size+1) [vnil,vnil,vnil,vnil,vnil]) (fun i _=>4 - (intOf i).toNat)
    case atStart=>exact⟨0,rfl,by omega,HBx.out,HCx.out,HBe.out,HSx.out,HRx.out⟩
    case round=>
     clear HBx HCx HBe HSx HRx HE;obtain⟨k,rfl,hk3,hB1,⟨V,N,C,D,hC,e0,e1,e2,e3,e4⟩,hbl,hS,hR⟩:=hrel;have HBx:=hid hB1;have HCx:=hid hC;have HBe:=hid hbl;have HSx:=hid hS;have HRx:=hid hR;have HE:=hid (show V 0=.slice ya2 st.ws.length yb2∧V 1=.slice za2 st.hs.length zb2∧V 2=.slice (some ⟨pg,po,none⟩) 3 pc∧V 3=.slice (some ⟨qg,qo,none⟩) 4 qc∧V 4=.slice va2 st.told.length vb2 from⟨e0,e1,e2,e3,e4⟩);clear hB1 hC hbl hS hR e0 e1 e2 e3 e4;by_cases hlt:k<4
     ·obtain⟨x,hx⟩:∃x,x=Q.getD k default:=⟨_,rfl⟩
      have hc:∀j,j<3→wr.cell? ⟨tg,tp+k * 3+j,none⟩=(rowSS x)[j]?:=fun j hj=>by
       rw[hx,←HTC.out k default hlt j hj];exact HBe.out.cell (p:=⟨tg,_,none⟩) (Nat.lt_of_lt_of_le tg2 hB)
      have HX:=hid hx;clear hx;obtain⟨⟨qa1,qn1,qc1⟩,⟨oa1,on1,oc1⟩,la⟩:=x;have c0:=hc 0 (by omega);have c1:=hc 1 (by omega);have c2:=hc 2 (by omega);simp only[rowSS,sl,List.getElem?_cons_zero,List.getElem?_cons_succ,Nat.add_zero]at c0 c1 c2;have hlti:(k:Int)<4:=by omega
      clear hc
      go_upto_region 10 with fail
      clear c0 c1 c2;obtain⟨wo,hwo⟩:∃W,W=wr:=⟨_,rfl⟩
      subst hwo;obtain⟨W3,hW3⟩:∃W3,W3=wo.alloc (.cells #[.slice qa1 qn1 qc1,.slice oa1 on1 oc1,.int .i64 (la:Nat)] 94):=⟨_,rfl⟩
      rw[←hW3];have HB3:=hid (show Below wo.heap.size wo W3 by rw[hW3];exact bx1 _ _);have HE1:=hid (show W3.cell? ⟨wo.heap.size,0,none⟩=some (.slice qa1 qn1 qc1) by rw[hW3];simp[go_sem]);have HE2:=hid (show W3.cell? ⟨wo.heap.size,1,none⟩=some (.slice oa1 on1 oc1) by rw[hW3];simp[go_sem]);have HBy:=hid (HBx.out.below HB3.out HBx.out.lt);have HCy:=hid (HCx.out.below HB3.out);have HZ3:=hid (show W3.heap.size=wo.heap.size+1 by rw[hW3];simp);have HBl:=hid (HBe.out.trans (HB3.out.mono HBe.out.size));clear hW3;obtain⟨hv0,hv1,hv2,hv3,hv4⟩:=HE.out;obtain⟨pg', po', pc', e2', pgb', pgz'⟩:=HCx.out.addr3;rw[hv3]at e2';simp only[Value.slice.injEq,Option.some.injEq,Addr.mk.injEq]at e2';obtain⟨⟨rfl,rfl,_⟩,_,rfl⟩:=e2';have hO:=HCy.out.raw.own 3 (by omega);rw[HCy.out.n3,hv3]at hO;have hlen:(C 3).length=12:=hO.1;have hW2s:w.heap.size≤W2.heap.size:=HB2.out.size;obtain⟨D5,hj1,hj2,hj3⟩:=HV.out.d k hlt;rw[←HX.out]at hj1
      refine cp10_region _ _ _ _ _ _ _ _ _ _ _ _ _ _ _ _ _ _ _ _ _ _ _ _ _ _ _ _ _ _ _ _ _ _ _ _ _ _ _ _ _ _ _ _ _ _ _ _ _ _ _ _ _ _ _ _ _ _ _ _ _ _ _ _ _ _ _ _ _ g k wo.heap.size W2.heap.size qg qo qc B (C 3) _ _ qa1 qn1 qc1 oa1 on1 oc1 (st.slaves k).pipe (st.slaves k).done D5 W3 HGQ.out HBy.out.lt HBy.out.bx.five.1.2.2.2.1 (by have := HZ3.out; omega) (by omega) (by have := HBl.out.size; omega) hlt (by omega) (by have := HZ3.out; omega) hO (List.getElem?_eq_getElem (by rw [hlen]; omega)) (List.getElem?_eq_getElem (by rw [hlen]; omega)) HE1.out HE2.out
       (by have:=(HV.out.p k hlt).below (HBl.out.mono hB);rw[←HX.out]at this;exact this) (hj1.below (HBl.out.mono hB)) hj2 (fun y hy=>(hj3 y hy).below (HBl.out.mono hB)) (by have:=HSM.out.p k hlt;omega) (by have:=(HSM.out.d k hlt).1;rw[←hj2,List.length_map]at this;exact this) (fun y hy=>(HSM.out.d k hlt).2 y.1 (by rw[←hj2];exact List.mem_map.2 ⟨y,hy,rfl⟩)) ?_
      intro u54 u55 u56 u57 u58 u59 u60 u61 u62 u63 u64 u65 u66 u67 u68 u69 wc hcut;obtain⟨w5,hw5⟩:∃W,W=wc:=⟨_,rfl⟩
      subst hw5;obtain⟨V', N', C', D', hC', f0,f1,f2,f3,f4⟩:=HCy.out.store hlt hv3 (HV.out.sn k hlt) hcut (by have:=HBl.out.size;have:=HZ3.out;omega);obtain⟨uu,uv,um,uD,_,_,_,_,_,_,_,hT⟩:=hcut;have HT:=hid hT;have HC':=hid hC';have HF:=hid (show V' 0=.slice ya2 st.ws.length yb2∧V' 1=.slice za2 st.hs.length zb2∧V' 2=.slice (some ⟨pg,po,none⟩) 3 pc∧V' 3=.slice (some ⟨qg,qo,none⟩) 4 qc∧V' 4=.slice va2 st.told.length vb2 from⟨f0.trans hv0,f1.trans hv1,f2.trans hv2,f3.trans hv3,f4.trans hv4⟩);clear hT hC' f0 f1 f2 f3 f4 hv0 hv1 hv2 hv3 hv4 hO hlen hj1 hj2 hj3;unfold cp10A
      go_wp2_with fail
      go_roundw
      case rel=>
       have hs:=HZ3.out;have hw2:w.heap.size≤qg:=by omega
       refine⟨k+1,by go_num,by omega,HBy.out.touch HT.out HGQ.out,⟨V', N', C', D', HC'.out,HF.out⟩,HBl.out.trans (HT.out.below hw2 HBl.out.size),?_,?_⟩
       ·exact(HSx.out.below HB3.out HSx.out.lt).kept (HT.out.block _ (by have:=HSx.out.lt;omega) (by have:=HZ.out;omega))
       ·exact(HRx.out.below HB3.out HRx.out.lt).kept (HT.out.block _ (by have:=HRx.out.lt;omega) (by have:=HZ.out;omega))
      case measure=>simp[intOf];omega
     ·obtain rfl:k=4:=by omega
      obtain⟨⟨r0,r1,r2,r3,r4⟩,_⟩:=HBx.out.bx.five;obtain⟨⟨q0,q1,q2,q3,q4⟩,f0,f1,f2,f3,f4⟩:=HRx.out.five;have hrl:=HRx.out.lt;obtain⟨hv0,hv1,hv2,hv3,hv4⟩:=HE.out;have HE0:=hid HE.out;clear hv0 hv1 hv2 hv3 hv4 HE
      go_wp2_with fail
      refine bodyPost_ret (zB0 Tryz.results45 _ _ ⟨w.heap.size+1,0,none⟩ (.agg #[.slice ya2 st.ws.length yb2,.slice za2 st.hs.length zb2,.slice (some ⟨pg,po,none⟩) 3 pc,.slice (some ⟨qg,qo,none⟩) 4 qc,.slice va2 st.told.length vb2]) rfl (zJ2 _ _ _ _ _ _ _ (by simp[go_sem, *]) (by simp[go_sem, *]) (by simp[go_sem, *]) (by simp[go_sem, *]) (by simp[go_sem, *]))) rfl ⟨V,N,C,D,?_,?_,?_⟩
      ·rw[HE0.out.1,HE0.out.2.1,HE0.out.2.2.1,HE0.out.2.2.2.1,HE0.out.2.2.2.2]
      ·have hz:=HZ.out;exact(HCx.out.fin.kept (fun b h1 h2=>(touchC (w.heap.size+1) _ _ _ _ _ _).block b h2 (by omega)) (touchC (w.heap.size+1) _ _ _ _ _ _).size).rebase (by omega)
      ·exact((((HBe.out.setCell (by exact Nat.le_succ _) _).setCell (by exact Nat.le_succ _) _).setCell (by exact Nat.le_succ _) _).setCell (by exact Nat.le_succ _) _).setCell (by exact Nat.le_succ _) _
def TriB (w:World) (g:Nat) (u:Nat→Int):Prop:=w.heap[g]? = some (.cells #[.int .i64 (u 0),.int .i64 (u 1),.int .i64 (u 2)] 154 (0,0))
theorem TriB.cells {w:World} {g:Nat} {u:Nat→Int} (h:TriB w g u) {k:Nat} (hk:k<3):w.cell? ⟨g,k,none⟩=some (.int .i64 (u k))∧w.frozen? ⟨g,k,none⟩=false∧g<w.heap.size:=by
 have:=zA3 h;unfold TriB at h;rcases(show k=0∨k=1∨k=2 by omega)with rfl|rfl|rfl <;> exact⟨by simp[World.cell?,h],by simp[World.frozen?,h],this⟩
theorem TriB.put {w:World} {g:Nat} {u:Nat→Int} (h:TriB w g u) {k:Nat} (hk:k<3) (b:Int):TriB (w.setCell ⟨g,k,none⟩ (.int .i64 b)) g (upd u k b):=by
 unfold TriB at h ⊢;rcases(show k=0∨k=1∨k=2 by omega)with rfl|rfl|rfl <;> simp[World.setCell,Array.getElem?_modify,h,upd]
theorem TriB.below {w w':World} {g C:Nat} {u:Nat→Int} (h:TriB w g u) (hb:Below C w w') (hg:g<C):TriB w' g u:=(hb.block g hg).trans h
def FitP (g5:Nat) (L:Nat→Int) (who n:Nat) (w:World) (e:Ending) (w':World):Prop:=e=.returned (.bool true)∧TriB w' g5 (upd L who n)∧Touch g5 w w'
set_option maxRecDepth 4000 in
theorem fits_any {w : World} {B g5 g2 g3 pg po pc s : Nat} {L : Nat → Int} {P : List PS} {st : Cy} (hL : TriB w g5 L) (h2 : w.cell? ⟨g2, 2, none⟩ = some (.slice (some ⟨pg, po, none⟩) 3 pc)) (h3 : w.cell? ⟨g3, 0, none⟩ = some (.int .i64 (s : Nat)))
  (hB5:B≤g5) (hn2:g2≠g5) (hn3:g3≠g5) (hpg:pg<B)
  (hps:∀t,t<3→∀j,j<4→w.cell? ⟨pg,po+t * 4+j,none⟩=(rowPS (P.getD t default))[j]?) (hpo:∀i,i<3→Jbs w B (sl (P.getD i default).o) (st.ports i).out) {who n:Nat} (hw:who<3) (hlast:L who<(n:Int)) (hos:(st.ports who).out.Pairwise (fun a b=>a.n<b.n)) (ho4:(st.ports who).out.length≤4) (hin:∃o∈(st.ports who).out,o.n=n∧o.left=s) :
  Calls Tryz.prog 108 #[.int .i64 who,.int .i64 n,.pointer (some ⟨g5,0,none⟩),.pointer (some ⟨g2,0,none⟩),.pointer (some ⟨g3,0,none⟩)] w (FitP g5 L who n w):=by
 obtain⟨l0,lf,lz⟩:=hL.cells hw;obtain⟨lv,hlv⟩:∃x,x=L who:=⟨_,rfl⟩
 rw[←hlv]at l0 hlast;have g1:decide ((n:Int)≤lv)=false:=by rw[decide_eq_false_iff_not];omega
 have hwi:(who:Int)<3:=by omega
 have hp5:=hps who hw;have HJ:=hid (hpo who hw);obtain⟨x,hx⟩:∃x,x=P.getD who default:=⟨_,rfl⟩
 rw[←hx]at hp5 HJ;obtain⟨nx,⟨qa,qn,qc⟩,⟨oa,on,oc⟩,la⟩:=x;have p0:=hp5 0 (by omega);have p1:=hp5 1 (by omega);have p2:=hp5 2 (by omega);have p3:=hp5 3 (by omega);simp only[rowPS,sl,List.getElem?_cons_zero,List.getElem?_cons_succ,Nat.add_zero]at p0 p1 p2 p3;simp only[sl]at HJ;obtain⟨ao,cp,e,hcap1,hcap2,_,_,h9⟩:=HJ.out.opened;simp only[Value.slice.injEq]at e;obtain⟨rfl,rfl,rfl⟩:=e;obtain⟨o,ho,hon,hol⟩:=hin;obtain⟨i,hil,hio⟩:=List.mem_iff_getElem.1 ho;obtain⟨oo,hoo⟩:∃l,l=(st.ports who).out:=⟨_,rfl⟩
 have hidx:idxP (fun j:Jb=>j.n==n) (st.ports who).out=(i:Nat):=by
  refine zM7 _ _ i default hil (by simp[List.getD,hil,hio,hon]) fun j hj=>?_
  rw[List.pairwise_iff_getElem]at hos;have:=hos j i (by omega) hil hj;rw[hio,hon]at this;simp[List.getD,show j<(st.ports who).out.length by omega];omega
 obtain⟨b,off,hoa,hbB,hcells⟩:=h9 (by omega);subst hoa;have cl:=(hcells i hil).2.2;have hgl:((st.ports who).out.getD i default).left=s:=by simp[List.getD,hil,hio,hol]
 rw[hgl]at cl;have hbz:b≠g5:=by omega
 have hil4:(i:Int)<((st.ports who).out.length:Int):=by omega
 have hi0:(0:Int)≤(i:Int):=by omega
 have HI:=hid hidx;have HL:=hid hL;obtain⟨ol,holn⟩:∃x,x=(st.ports who).out.length:=⟨_,rfl⟩
 rw[←holn]at p2 HJ hcap1 hil4;have HOLN:=hid holn;have hlvn:=hid hlv;have i1:=hid (zE2 (who:Int));rw[show inB (who:Int) 0 2=true by simp[inB];omega]at i1;obtain⟨w1,hw1⟩:∃W,W=w.setCell ⟨g5,who,none⟩ (.int .i64 (n:Nat)):=⟨_,rfl⟩
 have ht1:Touch g5 w w1:=by rw[hw1];exact Touch.setCell _ _ _ _
 have HL1:=hid (show TriB w1 g5 (upd L who n) by rw[hw1];exact hL.put hw n);have hpz:pg<w.heap.size:=World.block_lt_of_cell? w _ p0;have kc:∀g o,g≠g5→g<w.heap.size→w1.cell? ⟨g,o,none⟩=w.cell? ⟨g,o,none⟩:=fun g o h1 h2=>ht1.cell h1 h2
 have u2:=(kc g2 2 hn2 (World.block_lt_of_cell? w _ h2)).trans h2;have u3:=(kc g3 0 hn3 (World.block_lt_of_cell? w _ h3)).trans h3;have v0:=(kc pg (po+who * 4) (by omega) hpz).trans p0;have v1:=(kc pg (po+who * 4+1) (by omega) hpz).trans p1;have v2:=(kc pg (po+who * 4+2) (by omega) hpz).trans p2;have v3:=(kc pg (po+who * 4+3) (by omega) hpz).trans p3;have vl:=(kc b (off+i * 3+2) hbz (World.block_lt_of_cell? w _ cl)).trans cl;have HT1:=hid ht1;have HJ1:=hid (HJ.out.below (ht1.below (B:=B) (by omega) (by have:=World.block_lt_of_cell? w _ l0;simp only at this;omega)));have hBz:B≤w1.heap.size:=by have:=ht1.size;have:g5<w.heap.size:=lz;omega
 have hbz1:b<w1.heap.size:=World.block_lt_of_cell? w1 _ vl;have hgz:g2<w1.heap.size:=World.block_lt_of_cell? w1 _ u2;have hg3z:g3<w1.heap.size:=World.block_lt_of_cell? w1 _ u3;have hpz1:pg<w1.heap.size:=World.block_lt_of_cell? w1 _ v0;have HOA:=hid (outAt_any (nx:Int) (la:Int) qa (some ⟨b,off,none⟩) qn qc oc n (st.ports who).out B w1 (by rw[←HOLN.out];exact HJ1.out) hBz);rw[←HOLN.out]at HOA;clear hlv holn hps hpo hp5 hx hcells ho hon hol hio hos hidx hgl kc p0 p1 p2 p3 ht1 hL hcap1 cl hoo h2 h3 h9
 go_enter Tryz.func108,Tryz.ntmps108
 go_upto_region 4 with(go_at_call 56;refine(i1.out _).mono ?_;rintro e w9 ⟨rfl,rfl⟩)
 rw[←hw1];clear hw1 l0 lf
 go_upto_region 5 with(go_at_call 109;go_loud (with_reducible refine(HOA.out).mono ?_);unfold OutAtP;rw[HI.out];rintro e w2 ⟨rfl,hb2⟩;have s2:=(hb2.cell (p:=⟨g2,2,none⟩) hgz).trans u2;have s3:=(hb2.cell (p:=⟨g3,0,none⟩) hg3z).trans u3;have t0:=(hb2.cell (p:=⟨pg,po+who * 4,none⟩) hpz1).trans v0;have t1:=(hb2.cell (p:=⟨pg,po+who * 4+1,none⟩) hpz1).trans v1;have t2:=(hb2.cell (p:=⟨pg,po+who * 4+2,none⟩) hpz1).trans v2;have tl:=(hb2.cell (p:=⟨b,off+i * 3+2,none⟩) hbz1).trans vl;have HB2:=hid hb2;clear hb2)
 clear u2 u3 v0 v1 v2 v3 vl
 go_quiet (fail)
 go_wp2_with fail
 go_ret
 exact⟨by rfl,(HL1.out.below (Below.draws HB2.out _) (zA3 HL1.out)),HT1.out.trans ((Touch.of_below HB2.out (Nat.le_refl _)).trans (Touch.of_below (Below.draws (Below.refl _ _) _) (Nat.le_refl _)))⟩
theorem rspOk_yes (a : Option Addr) (n cp : Nat) (x : Rs) (B : Nat) (w : World) (h : Ints w B (.slice a n cp) x.data) (hB : B ≤ w.heap.size) (hok : rspOk x = true) :
  Calls Tryz.prog 110 #[.agg #[.int .i64 x.id,.int .i64 x.code,.slice a n cp]] w fun e w' => e=.returned (.bool true)∧Below w.heap.size w w':=by
 simp only[rspOk,Bool.and_eq_true,decide_eq_true_eq]at hok;obtain⟨⟨⟨h1,h2⟩,h3⟩,h4⟩:=hok;obtain⟨ao,cap,hdv,_⟩:=h.opened;rw[hdv]at h ⊢;clear hdv;have H1:=hid h1;have H2:=hid h2;have H4:=hid h4;have HI:=hid h;have h3':(x.data.length:Int)≤4:=by omega
 clear h1 h2 h4 h
 go_enter Tryz.func110,Tryz.ntmps110
 go_wp2_with (first
  |(go_at_call 63;refine(zH2 _ _ _ _).mono ?_;(first|rw[H1.out]|rw[H2.out]);rintro e w' ⟨rfl,rfl⟩)
  |(go_at_call 97;refine(zK7 _ x.data B _ (HI.out.below ((Below.refl _ _).alloc hB _))).mono ?_;rw[H4.out];rintro e w' ⟨rfl,rfl⟩))
 go_ret
 exact⟨rfl,(Below.refl _ _).alloc (Nat.le_refl _) _⟩
def lastK (l:List (Nat×Nat)) (w:Nat):Int:=match (nsOf w l).getLast? with|some n=>n|none=>-1
theorem lastK_snoc (l:List (Nat×Nat)) (w n:Nat):lastK (l++[(w,n)])=upd (lastK l) w (n:Nat):=by
 funext v
 unfold lastK;rw[zK3];by_cases h:v=w
 ·subst h;rw[zA1,show nsOf v [(v,n)]=[n] from by simp[nsOf]];simp
 ·rw[zA0 _ _ h,show nsOf v [(w,n)]=[] from by simp[nsOf,Ne.symm h],List.append_nil]
theorem keys_sorted {c:Cfg} {st:Cy} (hg:Good c st) {s w:Nat} (hs:s<4) (hw:w<3):(nsOf w (zA6 (st.slaves s))).Pairwise (·<·):=by
 rw[hg.link s w hs hw,List.pairwise_map];exact(((hg.p w hw).os).filter _)
theorem lastK_lt {c:Cfg} {st:Cy} (hg:Good c st) {s i:Nat} (hs:s<4) {w n:Nat} (hi:(zA6 (st.slaves s))[i]? = some (w,n)):w<3∧lastK ((zA6 (st.slaves s)).take i) w<(n:Int)∧(∃o∈(st.ports w).out,o.n=n∧o.left=s)∧n<(c.prog w).length:=by
 have hm:=List.mem_of_getElem? hi;obtain⟨hw,ho⟩:=hg.key hs hm;refine⟨hw,?_,ho,hg.keyN hs hm⟩;have hp:=keys_sorted hg hs hw;obtain⟨hlt,he⟩:=List.getElem?_eq_some_iff.1 hi;have e:zA6 (st.slaves s)=(zA6 (st.slaves s)).take i++(w,n)::(zA6 (st.slaves s)).drop (i+1):=by
  rw[←he,List.getElem_cons_drop,List.take_append_drop]
 rw[e,zK3,zK2,List.pairwise_append]at hp;unfold lastK;rcases h:(nsOf w ((zA6 (st.slaves s)).take i)).getLast? with _|m
 ·show(-1:Int)<n;omega
 ·have:=hp.2.2 m (List.mem_of_getLast? h) n (by simp);show(m:Int)<n;omega
theorem take_snocK {l:List (Nat×Nat)} {i:Nat} {k:Nat×Nat} (h:l[i]? = some k):l.take (i+1)=l.take i++[k]:=by
 rw[List.take_add_one,h];rfl
theorem rowN_one (n:Nat):∀u∈rowN n,u.oneCell' = true:=by
 intro u hu;simp only[rowN,List.mem_cons,List.not_mem_nil,or_false]at hu;rcases hu with rfl;rfl
theorem ask1_no {c:Cfg} {inp:Inp} {who:Nat} {x:Cy×List Ev} (h:¬(inp.send.getD who false=true∧(x.1.ports who).queue.length<2∧(x.1.ports who).next<(c.prog who).length)):ask1 c inp who x=x:=by unfold ask1;rw[if_neg h]
theorem ask1_yes {c:Cfg} {inp:Inp} {who:Nat} {x:Cy×List Ev} (h:inp.send.getD who false=true∧(x.1.ports who).queue.length<2∧(x.1.ports who).next<(c.prog who).length):ask1 c inp who x=askDo who x:=by unfold ask1;rw[if_pos h]
theorem ask1_len (c:Cfg) (inp:Inp) (who:Nat) (x:Cy×List Ev):(ask1 c inp who x).2.length≤x.2.length+1:=by
 unfold ask1
 split
 ·simp[askDo]
 ·omega
set_option maxRecDepth 4000 in
theorem ask_any {c : Cfg} (hbus : Bus c) {w : World} {base S Hb : Nat} {L : Nat → Value} {st : Cy} {ev : List Ev} {V0 : Nat → Value} {N0 : Nat → Nat} {C0 : Nat → List Value} {D0 : Nat → List TJV} (hm : CyM w base S Hb L st ev V0 N0 C0 D0) (hg : Good c st) (hev : ev.length ≤ 500) {inp : Inp} {v u : Value} {B : Nat} (hc : BusV w B u c) (hin : InV w B v inp) (hB : B ≤ base) :
  Calls Tryz.prog 93 #[.pointer (some ⟨S,0,none⟩),u,v,.pointer (some ⟨Hb,0,none⟩)] w (PartP base S Hb L (askAll c inp (st,ev)) V0 w):=by
 obtain⟨⟨ra,rc,ta,tc,sa,sc,rfl,hr1,hr2,hr3⟩,hl1,hl2,hl3⟩:=hin;obtain⟨mv,lb,lo,lc,pb,po', pc', Q,K,rfl,⟨ma,mn,mk,rfl⟩,hms,hlb,hpb', hlat,hprog,hreq⟩:=hc.opened hbus;have HM:=hid hm;have HG0:=hid hg;have hS:=zA3 hm.bs;have hbw:base≤w.heap.size:=Nat.le_trans hm.s0 (Nat.le_of_lt (zA3 hm.bs));obtain⟨q0,q1,q2,q3,q4,qf⟩:=hm.box;obtain⟨pg,po,pc,hV2,hpc,hpc2,_,_⟩:=hm.ports;rw[hV2]at q2;have HR:=hid hr3;have HL3:=hid hl3;have HPR:=hid hprog;rw[hl3];clear hm hg hr1 hr2 hr3 hl1 hl2 hl3 hV2 qf q0 q1 q3 q4 hpc2 hpc hc hms hlat hprog hreq hlb
 go_enter Tryz.func93,Tryz.ntmps93
 go_wp2_with fail
 obtain⟨w0,hw0⟩:∃W,W=(w.alloc (.cells #[.slice ma mn mk,.slice (some ⟨lb,lo,none⟩) 4 lc,.slice (some ⟨pb,po', none⟩) 3 pc'] 27)).alloc (.cells #[.slice ra inp.ready.length rc,.slice ta inp.stall.length tc,.slice sa 3 sc] 45):=⟨_,rfl⟩
 rw[←hw0];have hb0:Below w.heap.size w w0:=by rw[hw0];exact((Below.refl _ _).alloc (Nat.le_refl _) _).alloc (by simp) _
 have hz0:w0.heap.size=w.heap.size+2:=by rw[hw0];simp
 have HC0:=hid (show w0.heap[w.heap.size]? = some (.cells #[.slice ma mn mk,.slice (some ⟨lb,lo,none⟩) 4 lc,.slice (some ⟨pb,po', none⟩) 3 pc'] 27 (0,0)) by rw[hw0];rw[((Below.refl _ _).alloc (Nat.le_refl _) _).block _ (by simp)];show(w.heap.push _)[w.heap.size]? = _;simp);have HI0:=hid (show w0.heap[w.heap.size+1]? = some (.cells #[.slice ra inp.ready.length rc,.slice ta inp.stall.length tc,.slice sa 3 sc] 45 (0,0)) by rw[hw0];exact zA8 _ _ (by simp));have HFR:=hid (HM.out.fresh (w':=w0) (Nat.le_refl w.heap.size) (by omega));have HFR1:=hid (HM.out.fresh (w':=w0) (Nat.le_succ w.heap.size) (by omega));have HKB:=hid (Kp.below (S:=S) (Hb:=Hb) (V:=V0) hb0);have HM0:=hid (HM.out.below hb0);have HB0:=hid (hb0.mono hbw);have HR0:=hid HR.out;clear hw0 hb0 hz0 q2 HM HR hS
 go_loopw [15] (fun i wr=>∃k:Nat,k≤3∧i=.int .i64 k∧Good c (foldN (ask1 c inp) k (st,ev)).1∧(foldN (ask1 c inp) k (st,ev)).2.length≤ev.length+k∧(∃V N C D,CyM wr base S Hb L (foldN (ask1 c inp) k (st,ev)).1 (foldN (ask1 c inp) k (st,ev)).2 V N C D∧Kp S Hb V0 w0 V wr)∧Below base w wr) (fun i _=>3 - (intOf i).toNat)
 case atStart=>exact⟨0,by omega,by go_num,HG0.out,by simp[foldN],⟨_,_,_,_,HM0.out,Kp.refl _ _ _ _⟩,HB0.out⟩
 case round=>
  obtain⟨k,hk,rfl,hg,hlen,⟨V,N,C,D,hm,hkp⟩,hbl⟩:=hrel;have hib:=((hkp _ HFR1.out).1).trans HI0.out;have hcb:=((hkp _ HFR.out).1).trans HC0.out;have HKP:=hid hkp;clear hkp;by_cases hlt:k<3
  ·have hlti:(k:Int)<3:=by omega
   obtain⟨x,hx⟩:∃x,x=foldN (ask1 c inp) k (st,ev):=⟨_,rfl⟩
   have HX1:=hid (show foldN (ask1 c inp) (k+1) (st,ev)=ask1 c inp k x by rw[hx];rfl);rw[←hx]at hg hlen hm;have hwl:=zA3 hib;obtain⟨i0,i1,i2⟩:wr.cell? ⟨w.heap.size+1,0,none⟩=some (.slice ra inp.ready.length rc)∧wr.cell? ⟨w.heap.size+1,1,none⟩=some (.slice ta inp.stall.length tc)∧wr.cell? ⟨w.heap.size+1,2,none⟩=some (.slice sa 3 sc):=by refine⟨?_,?_,?_⟩ <;> simp[World.cell?,hib]
   obtain⟨b0,b1,b2⟩:wr.cell? ⟨w.heap.size,0,none⟩=some (.slice ma mn mk)∧wr.cell? ⟨w.heap.size,1,none⟩=some (.slice (some ⟨lb,lo,none⟩) 4 lc)∧wr.cell? ⟨w.heap.size,2,none⟩=some (.slice (some ⟨pb,po', none⟩) 3 pc'):=by refine⟨?_,?_,?_⟩ <;> simp[World.cell?,hcb]
   have hpk:wr.cell? ⟨pb,po' + k,none⟩=some (.slice (Q k) (c.prog k).length (K k)):=(hbl.cell (p:=⟨pb,_,none⟩) (Nat.lt_of_lt_of_le hpb' hB)).trans (HPR.out k hlt);have HM:=hid hm;have HG:=hid hg;have HBL:=hid hbl;have HLEN:=hid hlen;have hS:=zA3 hm.bs;obtain⟨q0,q1,q2,q3,q4,qf⟩:=hm.box;obtain⟨pg,po,pc,hV2,hpc,hpc2,hpb,hpz⟩:=hm.ports;obtain⟨p0,p1,p2,p3,pf⟩:=hm.port hV2 hlt;have HV2:=hid hV2;rw[hV2]at q2;obtain⟨qa,qc,hqs,_,_⟩:=(hm.oQueue hlt).shape;rw[hqs]at p1;have HQS:=hid hqs;obtain⟨rb,ro,hra,hrb,hrc⟩:∃b off,sa=some ⟨b,off,none⟩∧b<B∧wr.cell? ⟨b,off+k,none⟩=some (.bool (inp.send.getD k false)):=by
    obtain⟨ao,cp,eo,_,_,_,_,ho⟩:=HR0.out.opened;obtain⟨b,off,rfl,hb,hc⟩:=ho (by rw[HL3.out];omega);simp only[Value.slice.injEq]at eo;exact⟨b,off,eo.1,hb,(hbl.cell (p:=⟨b,_,none⟩) (Nat.lt_of_lt_of_le hb hB)).trans (hc k (by rw[HL3.out];exact hlt))⟩
   obtain⟨snd,hsnd⟩:∃r,r=inp.send.getD k false:=⟨_,rfl⟩
   rw[←hsnd]at hrc;have HSND:=hid hsnd;have hnx:=(hg.p k hlt).nx;have hpl:=hbus.twelve hlt;have hq2:=(hg.p k hlt).q2;subst hra;clear hm hg hib hcb hbl hlen hx hV2 hqs hsnd HM0 HG0;by_cases hgo:snd=true∧(x.1.ports k).queue.length<2∧(x.1.ports k).next<(c.prog k).length
   ·obtain⟨rfl,hql,hnl⟩:=hgo;have hqli:((x.1.ports k).queue.length:Int)<2:=by omega
    have hnli:((x.1.ports k).next:Int)<((c.prog k).length:Int):=by omega
    have HYES:=hid (ask1_yes (c:=c) (inp:=inp) (who:=k) (x:=x) ⟨HSND.out.symm,hql,hnl⟩)
    go_upto_region 5 with fail
    go_quiet (fail)
    go_upto_region 6 with fail
    obtain⟨w1,hw1⟩:∃W,W=wr.drewN nq:=⟨_,rfl⟩
    rw[←hw1];have hbd:Below wr.heap.size wr w1:=by rw[hw1];exact Below.draws (Below.refl _ _) _
    have hbd0:Below base wr w1:=by rw[hw1];exact Below.draws (Below.refl _ _) _
    have HM1:=hid (HM.out.below hbd);have HM1d:=hid (HM.out.below hbd.drew);have HK1:=hid (HKP.out.trans (Kp.below (S:=S) (Hb:=Hb) (V:=V) hbd.drew));have HB1:=hid (HBL.out.trans hbd0.drew);obtain⟨p0,p1,p2,p3,pf⟩:=HM1.out.port HV2.out hlt;rw[HQS.out]at p1;have HOQ:=hid (HM1d.out.oQueue hlt);rw[HQS.out]at HOQ;have hpg1:pg<w1.drew.heap.size:=Nat.lt_of_lt_of_le hpz hbd.size;have hpne:∀κ,κ<20→κ≠2→(V κ).ownBlock≠some pg:=fun κ hκ hne e=>HM.out.raw.ap κ 2 hκ (by omega) hne pg e (by rw[HV2.out];rfl)
    have hpg1':pg<w1.heap.size:=hpg1;have hbw1:base≤w1.drew.heap.size:=Nat.le_trans hpb (Nat.le_of_lt hpg1);have hqne:some pg≠(Value.slice qa (x.1.ports k).queue.length qc).ownBlock:=by rw[←HQS.out];exact Ne.symm (hpne (5+k) (by omega) (by omega))
    clear hw1 hbd hbd0 q0 q1 q2 q3 q4 qf i0 i1 i2 b0 b1 b2 hrc hpk
    go_cut [] from 50 to 62 (fun wd=>∃v' N' C', CyM wd base S Hb L { x.1 with ports:=upd x.1.ports k { x.1.ports k with queue:=(x.1.ports k).queue++[(x.1.ports k).next] } } x.2 (upd V (5+k) v') N' C' D∧Kp S Hb V w1.drew (upd V (5+k) v') wd∧Below base w1.drew wd)
    case first=>
     go_region_law (first
      |(refine step_push3 elem_int rowN (fun _=>rfl) w1.drew rfl (.tmp 54) (.tmp 59) rfl base (.slice qa (x.1.ports k).queue.length qc) (x.1.ports k).queue (x.1.ports k).next (rowN_one _) (by rfl) HOQ.out _ (by rfl) _ _ (by rfl) (by first|rfl|(simp;done)) (by omega) (by omega) hbw1 ?_;intro v' w2 ho hb2 hk2 hv2;obtain⟨va,vc,hv', _,_⟩:=ho.shape;simp only[List.length_append,List.length_cons,List.length_nil,Nat.zero_add]at hv';subst hv';obtain⟨g0,g1⟩:=cell_of (hk2 pg hpg1 hqne) (po+k * 4+1);rw[show w1.drew.cell? ⟨pg,po+k * 4+1,none⟩=_ from p1]at g0;rw[show w1.drew.frozen? ⟨pg,po+k * 4+1,none⟩=_ from pf _]at g1;have HO:=hid ho;have HK:=hid hk2;have HW:=hid hv2;have HB2:=hid hb2;clear ho hb2 hk2 hv2))
     all_goals
      go_wp2_with fail
      obtain⟨N', C', hc1,hc2⟩:=HM1d.out.setQueue hlt HV2.out (fun b hb hne=>HK.out b hb (by rw[←HQS.out];exact Ne.symm hne)) HB2.out.size HO.out (fun q hq=>by rw[HQS.out];exact HW.out q hq);go_meet
      case rel=>exact⟨_,N', C', hc1,hc2,HB2.out.setCell (p:=⟨pg,_,none⟩) hpb _⟩
    case rest=>
     clear p0 p1 p2 p3 pf HM1 HM1d;obtain⟨w3,hw3⟩:∃W,W=wc:=⟨_,rfl⟩
     subst hw3;obtain⟨v4,N3,C3,hm3,hk3,hb3⟩:=hcut;have HK3:=hid (HK1.out.trans hk3);have HB3:=hid (HB1.out.trans hb3);have e2:upd V (5+k) v4 2=.slice (some ⟨pg,po,none⟩) 3 pc:=(zA0 _ _ (by omega)).trans HV2.out;have E2:=hid e2;obtain⟨p0,p1,p2,p3,pf⟩:=hm3.port e2 hlt;simp only[zA1]at p0;have HM3:=hid hm3;clear hm3 hk3 hb3 e2 p1 p2 p3 pf
     go_upto_region 8 with (first
      |(go_at_call 144;go_loud ((with_reducible refine(add_ask k (x.1.ports k).next HM3.out (by have:=HLEN.out;omega)).mono ?_);rintro e w4 ⟨rfl,v9,N4,C4,hm4,hb4,_,hk4⟩;have e2:upd (upd V (5+k) v4) 19 v9 2=.slice (some ⟨pg,po,none⟩) 3 pc:=((zA0 _ _ (by omega)).trans E2.out);have E4:=hid e2;obtain⟨p0,p1,p2,p3,pf⟩:=hm4.port e2 hlt;simp only[zA1]at p0;have HM4:=hid hm4;have HB4:=hid (HB3.out.trans hb4);have HK4:=hid (HK3.out.trans hk4);clear hm4 hb4 hk4 e2 p1 p2 p3)))
     have hnx12:((x.1.ports k).next:Int)≤12:=by omega
     go_wp2_with fail
     obtain⟨N5,C5,hm5,hk5⟩:=HM4.out.setNext hlt E4.out ((x.1.ports k).next+1);rw[show(((x.1.ports k).next+1:Nat):Int)=((x.1.ports k).next:Int)+1 from by omega]at hm5 hk5;have HST:=hid (hm5.congr (st':=(ask1 c inp k x).1) (ev':=(ask1 c inp k x).2) (by rw[HYES.out];simp only[askDo,upd_upd,zA1]) (by rw[HYES.out];rfl));have HK5:=hid (HK4.out.trans hk5);have HB5:=hid (HB4.out.setCell (p:=⟨pg,po+k * 4,none⟩) hpb (.int .i64 (((x.1.ports k).next:Int)+1)));clear hm5 hk5
     go_roundw
     case rel=>exact⟨k+1,by omega,by go_num,by rw[HX1.out];exact good_ask1 HG.out hlt,by rw[HX1.out];have:=ask1_len c inp k x;have:=HLEN.out;omega,by rw[HX1.out];exact⟨_,_,_,_,HST.out,HK5.out⟩,HB5.out⟩
     case measure=>simp[intOf];omega
   ·have HNO:=hid (ask1_no (c:=c) (inp:=inp) (who:=k) (x:=x) (by rw[←HSND.out];exact hgo));have hc3:snd=false∨(snd=true∧decide (((x.1.ports k).queue.length:Int)<2)=false)∨(snd=true∧((x.1.ports k).queue.length:Int)<2∧decide ((x.1.ports k).next<(c.prog k).length)=false):=by
     rcases snd with _|_
     ·exact .inl rfl
     ·right
      by_cases h1:(x.1.ports k).queue.length<2
      ·right
       refine⟨rfl,by omega,?_⟩;rw[decide_eq_false_iff_not];intro h2;exact hgo ⟨rfl,h1,h2⟩
      ·left
       refine⟨rfl,?_⟩;rw[decide_eq_false_iff_not];omega
    clear hgo;rcases hc3 with rfl|⟨rfl,h2⟩|⟨rfl,h2,h3⟩
    all_goals
     go_upto_region 5 with fail
     go_quiet (fail)
     go_wp2_with fail
     obtain⟨w1,hw1⟩:∃W,W=wr.drewN nq:=⟨_,rfl⟩
     have hbd:Below wr.heap.size wr w1:=by rw[hw1];exact Below.draws (Below.refl _ _) _
     have hbd0:Below base wr w1:=by rw[hw1];exact Below.draws (Below.refl _ _) _
     have HM1:=hid (HM.out.below hbd);have HK1:=hid (HKP.out.trans (Kp.below (S:=S) (Hb:=Hb) (V:=V) hbd));have HB1:=hid (HBL.out.trans hbd0);rw[hw1]at HM1 HK1 HB1;clear hw1 hbd hbd0
     go_roundw
     case rel=>exact⟨k+1,by omega,by go_num,by rw[HX1.out,HNO.out];exact HG.out,by rw[HX1.out,HNO.out];have:=HLEN.out;omega,by rw[HX1.out,HNO.out];exact⟨_,_,_,_,HM1.out,HK1.out⟩,HB1.out⟩
     case measure=>simp[intOf];omega
  ·obtain rfl:k=3:=by omega
   go_wp2_with fail
   exact bodyPost_end (v:=.tuple #[]) (by simp[results,Tryz.results93,go_sem]) rfl ⟨rfl,V,N,C,D,hm,HKB.out.trans HKP.out,hbl⟩
end Go.Proofs.YtgkdoehkmbhfiaaGreat
namespace Go.Proofs.YtgkdoehkmbhfiaaGreat
open Go.RowKit
attribute [local go_sem ↓] Go.wp_at_zero Go.wp_at_succ
theorem Bx.six {W:World} {H:Nat} {a b c d e f:Value} (h:Bx W H [a,b,c,d,e,f]):(W.cell? ⟨H,0,none⟩=some a∧W.cell? ⟨H,1,none⟩=some b∧W.cell? ⟨H,2,none⟩=some c∧W.cell? ⟨H,3,none⟩=some d∧W.cell? ⟨H,4,none⟩=some e∧W.cell? ⟨H,5,none⟩=some f)∧(W.frozen? ⟨H,0,none⟩=false∧W.frozen? ⟨H,1,none⟩=false∧W.frozen? ⟨H,2,none⟩=false∧W.frozen? ⟨H,3,none⟩=false∧W.frozen? ⟨H,4,none⟩=false∧W.frozen? ⟨H,5,none⟩=false) :=
 ⟨⟨h.c 0 (by simp),h.c 1 (by simp),h.c 2 (by simp),h.c 3 (by simp),h.c 4 (by simp),h.c 5 (by simp)⟩,h.f 0 (by simp),h.f 1 (by simp),h.f 2 (by simp),h.f 3 (by simp),h.f 4 (by simp),h.f 5 (by simp)⟩
theorem Bx.put6 {W:World} {H:Nat} {a b c d e f:Value} (h:Bx W H [a,b,c,d,e,f]) (a' b' c' d' e' f':Value):Bx ((((((W.setCell ⟨H,0,none⟩ a').setCell ⟨H,1,none⟩ b').setCell ⟨H,2,none⟩ c').setCell ⟨H,3,none⟩ d').setCell ⟨H,4,none⟩ e').setCell ⟨H,5,none⟩ f') H [a', b', c', d', e', f']:=by
 simpa using(((((h.set 0 (by simp) a').set 1 (by simp) b').set 2 (by simp) c').set 3 (by simp) d').set 4 (by simp) e').set 5 (by simp) f'
theorem touch6 (s:Nat) (w:World) (a b c d e f:Value):Touch s w ((((((w.setCell ⟨s,0,none⟩ a).setCell ⟨s,1,none⟩ b).setCell ⟨s,2,none⟩ c).setCell ⟨s,3,none⟩ d).setCell ⟨s,4,none⟩ e).setCell ⟨s,5,none⟩ f) :=
 (((((Touch.setCell _ _ _ _).trans (Touch.setCell _ _ _ _)).trans (Touch.setCell _ _ _ _)).trans (Touch.setCell _ _ _ _)).trans (Touch.setCell _ _ _ _)).trans (Touch.setCell _ _ _ _)
theorem atmV_ofI {w:World} {B:Nat} {a b:Value} {ws hs:List Int} (h0:Ints w B a ws) (h1:Ints w B b hs):AtmV w B (.agg #[a,b]) ws hs:=⟨_,_,rfl,h0,h1⟩
def Rd (lo:Nat) (w:World) (b:Nat):Prop:=lo≤b∧b<w.heap.size
theorem ArrD.grB {w w':World} {lo sz:Nat} {v:Value} {rows:List (List Value)} (h:ArrD w (Rd lo w) sz v rows) (hb:Below w.heap.size w w'):ArrD w' (Rd lo w') sz v rows:=(h.kept fun b hb2=>hb.block b hb2.2).weak fun b hb2=>⟨hb2.1,Nat.lt_of_lt_of_le hb2.2 hb.size⟩
theorem IntsD.grB {w w':World} {lo:Nat} {v:Value} {xs:List Int} (h:IntsD w (Rd lo w) v xs) (hb:Below w.heap.size w w'):IntsD w' (Rd lo w') v xs:=⟨h.1.grB hb,h.2⟩
theorem ArrD.tcB {w w':World} {lo g sz:Nat} {v:Value} {rows:List (List Value)} (h:ArrD w (Rd lo w) sz v rows) (ht:Touch g w w') (hg:g<lo):ArrD w' (Rd lo w') sz v rows:=(h.kept fun b hb2=>ht.block b hb2.2 (by have:=hb2.1;omega)).weak fun b hb2=>⟨hb2.1,Nat.lt_of_lt_of_le hb2.2 ht.size⟩
theorem IntsD.tcB {w w':World} {lo g:Nat} {v:Value} {xs:List Int} (h:IntsD w (Rd lo w) v xs) (ht:Touch g w w') (hg:g<lo):IntsD w' (Rd lo w') v xs:=⟨h.1.tcB ht hg,h.2⟩
def JobsP (w:World) (lo:Nat) (u:Value) (js:List TJ):Prop:=∃D:List TJV,ArrD w (Rd lo w) 5 u (D.map tjRow)∧D.map (·.1)=js∧∀x∈D,IntsD w (Rd lo w) x.2 x.1.rsp.data
theorem JobsP.grB {w w':World} {lo:Nat} {u:Value} {js:List TJ} (h:JobsP w lo u js) (hb:Below w.heap.size w w'):JobsP w' lo u js:=let ⟨D,h1,h2,h3⟩:=h;⟨D,h1.grB hb,h2,fun x hx=>(h3 x hx).grB hb⟩
theorem JobsP.tcB {w w':World} {lo g:Nat} {u:Value} {js:List TJ} (h:JobsP w lo u js) (ht:Touch g w w') (hg:g<lo):JobsP w' lo u js:=let ⟨D,h1,h2,h3⟩:=h;⟨D,h1.tcB ht hg,h2,fun x hx=>(h3 x hx).tcB ht hg⟩
theorem JobsP.to {w:World} {lo:Nat} {u:Value} {js:List TJ} (h:JobsP w lo u js):JobsV w w.heap.size u js:=let ⟨D,h1,h2,h3⟩:=h;⟨D,h1.to fun _ h=>h.2,h2,fun x hx=>(h3 x hx).to fun _ h=>h.2⟩
theorem arr_rd {α:Type} {w w':World} {e sz lo:Nat} {f:α→List Value} {v:Value} {xs:List α} (h:Owns w' w.heap.size e sz f v xs) (hf:∀x,(f x).length=sz) (hlo:lo≤w.heap.size) (hn:xs.length≤140737488351232):ArrD w' (Rd lo w') sz v (xs.map f) :=
 Owns.arrD h (fun k hk=>⟨Nat.le_trans hlo (OwnR.lt h k hk).1,(OwnR.lt h k hk).2⟩) hf hn
theorem ints_rd {w w':World} {e lo:Nat} {v:Value} {xs:List Int} (h:Owns w' w.heap.size e 1 rowI v xs) (hlo:lo≤w.heap.size) (hn:xs.length≤140737488351232) (hx:∀x∈xs,I64 x):IntsD w' (Rd lo w') v xs :=
 ⟨arr_rd h zE9 hlo hn,hx⟩
theorem jobs_rd {w w':World} {lo:Nat} {u:Value} {D:List TJV} {js:List TJ} (o:Owns w' w.heap.size 65 5 tjRow u D) (hm:D.map (·.1)=js) (hd:∀x∈D,IntsD w' (fun b=>w.heap.size≤b∧b<w'.heap.size∧u.ownBlock≠some b) x.2 x.1.rsp.data) (hlo:lo≤w.heap.size) (hn:js.length≤140737488351232):JobsP w' lo u js :=
 ⟨D,arr_rd o (fun _=>rfl) hlo (by rw[←hm,List.length_map]at hn;exact hn),hm,fun x hx=>(hd x hx).weak fun b hb=>⟨Nat.le_trans hlo hb.1,hb.2.1⟩⟩
theorem arrD_sl {w:World} {P:Nat→Prop} {sz:Nat} {v:Value} {rows:List (List Value)} (h:ArrD w P sz v rows):∃a n c,v=.slice a n c:=by obtain⟨a,c,e,_⟩:=h;exact⟨a,_,c,e⟩
theorem intsD_sl {w:World} {P:Nat→Prop} {v:Value} {xs:List Int} (h:IntsD w P v xs):∃a n c,v=.slice a n c:=arrD_sl h.1
theorem zI0 {w:World} {lo:Nat} {u:Value} {js:List TJ} (h:JobsP w lo u js):∃a n c,u=.slice a n c:=let ⟨_,h1,_⟩:=h;arrD_sl h1
set_option maxRecDepth 20000 in
theorem wp_build6 {a : Act} {w : World} {K : Act → World → Prop} {Q : Exit → Act → World → Prop} (d : Option Nat) (ty : Nat) (pos : String) (aft : Array Edge) (t0 t1 t2 t3 t4 : Nat)
  {a0 a1 a2 a3 a4 a5:Option Addr} {n0 n1 n2 n3 n4 n5 c0 c1 c2 c3 c4 c5:Nat} (h0:a.tmps.getD t0 undef=.agg #[.slice a0 n0 c0,.slice a1 n1 c1]) (h1:a.tmps.getD t1 undef=.slice a2 n2 c2) (h2:a.tmps.getD t2 undef=.slice a3 n3 c3) (h3:a.tmps.getD t3 undef=.slice a4 n4 c4) (h4:a.tmps.getD t4 undef=.slice a5 n5 c5)
  (h:K (a.put d (.agg #[.slice a0 n0 c0,.slice a1 n1 c1,.slice a2 n2 c2,.slice a3 n3 c3,.slice a4 n4 c4,.slice a5 n5 c5])) w) :
  Oper.wp Tryz.prog { dst:=d,op:=.build 77 #[(0,.tmp t0),(1,.tmp t1),(2,.tmp t2),(3,.tmp t3),(4,.tmp t4)],type:=ty,pos:=pos,after:=aft,guard:=none } a w K Q:=by
 obtain⟨tmps,defers⟩:=a;simp only[Array.getD_eq_getD_getElem?]at h0 h1 h2 h3 h4;go_simp;exact h
def tmA (i0:Value) (gS:Nat) (gR:Nat) (u3 u4 u5 u6 u7 u8 u9 u10 u11 u12 u13 u14 u15 u16 u17 u18:Value):Act:={ tmps:=#[i0,.pointer (some ⟨gS,0,none⟩),.pointer (some ⟨gR,0,none⟩),u3,u4,u5,u6,u7,u8,u9,u10,u11,u12,u13,u14,u15,u16,u17,u18],defers:=[] }
noncomputable def tmCode:Code:=(Tryz.f76.body.bind (zH0 1)).getD .skip
def TmP (gR:Nat) (xs ys:List Int) (ks:List Nat) (j3 j4 j5:List TJ) (wq w':World):Prop :=
 ∃a b c d e f,Bx w' gR [a,b,c,d,e,f]∧IntsD w' (Rd wq.heap.size w') a xs∧IntsD w' (Rd wq.heap.size w') b ys∧ArrD w' (Rd wq.heap.size w') 1 c (ks.map rowN)∧JobsP w' wq.heap.size d j3∧JobsP w' wq.heap.size e j4∧JobsP w' wq.heap.size f j5∧Touch gR wq w'
def AtP (xs ys:List Int) (wq:World) (v:Value) (W:World):Prop:=∃qa qb,v=.agg #[qa,qb]∧IntsD W (Rd wq.heap.size W) qa xs∧IntsD W (Rd wq.heap.size W) qb ys
theorem AtP.up {xs ys:List Int} {wq W W':World} {v:Value} (h:AtP xs ys wq v W) (hb:Below W.heap.size W W'):AtP xs ys wq v W':=let ⟨qa,qb,e,h1,h2⟩:=h;⟨qa,qb,e,h1.grB hb,h2.grB hb⟩
def tmC (gR : Nat) (xs ys : List Int) (ks : List Nat) (j3 j4 j5 : List TJ) (wq : World) (us : List Value) (W : World) : Prop := Touch gR wq W ∧ match us with
 |[]=>Bx W gR [vnil,vnil,vnil,vnil,vnil,vnil]
 |[a]=>Bx W gR [vnil,vnil,vnil,vnil,vnil,vnil]∧AtP xs ys wq a W
 |[a,b]=>Bx W gR [vnil,vnil,vnil,vnil,vnil,vnil]∧AtP xs ys wq a W∧ArrD W (Rd wq.heap.size W) 1 b (ks.map rowN)
 |[a,b,c]=>Bx W gR [vnil,vnil,vnil,vnil,vnil,vnil]∧AtP xs ys wq a W∧ArrD W (Rd wq.heap.size W) 1 b (ks.map rowN)∧JobsP W wq.heap.size c j3
 |[a,b,c,d]=>Bx W gR [vnil,vnil,vnil,vnil,vnil,vnil]∧AtP xs ys wq a W∧ArrD W (Rd wq.heap.size W) 1 b (ks.map rowN)∧JobsP W wq.heap.size c j3∧JobsP W wq.heap.size d j4
 |[a,b,c,d,e]=>Bx W gR [vnil,vnil,vnil,vnil,vnil,vnil]∧AtP xs ys wq a W∧ArrD W (Rd wq.heap.size W) 1 b (ks.map rowN)∧JobsP W wq.heap.size c j3∧JobsP W wq.heap.size d j4∧JobsP W wq.heap.size e j5
 |[a,b,c,d,e,f]=>Bx W gR [vnil,vnil,vnil,vnil,vnil,vnil]∧ArrD W (Rd wq.heap.size W) 1 b (ks.map rowN)∧JobsP W wq.heap.size c j3∧JobsP W wq.heap.size d j4∧JobsP W wq.heap.size e j5∧∃qa qb,f=.agg #[qa,qb,b,c,d,e]∧IntsD W (Rd wq.heap.size W) qa xs∧IntsD W (Rd wq.heap.size W) qb ys
 |[_,_,_,_,_,_,_]=>TmP gR xs ys ks j3 j4 j5 wq W
 |_=>False
set_option maxRecDepth 100000 in
theorem tm_region (i0 j3 j4 j5 j6 j7 j8 j9 j10 j11 j12 j13 j14 j15 j16 j17 j18 : Value) (gS : Nat) (gR : Nat) (B : Nat) (va : Value) (vb : Value) (vc : Value) (vd : Value) (ve : Value) (vf : Value) (xs : List Int) (ys : List Int) (ks : List Nat) (J3 : List TJ) (J4 : List TJ) (J5 : List TJ) (D3 : List TJV) (D4 : List TJV) (D5 : List TJV) (wq : World)
    (hS:Bx wq gS [va,vb,vc,vd,ve,vf]) (hR:Bx wq gR [vnil,vnil,vnil,vnil,vnil,vnil]) (hSR:gS≠gR) (hRlt:gR<wq.heap.size) (hBR:B≤gR) (hA:Ints wq B va xs) (hA2:Ints wq B vb ys) (hC:Arr wq B 1 vc (ks.map rowN)) (hJ3:Arr wq B 5 vd (D3.map tjRow)) (hE3:D3.map (·.1)=J3) (hK3:∀x∈D3,Ints wq B x.2 x.1.rsp.data) (hl3:D3.length≤1000∧∀x∈D3,x.1.rsp.data.length≤1000) (hJ4:Arr wq B 5 ve (D4.map tjRow)) (hE4:D4.map (·.1)=J4) (hK4:∀x∈D4,Ints wq B x.2 x.1.rsp.data) (hl4:D4.length≤1000∧∀x∈D4,x.1.rsp.data.length≤1000) (hJ5:Arr wq B 5 vf (D5.map tjRow)) (hE5:D5.map (·.1)=J5) (hK5:∀x∈D5,Ints wq B x.2 x.1.rsp.data) (hl5:D5.length≤1000∧∀x∈D5,x.1.rsp.data.length≤1000) (hl1:xs.length≤1048576) (hl2:ys.length≤1048576) (hl0:ks.length≤1000)
    {Q:Exit→Act→World→Prop}
    (hK:∀(u3 u4 u5 u6 u7 u8 u9 u10 u11 u12 u13 u14 u15 u16 u17 u18:Value) w', TmP gR xs ys ks J3 J4 J5 wq w' → Q .normal (tmA i0 gS gR u3 u4 u5 u6 u7 u8 u9 u10 u11 u12 u13 u14 u15 u16 u17 u18) w'):tmCode.wp Tryz.prog Q (tmA i0 gS gR j3 j4 j5 j6 j7 j8 j9 j10 j11 j12 j13 j14 j15 j16 j17 j18) wq:=by
  conv=>arg 2;whnf
  obtain⟨CC,hCC⟩:∃CC,CC=tmC gR xs ys ks J3 J4 J5 wq:=⟨_,rfl⟩
  have hC0:CC [] wq.drew:=by rw[hCC];exact⟨(Touch.refl _ _).drewd,hR.kept rfl⟩
  have hTC:∀us W,CC us W→Touch gR wq W:=by rw[hCC];exact fun us W h=>h.1
  have HCC:=hid hCC;have hne:Nonempty (Ph CC):=⟨⟨([],wq.drew),hC0⟩⟩
  have hBq:=Nat.le_trans hBR (Nat.le_of_lt hRlt);have hgs:=hS.lt;have pc:∀x:Ph CC,Bx x.1.2 gS [va,vb,vc,vd,ve,vf]:=fun x=>hS.kept ((hTC _ _ x.2).block gS hgs hSR)
  have c0:=fun x=>(pc x).six.1.1;have c1:=fun x=>(pc x).six.1.2.1;have c2:=fun x=>(pc x).six.1.2.2.1;have c3:=fun x=>(pc x).six.1.2.2.2.1;have c4:=fun x=>(pc x).six.1.2.2.2.2.1;have c5:=fun x=>(pc x).six.1.2.2.2.2.2
  clear hCC pc;unfold tmA;refine zA9 CC [(2,false),(5,false),(8,false),(11,false),(14,false),(15,false),(16,false)] [] (by kernel_rfl) (by kernel_rfl) hC0 ?_
  iterate 5
    repeat (
      (with_reducible refine wq1_q ⟨rfl,rfl⟩ (fun K hK=>?_))
      go_simp
      first
        |((with_reducible refine hK _ ?_);clear hK K)
        |((with_reducible refine zA7 (by simp[undef]) (hK _ ?_));clear hK K)
        | (apply Exists.intro
           (with_reducible refine⟨fun _=>?_,hK _ ?_⟩)
           (fail)
           clear hK K))
    refine wq1_v rfl ?_
  iterate 2 refine wq1_v rfl ?_
  refine zF4 ?_;clear c0 c1 c2 c3 c4 c5 hne;refine wq2_v _ rfl rfl ?_ ?_
  · intro W hW KA hKA
    rw[HCC.out]at hW;obtain⟨hT,hz⟩:=hW;have hHB:=hT.below hBR hBq;go_simp
    (with_reducible refine(atmCopy_any _ xs ys B W (atmV_ofI (hA.below hHB) (hA2.below hHB)) (Nat.le_trans hBq hT.size) hl1 hl2).mono ?_)
    rintro e w'' ⟨qa,qb,rfl,o1,o2,ap,hb⟩;go_simp;exact hKA _ _ _ (by rw[HCC.out];exact⟨hT.trans (Touch.of_below hb (Nat.le_refl _)),hz.below hb hz.lt,⟨qa,qb,rfl,ints_rd o1 hT.size (by omega) hA.2,ints_rd o2 hT.size (by omega) hA2.2⟩⟩) rfl
  intro v0 KA hKA;go_simp;refine hKA _ ?_;clear hKA KA;refine wq2_v _ rfl rfl ?_ ?_
  · intro W hW KA hKA
    rw[HCC.out]at hW;obtain⟨hT,hz,hA9⟩:=hW;have hHB:=hT.below hBR hBq;go_simp
    (with_reducible refine(zH4 rowN (fun _=>rfl) rowN_one _ ks B W (hC.below hHB) (by omega)).mono ?_)
    rintro e w'' ⟨u,rfl,o1,hb⟩;go_simp;exact hKA _ _ _ (by rw[HCC.out];exact⟨hT.trans (Touch.of_below hb (Nat.le_refl _)),hz.below hb hz.lt,hA9.up hb,arr_rd o1 (fun _=>rfl) hT.size (by omega)⟩) rfl
  intro v1 KA hKA;go_simp;refine hKA _ ?_;clear hKA KA;refine wq2_v _ rfl rfl ?_ ?_
  · intro W hW KA hKA
    rw[HCC.out]at hW;obtain⟨hT,hz,hA9,hN9⟩:=hW;have hHB:=hT.below hBR hBq;go_simp
    (with_reducible refine(zH3 D3 _ B W (hJ3.below hHB) (fun x hx2=>(hK3 x hx2).below hHB) (Nat.le_trans hBq hT.size) hl3.1 hl3.2).mono ?_)
    rintro e w'' ⟨u,D1,rfl,o1,hm1,hd,hb⟩;go_simp;exact hKA _ _ _ (by rw[HCC.out];exact⟨hT.trans (Touch.of_below hb (Nat.le_refl _)),hz.below hb hz.lt,hA9.up hb,hN9.grB hb,jobs_rd o1 (hm1.trans hE3) hd hT.size (by rw[←hE3,List.length_map];omega)⟩) rfl
  intro v2 KA hKA;go_simp;refine hKA _ ?_;clear hKA KA;refine wq2_v _ rfl rfl ?_ ?_
  · intro W hW KA hKA
    rw[HCC.out]at hW;obtain⟨hT,hz,hA9,hN9,hJ93⟩:=hW;have hHB:=hT.below hBR hBq;go_simp
    (with_reducible refine(zH3 D4 _ B W (hJ4.below hHB) (fun x hx2=>(hK4 x hx2).below hHB) (Nat.le_trans hBq hT.size) hl4.1 hl4.2).mono ?_)
    rintro e w'' ⟨u,D1,rfl,o1,hm1,hd,hb⟩;go_simp;exact hKA _ _ _ (by rw[HCC.out];exact⟨hT.trans (Touch.of_below hb (Nat.le_refl _)),hz.below hb hz.lt,hA9.up hb,hN9.grB hb,hJ93.grB hb,jobs_rd o1 (hm1.trans hE4) hd hT.size (by rw[←hE4,List.length_map];omega)⟩) rfl
  intro v3 KA hKA;go_simp;refine hKA _ ?_;clear hKA KA;refine wq2_v _ rfl rfl ?_ ?_
  · intro W hW KA hKA
    rw[HCC.out]at hW;obtain⟨hT,hz,hA9,hN9,hJ93,hJ94⟩:=hW;have hHB:=hT.below hBR hBq;go_simp
    (with_reducible refine(zH3 D5 _ B W (hJ5.below hHB) (fun x hx2=>(hK5 x hx2).below hHB) (Nat.le_trans hBq hT.size) hl5.1 hl5.2).mono ?_)
    rintro e w'' ⟨u,D1,rfl,o1,hm1,hd,hb⟩;go_simp;exact hKA _ _ _ (by rw[HCC.out];exact⟨hT.trans (Touch.of_below hb (Nat.le_refl _)),hz.below hb hz.lt,hA9.up hb,hN9.grB hb,hJ93.grB hb,hJ94.grB hb,jobs_rd o1 (hm1.trans hE5) hd hT.size (by rw[←hE5,List.length_map];omega)⟩) rfl
  intro v4 KA hKA;go_simp;refine hKA _ ?_;clear hKA KA;refine wq2_v _ rfl rfl ?_ ?_
  · intro W hW KA hKA
    rw[HCC.out]at hW;obtain⟨hT,hz,⟨qa,qb,rfl,hA8,hA9⟩,hN9,hJ93,hJ94,hJ95⟩:=hW;obtain⟨_,_,_,rfl⟩:=intsD_sl hA8;obtain⟨_,_,_,rfl⟩:=intsD_sl hA9;obtain⟨_,_,_,rfl⟩:=arrD_sl hN9;obtain⟨_,_,_,rfl⟩:=zI0 hJ93;obtain⟨_,_,_,rfl⟩:=zI0 hJ94;obtain⟨_,_,_,rfl⟩:=zI0 hJ95;refine wp_build6 _ _ _ _ 5 8 11 14 17 rfl rfl rfl rfl rfl ?_;exact hKA _ _ _ (by rw[HCC.out];exact⟨hT,hz,hN9,hJ93,hJ94,hJ95,_,_,rfl,hA8,hA9⟩) rfl
  intro v5 KA hKA;go_simp;refine hKA _ ?_;clear hKA KA;refine wq2_v _ rfl rfl ?_ ?_
  · intro W hW KA hKA
    rw[HCC.out]at hW;obtain⟨hT,hz,hN9,hJ93,hJ94,hJ95,qa,qb,rfl,hA8,hA9⟩:=hW;obtain⟨⟨d0,d1,d2,d3,d4,d5⟩,f0,f1,f2,f3,f4,f5⟩:=hz.six;obtain⟨_,_,_,rfl⟩:=intsD_sl hA8;obtain⟨_,_,_,rfl⟩:=intsD_sl hA9;obtain⟨_,_,_,rfl⟩:=arrD_sl hN9;obtain⟨_,_,_,rfl⟩:=zI0 hJ93;obtain⟨_,_,_,rfl⟩:=zI0 hJ94;obtain⟨_,_,_,rfl⟩:=zI0 hJ95;have hzl:=hz.lt;have ht:=fun a b c d e f=>touch6 gR W a b c d e f
    go_simp;exact hKA undef _ _ (by rw[HCC.out];exact⟨hT.trans (ht _ _ _ _ _ _),_,_,_,_,_,_,hz.put6 _ _ _ _ _ _,hA8.tcB (ht _ _ _ _ _ _) hRlt,hA9.tcB (ht _ _ _ _ _ _) hRlt,hN9.tcB (ht _ _ _ _ _ _) hRlt,hJ93.tcB (ht _ _ _ _ _ _) hRlt,hJ94.tcB (ht _ _ _ _ _ _) hRlt,hJ95.tcB (ht _ _ _ _ _ _) hRlt,hT.trans (ht _ _ _ _ _ _)⟩) rfl
  intro v6 KA hKA;go_simp;refine hKA _ ?_;clear hKA KA;refine zF3 ?_;intro wz hwz;rw[HCC.out]at hwz;exact hK _ _ _ _ _ _ _ _ _ _ _ _ _ _ _ _ wz hwz.2
end Go.Proofs.YtgkdoehkmbhfiaaGreat
