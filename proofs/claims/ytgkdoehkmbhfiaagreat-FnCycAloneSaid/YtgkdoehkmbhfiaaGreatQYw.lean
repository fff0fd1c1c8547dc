/- A bus with what one asks, put into a new box. -/
import Derived.Test.YtgkdoehkmbhfiaaGreatQQb9
import Derived.Test.YtgkdoehkmbhfiaaGreatQFl
import Derived.Test.YtgkdoehkmbhfiaaGreatQTc
import Derived.Test.YtgkdoehkmbhfiaaGreatQCs
import Derived.Test.YtgkdoehkmbhfiaaGreatQDo4
import Derived.Test.YtgkdoehkmbhfiaaGreatQDp1
import Derived.Test.YtgkdoehkmbhfiaaGreatQRp0
import Derived.Test.YtgkdoehkmbhfiaaGreatQDl
import Derived.Test.YtgkdoehkmbhfiaaGreatQMc
import Derived.Test.YtgkdoehkmbhfiaaGreatQMq
import Derived.Test.YtgkdoehkmbhfiaaGreatQLt
import Derived.Test.YtgkdoehkmbhfiaaGreatQLib
import Derived.StillTail
import Derived.StillTailTactics
import Derived.Deep.RegionWith
import Derived.Deep.Cut
import Derived.Deep.CutRange
set_option linter.unusedVariables false
set_option linter.unusedSimpArgs false
set_option maxHeartbeats 16000000
namespace Go.Proofs.YtgkdoehkmbhfiaaGreat
open Go.RowKit
theorem CyO.toR {w:World} {lo:Nat} {a b p s:Value} (h:CyO w lo a b p s z64 z6 z3 z4):∃V N C D,CyR w lo cy0 V N C D∧V 0=a∧V 1=b∧V 2=p∧V 3=s∧V 4=vnil:=by
 have nil:∀(e sz:Nat),OwnR w lo e sz vnil 0 []:=fun e sz=>⟨by simp,.inl ⟨rfl,rfl⟩⟩
 have an:∀v:Value,Apart v vnil:=fun v k _ h2=>by simp[vnil,Value.ownBlock]at h2
 have na:∀v:Value,Apart vnil v:=fun v k h2=>by simp[vnil,Value.ownBlock]at h2
 refine ⟨fun κ => if κ = 0 then a else if κ = 1 then b else if κ = 2 then p else if κ = 3 then s else vnil, fun κ => if κ = 0 then 64 else if κ = 1 then 6 else if κ = 2 then 3 else if κ = 3 then 4 else 0,
  fun κ=>if κ=0 then z64.flatMap rowI else if κ=1 then z6.flatMap rowI else if κ=2 then z3.flatMap rowP else if κ=3 then z4.flatMap rowS else[],fun _=>[],⟨⟨fun κ hκ=>?_,fun κ μ hκ hμ hne=>?_⟩,?_,rfl,fun κ hκ x hx=>by cases hx⟩,rfl,rfl,rfl,rfl,rfl⟩
 ·rcases κ with _|_|_|_|κ
  ·exact h.oa
  ·exact h.ob
  ·exact h.op
  ·exact h.os
  ·exact nil _ _
 ·rcases κ with _|_|_|_|κ <;> rcases μ with _|_|_|_|μ <;> first|exact absurd rfl hne|exact an _|exact na _|exact h.dab|exact h.dab.symm|exact h.dap|exact h.dap.symm|exact h.das|exact h.das.symm|exact h.dbp|exact h.dbp.symm|exact h.dbs|exact h.dbs.symm|exact h.dps|exact h.dps.symm
 ·have q:∀i:Nat,((5+i=0)=False∧(5+i=1)=False∧(5+i=2)=False∧(5+i=3)=False)∧((8+i=0)=False∧(8+i=1)=False∧(8+i=2)=False∧(8+i=3)=False)∧((11+i=0)=False∧(11+i=1)=False∧(11+i=2)=False∧(11+i=3)=False)∧((15+i=0)=False∧(15+i=1)=False∧(15+i=2)=False∧(15+i=3)=False):=fun i=>by
   refine⟨⟨?_,?_,?_,?_⟩,⟨?_,?_,?_,?_⟩,⟨?_,?_,?_,?_⟩,⟨?_,?_,?_,?_⟩⟩ <;> exact eq_false (by omega)
  refine⟨rfl,rfl,rfl,rfl,rfl,rfl,rfl,rfl,rfl,rfl,rfl,fun i hi=>?_,fun i hi=>?_,fun i hi=>?_,fun i hi=>?_,fun i hi=>?_,fun i hi=>?_,fun i hi=>?_,fun i hi=>?_,fun i hi=>rfl,rfl,rfl⟩ <;> simp[q i,cy0]
theorem i64_z64:∀x∈z64,I64 x:=by intro x hx;obtain⟨_,rfl⟩:=List.mem_replicate.1 hx;exact⟨by omega,by omega⟩
theorem i64_z6:∀x∈z6,I64 x:=by intro x hx;obtain⟨_,rfl⟩:=List.mem_replicate.1 hx;exact⟨by omega,by omega⟩
theorem small_zero:SmallC cy0:=⟨by simp[cy0],by simp[cy0],⟨by simp[cy0],by simp[cy0]⟩,fun i _=>by simp[cy0],fun i _=>by simp[cy0],fun s _=>by simp[cy0],fun s _=>⟨by simp[cy0],by simp[cy0]⟩⟩
theorem CyO.toV {w:World} {lo:Nat} {a b p s:Value} (h:CyO w lo a b p s z64 z6 z3 z4):∃P Q,CyV w w.heap.size a b p s vnil cy0 P Q:=by
 obtain⟨V,N,C,D,hr,rfl,rfl,rfl,rfl,e4⟩:=h.toR;rw[←e4];exact cyV_raw hr.raw hr.con (fun κ hκ x hx=>(hr.dat κ hκ x hx).to fun b hb=>hb.2.1) small_zero i64_z64 i64_z6
theorem CopP.sl {st:Cy} {w:World} {e:Ending} {w':World} (h:CopP st w e w'):∃V N C D b0 b1 b2 b3 b4 n0 n1 n2 n3 n4 k0 k1 k2 k3 k4,(V 0=.slice b0 n0 k0∧V 1=.slice b1 n1 k1∧V 2=.slice b2 n2 k2∧V 3=.slice b3 n3 k3∧V 4=.slice b4 n4 k4)∧e=.returned (.agg #[.slice b0 n0 k0,.slice b1 n1 k1,.slice b2 n2 k2,.slice b3 n3 k3,.slice b4 n4 k4])∧CyR w' w.heap.size st V N C D∧Below w.heap.size w w':=by
 obtain⟨V,N,C,D,rfl,hr,hbl⟩:=h;obtain⟨A,n,K,e0,e1,e2,e3,e4⟩:=hr.raw.sl;exact⟨V,N,C,D,_,_,_,_,_,_,_,_,_,_,_,_,_,_,_,⟨e0,e1,e2,e3,e4⟩,by rw[e0,e1,e2,e3,e4],hr,hbl⟩
theorem CopP.out {st : Cy} {w wa : World} {V : Nat → Value} {N : Nat → Nat} {C : Nat → List Value} {D : Nat → List TJV} {b0 b1 b2 b3 b4 : Option Addr} {n0 n1 n2 n3 n4 k0 k1 k2 k3 k4 base : Nat} (hE : V 0 = .slice b0 n0 k0 ∧ V 1 = .slice b1 n1 k1 ∧ V 2 = .slice b2 n2 k2 ∧ V 3 = .slice b3 n3 k3 ∧ V 4 = .slice b4 n4 k4) (hr : CyR wa base st V N C D) (hw : Below w.heap.size w wa) (g : Nat) (hg : g < base) (hg2 : w.heap.size ≤ g) :
  CopP st w (.returned (.agg #[.slice b0 n0 k0,.slice b1 n1 k1,.slice b2 n2 k2,.slice b3 n3 k3,.slice b4 n4 k4])) (((((wa.setCell ⟨g,0,none⟩ (.slice b0 n0 k0)).setCell ⟨g,1,none⟩ (.slice b1 n1 k1)).setCell ⟨g,2,none⟩ (.slice b2 n2 k2)).setCell ⟨g,3,none⟩ (.slice b3 n3 k3)).setCell ⟨g,4,none⟩ (.slice b4 n4 k4)):=by
 obtain⟨e0,e1,e2,e3,e4⟩:=hE;refine⟨V,N,C,D,by rw[e0,e1,e2,e3,e4],(hr.kept (fun b h1 h2=>(touchC g _ _ _ _ _ _).block b h2 (by omega)) (touchC g _ _ _ _ _ _).size).rebase (by omega),?_⟩;exact((((hw.setCell (p:=⟨g,_,none⟩) hg2 _).setCell (p:=⟨g,_,none⟩) hg2 _).setCell (p:=⟨g,_,none⟩) hg2 _).setCell (p:=⟨g,_,none⟩) hg2 _).setCell (p:=⟨g,_,none⟩) hg2 _
set_option maxRecDepth 8000 in
theorem cycNew_any (w:World):Calls Tryz.prog 10 #[] w (CopP cy0 w):=by
 go_enter Tryz.func10,Tryz.ntmps10
 go_wp2_with fail
 refine(implAtmNewW_any _).mono ?_;rintro e w1 ⟨wa,wc,g,ga,go,gc,rfl,o1,o2,_,_,hap,hb⟩;have HR:=hid ((Bx.new w #[vnil,vnil,vnil,vnil,vnil] 39 (by simp)).below hb (by simp));have HB1:=hid ((bx1 w _).trans (hb.mono (by simp)));have O1:=hid o1;have O2:=hid o2;have AP:=hid hap;clear o1 o2 hap hb;obtain⟨⟨r0,r1,r2,r3,r4⟩,f0,f1,f2,f3,f4⟩:=HR.out.five;have hz1:=HR.out.lt
 go_wp2_with fail
 clear r0 r1 r2 r3 r4 f0 f1 f2 f3 f4;obtain⟨W2,hW2⟩:∃W2,W2=w1.alloc (.cells #[.slice (some ⟨g,wa,none⟩) 64 wc,.slice (some ⟨ga,go,none⟩) 6 gc,.slice none 0 0,.slice none 0 0,.slice none 0 0] 39):=⟨_,rfl⟩
 rw[←hW2];have hb2:Below w1.heap.size w1 W2:=by rw[hW2];exact bx1 _ _
 have hz2:W2.heap.size=w1.heap.size+1:=by rw[hW2];simp
 have HS:=hid (show Bx W2 w1.heap.size [.slice (some ⟨g,wa,none⟩) 64 wc,.slice (some ⟨ga,go,none⟩) 6 gc,vnil,vnil,vnil] by rw[hW2];exact Bx.new w1 #[.slice (some ⟨g,wa,none⟩) 64 wc,.slice (some ⟨ga,go,none⟩) 6 gc,vnil,vnil,vnil] _ (by simp));have HR2:=hid (HR.out.below hb2 hz1);have HB2:=hid hb2;have HZ2:=hid hz2;clear hW2 hb2 HR hz2
 go_loopw [4] (fun i wr=>∃(k:Nat) (u:Value),i=.int .i64 k∧k≤3∧Owns wr (w1.heap.size+1) 48 4 rowP u (List.replicate k ((0,3):Int×Int))∧Below w1.heap.size W2 wr∧Bx wr w.heap.size [vnil,vnil,vnil,vnil,vnil]∧Bx wr w1.heap.size [.slice (some ⟨g,wa,none⟩) 64 wc,.slice (some ⟨ga,go,none⟩) 6 gc,u,vnil,vnil]∧w1.heap.size+1≤wr.heap.size) (fun i _=>3 - (intOf i).toNat)
 case atStart=>exact⟨0,_,rfl,by omega,Owns.zero,Below.refl _ _,HR2.out,HS.out,by have:=HZ2.out;omega⟩
 case round=>
  clear HS HR2;obtain⟨k,u,rfl,hk3,hown,hbl,hr,hs,hsz⟩:=hrel;have HOW:=hid hown;have HBL:=hid hbl;have HR:=hid hr;have HS:=hid hs;have HSZ:=hid hsz;clear hown hbl hr hs hsz;have hrep:=hid (show List.replicate k ((0,3):Int×Int)++[(0,3)]=List.replicate (k+1) (0,3) from by rw[List.replicate_succ']);have hlr:=hid (show(List.replicate k ((0,3):Int×Int)).length=k from by simp);obtain⟨⟨s0,s1,s2,s3,s4⟩,e0,e1,e2,e3,e4⟩:=HS.out.five;have hsl:=HS.out.lt;by_cases hlt:k<3
  ·go_wp2_with (at_builtin;go_must (refine wpList_push elem_portY rowP rowP_len rowP_one wr rfl _ _ rfl (w1.heap.size+1) _ _ (0,3) (by rfl) HOW.out _ (by rfl) (by rfl) (by rw[hlr.out];omega) (by rw[hlr.out];omega) HSZ.out ?_);intro v' w3 hown1 hb1;rw[hrep.out]at hown1;obtain⟨va,vc,hv', hvc1,hvc2⟩:=hown1.shape;rw[List.length_replicate]at hv';subst hv';have HS3:=hid (HS.out.below hb1 (by omega));have HR3:=hid (HR.out.below hb1 (by omega));obtain⟨⟨s0,s1,s2,s3,s4⟩,e0,e1,e2,e3,e4⟩:=HS3.out.five;have hsl3:=HS3.out.lt;have HO1:=hid hown1;have HB1':=hid hb1;clear hown1 hb1)
   go_roundw
   case rel=>exact⟨k+1,_,by go_num,by omega,HO1.out.set' _ _ _ (fun j hj=>by have:=(OwnR.lt HO1.out j hj).1;omega),(HBL.out.trans (HB1'.out.mono (by omega))).setCell (by exact Nat.le_refl _) _,HR3.out.kept (Below.heap_setCell _ _ _ _ (by show w.heap.size≠w1.heap.size;omega)),HS3.out.set 2 (by simp) _,by have:=HB1'.out.size;have:=HSZ.out;simp[World.setCell];omega⟩
   case measure=>simp[intOf];omega
  ·obtain rfl:k=3:=by omega
   go_wp2_with fail
   obtain⟨wo,hwo⟩:∃W,W=wr:=⟨_,rfl⟩
   subst hwo;have hz3:w1.heap.size<wo.heap.size:=hsl;clear s0 s1 s2 s3 s4 e0 e1 e2 e3 e4;have hc3:((3:Nat):Int)=3:=rfl;simp only[hc3];clear hc3
   go_loopw [13] (fun i wx=>∃(k:Nat) (v:Value),i=.int .i64 k∧k≤4∧Owns wx wo.heap.size 94 3 rowS v (List.replicate k (2:Int))∧Owns wx (w1.heap.size+1) 48 4 rowP u (List.replicate 3 ((0,3):Int×Int))∧Below w1.heap.size W2 wx∧Bx wx w.heap.size [vnil,vnil,vnil,vnil,vnil]∧Bx wx w1.heap.size [.slice (some ⟨g,wa,none⟩) 64 wc,.slice (some ⟨ga,go,none⟩) 6 gc,u,v,vnil]∧wo.heap.size≤wx.heap.size) (fun i _=>4 - (intOf i).toNat)
   case atStart=>exact⟨0,_,rfl,by omega,Owns.zero,HOW.out,HBL.out,HR.out,HS.out,Nat.le_refl _⟩
   case round=>
    have hul:=hid (fun j hj=>(OwnR.lt HOW.out j hj).2);clear HBL HR HS;obtain⟨k,v,rfl,hk4,hown,hop,hbl,hr,hs,hsz⟩:=hrel;have HOS:=hid hown;have HOP:=hid hop;have HBL:=hid hbl;have HR:=hid hr;have HS:=hid hs;have HSZ2:=hid hsz;clear hown hop hbl hr hs hsz;have hrep:=hid (show List.replicate k (2:Int)++[2]=List.replicate (k+1) 2 from by rw[List.replicate_succ']);have hlr:=hid (show(List.replicate k (2:Int)).length=k from by simp);obtain⟨⟨s0,s1,s2,s3,s4⟩,e0,e1,e2,e3,e4⟩:=HS.out.five;have hsl:=HS.out.lt;by_cases hlt4:k<4
    ·have hle3:(k:Int)≤3:=by omega
     go_wp2_with (at_builtin;go_must (refine wpList_push elem_slaveY rowS rowS_len rowS_one _ rfl _ _ rfl wo.heap.size _ _ 2 (by rfl) HOS.out _ (by rfl) (by rfl) (by rw[hlr.out];omega) (by rw[hlr.out];omega) HSZ2.out ?_);intro v' w3 hown1 hb1;rw[hrep.out]at hown1;obtain⟨va,vc,hv', hvc1,hvc2⟩:=hown1.shape;rw[List.length_replicate]at hv';subst hv';have HS3:=hid (HS.out.below hb1 (by omega));have HR3:=hid (HR.out.below hb1 (by omega));have HOP3:=hid (OwnR.below HOP.out hb1 (fun j hj=>hul.out j hj));obtain⟨⟨s0,s1,s2,s3,s4⟩,e0,e1,e2,e3,e4⟩:=HS3.out.five;have hsl3:=HS3.out.lt;have HO1:=hid hown1;have HB1':=hid hb1;clear hown1 hb1)
     go_roundw
     case rel=>exact⟨k+1,_,by go_num,by omega,HO1.out.set' _ _ _ (fun j hj=>by have:=(OwnR.lt HO1.out j hj).1;omega),Owns.set' HOP3.out _ _ _ (fun j hj=>by have:=(OwnR.lt HOP3.out j hj).1;omega),(HBL.out.trans (HB1'.out.mono (by omega))).setCell (by exact Nat.le_refl _) _,HR3.out.kept (Below.heap_setCell _ _ _ _ (by show w.heap.size≠w1.heap.size;omega)),HS3.out.set 3 (by simp) _,by have:=HB1'.out.size;have:=HSZ2.out;simp[World.setCell];omega⟩
     case measure=>simp[intOf];omega
    ·obtain rfl:k=4:=by omega
     obtain⟨pa,pc,rfl,_,_⟩:=HOP.out.shape;obtain⟨sa,sc,rfl,_,_⟩:=HOS.out.shape;simp only[List.length_replicate]at *;have O1W:=hid (OwnR.below (O1.out.below HB2.out) HBL.out (fun j hj=>(OwnR.lt O1.out j hj).2));have O2W:=hid (OwnR.below (O2.out.below HB2.out) HBL.out (fun j hj=>(OwnR.lt O2.out j hj).2));have hg1:∀j,(Value.slice (some ⟨g,wa,none⟩) 64 wc).ownBlock=some j→w.heap.size+1≤j∧j<w1.heap.size:=fun j hj=>by have:=OwnR.lt O1.out j hj;simpa using this
     have hg2:∀j,(Value.slice (some ⟨ga,go,none⟩) 6 gc).ownBlock=some j→w.heap.size+1≤j∧j<w1.heap.size:=fun j hj=>by have:=OwnR.lt O2.out j hj;simpa using this
     have hg3:∀j,(Value.slice pa 3 pc).ownBlock=some j→w1.heap.size+1≤j∧j<wo.heap.size:=fun j hj=>⟨(OwnR.lt HOP.out j hj).1,hul.out j hj⟩
     have hg4:∀j,(Value.slice sa 4 sc).ownBlock=some j→wo.heap.size≤j:=fun j hj=>(OwnR.lt HOS.out j hj).1
     have HCY := hid (show CyO _ w.heap.size (.slice (some ⟨g, wa, none⟩) 64 wc) (.slice (some ⟨ga, go, none⟩) 6 gc) (.slice pa 3 pc) (.slice sa 4 sc) z64 z6 z3 z4 from
      ⟨OwnR.rebase O1W.out (show w.heap.size ≤ _ by simp), OwnR.rebase O2W.out (show w.heap.size ≤ _ by simp), OwnR.rebase HOP.out (show w.heap.size ≤ w1.heap.size + 1 by omega), OwnR.rebase HOS.out (show w.heap.size ≤ wo.heap.size by omega),
       AP.out,Apart.of_lt (m:=w1.heap.size) (fun j hj=>(hg1 j hj).2) (fun j hj=>by have:=hg3 j hj;omega),Apart.of_lt (m:=w1.heap.size) (fun j hj=>(hg1 j hj).2) (fun j hj=>by have:=hg4 j hj;omega),
       Apart.of_lt (m:=w1.heap.size) (fun j hj=>(hg2 j hj).2) (fun j hj=>by have:=hg3 j hj;omega),Apart.of_lt (m:=w1.heap.size) (fun j hj=>(hg2 j hj).2) (fun j hj=>by have:=hg4 j hj;omega),Apart.of_lt (m:=wo.heap.size) (fun j hj=>(hg3 j hj).2) (fun j hj=>hg4 j hj)⟩)
     clear hg1 hg2 hg3 hg4;obtain⟨⟨s0,s1,s2,s3,s4⟩,_⟩:=HS.out.five
     go_wp2_with fail
     clear s0 s1 s2 s3 s4;obtain⟨PP,QQ,hvv⟩:=HCY.out.toV;refine(cycCopyV_any hvv (Nat.le_refl _) small_zero).mono ?_;rintro e w5 hcop;obtain⟨V,N,C,D,y0,y1,y2,y3,y4,m0,m1,m2,m3,m4,j0,j1,j2,j3,j4,hE,rfl,hC,hb5⟩:=hcop.sl;have HC5:=hid hC;have HB5:=hid hb5;have HE:=hid hE;clear hC hb5 hcop hE hvv;have HR5:=hid (HR.out.below HB5.out HR.out.lt);obtain⟨⟨r0,r1,r2,r3,r4⟩,f0,f1,f2,f3,f4⟩:=HR5.out.five;have hrl:=HR.out.lt;have hr5:=HR5.out.lt;have hbE:Below w.heap.size w w5:=((HB1.out.trans (HB2.out.mono (by omega))).trans (HBL.out.mono (by omega))).trans (HB5.out.mono (by omega));have HBE:=hid hbE;clear hbE
     go_wp2_with fail
     refine bodyPost_ret (zB0 Tryz.results10 _ _ ⟨w.heap.size,0,none⟩ (.agg #[.slice y0 m0 j0,.slice y1 m1 j1,.slice y2 m2 j2,.slice y3 m3 j3,.slice y4 m4 j4]) rfl (zJ2 _ _ _ _ _ _ _ (by simp[go_sem, *]) (by simp[go_sem, *]) (by simp[go_sem, *]) (by simp[go_sem, *]) (by simp[go_sem, *]))) rfl ?_;exact CopP.out HE.out HC5.out HBE.out w.heap.size (by omega) (Nat.le_refl _)
theorem CopP.view {c:Cfg} (hb:Bus c) {st:Cy} (hg:Good c st) {w:World} {e:Ending} {w':World} (h:CopP st w e w'):∃b0 b1 b2 b3 b4 n0 n1 n2 n3 n4 k0 k1 k2 k3 k4 P Q,e=.returned (.agg #[.slice b0 n0 k0,.slice b1 n1 k1,.slice b2 n2 k2,.slice b3 n3 k3,.slice b4 n4 k4])∧CyV w' w'.heap.size (.slice b0 n0 k0) (.slice b1 n1 k1) (.slice b2 n2 k2) (.slice b3 n3 k3) (.slice b4 n4 k4) st P Q∧Below w.heap.size w w':=by
 obtain⟨V,N,C,D,rfl,hr,hbl⟩:=h;obtain⟨P,Q,hv⟩:=hr.toV hb hg;obtain⟨b0,b1,b2,b3,b4,n0,n1,n2,n3,n4,k0,k1,k2,k3,k4,e0,e1,e2,e3,e4⟩:=hv.sl;rw[e0,e1,e2,e3,e4]at hv;exact⟨b0,b1,b2,b3,b4,n0,n1,n2,n3,n4,k0,k1,k2,k3,k4,P,Q,by rw[e0,e1,e2,e3,e4],hv,hbl⟩
set_option maxRecDepth 8000 in
theorem crPlay_any {c : Cfg} (hbus : Bus c) {w : World} {B : Nat} {u v : Value} (hc : BusV w B u c) {ins : List Inp} (hi : Ins w B v ins) (hB : B ≤ w.heap.size) (hl : ins.length ≤ 300) :
  Calls Tryz.prog 39 #[u,v] w (CopP (runC c ins cy0) w):=by
 obtain⟨mv,lb,lo,lc,pb,po,pc,QQ,K,rfl,⟨ma,mn,mk,rfl⟩,_,_,_,_,_,_⟩:=hc.opened hbus;obtain⟨ia,ic,rfl,ic1,ic2,ic3,_,_⟩:=hi.opened;obtain⟨il,hil⟩:∃x,x=ins.length:=⟨_,rfl⟩
 rw[←hil]at hi ⊢;have HBV:=hid hc;have HIV:=hid hi;obtain⟨w0,hw0⟩:∃W,W=(w.alloc (.cells #[.slice ma mn mk,.slice (some ⟨lb,lo,none⟩) 4 lc,.slice (some ⟨pb,po,none⟩) 3 pc] 27)).alloc (.cells #[.slice none 0 0,.slice none 0 0,.slice none 0 0,.slice none 0 0,.slice none 0 0] 39):=⟨_,rfl⟩
 have hb0:Below w.heap.size w w0:=by rw[hw0];exact((Below.refl _ _).alloc (Nat.le_refl _) _).alloc (by simp) _
 obtain⟨g3,hg3⟩:∃g,g=w.heap.size+1:=⟨_,rfl⟩
 have X0 := hid (show Bx w0 w.heap.size [.slice ma mn mk, .slice (some ⟨lb, lo, none⟩) 4 lc, .slice (some ⟨pb, po, none⟩) 3 pc] by
  rw[hw0];exact(Bx.new w #[.slice ma mn mk,.slice (some ⟨lb,lo,none⟩) 4 lc,.slice (some ⟨pb,po,none⟩) 3 pc] 27 (by simp)).below ((Below.refl _ _).alloc (Nat.le_refl _) _) (by simp))
 have X3 := hid (show Bx w0 g3 [vnil, vnil, vnil, vnil, vnil] by
  rw[hw0,hg3];have:=Bx.new (w.alloc (.cells #[.slice ma mn mk,.slice (some ⟨lb,lo,none⟩) 4 lc,.slice (some ⟨pb,po,none⟩) 3 pc] 27)) #[vnil,vnil,vnil,vnil,vnil] 39 (by simp);simpa using this)
 have HB0:=hid hb0;obtain⟨b0,b1,b2⟩:=X0.out.three.1;have bz:=X0.out.lt;clear hc hi hb0 hil
 go_enter Tryz.func39,Tryz.ntmps39
 go_upto_region 1 with fail
 rw[←hw0,←hg3];have HG3:=hid hg3;clear hw0 hg3
 go_region_with (first
  |(go_at_call 10;go_loud ((with_reducible refine(cycNew_any _).mono ?_));rintro e w2 hcop;obtain⟨z0,z1,z2,z3,z4,n0,n1,n2,n3,n4,k0,k1,k2,k3,k4,P,Q,rfl,hv,hb2⟩:=hcop.view hbus (zJ4 c);have HB2:=hid ((show Below w0.heap.size w0 w0.drew from(Below.refl _ _).drew).trans hb2);have HV2:=hid hv;have b0:=(HB2.out.cell (p:=⟨w.heap.size,0,none⟩) bz).trans b0;have b1:=(HB2.out.cell (p:=⟨w.heap.size,1,none⟩) bz).trans b1;have b2:=(HB2.out.cell (p:=⟨w.heap.size,2,none⟩) bz).trans b2;clear hcop hv hb2)
  |(go_at_call 23;go_loud ((with_reducible refine(cycRun_any hbus ((HBV.out.below ((HB0.out.trans (HB2.out.mono HB0.out.size)).mono hB)).mono (Nat.le_trans hB (Nat.le_trans HB0.out.size HB2.out.size))) HV2.out ((HIV.out.below ((HB0.out.trans (HB2.out.mono HB0.out.size)).mono hB)).mono (Nat.le_trans hB (Nat.le_trans HB0.out.size HB2.out.size))) (Nat.le_refl _) (zJ4 c) hl).mono ?_));rintro e w3 hcop;obtain⟨V,N,C,D,y0,y1,y2,y3,y4,m0,m1,m2,m3,m4,j0,j1,j2,j3,j4,hE,rfl,hr,hb3⟩:=hcop.sl;have HE:=hid hE;have HR:=hid hr;have HB3:=hid (HB2.out.trans (hb3.mono HB2.out.size));have HX3:=hid (X3.out.below HB3.out X3.out.lt);have HQ3:=hid hb3;obtain⟨⟨q0,q1,q2,q3,q4⟩,f0,f1,f2,f3,f4⟩:=HX3.out.five;have hrl:=HX3.out.lt;clear hcop hE hr hb3))
 all_goals
  go_wp2_with fail
  refine bodyPost_ret (zB0 Tryz.results39 _ _ ⟨g3,0,none⟩ (.agg #[.slice y0 m0 j0,.slice y1 m1 j1,.slice y2 m2 j2,.slice y3 m3 j3,.slice y4 m4 j4]) rfl (zJ2 _ _ _ _ _ _ _ (by simp[go_sem, *]) (by simp[go_sem, *]) (by simp[go_sem, *]) (by simp[go_sem, *]) (by simp[go_sem, *]))) rfl ?_;exact CopP.out HE.out HR.out (HB0.out.trans (HB3.out.mono HB0.out.size)) g3 (by have:=X3.out.lt;have:=HB2.out.size;omega) (by have:=HG3.out;omega)
theorem rqFit_ok {q:Rq} (h:reqOk q=true):RqFit q:=by
 unfold reqOk adrOk inB at h;simp only[Bool.and_eq_true,decide_eq_true_eq,Bool.or_eq_true,beq_iff_eq]at h;obtain⟨⟨⟨⟨⟨i0,i1⟩,k0,k1⟩,⟨⟨a0,a1⟩,m⟩,_⟩,_⟩,rest⟩:=h;have hm:1≤q.many∧q.many≤4:=by omega
 have hw:∀y:Int,zB1 y=true→I64 y:=fun y hy=>by
  unfold zB1 inB at hy;simp only[Bool.and_eq_true,decide_eq_true_eq]at hy;unfold I64;omega
 split at rest
 ·simp only[Bool.and_eq_true,beq_iff_eq,List.all_eq_true,decide_eq_true_eq]at rest;obtain⟨⟨⟨d,l⟩,dw⟩,lw⟩:=rest;refine⟨⟨by omega,by omega⟩,fun y hy=>hw y (dw y hy),fun y hy=>?_,?_,?_,?_,?_⟩
  ·have:=lw y hy;unfold I64;omega
  all_goals unfold I64;omega
 ·simp only[Bool.and_eq_true,beq_iff_eq]at rest;refine⟨⟨by omega,by omega⟩,fun y hy=>?_,fun y hy=>?_,?_,?_,?_,?_⟩
  ·have:=List.length_pos_of_mem hy;omega
  ·have:=List.length_pos_of_mem hy;omega
  all_goals unfold I64;omega
theorem BusI.toV {w:World} {B:Nat} {v:Value} {c:Cfg} (h:BusI w B v c.ms (c.lat.map fun(n:Nat)=>(n:Int)) c.progs):BusV w B v c:=by
 obtain⟨mv,lv,pv,rfl,h1,h2,h3⟩:=h;obtain⟨ma,mc,rfl,_⟩:=h1.opened;obtain⟨ao,cap,rfl,_⟩:=h3.opened;obtain⟨hl,_⟩:=h2;rw[List.map_map]at hl;have hl2:Arr w B 1 lv (c.lat.map rowN):=hl;obtain⟨la,lc,rfl⟩:∃la lc,lv=.slice la c.lat.length lc:=by
  obtain⟨la,lc,e,_⟩:=hl2;exact⟨la,lc,by rw[e,List.length_map]⟩
 obtain⟨vs,k1,k2,k3⟩:=h3;refine⟨_,_,_,_,_,_,fun i=>vs.getD i undef,rfl,h1,hl2,?_,fun i hi=>?_⟩
 ·have e:(List.range c.progs.length).map (fun i=>[vs.getD i undef])=vs.map fun u=>u.cells.toList:=by
   apply List.ext_getElem
   ·simp[k2]
   ·intro i h1 h2;have hi:i<c.progs.length:=by simpa using h1
    have hv:i<vs.length:=by omega
    obtain⟨a,k,e,_⟩:=(k3 i hi []).opened;have e2:vs.getD i undef=vs[i]:=by simp[List.getD,hv]
    rw[e2]at e;simp only[List.getElem_map,List.getElem_range,e2];rw[e];rfl
  rw[e];exact k1
 ·have:=k3 i hi [];exact this
def aloneC (c:Cfg) (who:Nat):Cfg:=⟨c.ms,c.lat,zE5 c.progs who 3⟩
theorem aloneC_prog {c:Cfg} (hb:Bus c) (who:Nat) {i:Nat} (hi:i<3):(aloneC c who).prog i=if i=who then c.prog who else[]:=by
 have h:=aloneK_get (pss:=c.progs) (who:=(who:Int)) (k:=3) (j:=i) (by rw[hb.progs];exact hi);show(zE5 c.progs who 3).getD i []=_;rw[h];by_cases e:i=who
 ·subst e;rw[if_pos rfl,if_neg (by simp)];rfl
 ·rw[if_neg e,if_pos ⟨hi,by omega⟩]
theorem aloneC_mem {c:Cfg} (hb:Bus c) (who:Nat):∀p∈(aloneC c who).progs,p=[]∨p∈c.progs:=by
 intro p hp;obtain⟨j,hj,rfl⟩:=List.mem_map.1 (show p∈(List.range c.progs.length).map fun(j:Nat)=>if j<3∧(j:Int)≠(who:Int) then[] else c.progs.getD j [] from hp)
 split
 ·exact .inl rfl
 ·exact .inr (zB5 (List.mem_range.1 hj))
theorem Bus.alone {c:Cfg} (hb:Bus c) (who:Nat):Bus (aloneC c who):=by
 refine⟨hb.ms,hb.lat,hb.lat3,(zC1 _ _ _).trans hb.progs,fun p hp=>?_,fun p hp r hr=>?_⟩
 ·rcases aloneC_mem hb who p hp with rfl|h
  ·simp
  ·exact hb.most p h
 ·rcases aloneC_mem hb who p hp with rfl|h
  ·simp at hr
  ·exact hb.reqs p h r hr
def AloneP (c:Cfg) (who:Nat) (w:World) (e:Ending) (w':World):Prop:=∃ma mk lb lo lc pb us L,e=.returned (.agg #[.slice ma c.ms.length mk,.slice (some ⟨lb,lo,none⟩) 4 lc,.slice (some ⟨pb,0,none⟩) 3 3])∧Maps w' w'.heap.size (.slice ma c.ms.length mk) c.ms∧(∀k,(Value.slice ma c.ms.length mk).ownBlock=some k→k≠pb∧w.heap.size≤k)∧Ints w' w'.heap.size (.slice (some ⟨lb,lo,none⟩) 4 lc) (c.lat.map fun(n:Nat)=>(n:Int))∧lb≠pb∧w.heap.size≤lb∧PsO w' w.heap.size pb 3 us (zE5 c.progs who 3) L∧Below w.heap.size w w'
theorem AloneP.bus {c : Cfg} (hb : Bus c) {who : Nat} {w' : World} {lo0 : Nat} {ma : Option Addr} {mk lb lo lc pb : Nat} {us : List Value} {L : Nat → Nat} (h1 : Maps w' w'.heap.size (.slice ma c.ms.length mk) c.ms) (h2 : Ints w' w'.heap.size (.slice (some ⟨lb, lo, none⟩) 4 lc) (c.lat.map fun (n : Nat) => (n : Int))) (h3 : PsO w' lo0 pb 3 us (zE5 c.progs who 3) L) :
  BusV w' w'.heap.size (.agg #[.slice ma c.ms.length mk,.slice (some ⟨lb,lo,none⟩) 4 lc,.slice (some ⟨pb,0,none⟩) 3 3]) (aloneC c who):=by
 refine BusI.toV ⟨_,_,_,rfl,h1,h2,?_⟩;refine h3.progs ((zC1 _ _ _).trans hb.progs) (by omega) fun p hp=>?_
 have hB:=hb.alone who;exact⟨by have:=hB.most p hp;omega,fun q hq=>rqFit_ok (hB.reqs p hp q hq)⟩
theorem busAlone_good {c:Cfg} (hb:Bus c) {w:World} {B:Nat} {v:Value} (h:BusV w B v c) (hB:B≤w.heap.size) {who:Nat} (hw:who<3):Calls Tryz.prog 18 #[v,.int .i64 who] w (AloneP c who w):=by
 have hms:∀r∈c.ms,MR64 r:=by
  obtain⟨_,_,_,_,_,_,_,_,h1,_⟩:=h;exact h1.2
 have hml:c.ms.length≤1048576:=by
  have:=hb.ms;unfold mapOk at this;simp at this;omega
 have hI:=h.int hb;refine(implBusAlone_any v c.ms (c.lat.map fun(n:Nat)=>(n:Int)) c.progs who B w hI hB hml (by rw[List.length_map,hb.lat];omega) (by rw[hb.progs];omega) (fun p hp=>⟨by have:=hb.most p hp;omega,fun q hq=>(rqFit_ok (hb.reqs p hp q hq)).1⟩)).mono ?_;rintro e w' (⟨_,a,b,pb,us,L,rfl,ha,hbb,hps,_,hbl⟩|⟨hno,_⟩)
 ·rw[hb.progs]at hps ⊢;have ap1:=ha.apartT hps.outer (by decide);have ap2:=hbb.apartT hps.outer (by decide);have hma:=ha.maps hml hms;obtain⟨ma,mk,rfl,_⟩:=hma.opened
  have hin : Ints w' w'.heap.size b (c.lat.map fun (n : Nat) => (n : Int)) := ⟨hbb.arr (fun _ => rfl) (by rw [List.length_map, hb.lat]; omega), fun x hx => by
   obtain⟨n,hn,rfl⟩:=List.mem_map.1 hx;have:=hb.lat3 n hn
   constructor <;> omega⟩
  obtain⟨la,lc,rfl,_,_,_,_,hc⟩:=hin.opened;rw[List.length_map,hb.lat]at hc;obtain⟨lb,lo,rfl,_,_⟩:=hc (by omega);rw[List.length_map,hb.lat]at hin ap2 ⊢;exact⟨ma,mk,lb,lo,lc,pb,us,L,rfl,hma,fun k hk=>⟨fun e=>ap1 k hk (by rw[e];rfl),(OwnR.lt ha k hk).1⟩,hin,fun e=>ap2 lb rfl (by rw[e];rfl),(OwnR.lt hbb lb rfl).1,hps,hbl⟩
 ·rw[busOk_yes hb]at hno
  exfalso
  have:inB (who:Int) 0 2=true:=by unfold inB;simp;omega
  rw[this]at hno;simp at hno
def oneC (c:Cfg) (who:Nat):Cfg:=⟨c.ms,c.lat,(zE5 c.progs who 3).set who ((c.prog who).take 1)⟩
theorem oneC_prog {c:Cfg} (hb:Bus c) {who:Nat} (hw:who<3) {i:Nat} (hi:i<3):(oneC c who).prog i=if i=who then(c.prog who).take 1 else[]:=by
 have hl:(zE5 c.progs who 3).length=3:=(zC1 _ _ _).trans hb.progs;show((zE5 c.progs who 3).set who ((c.prog who).take 1)).getD i []=_;by_cases e:i=who
 ·subst e;rw[if_pos rfl,zJ5 (by omega)]
 ·rw[if_neg e,zE3 e];have:=aloneC_prog hb who hi;rw[if_neg e]at this;exact this
theorem oneC_mem {c:Cfg} (hb:Bus c) {who:Nat} (hw:who<3):∀p∈(oneC c who).progs,p.length≤12∧∀r∈p,reqOk r=true:=by
 intro p hp;have hl:(oneC c who).progs.length=3:=(List.length_set ..).trans ((zC1 _ _ _).trans hb.progs);obtain⟨i,hi,rfl⟩:=List.mem_iff_getElem.1 hp;have e:(oneC c who).progs[i]=(oneC c who).prog i:=by unfold Cfg.prog;simp[List.getD,hi]
 rw[e,oneC_prog hb hw (by omega)]
 split
 ·refine⟨by rw[List.length_take];omega,fun r hr=>hb.reqs _ (hb.prog hw) r (List.mem_of_mem_take hr)⟩
 ·exact⟨by simp,fun r hr=>by simp at hr⟩
theorem Bus.one {c:Cfg} (hb:Bus c) {who:Nat} (hw:who<3):Bus (oneC c who) :=
 ⟨hb.ms,hb.lat,hb.lat3,(List.length_set ..).trans ((zC1 _ _ _).trans hb.progs),fun p hp=>(oneC_mem hb hw p hp).1,fun p hp=>(oneC_mem hb hw p hp).2⟩
def plen (c:Cfg) (k:Nat):Nat:=((List.range k).map fun i=>(c.prog i).length).sum
theorem plen_succ (c:Cfg) (k:Nat):plen c (k+1)=plen c k+(c.prog k).length:=by simp[plen,List.range_succ]
theorem cycDone_any {c : Cfg} (hbus : Bus c) {w : World} {B : Nat} {u : Value} (hc : BusV w B u c) {a0 a1 a2 a3 a4 : Value} {st : Cy} {P : List PS} {Q : List SS} (h : CyV w B a0 a1 a2 a3 a4 st P Q) (hB : B ≤ w.heap.size) (hg : Good c st) :
  Calls Tryz.prog 40 #[u,.agg #[a0,a1,a2,a3,a4]] w fun e w' => e=.returned (.bool (decide (st.told.length=plen c 3)))∧Below w.heap.size w w':=by
 obtain⟨mv,lb,lo,lc,pb,po,pc,QQ,K,rfl,⟨ma,mn,mk,rfl⟩,_,_,hpb,_,hpc,_⟩:=hc.opened hbus;obtain⟨z0,z1,z2,z3,z4,n0,n1,n2,n3,n4,k0,k1,k2,k3,k4,rfl,rfl,rfl,rfl,rfl⟩:=h.sl;obtain rfl:=h.told.len;have HOK:=hid (fun(W:World) (hW:Below w.heap.size w W)=>cycOk_any hbus (hc.below (hW.mono hB)) (h.below (hW.mono hB)) (Nat.le_trans hB hW.size) hg);obtain⟨w0,hw0⟩:∃W,W=(w.alloc (.cells #[.slice ma mn mk,.slice (some ⟨lb,lo,none⟩) 4 lc,.slice (some ⟨pb,po,none⟩) 3 pc] 27)).alloc (.cells #[.slice z0 n0 k0,.slice z1 n1 k1,.slice z2 n2 k2,.slice z3 n3 k3,.slice z4 st.told.length k4] 39):=⟨_,rfl⟩
 have hb0:Below w.heap.size w w0:=by rw[hw0];exact((Below.refl _ _).alloc (Nat.le_refl _) _).alloc (by simp) _
 obtain⟨g1,hg1⟩:∃g,g=w.heap.size+1:=⟨_,rfl⟩
 have X0 := hid (show Bx w0 w.heap.size [.slice ma mn mk, .slice (some ⟨lb, lo, none⟩) 4 lc, .slice (some ⟨pb, po, none⟩) 3 pc] by
  rw[hw0];exact(Bx.new w #[.slice ma mn mk,.slice (some ⟨lb,lo,none⟩) 4 lc,.slice (some ⟨pb,po,none⟩) 3 pc] 27 (by simp)).below ((Below.refl _ _).alloc (Nat.le_refl _) _) (by simp))
 have X1 := hid (show Bx w0 g1 [.slice z0 n0 k0, .slice z1 n1 k1, .slice z2 n2 k2, .slice z3 n3 k3, .slice z4 st.told.length k4] by
  rw[hw0,hg1];have:=Bx.new (w.alloc (.cells #[.slice ma mn mk,.slice (some ⟨lb,lo,none⟩) 4 lc,.slice (some ⟨pb,po,none⟩) 3 pc] 27)) #[.slice z0 n0 k0,.slice z1 n1 k1,.slice z2 n2 k2,.slice z3 n3 k3,.slice z4 st.told.length k4] 39 (by simp);simpa using this)
 have HB0:=hid hb0;have HPC:=hid hpc;have HPB:=hid hpb;obtain⟨tl,htl⟩:∃x,x=st.told.length:=⟨_,rfl⟩
 rw[←htl]at X1 HOK hw0 ⊢;obtain⟨b0,b1,b2⟩:=X0.out.three.1;obtain⟨t0,t1,t2,t3,t4⟩:=X1.out.five.1;have HTB:=hid (show tl≤1000 by rw[htl];exact(zJ0 hbus hg).told.1);clear hc h hb0 hpc hpb htl
 go_enter Tryz.func40,Tryz.ntmps40
 go_upto_region 1 with fail
 rw[←hw0,←hg1];clear hw0 hg1
 go_upto_region 3 with(go_at_call 16;go_loud ((with_reducible refine(HOK.out _ HB0.out).mono ?_));rintro e w2 ⟨rfl,hb2⟩;have HQ2:=hid hb2;have HB2:=hid (HB0.out.trans (hb2.mono HB0.out.size));clear hb2 t0 t1 t2 t3 t4 b0 b1 b2)
 obtain⟨b0,b1,b2⟩:=(X0.out.below HQ2.out X0.out.lt).three.1;obtain⟨t0,t1,t2,t3,t4⟩:=(X1.out.below HQ2.out X1.out.lt).five.1;have HL:=hid (fun(i:Nat) (hi:i<3)=>hbus.twelve hi)
 go_wp2_with fail
 go_loop [5,15] (fun s i=>∃m:Nat,i=.int .i64 m∧m≤3∧s=.int .i64 (plen c m:Nat)∧plen c m≤12 * m) (fun _ i=>3 - (intOf i).toNat)
 case atStart=>exact⟨0,by go_num,Nat.zero_le _,rfl,by simp[plen]⟩
 case round=>
  obtain⟨m,rfl,hm,rfl,hsm⟩:=hrel;by_cases hlt:m<3
  ·have hmi:(m:Int)<3:=by omega
   have p0:=(HB2.out.cell (p:=⟨pb,po+m,none⟩) (Nat.lt_of_lt_of_le HPB.out hB)).trans (HPC.out m hlt);have h12:=HL.out m hlt;have HS:=hid (plen_succ c m);obtain⟨pl,hpl⟩:∃x,x=(c.prog m).length:=⟨_,rfl⟩
   obtain⟨sm,hsm2⟩:∃x,x=plen c m:=⟨_,rfl⟩
   rw[←hpl]at p0 h12 HS;rw[←hsm2]at hsm HS ⊢;obtain⟨sy,hsy⟩:∃y,y=sm+pl:=⟨_,rfl⟩
   rw[←hsy]at HS;have ew:IntKind.i64.wrap ((sm:Int)+(pl:Int))=(sy:Int):=by rw[IntKind.wrap_i64];omega
   have hsy2:sy≤12 * (m+1):=by omega
   clear hpl hsm2 hsy
   go_wp2_with fail
   go_round
   case rel=>exact⟨m+1,by go_num,by omega,by rw[HS.out],by rw[HS.out];exact hsy2⟩
   case measure=>simp[intOf];omega
  ·obtain rfl:m=3:=by omega
   obtain⟨pt,hpt⟩:∃x,x=plen c 3:=⟨_,rfl⟩
   rw[←hpt];have HPT:=hid hpt;clear hpt hsm
   go_wp2_with fail
   go_ret
   have e:((tl:Int)==(pt:Int))=decide (tl=pt):=by rw[Bool.eq_iff_iff];simp;omega
   rw[←HPT.out,e];exact⟨rfl,HB2.out⟩
def PlayP (w:World) (e:Ending) (w':World):Prop:=∃u v c ins,e=.returned (.tuple #[u,v])∧Bus c∧BusV w' w'.heap.size u c∧Ins w' w'.heap.size v ins∧ins.length≤89∧Below w.heap.size w w'
def DrawPl:Prop:=∀(v:Value) (bs:List Nat) (B:Nat) (w:World),Bytes w B v bs→B≤w.heap.size→Calls Tryz.prog 9 #[v] w (PlayP w)
def CyBox (w:World) (gs:Nat) (st:Cy):Prop:=∃(V:Nat→Value) (N:Nat→Nat) (C:Nat→List Value) (D:Nat→List TJV),Bx w gs [V 0,V 1,V 2,V 3,V 4]∧Raw w 0 V N C∧Cont st [] V N C D∧Free V gs∧∀κ,κ<20→∀x∈D κ,IntsD w (fun b=>b<w.heap.size∧b≠gs) x.2 x.1.rsp.data
theorem CyBox.below {w w':World} {gs:Nat} {st:Cy} (h:CyBox w gs st) (hb:Below w.heap.size w w'):CyBox w' gs st:=by
 obtain⟨V,N,C,D,h1,h2,h3,h4,h5⟩:=h;exact⟨V,N,C,D,h1.below hb h1.lt,h2.below hb,h3,h4,fun κ hκ x hx=>((h5 κ hκ x hx).kept fun b hb2=>hb.block b hb2.1).weak fun b hb2=>⟨Nat.lt_of_lt_of_le hb2.1 hb.size,hb2.2⟩⟩
theorem CyBox.lt {w:World} {gs:Nat} {st:Cy} (h:CyBox w gs st):gs<w.heap.size:=by obtain⟨V,N,C,D,h1,_⟩:=h;exact h1.lt
theorem raw_zero {w:World} {base:Nat} {V:Nat→Value} {N:Nat→Nat} {C:Nat→List Value} (h:Raw w base V N C):Raw w 0 V N C:=⟨fun κ hκ=>OwnR.rebase (h.own κ hκ) (Nat.zero_le _),h.ap⟩
theorem CyBox.new {w w':World} {base gs:Nat} {st:Cy} {V:Nat→Value} {N:Nat→Nat} {C:Nat→List Value} {D:Nat→List TJV} (h:CyR w base st V N C D) (hb:Below w.heap.size w w') (hg:w.heap.size≤gs) (hx:Bx w' gs [V 0,V 1,V 2,V 3,V 4]):CyBox w' gs st :=
 ⟨V,N,C,D,hx,raw_zero (h.raw.below hb),h.con,fun κ hκ e=>by have:=(h.raw.lt hκ e).2;omega,fun κ hκ x hx2=>((h.dat κ hκ x hx2).kept fun b hb2=>hb.block b hb2.2.1).weak fun b hb2=>⟨Nat.lt_of_lt_of_le hb2.2.1 hb.size,by have:=hb2.2.1;omega⟩⟩
theorem CyBox.set {w w':World} {base gs:Nat} {st:Cy} {V:Nat→Value} {N:Nat→Nat} {C:Nat→List Value} {D:Nat→List TJV} (h:CyR w base st V N C D) (hk:∀b,b≠gs→w'.heap[b]? = w.heap[b]?) (hz:w'.heap.size=w.heap.size) (hg:gs<base) (hx:Bx w' gs [V 0,V 1,V 2,V 3,V 4]):CyBox w' gs st:=by
 have hf:Free V gs:=fun κ hκ e=>by have:=(h.raw.lt hκ e).1;omega
 exact⟨V,N,C,D,hx,raw_zero (h.raw.kept fun b _ hb=>hk b fun e=>hb (e▸hf)),h.con,hf,fun κ hκ x hx2=>((h.dat κ hκ x hx2).kept fun b hb2=>hk b (by have:=hb2.1;omega)).weak fun b hb2=>⟨by rw[hz];exact hb2.2.1,by have:=hb2.1;omega⟩⟩
theorem CyBox.view {c:Cfg} (hb:Bus c) {w:World} {gs:Nat} {st:Cy} (h:CyBox w gs st) (hg:Good c st):∃b0 b1 b2 b3 b4 n0 n1 n2 n3 n4 k0 k1 k2 k3 k4 P Q,Bx w gs [.slice b0 n0 k0,.slice b1 n1 k1,.slice b2 n2 k2,.slice b3 n3 k3,.slice b4 n4 k4]∧CyV w w.heap.size (.slice b0 n0 k0) (.slice b1 n1 k1) (.slice b2 n2 k2) (.slice b3 n3 k3) (.slice b4 n4 k4) st P Q:=by
 obtain⟨V,N,C,D,h1,h2,h3,h4,h5⟩:=h;obtain⟨P,Q,hv⟩:=cyV_raw h2 h3 (fun κ hκ x hx=>(h5 κ hκ x hx).to fun b hb=>hb.1) (zJ0 hb hg) (atm_i64 hg.atm).1 (atm_i64 hg.atm).2;obtain⟨b0,b1,b2,b3,b4,n0,n1,n2,n3,n4,k0,k1,k2,k3,k4,e0,e1,e2,e3,e4⟩:=hv.sl;rw[e0,e1,e2,e3,e4]at hv h1;exact⟨b0,b1,b2,b3,b4,n0,n1,n2,n3,n4,k0,k1,k2,k3,k4,P,Q,h1,hv⟩
theorem Bx.put5 {w:World} {g:Nat} {a b c d e:Value} (h:Bx w g [a,b,c,d,e]) (a' b' c' d' e':Value):Bx (((((w.setCell ⟨g,0,none⟩ a').setCell ⟨g,1,none⟩ b').setCell ⟨g,2,none⟩ c').setCell ⟨g,3,none⟩ d').setCell ⟨g,4,none⟩ e') g [a', b', c', d', e']:=by
 have:=((((h.set 0 (by simp) a').set 1 (by simp) b').set 2 (by simp) c').set 3 (by simp) d').set 4 (by simp) e';simpa using this
theorem put5_other {w:World} {g:Nat} {a' b' c' d' e':Value} (b:Nat) (hb:b≠g):(((((w.setCell ⟨g,0,none⟩ a').setCell ⟨g,1,none⟩ b').setCell ⟨g,2,none⟩ c').setCell ⟨g,3,none⟩ d').setCell ⟨g,4,none⟩ e').heap[b]? = w.heap[b]?:=by
 rw[Below.heap_setCell _ _ _ _ hb,Below.heap_setCell _ _ _ _ hb,Below.heap_setCell _ _ _ _ hb,Below.heap_setCell _ _ _ _ hb,Below.heap_setCell _ _ _ _ hb]
theorem CopP.store {st st' : Cy} {w wa : World} {e : Ending} {gs : Nat} (hs : CyBox w gs st) (h : CopP st' w e wa) : ∃ b0 b1 b2 b3 b4 n0 n1 n2 n3 n4 k0 k1 k2 k3 k4, e = .returned (.agg #[.slice b0 n0 k0, .slice b1 n1 k1, .slice b2 n2 k2, .slice b3 n3 k3, .slice b4 n4 k4]) ∧ (∃ a b c d f, Bx wa gs [a, b, c, d, f]) ∧ Below w.heap.size w wa ∧
  CyBox (((((wa.setCell ⟨gs,0,none⟩ (.slice b0 n0 k0)).setCell ⟨gs,1,none⟩ (.slice b1 n1 k1)).setCell ⟨gs,2,none⟩ (.slice b2 n2 k2)).setCell ⟨gs,3,none⟩ (.slice b3 n3 k3)).setCell ⟨gs,4,none⟩ (.slice b4 n4 k4)) gs st':=by
 obtain⟨V,N,C,D,b0,b1,b2,b3,b4,n0,n1,n2,n3,n4,k0,k1,k2,k3,k4,⟨e0,e1,e2,e3,e4⟩,he,hr,hb⟩:=h.sl;obtain⟨V0,N0,C0,D0,hx,_⟩:=hs;have hx2:=hx.below hb hx.lt;refine⟨b0,b1,b2,b3,b4,n0,n1,n2,n3,n4,k0,k1,k2,k3,k4,he,⟨_,_,_,_,_,hx2⟩,hb,CyBox.set hr put5_other (by simp) hx.lt ?_⟩;rw[e0,e1,e2,e3,e4];exact hx2.put5 _ _ _ _ _
theorem CyBox.rows {c : Cfg} (hb : Bus c) {w : World} {gs : Nat} {st : Cy} (h : CyBox w gs st) (hg : Good c st) : ∃ (b0 b1 b4 : Option Addr) (n0 n1 k0 k1 k4 pg po pc tg tp tc : Nat) (P : List PS) (Q : List SS), Bx w gs [.slice b0 n0 k0, .slice b1 n1 k1, .slice (some ⟨pg, po, none⟩) 3 pc, .slice (some ⟨tg, tp, none⟩) 4 tc, .slice b4 st.told.length k4] ∧
  CyV w w.heap.size (.slice b0 n0 k0) (.slice b1 n1 k1) (.slice (some ⟨pg,po,none⟩) 3 pc) (.slice (some ⟨tg,tp,none⟩) 4 tc) (.slice b4 st.told.length k4) st P Q ∧
  (∀k,k<3→∀j,j<4→w.cell? ⟨pg,po+k * 4+j,none⟩=(rowPS (P.getD k default))[j]?)∧(∀k,k<4→∀j,j<3→w.cell? ⟨tg,tp+k * 3+j,none⟩=(rowSS (Q.getD k default))[j]?) ∧
  (∀k,k<3→∃qa qc oa oc,P.getD k default=⟨(st.ports k).next,(qa,(st.ports k).queue.length,qc),(oa,(st.ports k).out.length,oc),(st.ports k).last⟩) ∧
  (∀k,k<4→∃qa qc oa oc,Q.getD k default=⟨(qa,(st.slaves k).pipe.length,qc),(oa,(st.slaves k).done.length,oc),(st.slaves k).last⟩):=by
 obtain⟨b0,b1,b2,b3,b4,n0,n1,n2,n3,n4,k0,k1,k2,k3,k4,P,Q,hx,hv⟩:=h.view hb hg;obtain⟨pg,po,pc,e2,_,_,_,hpc⟩:=hv.ps.at (by rw[hv.lp];omega)
 obtain⟨tg,tp,tc,e3,_,_,_,htc⟩:=hv.ss.at (by rw[hv.lq];omega)
 rw[hv.lp]at e2 hpc;rw[hv.lq]at e3 htc;have e4:=hv.told.len;rw[e2,e3,e4]at hx hv;refine⟨b0,b1,b4,n0,n1,k0,k1,k4,pg,po,pc,tg,tp,tc,P,Q,hx,hv,fun k hk j hj=>hpc k default hk j hj,fun k hk j hj=>htc k default hk j hj,fun k hk=>?_,fun k hk=>?_⟩
 ·have h1:=hv.pn k hk;have h2:=hv.q k hk;have h3:=hv.o k hk;obtain⟨x,hx⟩:∃x,x=P.getD k default:=⟨_,rfl⟩
  rw[←hx]at h1 h2 h3 ⊢;obtain⟨nx,⟨qa,qn,qc⟩,⟨oa,on,oc⟩,la⟩:=x;simp only[sl]at h1 h2 h3;rw[←h1.1,←h1.2,←h2.len,←h3.len];exact⟨_,_,_,_,rfl⟩
 ·have h1:=hv.sn k hk;have h2:=hv.p k hk;have h3:=hv.d k hk;obtain⟨x,hx⟩:∃x,x=Q.getD k default:=⟨_,rfl⟩
  rw[←hx]at h1 h2 h3 ⊢;obtain⟨⟨qa,qn,qc⟩,⟨oa,on,oc⟩,la⟩:=x;simp only[sl]at h1 h2 h3;rw[←h1,←h2.len,←h3.len];exact⟨_,_,_,_,rfl⟩
theorem RepI.ins {w0 W:World} {g N:Nat} {ra ta sa:Option Addr} {inp:Inp} (h:RepI w0 g N [.slice ra 3 3,.slice ta 4 4,.slice sa 3 3] N W) (hN:N≤1000) (hg:g<W.heap.size) (hi:InV W W.heap.size (.agg #[.slice ra 3 3,.slice ta 4 4,.slice sa 3 3]) inp):Ins W W.heap.size (.slice (some ⟨g,0,none⟩) N N) (List.replicate N inp):=by
 refine⟨List.replicate N (.agg #[.slice ra 3 3,.slice ta 4 4,.slice sa 3 3]),?_,by simp,fun k hk d=>?_⟩
 ·have:=h.arr hN hg;rw[List.map_replicate];exact this
 ·rw[List.length_replicate]at hk;have e1:(List.replicate N (Value.agg #[.slice ra 3 3,.slice ta 4 4,.slice sa 3 3])).getD k undef=.agg #[.slice ra 3 3,.slice ta 4 4,.slice sa 3 3]:=by simp[List.getD,hk]
  have e2:(List.replicate N inp).getD k d=inp:=by simp[List.getD,hk]
  rw[e1,e2];exact hi
def flC (w w0 : World) (g3 n : Nat) (st2 : Cy) (us : List Value) (W : World) : Prop := match us with
 |[]=>Below w0.heap.size w0 W
 |[v0]=>Below w0.heap.size w0 W∧∃ra ta sa,v0=.agg #[.slice ra 3 3,.slice ta 4 4,.slice sa 3 3]∧InV W W.heap.size (.agg #[.slice ra 3 3,.slice ta 4 4,.slice sa 3 3]) inAll
 |[_,v1]=>Below w0.heap.size w0 W∧∃b ra ta sa,v1=.slice (some ⟨b,0,none⟩) 1 1∧b<W.heap.size∧W.cell? ⟨b,0,none⟩=some (.slice ra 3 3)∧W.cell? ⟨b,1,none⟩=some (.slice ta 4 4)∧W.cell? ⟨b,2,none⟩=some (.slice sa 3 3)∧InV W W.heap.size (.agg #[.slice ra 3 3,.slice ta 4 4,.slice sa 3 3]) inAll
 |[_,_,v2]=>Below w0.heap.size w0 W∧∃g,v2=.slice (some ⟨g,0,none⟩) n n∧Ins W W.heap.size (.slice (some ⟨g,0,none⟩) n n) (List.replicate n inAll)
 |[_,_,_,v3]=>Below w0.heap.size w0 W∧∃y0 y1 y2 y3 y4 m0 m1 m2 m3 m4 j0 j1 j2 j3 j4 V N C D,v3=.agg #[.slice y0 m0 j0,.slice y1 m1 j1,.slice y2 m2 j2,.slice y3 m3 j3,.slice y4 m4 j4]∧(V 0=.slice y0 m0 j0∧V 1=.slice y1 m1 j1∧V 2=.slice y2 m2 j2∧V 3=.slice y3 m3 j3∧V 4=.slice y4 m4 j4)∧CyR W w0.heap.size st2 V N C D
 |_=>∃y0 y1 y2 y3 y4 m0 m1 m2 m3 m4 j0 j1 j2 j3 j4 V N C D,(V 0=.slice y0 m0 j0∧V 1=.slice y1 m1 j1∧V 2=.slice y2 m2 j2∧V 3=.slice y3 m3 j3∧V 4=.slice y4 m4 j4)∧CyR W w0.heap.size st2 V N C D∧Bx W g3 [.slice y0 m0 j0,.slice y1 m1 j1,.slice y2 m2 j2,.slice y3 m3 j3,.slice y4 m4 j4]∧Below w.heap.size w W
theorem flC_below {w w0 W:World} {g3 n:Nat} {st2:Cy} {us:List Value} (h:flC w w0 g3 n st2 us W) (hl:us.length≤4):Below w0.heap.size w0 W:=by
 match us,h,hl with
 |[],h,_=>exact h
 |[_],h,_=>exact h.1
 |[_,_],h,_=>exact h.1
 |[_,_,_],h,_=>exact h.1
 |[_,_,_,_],h,_=>exact h.1
 |_::_::_::_::_::_,_,hl=>exact absurd hl (by simp)
set_option maxRecDepth 8000 in
theorem cycFlow_any {c : Cfg} (hbus : Bus c) {w : World} {B : Nat} {u : Value} (hc : BusV w B u c) {a0 a1 a2 a3 a4 : Value} {st : Cy} {P : List PS} {Q : List SS} (h : CyV w B a0 a1 a2 a3 a4 st P Q) (hB : B ≤ w.heap.size) (hg : Good c st) {n : Nat} (hn : n ≤ 300) :
    Calls Tryz.prog 19 #[u,.agg #[a0,a1,a2,a3,a4],.int .i64 n] w (CopP (flow c n st) w):=by
  obtain⟨mv,lb,lo,lc,pb,po,pc,QQ,K,rfl,⟨ma,mn,mk,rfl⟩,_,_,_,_,_,_⟩:=hc.opened hbus;obtain⟨z0,z1,z2,z3,z4,n0,n1,n2,n3,n4,k0,k1,k2,k3,k4,rfl,rfl,rfl,rfl,rfl⟩:=h.sl;have HRN:=hid (fun(W:World) (hW:Below w.heap.size w W) (v:Value) (hi:Ins W W.heap.size v (List.replicate n inAll))=>cycRun_any hbus ((hc.below (hW.mono hB)).mono (Nat.le_trans hB hW.size)) ((h.below (hW.mono hB)).mono (Nat.le_trans hB hW.size)) hi (Nat.le_refl _) hg (by rw[List.length_replicate];exact hn));obtain⟨w0,hw0⟩:∃W,W=((w.alloc (.cells #[.slice ma mn mk,.slice (some ⟨lb,lo,none⟩) 4 lc,.slice (some ⟨pb,po,none⟩) 3 pc] 27)).alloc (.cells #[.slice z0 n0 k0,.slice z1 n1 k1,.slice z2 n2 k2,.slice z3 n3 k3,.slice z4 n4 k4] 39)).alloc (.cells #[.slice none 0 0,.slice none 0 0,.slice none 0 0,.slice none 0 0,.slice none 0 0] 39):=⟨_,rfl⟩
  have hb0:Below w.heap.size w w0:=by rw[hw0];exact(((Below.refl _ _).alloc (Nat.le_refl _) _).alloc (by simp) _).alloc (by simp <;> omega) _
  obtain⟨g1,hg1⟩:∃g,g=w.heap.size+1:=⟨_,rfl⟩
  obtain⟨g3,hg3⟩:∃g,g=w.heap.size+1+1:=⟨_,rfl⟩
  have X0 := hid (show Bx w0 w.heap.size [.slice ma mn mk, .slice (some ⟨lb, lo, none⟩) 4 lc, .slice (some ⟨pb, po, none⟩) 3 pc] by
    rw[hw0];exact((Bx.new w #[.slice ma mn mk,.slice (some ⟨lb,lo,none⟩) 4 lc,.slice (some ⟨pb,po,none⟩) 3 pc] 27 (by simp)).below ((Below.refl _ _).alloc (Nat.le_refl _) _) (by simp)).below ((Below.refl _ _).alloc (Nat.le_refl _) _) (by simp <;> omega))
  have X1 := hid (show Bx w0 g1 [.slice z0 n0 k0, .slice z1 n1 k1, .slice z2 n2 k2, .slice z3 n3 k3, .slice z4 n4 k4] by
    rw[hw0,hg1];have:=(Bx.new (w.alloc (.cells #[.slice ma mn mk,.slice (some ⟨lb,lo,none⟩) 4 lc,.slice (some ⟨pb,po,none⟩) 3 pc] 27)) #[.slice z0 n0 k0,.slice z1 n1 k1,.slice z2 n2 k2,.slice z3 n3 k3,.slice z4 n4 k4] 39 (by simp)).below ((Below.refl _ _).alloc (Nat.le_refl _) (.cells #[.slice none 0 0,.slice none 0 0,.slice none 0 0,.slice none 0 0,.slice none 0 0] 39)) (by simp);simpa using this)
  have X3 := hid (show Bx w0 g3 [vnil, vnil, vnil, vnil, vnil] by
    rw[hw0,hg3];have:=Bx.new ((w.alloc (.cells #[.slice ma mn mk,.slice (some ⟨lb,lo,none⟩) 4 lc,.slice (some ⟨pb,po,none⟩) 3 pc] 27)).alloc (.cells #[.slice z0 n0 k0,.slice z1 n1 k1,.slice z2 n2 k2,.slice z3 n3 k3,.slice z4 n4 k4] 39)) #[vnil,vnil,vnil,vnil,vnil] 39 (by simp);simpa using this)
  have HB0:=hid hb0;have h300:decide ((300:Int)<(n:Int))=false:=by simp;omega
  have hmax:(if 0<n then(n:Int) else 0)=(n:Int):=by split <;> omega
  obtain⟨b0,b1,b2⟩:=X0.out.three.1;obtain⟨t0,t1,t2,t3,t4⟩:=X1.out.five.1;clear hc h hb0
  go_enter Tryz.func19,Tryz.ntmps19
  go_upto_region 1 with fail
  rw[←hw0,←hg3,←hg1];have HG1:=hid hg1;have HG3:=hid hg3;clear hw0 hg1 hg3
  go_upto_region 3 with fail
  obtain⟨st2,hst2⟩:∃s,s=flow c n st:=⟨_,rfl⟩
  have HST:=hid hst2;obtain⟨CC,hCC⟩:∃CC:List Value→World→Prop,CC=flC w w0 g3 n st2:=⟨_,rfl⟩
  have hC0:CC [] w0.drew:=by rw[hCC];exact(Below.refl _ _).drew
  have hTC:∀us W,CC us W→us.length≤4→Below w0.heap.size w0 W:=by rw[hCC];exact fun us W h hl=>flC_below h hl
  have HCC:=hid hCC;have hne:Nonempty (Ph CC):=⟨⟨([],w0.drew),hC0⟩⟩
  have hne4:Nonempty (Ph (lims CC (some 4))):=⟨⟨([],w0.drew),hC0,by simp⟩⟩
  have pc:∀{p:Addr} {v:Value},w0.cell? p=some v→∀x:Ph (lims CC (some 4)),x.1.2.cell? p=some v:=fun hc x=>((hTC _ _ x.2.1 x.2.2).cell (World.block_lt_of_cell? w0 _ hc)).trans hc
  replace t0:=pc t0;replace t1:=pc t1;replace t2:=pc t2;replace t3:=pc t3;replace t4:=pc t4;replace b0:=pc b0;replace b1:=pc b1;replace b2:=pc b2;clear hCC pc hst2 hTC;refine zA9 CC [(2,false),(3,false),(6,false),(7,false),(8,false)] [(0,4),(1,4)] (by kernel_rfl) (by kernel_rfl) hC0 ?_
  iterate 2
    refine wq1_b ⟨rfl,rfl⟩ (fun KA hKA=>?_);go_simp;refine hKA _ ?_;clear hKA KA
  iterate 2 refine wq1_v rfl ?_
  repeat (
    (with_reducible refine wq1_q ⟨rfl,rfl⟩ (fun K hK=>?_))
    go_simp
    first
      |((with_reducible refine hK _ ?_);clear hK K)
      |((with_reducible refine zA7 (by simp[undef]) (hK _ ?_));clear hK K)
      | (apply Exists.intro
         (with_reducible refine⟨fun _=>?_,hK _ ?_⟩)
         (fail)
         clear hK K))
  iterate 3 refine wq1_v rfl ?_
  refine zF4 ?_;clear t0 t1 t2 t3 t4 b0 b1 b2 hne hne4;refine wq2_v _ rfl rfl ?_ ?_
  · intro W hW KA hKA
    rw[HCC.out]at hW hKA;go_simp
    (with_reducible refine(implInAll_any W).mono ?_)
    rintro e w1 ⟨ra,ta,sa,rfl,hi,hb⟩;go_simp;exact hKA _ _ _ ⟨Below.trans (show Below w0.heap.size w0 W from hW) (hb.mono (Below.size (show Below w0.heap.size w0 W from hW))),ra,ta,sa,rfl,hi⟩ rfl
  intro v0 KA hKA;go_simp;refine hKA _ ?_;clear hKA KA;refine wq2_v _ rfl rfl ?_ ?_
  · intro W hW KA hKA
    rw[HCC.out]at hW hKA;obtain⟨hb,ra,ta,sa,rfl,hi⟩:=hW;go_simp;exact hKA _ _ _ ⟨hb.alloc hb.size _,W.heap.size,ra,ta,sa,rfl,by simp,by simp[go_sem],by simp[go_sem],by simp[go_sem],(hi.below ((Below.refl _ _).alloc (Nat.le_refl _) _)).mono (by simp)⟩ rfl
  intro v1 KA hKA;go_simp;refine hKA _ ?_;clear hKA KA;refine wq2_v _ rfl rfl ?_ ?_
  · intro W hW KA hKA
    rw[HCC.out]at hW hKA;obtain⟨hb,b,ra,ta,sa,rfl,hbl,d0,d1,d2,hi⟩:=hW;go_simp
    (with_reducible refine(repeatIn_any n hn b _ _ _ _ _ _ _ _ _ W hbl d0 d1 d2).mono ?_)
    rintro e w1 ⟨g,rfl,hr,hge,hgl⟩;go_simp;exact hKA _ _ _ ⟨hb.trans (hr.bel.mono hb.size),g,rfl,hr.ins (by omega) hgl ((hi.below hr.bel).mono hr.bel.size)⟩ rfl
  intro v2 KA hKA;go_simp;refine hKA _ ?_;clear hKA KA;refine wq2_v _ rfl rfl ?_ ?_
  · intro W hW KA hKA
    rw[HCC.out]at hW hKA;obtain⟨hb,g,rfl,hi⟩:=hW;go_simp
    (with_reducible refine(HRN.out W (HB0.out.trans (hb.mono HB0.out.size)) _ hi).mono ?_)
    rintro e w1 hcop;obtain⟨V,N,C,D,y0,y1,y2,y3,y4,m0,m1,m2,m3,m4,j0,j1,j2,j3,j4,hE,rfl,hr,hb1⟩:=hcop.sl;go_simp;exact hKA _ _ _ ⟨hb.trans (hb1.mono hb.size),y0,y1,y2,y3,y4,m0,m1,m2,m3,m4,j0,j1,j2,j3,j4,V,N,C,D,rfl,hE,by rw[HST.out];exact hr.rebase hb.size⟩ rfl
  intro v3 KA hKA;go_simp;refine hKA _ ?_;clear hKA KA;refine wq2_v _ rfl rfl ?_ ?_
  · intro W hW KA hKA
    rw[HCC.out]at hW hKA;obtain⟨hb,y0,y1,y2,y3,y4,m0,m1,m2,m3,m4,j0,j1,j2,j3,j4,V,N,C,D,rfl,hE,hr⟩:=hW;have X:=X3.out.below hb X3.out.lt;obtain⟨⟨q0,q1,q2,q3,q4⟩,f0,f1,f2,f3,f4⟩:=X.five;have h3:=X3.out.lt;have h5:w.heap.size≤g3:=by have:=HG3.out;omega
    go_simp
    exact hKA undef _ _ ⟨y0, y1, y2, y3, y4, m0, m1, m2, m3, m4, j0, j1, j2, j3, j4, V, N, C, D, hE, hr.kept (fun b h1 h2 => (touchC g3 _ _ _ _ _ _).block b h2 (by omega)) (touchC g3 _ _ _ _ _ _).size, X.put5 _ _ _ _ _,
      ((((((HB0.out.trans (hb.mono HB0.out.size)).setCell (p:=⟨g3,_,none⟩) h5 _).setCell (p:=⟨g3,_,none⟩) h5 _).setCell (p:=⟨g3,_,none⟩) h5 _).setCell (p:=⟨g3,_,none⟩) h5 _).setCell (p:=⟨g3,_,none⟩) h5 _)⟩ rfl
  intro v4 KA hKA;go_simp;refine hKA _ ?_;clear hKA KA;refine zF3 ?_;intro wd hwd;rw[HCC.out]at hwd;obtain⟨y0,y1,y2,y3,y4,m0,m1,m2,m3,m4,j0,j1,j2,j3,j4,V,N,C,D,hE,hr,hx,hbd⟩:=hwd;have HR:=hid hr;have HE:=hid hE;have HBD:=hid hbd;obtain⟨q0,q1,q2,q3,q4⟩:=hx.five.1;clear hr hE hbd hx hC0
  go_wp2_with fail
  refine bodyPost_ret (zB0 Tryz.results19 _ _ ⟨g3,0,none⟩ (.agg #[.slice y0 m0 j0,.slice y1 m1 j1,.slice y2 m2 j2,.slice y3 m3 j3,.slice y4 m4 j4]) rfl (zJ2 _ _ _ _ _ _ _ q0 q1 q2 q3 q4)) rfl ?_;rw[←HST.out];exact⟨V,N,C,D,by rw[HE.out.1,HE.out.2.1,HE.out.2.2.1,HE.out.2.2.2.1,HE.out.2.2.2.2],HR.out.rebase HB0.out.size,HBD.out⟩
theorem JobsV.cells {w : World} {B : Nat} {v : Value} {js : List TJ} (h : JobsV w B v js) :
  ∃ ao cap, v = .slice ao js.length cap ∧ js.length ≤ cap ∧ cap ≤ 9223372036854775807 ∧ js.length ≤ 140737488351232 ∧
   (js.length≠0→∃b off,ao=some ⟨b,off,none⟩∧b<B∧∀t,t<js.length→∃da dn dc,w.cell? ⟨b,off+t * 5,none⟩=some (.int .i64 ((js.getD t default).who:Nat))∧w.cell? ⟨b,off+t * 5+1,none⟩=some (.int .i64 ((js.getD t default).n:Nat))∧w.cell? ⟨b,off+t * 5+2,none⟩=some (.int .i64 (js.getD t default).rsp.id)∧w.cell? ⟨b,off+t * 5+3,none⟩=some (.int .i64 (js.getD t default).rsp.code)∧w.cell? ⟨b,off+t * 5+4,none⟩=some (.slice da dn dc)∧Ints w B (.slice da dn dc) (js.getD t default).rsp.data):=by
 obtain⟨D,⟨ao,cap,hv,h1,h2,h0,h9,h3⟩,rfl,hd⟩:=h;simp only[List.length_map]at hv h1 h0 h3 ⊢;refine⟨ao,cap,hv,h1,h2,h0,fun hn=>?_⟩;obtain⟨b,off,ha,hlt,hc⟩:=h3 hn;refine⟨b,off,ha,hlt,fun t ht=>?_⟩;have e:(D.map tjRow).getD t []=tjRow (D[t]):=by simp[List.getD,ht]
 have e2:(D.map (·.1)).getD t default=(D[t]).1:=by simp[List.getD,ht]
 have c0:=hc t ht 0 (by omega);have c1:=hc t ht 1 (by omega);have c2:=hc t ht 2 (by omega);have c3:=hc t ht 3 (by omega);have c4:=hc t ht 4 (by omega);have hi:=hd _ (List.getElem_mem ht);obtain⟨da,dc,he,_⟩:=hi.opened;rw[e]at c0 c1 c2 c3 c4;rw[e2];rw[he]at hi;exact⟨da,_,dc,by simpa[tjRow]using c0,by simpa[tjRow]using c1,by simpa[tjRow]using c2,by simpa[tjRow]using c3,by simpa[tjRow,he]using c4,hi⟩
theorem Nats.ints {w:World} {B:Nat} {v:Value} {xs:List Nat} (h:Nats w B v xs) (hx:∀x∈xs,x<1000):Ints w B v (xs.map fun(x:Nat)=>(x:Int)) :=
 ⟨by rw[List.map_map];exact h,fun x hx2=>by obtain⟨y,hy,rfl⟩:=List.mem_map.1 hx2;have:=hx y hy;unfold I64;omega⟩
theorem CyV.rows {w : World} {B : Nat} {a0 a1 a2 a3 a4 : Value} {st : Cy} {P : List PS} {Q : List SS} (hv : CyV w B a0 a1 a2 a3 a4 st P Q) : ∃ (d0 d1 d4 : Option Addr) (c0 c1 c4 pg po pc tg tp tc : Nat), a0 = .slice d0 st.ws.length c0 ∧ a1 = .slice d1 st.hs.length c1 ∧ a2 = .slice (some ⟨pg, po, none⟩) 3 pc ∧ a3 = .slice (some ⟨tg, tp, none⟩) 4 tc ∧ a4 = .slice d4 st.told.length c4 ∧ pg < B ∧ tg < B ∧
  (∀k,k<3→∃qa qc oa oc,w.cell? ⟨pg,po+k * 4,none⟩=some (.int .i64 ((st.ports k).next:Nat))∧w.cell? ⟨pg,po+k * 4+1,none⟩=some (.slice qa (st.ports k).queue.length qc)∧w.cell? ⟨pg,po+k * 4+2,none⟩=some (.slice oa (st.ports k).out.length oc)∧w.cell? ⟨pg,po+k * 4+3,none⟩=some (.int .i64 ((st.ports k).last:Nat))∧Nats w B (.slice qa (st.ports k).queue.length qc) (st.ports k).queue∧Jbs w B (.slice oa (st.ports k).out.length oc) (st.ports k).out) ∧
  (∀k,k<4→∃qa qc oa oc,w.cell? ⟨tg,tp+k * 3,none⟩=some (.slice qa (st.slaves k).pipe.length qc)∧w.cell? ⟨tg,tp+k * 3+1,none⟩=some (.slice oa (st.slaves k).done.length oc)∧w.cell? ⟨tg,tp+k * 3+2,none⟩=some (.int .i64 ((st.slaves k).last:Nat))∧Jbs w B (.slice qa (st.slaves k).pipe.length qc) (st.slaves k).pipe∧JobsV w B (.slice oa (st.slaves k).done.length oc) (st.slaves k).done):=by
 obtain⟨d0,c0,e0,_⟩:=hv.ws.opened;obtain⟨d1,c1,e1,_⟩:=hv.hs.opened;obtain⟨pg,po,pc,e2,_,_,hpg,hpc⟩:=hv.ps.at (by rw[hv.lp];omega)
 obtain⟨tg,tp,tc,e3,_,_,htg,htc⟩:=hv.ss.at (by rw[hv.lq];omega)
 obtain⟨d4,c4,e4,_⟩:=hv.told.cells;rw[hv.lp]at e2 hpc;rw[hv.lq]at e3 htc;refine⟨d0,d1,d4,c0,c1,c4,pg,po,pc,tg,tp,tc,e0,e1,e2,e3,e4,hpg,htg,fun k hk=>?_,fun k hk=>?_⟩
 ·have h1:=hv.pn k hk;have h2:=hv.q k hk;have h3:=hv.o k hk;have h4:=hpc k default hk;obtain⟨x,hx⟩:∃x,x=P.getD k default:=⟨_,rfl⟩
  rw[←hx]at h1 h2 h3 h4;obtain⟨nx,⟨qa,qn,qc⟩,⟨oa,on,oc⟩,la⟩:=x;simp only[sl]at h1 h2 h3;obtain rfl:=h2.len;obtain rfl:=h3.len;have g0:=h4 0 (by omega);have g1:=h4 1 (by omega);have g2:=h4 2 (by omega);have g3:=h4 3 (by omega);rw[←h1.1,←h1.2];exact⟨qa,qc,oa,oc,by simp only[rowPS,List.getElem?_cons_zero,List.getElem?_cons_succ]at g0;exact g0,by simp only[rowPS,List.getElem?_cons_zero,List.getElem?_cons_succ]at g1;exact g1,by simp only[rowPS,List.getElem?_cons_zero,List.getElem?_cons_succ]at g2;exact g2,by simp only[rowPS,List.getElem?_cons_zero,List.getElem?_cons_succ]at g3;exact g3,h2,h3⟩
 ·have h1:=hv.sn k hk;have h2:=hv.p k hk;have h3:=hv.d k hk;have h4:=htc k default hk;obtain⟨x,hx⟩:∃x,x=Q.getD k default:=⟨_,rfl⟩
  rw[←hx]at h1 h2 h3 h4;obtain⟨⟨qa,qn,qc⟩,⟨oa,on,oc⟩,la⟩:=x;simp only[sl]at h1 h2 h3;obtain rfl:=h2.len;obtain rfl:=h3.len;have g0:=h4 0 (by omega);have g1:=h4 1 (by omega);have g2:=h4 2 (by omega);rw[←h1];exact⟨qa,qc,oa,oc,by simp only[rowSS,List.getElem?_cons_zero,List.getElem?_cons_succ]at g0;exact g0,by simp only[rowSS,List.getElem?_cons_zero,List.getElem?_cons_succ]at g1;exact g1,by simp only[rowSS,List.getElem?_cons_zero,List.getElem?_cons_succ]at g2;exact g2,h2,h3⟩
theorem JobsV.take {w:World} {B:Nat} {a:Option Addr} {n k m:Nat} {js:List TJ} (h:JobsV w B (.slice a n k) js) (hm:m≤n):JobsV w B (.slice a m k) (js.take m):=by
 obtain⟨D,⟨ao,cap,hv,h1,h2,h0,h9,h3⟩,rfl,hd⟩:=h;simp only[List.length_map,Value.slice.injEq]at hv h1 h0 h3;obtain⟨rfl,rfl,rfl⟩:=hv;have hl:(D.take m).length=m:=by rw[List.length_take];omega
 refine⟨D.take m,⟨a,k,by rw[List.length_map,hl],by rw[List.length_map,hl];omega,h2,by rw[List.length_map,hl];omega,h9,fun hn=>?_⟩,by rw[List.map_take],fun x hx=>hd x (List.mem_of_mem_take hx)⟩;rw[List.length_map,hl]at hn;obtain⟨b,off,ha,hlt,hc⟩:=h3 (by omega);refine⟨b,off,ha,hlt,fun t ht j hj=>?_⟩;rw[List.length_map,hl]at ht;rw[hc t (by omega) j hj];simp[List.getD,List.getElem?_take,ht]
theorem InV.bits {w:World} {B:Nat} {ra ta sa:Option Addr} {rc tc sc:Nat} {inp:Inp} (h:InV w B (.agg #[.slice ra 3 rc,.slice ta 4 tc,.slice sa 3 sc]) inp):∃rb ro sb so,ra=some ⟨rb,ro,none⟩∧sa=some ⟨sb,so,none⟩∧rb<B∧sb<B∧(∀j,j<3→w.cell? ⟨rb,ro+j,none⟩=some (.bool (inp.ready.getD j false)))∧(∀j,j<3→w.cell? ⟨sb,so+j,none⟩=some (.bool (inp.send.getD j false))):=by
 obtain⟨⟨ra', rc', ta', tc', sa', sc', e,k1,_,k3⟩,l1,_,l3⟩:=h;simp only[Value.agg.injEq,Array.mk.injEq,List.cons.injEq,Value.slice.injEq,and_true]at e;obtain⟨⟨rfl,_,rfl⟩,_,⟨rfl,_,rfl⟩⟩:=e;obtain⟨a1,c1,e1,_,_,_,_,h1⟩:=k1.opened;obtain⟨a3,c3,e3,_,_,_,_,h3⟩:=k3.opened;simp only[Value.slice.injEq,true_and]at e1 e3;obtain⟨rb,ro,rfl,q1,q2⟩:=h1 (by omega);obtain⟨sb,so,rfl,q3,q4⟩:=h3 (by omega);exact⟨rb,ro,sb,so,e1.1,e3.1,q1,q3,fun j hj=>q2 j (by omega),fun j hj=>q4 j (by omega)⟩
theorem bT {w W W1:World} (h:Below w.heap.size w W) (h2:Below W.heap.size W W1):Below w.heap.size w W1:=h.trans (h2.mono h.size)
def Flowed (wo:World) (st:Cy) (s:Value) (w9:World):Prop:=∃gx,s=.pointer (some ⟨gx,0,none⟩)∧CyBox w9 gx st∧wo.heap.size≤gx∧Below wo.heap.size wo w9
theorem flowed_a {wo wa : World} {base : Nat} {st : Cy} {V : Nat → Value} {N : Nat → Nat} {C : Nat → List Value} {D : Nat → List TJV} {y0 y1 y2 y3 y4 : Option Addr} {m0 m1 m2 m3 m4 j0 j1 j2 j3 j4 : Nat} (hE : V 0 = .slice y0 m0 j0 ∧ V 1 = .slice y1 m1 j1 ∧ V 2 = .slice y2 m2 j2 ∧ V 3 = .slice y3 m3 j3 ∧ V 4 = .slice y4 m4 j4)
  (hr:CyR wa base st V N C D) (hb:Below wo.heap.size wo wa):Flowed wo st (.pointer (some ⟨wa.heap.size,0,none⟩)) (wa.alloc (.cells #[.slice y0 m0 j0,.slice y1 m1 j1,.slice y2 m2 j2,.slice y3 m3 j3,.slice y4 m4 j4] 39)):=by
 refine⟨_,rfl,CyBox.new hr ((Below.refl _ _).alloc (Nat.le_refl _) _) (Nat.le_refl _) ?_,hb.size,hb.alloc hb.size _⟩;obtain⟨e0,e1,e2,e3,e4⟩:=hE;rw[e0,e1,e2,e3,e4];exact Bx.new wa #[.slice y0 m0 j0,.slice y1 m1 j1,.slice y2 m2 j2,.slice y3 m3 j3,.slice y4 m4 j4] 39 (by simp)
theorem flowed_b {wo wa : World} {base gx : Nat} {st : Cy} {V : Nat → Value} {N : Nat → Nat} {C : Nat → List Value} {D : Nat → List TJV} {y0 y1 y2 y3 y4 : Option Addr} {m0 m1 m2 m3 m4 j0 j1 j2 j3 j4 : Nat} {v0 v1 v2 v3 v4 : Value} (hE : V 0 = .slice y0 m0 j0 ∧ V 1 = .slice y1 m1 j1 ∧ V 2 = .slice y2 m2 j2 ∧ V 3 = .slice y3 m3 j3 ∧ V 4 = .slice y4 m4 j4)
  (hr:CyR wa base st V N C D) (hb:Below wo.heap.size wo wa) (hx:Bx wa gx [v0,v1,v2,v3,v4]) (hg:gx<base) (ho:wo.heap.size≤gx):Flowed wo st (.pointer (some ⟨gx,0,none⟩)) (((((wa.setCell ⟨gx,0,none⟩ (.slice y0 m0 j0)).setCell ⟨gx,1,none⟩ (.slice y1 m1 j1)).setCell ⟨gx,2,none⟩ (.slice y2 m2 j2)).setCell ⟨gx,3,none⟩ (.slice y3 m3 j3)).setCell ⟨gx,4,none⟩ (.slice y4 m4 j4)):=by
 refine⟨gx,rfl,CyBox.set hr put5_other (by simp) hg ?_,ho,((((hb.setCell (p:=⟨gx,_,none⟩) ho _).setCell (p:=⟨gx,_,none⟩) ho _).setCell (p:=⟨gx,_,none⟩) ho _).setCell (p:=⟨gx,_,none⟩) ho _).setCell (p:=⟨gx,_,none⟩) ho _⟩;obtain⟨e0,e1,e2,e3,e4⟩:=hE;rw[e0,e1,e2,e3,e4];exact hx.put5 _ _ _ _ _
theorem nilBox (wo:World):Bx (wo.alloc (.cells #[.slice none 0 0,.slice none 0 0,.slice none 0 0,.slice none 0 0,.slice none 0 0] 39)) wo.heap.size [vnil,vnil,vnil,vnil,vnil]:=Bx.new wo #[vnil,vnil,vnil,vnil,vnil] 39 (by simp)
theorem nilBoxD (wo:World):Bx (wo.alloc (.cells #[.slice none 0 0,.slice none 0 0,.slice none 0 0,.slice none 0 0,.slice none 0 0] 39)).drew wo.heap.size [vnil,vnil,vnil,vnil,vnil]:=(nilBox wo).below (Below.refl (wo.heap.size+1) _).drew (Nat.lt_succ_self _)
def CyX (st:Cy) (W:World) (v:Value):Prop:=∃b0 b1 b2 b3 b4 n0 n1 n2 n3 n4 k0 k1 k2 k3 k4 P Q,v=.agg #[.slice b0 n0 k0,.slice b1 n1 k1,.slice b2 n2 k2,.slice b3 n3 k3,.slice b4 n4 k4]∧CyV W W.heap.size (.slice b0 n0 k0) (.slice b1 n1 k1) (.slice b2 n2 k2) (.slice b3 n3 k3) (.slice b4 n4 k4) st P Q
theorem CyX.below {st:Cy} {W W':World} {v:Value} (h:CyX st W v) (hb:Below W.heap.size W W'):CyX st W' v:=by
 obtain⟨b0,b1,b2,b3,b4,n0,n1,n2,n3,n4,k0,k1,k2,k3,k4,P,Q,e,h⟩:=h;exact⟨b0,b1,b2,b3,b4,n0,n1,n2,n3,n4,k0,k1,k2,k3,k4,P,Q,e,(h.below hb).mono hb.size⟩
structure AloneF (c:Cfg) (who lo0:Nat) (ma:Option Addr) (mk lb lo lc pb:Nat) (us:List Value) (L:Nat→Nat) (W:World):Prop where
 m:Maps W W.heap.size (.slice ma c.ms.length mk) c.ms
 mo:∀k,(Value.slice ma c.ms.length mk).ownBlock=some k→k≠pb∧lo0≤k
 l:Ints W W.heap.size (.slice (some ⟨lb,lo,none⟩) 4 lc) (c.lat.map fun(n:Nat)=>(n:Int))
 lp:lb≠pb
 lo_:lo0≤lb
 p:PsO W lo0 pb 3 us (zE5 c.progs who 3) L
theorem AloneF.below {c:Cfg} {who lo0:Nat} {ma:Option Addr} {mk lb lo lc pb:Nat} {us:List Value} {L:Nat→Nat} {W W':World} (h:AloneF c who lo0 ma mk lb lo lc pb us L W) (hb:Below W.heap.size W W'):AloneF c who lo0 ma mk lb lo lc pb us L W' :=
 ⟨(h.m.below hb).mono hb.size,h.mo,⟨(h.l.1.below hb).mono hb.size,h.l.2⟩,h.lp,h.lo_,h.p.below hb⟩
theorem AloneP.fact {c:Cfg} {who:Nat} {w:World} {e:Ending} {w':World} (h:AloneP c who w e w'):∃ma mk lb lo lc pb us L,e=.returned (.agg #[.slice ma c.ms.length mk,.slice (some ⟨lb,lo,none⟩) 4 lc,.slice (some ⟨pb,0,none⟩) 3 3])∧AloneF c who w.heap.size ma mk lb lo lc pb us L w' ∧ Below w.heap.size w w':=by
 obtain⟨ma,mk,lb,lo,lc,pb,us,L,e,h1,h2,h3,h4,h5,h6,h7⟩:=h;exact⟨ma,mk,lb,lo,lc,pb,us,L,e,⟨h1,h2,h3,h4,h5,h6⟩,h7⟩
theorem slvC_lt4 {c:Cfg} (hb:Bus c) (w n:Nat):c.slv w n<4:=slv_lt4 hb.ms _
end Go.Proofs.YtgkdoehkmbhfiaaGreat
