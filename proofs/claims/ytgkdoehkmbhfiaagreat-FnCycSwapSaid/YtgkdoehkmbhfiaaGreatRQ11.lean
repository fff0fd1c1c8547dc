/- What a law of cycles holds: a bus in a box of its own, and how it stands, read. -/
import Derived.Test.YtgkdoehkmbhfiaaGreatRQ9
import Derived.Test.YtgkdoehkmbhfiaaGreatRQr
import Derived.Test.YtgkdoehkmbhfiaaGreatRCs
import Derived.Test.YtgkdoehkmbhfiaaGreatRY1
import Derived.Test.YtgkdoehkmbhfiaaGreatRTg
import Derived.Test.YtgkdoehkmbhfiaaGreatRDo4
import Derived.StillTail
import Derived.StillTailTactics
set_option linter.unusedVariables false
set_option linter.unusedSimpArgs false
set_option maxHeartbeats 16000000
namespace Go.Proofs.YtgkdoehkmbhfiaaGreat
open Go.RowKit
def zC7 (pss:List (List Rq)) (who:Int) (k:Nat):List (List Rq):=(List.range pss.length).map fun j=>if j<k∧(j:Int)≠who then[] else pss.getD j []
theorem zB3 (pss:List (List Rq)) (who:Int) (k:Nat):(zC7 pss who k).length=pss.length:=by simp[zC7]
theorem aloneK_get {pss:List (List Rq)} {who:Int} {k j:Nat} (hj:j<pss.length):(zC7 pss who k).getD j []=if j<k∧(j:Int)≠who then[] else pss.getD j []:=by simp[zC7,List.getD,hj]
theorem aloneK_zero (pss:List (List Rq)) (who:Int):zC7 pss who 0=pss:=by
 apply List.ext_getElem
 ·simp[zC7]
 ·intro i h1 h2;simp[zC7,List.getD,h2]
theorem aloneK_keep {pss:List (List Rq)} {who:Int} {k:Nat} (h:(k:Int)=who):zC7 pss who (k+1)=zC7 pss who k:=by
 unfold zC7;apply List.map_congr_left;intro j _;by_cases e:j=k
 ·subst e;simp[h]
 ·have:(j<k+1↔j<k):=by omega
  simp[this]
theorem PsO.setNil {w:World} {lo pb n k:Nat} {us:List Value} {pss:List (List Rq)} {who:Int} {L:Nat→Nat} (h:PsO w lo pb n us (zC7 pss who k) L) (hk:k<pss.length) (hw:(k:Int)≠who):PsO (w.setCell ⟨pb,k,none⟩ vnil) lo pb n (us.set k vnil) (zC7 pss who (k+1)) L:=by
 have hl:=h.le;rw[zB3]at hl;have ho:=h.outer.putRow zE4 k 0 vnil vnil vnil (by rw[h.len];omega) (by omega) rfl;simp only[Nat.zero_add,Nat.mul_one,Nat.add_zero]at ho;have hs:(w.setCell ⟨pb,k,none⟩ vnil).heap.size=w.heap.size:=by simp[World.setCell]
 refine⟨ho,by rw[List.length_set];exact h.len,by rw[zB3];exact hl,fun j hj=>?_,fun j h1 h2=>?_,fun j hj=>h.mono j (by rw[zB3]at hj ⊢;exact hj),h.pbl,by rw[hs,zB3];have:=h.top;rw[zB3]at this;exact this⟩
 ·rw[zB3]at hj;rw[aloneK_get hj];by_cases e:j=k
  ·subst e;rw[zF2 (by rw[h.len];omega),if_pos ⟨by omega,hw⟩];exact PgO.nil _ _ _
  ·rw[zD0 e];have:=h.pg j (by rw[zB3];exact hj);rw[aloneK_get hj]at this;have hc:(if j<k+1∧(j:Int)≠who then([]:List Rq) else pss.getD j [])=if j<k∧(j:Int)≠who then[] else pss.getD j []:=by
    have:(j<k+1↔j<k):=by omega
    simp[this]
   rw[hc];refine this.kept fun i h1 _ _=>Below.heap_setCell _ _ _ _ ?_
   have:=h.le0 j (by rw[zB3];omega);have:=h.pbl;show i≠pb;omega
 ·rw[zB3]at h1;rw[zD0 (by omega)];exact h.nil j (by rw[zB3];exact h1) h2
def BusAloneP (ms:List MR) (lat:List Int) (pss:List (List Rq)) (who:Int) (w:World) (e:Ending) (w':World):Prop :=
 ((busOk ms lat pss=true∧inB who 0 2=true)∧∃a b pb us L,e=.returned (.agg #[a,b,.slice (some ⟨pb,0,none⟩) pss.length pss.length])∧Owns w' w.heap.size 144 4 rowM a ms∧Owns w' w.heap.size 3 1 rowI b lat∧PsO w' w.heap.size pb pss.length us (zC7 pss who pss.length) L∧((∀k,a.ownBlock=some k→k<L 0)∧∀k,b.ownBlock=some k→k<L 0)∧Below w.heap.size w w') ∨
 ((busOk ms lat pss&&inB who 0 2)=false∧e=.returned (.agg #[vnil,vnil,vnil])∧Below w.heap.size w w')
set_option maxRecDepth 8000 in
theorem implBusAlone_any (v : Value) (ms : List MR) (lat : List Int) (pss : List (List Rq)) (who : Int) (B : Nat) (w : World) (h : BusI w B v ms lat pss) (hB : B ≤ w.heap.size) (hl1 : ms.length ≤ 1048576) (hl2 : lat.length ≤ 1048576) (hl3 : pss.length ≤ 1048576) (hl4 : ∀ p ∈ pss, p.length ≤ 1048576 ∧ ∀ q ∈ p, Rq20 q) :
  Calls Tryz.prog 18 #[v,.int .i64 who] w (BusAloneP ms lat pss who w):=by
 have HI:=hid h;have HB:=hid hB;have HL1:=hid hl1;have HL2:=hid hl2;have HL3:=hid hl3;have HL4:=hid hl4;obtain⟨mv,lv,pv,rfl,hm,hl,hp⟩:=h;obtain⟨ma,mc,rfl,_⟩:=hm.opened;obtain⟨la,lc,rfl,_⟩:=hl.opened;obtain⟨pa,pc,rfl,_⟩:=hp.opened;clear hm hl hp hB hl1 hl2 hl3 hl4;obtain⟨W2,hW2⟩:∃W2,W2=(w.alloc (.cells #[.slice ma ms.length mc,.slice la lat.length lc,.slice pa pss.length pc] 27)).alloc (.cells #[.slice none 0 0,.slice none 0 0,.slice none 0 0] 27):=⟨_,rfl⟩
 have HB2:=hid (show Below w.heap.size w W2 by rw[hW2];exact(bx1 _ _).alloc (by simp) _);have HS:=hid (show Bx W2 w.heap.size [.slice ma ms.length mc,.slice la lat.length lc,.slice pa pss.length pc] by rw[hW2];exact(Bx.new w #[.slice ma ms.length mc,.slice la lat.length lc,.slice pa pss.length pc] _ (by simp)).below (bx1 _ _) (by simp));have HR:=hid (show Bx W2 (w.heap.size+1) [vnil,vnil,vnil] by rw[hW2];have:=Bx.new (w.alloc (.cells #[.slice ma ms.length mc,.slice la lat.length lc,.slice pa pss.length pc] 27)) #[vnil,vnil,vnil] 27 (by simp);simpa using this);have HZ:=hid (show W2.heap.size=w.heap.size+2 by rw[hW2];simp);have HW2:=hid hW2;rcases hbo:busOk ms lat pss with _|_
 ·have HO:=hid hbo;clear hbo hW2
  go_enter Tryz.func18,Tryz.ntmps18
  go_wp2_with (first
   |(go_at_call 50;rw[show(w.alloc _).alloc _=W2 from HW2.out.symm];refine(zI5 _ ms lat pss B W2 (HI.out.below (HB2.out.mono HB.out)) (Nat.le_trans HB.out HB2.out.size)).mono ?_;rw[HO.out];rintro e w1 ⟨rfl,hb⟩;have HR1:=hid (HR.out.below hb HR.out.lt);have HBE:=hid (HB2.out.trans (hb.mono HB2.out.size));obtain⟨⟨q0,q1,q2⟩,f0,f1,f2⟩:=HR1.out.three;have hrl:=HR1.out.lt;clear hb))
  refine bodyPost_ret (zB0 Tryz.results18 _ _ ⟨w.heap.size+1,0,none⟩ (.agg #[vnil,vnil,vnil]) rfl (zG6 _ _ _ _ _ (by simp[go_sem, *]) (by simp[go_sem, *]) (by simp[go_sem, *]))) rfl (.inr ⟨by rw[HO.out];rfl,rfl,?_⟩);exact((HBE.out.setCell (by exact Nat.le_succ _) _).setCell (by exact Nat.le_succ _) _).setCell (by exact Nat.le_succ _) _
 ·have HO:=hid hbo;clear hbo hW2;rcases hib:inB who 0 2 with _|_
  ·have HI2:=hid hib;clear hib
   go_enter Tryz.func18,Tryz.ntmps18
   go_wp2_with (first
    |(go_at_call 50;rw[show(w.alloc _).alloc _=W2 from HW2.out.symm];refine(zI5 _ ms lat pss B W2 (HI.out.below (HB2.out.mono HB.out)) (Nat.le_trans HB.out HB2.out.size)).mono ?_;rw[HO.out];rintro e w1 ⟨rfl,hb⟩;have HS1:=hid (HS.out.below hb HS.out.lt);have HR1:=hid (HR.out.below hb HR.out.lt);have HBE:=hid (HB2.out.trans (hb.mono HB2.out.size));obtain⟨⟨s0,s1,s2⟩,_⟩:=HS1.out.three;obtain⟨⟨q0,q1,q2⟩,f0,f1,f2⟩:=HR1.out.three;have hrl:=HR1.out.lt;clear hb)
    |(go_at_call 56;refine(zH4 _ _).mono ?_;rw[HI2.out];rintro e w' ⟨rfl,hw⟩;subst hw))
   refine bodyPost_ret (zB0 Tryz.results18 _ _ ⟨w.heap.size+1,0,none⟩ (.agg #[vnil,vnil,vnil]) rfl (zG6 _ _ _ _ _ (by simp[go_sem, *]) (by simp[go_sem, *]) (by simp[go_sem, *]))) rfl (.inr ⟨by rw[HO.out,HI2.out];rfl,rfl,?_⟩);exact((HBE.out.setCell (by exact Nat.le_succ _) _).setCell (by exact Nat.le_succ _) _).setCell (by exact Nat.le_succ _) _
  ·have HI2:=hid hib;clear hib
   go_enter Tryz.func18,Tryz.ntmps18
   go_wp2_with (first
    |(go_at_call 50;rw[show(w.alloc _).alloc _=W2 from HW2.out.symm];refine(zI5 _ ms lat pss B W2 (HI.out.below (HB2.out.mono HB.out)) (Nat.le_trans HB.out HB2.out.size)).mono ?_;rw[HO.out];rintro e w1 ⟨rfl,hb⟩;have HS1:=hid (HS.out.below hb HS.out.lt);have HR1:=hid (HR.out.below hb HR.out.lt);have HBE:=hid (HB2.out.trans (hb.mono HB2.out.size));obtain⟨⟨s0,s1,s2⟩,_⟩:=HS1.out.three;obtain⟨⟨q0,q1,q2⟩,f0,f1,f2⟩:=HR1.out.three;have hrl:=HR1.out.lt;clear hb)
    |(go_at_call 56;refine(zH4 _ _).mono ?_;rw[HI2.out];rintro e w' ⟨rfl,hw⟩;subst hw)
    |(go_at_call 57;go_must (refine(busCopy_any _ ms lat pss B _ (HI.out.below (HBE.out.mono HB.out)) (Nat.le_trans HB.out HBE.out.size) HL1.out HL2.out HL3.out HL4.out).mono ?_);rintro e w3 ⟨a,b,pb,us,L,rfl,oa,ob,hps,hl0,hb⟩;have HOA:=hid oa;have HOB:=hid ob;have HPS:=hid hps;have HBF:=hid (HBE.out.trans (hb.mono HBE.out.size));have HR3:=hid (HR1.out.below hb HR1.out.lt);obtain⟨ya,yb,rfl,_,_⟩:=oa.shape;obtain⟨za,zb,rfl,_,_⟩:=ob.shape;have HL0:=hid hl0;clear oa ob hps hl0 hb s0 s1 s2 q0 q1 q2 f0 f1 f2))
   obtain⟨W4,hW4⟩:∃W4,W4=w3.alloc (.cells #[.slice ya ms.length yb,.slice za lat.length zb,.slice (some ⟨pb,0,none⟩) pss.length pss.length] 27):=⟨_,rfl⟩
   rw[←hW4];have HB4:=hid (show Below w3.heap.size w3 W4 by rw[hW4];exact bx1 _ _);have HX4:=hid (show BoxB W4 w3.heap.size (.slice ya ms.length yb) (.slice za lat.length zb) (.slice (some ⟨pb,0,none⟩) pss.length pss.length) by rw[hW4];exact BoxB.new _ _ _ _);clear hW4;have HA4:=hid (HOA.out.below HB4.out);have HO4:=hid (HOB.out.below HB4.out);have HP4:=hid (HPS.out.below HB4.out);have HBG:=hid (HBF.out.trans (HB4.out.mono HBF.out.size));have HR4:=hid (HR3.out.below HB4.out HR3.out.lt);have hz1:=HR1.out.lt;have hpb3:=HPS.out.pb;have HPB:=hid hpb3;have HZ1:=hid hz1;clear HOA HOB HPS hpb3 hz1
   go_loopw [21] (fun i wr=>∃(k:Nat) (us:List Value),i=.int .i64 k∧k≤pss.length∧BoxB wr w3.heap.size (.slice ya ms.length yb) (.slice za lat.length zb) (.slice (some ⟨pb,0,none⟩) pss.length pss.length)∧Owns wr w1.heap.size 144 4 rowM (.slice ya ms.length yb) ms∧Owns wr w1.heap.size 3 1 rowI (.slice za lat.length zb) lat∧PsO wr w1.heap.size pb pss.length us (zC7 pss who k) L∧Below w.heap.size w wr∧Bx wr (w.heap.size+1) [vnil,vnil,vnil]) (fun i _=>pss.length - (intOf i).toNat)
   case atStart=>exact⟨0,us,rfl,by omega,HX4.out,HA4.out,HO4.out,by rw[aloneK_zero];exact HP4.out,HBG.out,HR4.out⟩
   case round=>
    clear HX4 HA4 HO4 HP4 HBG HR4;obtain⟨k,us,rfl,hk,hx,ha,ho,hp,hb,hr⟩:=hrel;have HX:=hid hx;have HA:=hid ha;have HO2:=hid ho;have HP:=hid hp;have HBE2:=hid hb;have HR5:=hid hr;clear hx ha ho hp hb hr;have hn3:=HL3.out;by_cases hlt:k<pss.length
    ·by_cases hw:(k:Int)=who
     ·have hne:((k:Int) != who)=false:=by simp[hw]
      have HK:=hid (aloneK_keep (pss:=pss) hw);clear hw
      go_wp2_with fail
      go_roundw
      case rel=>exact⟨k+1,us,by go_num,by omega,HX.out,HA.out,HO2.out,by rw[HK.out];exact HP.out,HBE2.out,HR5.out⟩
      case measure=>simp[intOf];omega
     ·have hne:((k:Int) != who)=true:=by simp[hw]
      have HN:=hid (HP.out.setNil hlt hw);clear hw;obtain⟨⟨s0,s1,s2⟩,_⟩:=HX.out.bx.three;have q:=HP.out.outer.cellAt zE4 k 0 vnil (by rw[HP.out.len];exact hlt) (by omega);have q2:=HP.out.outer.frozenAt k;simp only[Nat.zero_add,Nat.mul_one,Nat.add_zero,row1,List.getElem?_cons_zero]at q;have hpl:=HP.out.pb.2
      go_wp2_with fail
      go_roundw
      case rel=>exact⟨k+1,_,by go_num,by omega,HX.out.touch (Touch.setCell ..) (by have:=HPB.out.2;omega),HA.out.tchB (Touch.setCell ..) (fun e=>Owns.apartT HA.out HP.out.outer (by decide) pb e rfl),HO2.out.tchB (Touch.setCell ..) (fun e=>Owns.apartT HO2.out HP.out.outer (by decide) pb e rfl),HN.out,HBE2.out.setCell (by show w.heap.size≤pb;have:=HPB.out.1;have:=HZ1.out;omega) _,HR5.out.kept (Below.heap_setCell _ _ _ _ (by show w.heap.size+1≠pb;have:=HPB.out.1;have:=HZ1.out;omega))⟩
      case measure=>simp[intOf];omega
    ·obtain rfl:k=pss.length:=by omega
     obtain⟨⟨r0,r1,r2⟩,_⟩:=HX.out.bx.three;obtain⟨⟨q0,q1,q2⟩,f0,f1,f2⟩:=HR5.out.three;have hrl:=HR5.out.lt;have hbl:=HX.out.lt
     go_wp2_with fail
     refine bodyPost_ret (zB0 Tryz.results18 _ _ ⟨w.heap.size+1,0,none⟩ (.agg #[.slice ya ms.length yb,.slice za lat.length zb,.slice (some ⟨pb,0,none⟩) pss.length pss.length]) rfl (zG6 _ _ _ _ _ (by simp[go_sem, *]) (by simp[go_sem, *]) (by simp[go_sem, *]))) rfl (.inl ⟨⟨HO.out,HI2.out⟩,_,_,_,us,L,rfl,?_,?_,?_,HL0.out,?_⟩)
     ·have hz:=HZ1.out;exact OwnR.rebase (OwnR.kept HA.out (fun k hk=>(touchB (w.heap.size+1) _ _ _ _).block k (OwnR.lt HA.out k hk).2 (by have:=(OwnR.lt HA.out k hk).1;omega))) (show w.heap.size≤w1.heap.size by omega)
     ·have hz:=HZ1.out;exact OwnR.rebase (OwnR.kept HO2.out (fun k hk=>(touchB (w.heap.size+1) _ _ _ _).block k (OwnR.lt HO2.out k hk).2 (by have:=(OwnR.lt HO2.out k hk).1;omega))) (show w.heap.size≤w1.heap.size by omega)
     ·have hz:=HZ1.out;exact(HP.out.kept (fun k h1 h2=>(touchB (w.heap.size+1) _ _ _ _).block k h2 (by omega)) (touchB (w.heap.size+1) _ _ _ _).size).rebase (by omega)
     ·exact((HBE2.out.setCell (by exact Nat.le_succ _) _).setCell (by exact Nat.le_succ _) _).setCell (by exact Nat.le_succ _) _
theorem CopP.below {st:Cy} {w w0:World} {e:Ending} {w':World} (h:CopP st w0 e w') (hb:Below w.heap.size w w0):CopP st w e w':=by
 obtain⟨V,N,C,D,he,hr,h3⟩:=h;exact⟨V,N,C,D,he,hr.rebase hb.size,hb.trans (h3.mono hb.size)⟩
theorem runC_app (c : Cfg) : ∀ (a b : List Inp) (st : Cy), runC c (a ++ b) st = runC c b (runC c a st)
 |[],_,_=>rfl
 |_::a,b,_=>runC_app c a b _
theorem runC_snoc (c:Cfg) (ins:List Inp) (k:Nat) (hk:k<ins.length) (st:Cy):runC c (ins.take (k+1)) st=cyc c (ins.getD k default) (runC c (ins.take k) st):=by
 rw[List.take_succ_eq_append_getElem hk,runC_app];simp[runC,List.getD,hk]
set_option maxRecDepth 8000 in
theorem cycRun_any {c : Cfg} (hbus : Bus c) {w : World} {B : Nat} {u v : Value} (hc : BusV w B u c) {a0 a1 a2 a3 a4 : Value} {st : Cy} {P : List PS} {Q : List SS} (h : CyV w B a0 a1 a2 a3 a4 st P Q) {ins : List Inp} (hi : Ins w B v ins) (hB : B ≤ w.heap.size) (hg : Good c st) (hl : ins.length ≤ 300) :
  Calls Tryz.prog 23 #[u,.agg #[a0,a1,a2,a3,a4],v] w (CopP (runC c ins st) w):=by
 obtain⟨mv,lb,lo,lc,pb,po,pc,QQ,K,rfl,⟨ma,mn,mk,rfl⟩,_,_,_,_,_,_⟩:=hc.opened hbus;obtain⟨z0,z1,z2,z3,z4,n0,n1,n2,n3,n4,k0,k1,k2,k3,k4,rfl,rfl,rfl,rfl,rfl⟩:=h.sl;obtain⟨ia,ic,rfl,ic1,ic2,ic3,_,hcell⟩:=hi.opened;have HRN:=hid (fun(W:World) (hW:Below w.heap.size w W)=>runs_any hbus (hc.below (hW.mono hB)) (h.below (hW.mono hB)) (hi.below (hW.mono hB)) (Nat.le_trans hB hW.size) hg hl);have HCP:=hid (fun(W:World) (hW:Below w.heap.size w W)=>cycCopyV_any (h.below (hW.mono hB)) (Nat.le_trans hB hW.size) (zL3 hbus hg));have HBV:=hid hc;have HCELL:=hid hcell;obtain⟨il,hil⟩:∃x,x=ins.length:=⟨_,rfl⟩
 rw[←hil]at HRN HCELL ic1 ic3 ⊢;have HIL:=hid hil;obtain⟨w0,hw0⟩:∃W,W=((w.alloc (.cells #[.slice ma mn mk,.slice (some ⟨lb,lo,none⟩) 4 lc,.slice (some ⟨pb,po,none⟩) 3 pc] 27)).alloc (.cells #[.slice z0 n0 k0,.slice z1 n1 k1,.slice z2 n2 k2,.slice z3 n3 k3,.slice z4 n4 k4] 39)).alloc (.cells #[.slice none 0 0,.slice none 0 0,.slice none 0 0,.slice none 0 0,.slice none 0 0] 39):=⟨_,rfl⟩
 have hb0:Below w.heap.size w w0:=by rw[hw0];exact(((Below.refl _ _).alloc (Nat.le_refl _) _).alloc (by simp) _).alloc (by simp <;> omega) _
 obtain⟨g1,hg1⟩:∃g,g=w.heap.size+1:=⟨_,rfl⟩
 obtain⟨g3,hg3⟩:∃g,g=w.heap.size+1+1:=⟨_,rfl⟩
 have X0 := hid (show Bx w0 w.heap.size [.slice ma mn mk, .slice (some ⟨lb, lo, none⟩) 4 lc, .slice (some ⟨pb, po, none⟩) 3 pc] by
  rw[hw0];exact((Bx.new w #[.slice ma mn mk,.slice (some ⟨lb,lo,none⟩) 4 lc,.slice (some ⟨pb,po,none⟩) 3 pc] 27 (by simp)).below ((Below.refl _ _).alloc (Nat.le_refl _) _) (by simp)).below ((Below.refl _ _).alloc (Nat.le_refl _) _) (by simp <;> omega))
 have X1 := hid (show Bx w0 g1 [.slice z0 n0 k0, .slice z1 n1 k1, .slice z2 n2 k2, .slice z3 n3 k3, .slice z4 n4 k4] by
  rw[hw0,hg1];have:=(Bx.new (w.alloc (.cells #[.slice ma mn mk,.slice (some ⟨lb,lo,none⟩) 4 lc,.slice (some ⟨pb,po,none⟩) 3 pc] 27)) #[.slice z0 n0 k0,.slice z1 n1 k1,.slice z2 n2 k2,.slice z3 n3 k3,.slice z4 n4 k4] 39 (by simp)).below ((Below.refl _ _).alloc (Nat.le_refl _) (.cells #[.slice none 0 0,.slice none 0 0,.slice none 0 0,.slice none 0 0,.slice none 0 0] 39)) (by simp);simpa using this)
 have X3 := hid (show Bx w0 g3 [vnil, vnil, vnil, vnil, vnil] by
  rw[hw0,hg3];have:=Bx.new ((w.alloc (.cells #[.slice ma mn mk,.slice (some ⟨lb,lo,none⟩) 4 lc,.slice (some ⟨pb,po,none⟩) 3 pc] 27)).alloc (.cells #[.slice z0 n0 k0,.slice z1 n1 k1,.slice z2 n2 k2,.slice z3 n3 k3,.slice z4 n4 k4] 39)) #[vnil,vnil,vnil,vnil,vnil] 39 (by simp);simpa using this)
 have HB0:=hid hb0;have HSZ:=hid (show w0.heap.size=w.heap.size+3 by rw[hw0];simp);obtain⟨b0,b1,b2⟩:=X0.out.three.1;obtain⟨t0,t1,t2,t3,t4⟩:=X1.out.five.1;clear hc h hi hb0 hcell hil
 go_enter Tryz.func23,Tryz.ntmps23
 go_upto_region 1 with fail
 rw[←hw0,←hg3,←hg1];have HG1:=hid hg1;have HG3:=hid hg3;clear hw0 hg1 hg3
 go_upto_region 3 with(go_at_call 60;go_loud ((with_reducible refine(HRN.out _ HB0.out).mono ?_));rintro e w2 ⟨rfl,hb2⟩;have HQ2:=hid hb2;have HB2:=hid (HB0.out.trans (hb2.mono HB0.out.size));clear hb2 t0 t1 t2 t3 t4 b0 b1 b2)
 obtain⟨t0,t1,t2,t3,t4⟩:=(X1.out.below HQ2.out X1.out.lt).five.1
 go_upto_region 4 with(go_at_call 45;go_loud ((with_reducible refine(HCP.out _ HB2.out).mono ?_));rintro e w3 ⟨V,N,C,D,rfl,hcr,hb3⟩;have HQ3:=hid (HQ2.out.trans (hb3.mono HQ2.out.size));have HB3:=hid (HB2.out.trans (hb3.mono HB2.out.size));have HQ23:=hid hb3;obtain⟨A,m,KK,e0,e1,e2,e3,e4⟩:=hcr.raw.sl;have HE:=hid (show V 0=.slice (A 0) (m 0) (KK 0)∧V 1=.slice (A 1) (m 1) (KK 1)∧V 2=.slice (A 2) (m 2) (KK 2)∧V 3=.slice (A 3) (m 3) (KK 3)∧V 4=.slice (A 4) (m 4) (KK 4) from⟨e0,e1,e2,e3,e4⟩);rw[e0,e1,e2,e3,e4];have HCR:=hid hcr;clear hcr hb3 e0 e1 e2 e3 e4 t0 t1 t2 t3 t4)
 obtain⟨w4,hw4⟩:∃W,W=w3.alloc (.cells #[.slice (A 0) (m 0) (KK 0),.slice (A 1) (m 1) (KK 1),.slice (A 2) (m 2) (KK 2),.slice (A 3) (m 3) (KK 3),.slice (A 4) (m 4) (KK 4)] 39):=⟨_,rfl⟩
 obtain⟨S,hS⟩:∃g,g=w3.heap.size:=⟨_,rfl⟩
 rw[←hw4,←hS];have hb4:Below w3.heap.size w3 w4:=by rw[hw4];exact(Below.refl _ _).alloc (Nat.le_refl _) _
 have HCB:=hid (HCR.out.box (S:=S) hb4 (by omega) (by rw[HE.out.1,HE.out.2.1,HE.out.2.2.1,HE.out.2.2.2.1,HE.out.2.2.2.2,hw4];exact zA9 _ _ hS) HQ23.out.size);have HQ4:=hid (HQ3.out.trans (hb4.mono HQ3.out.size));have HB4:=hid (HB3.out.trans (hb4.mono HB3.out.size));have HX03:=hid (show w0.heap.size≤w2.heap.size from HQ2.out.size);clear hw4 hS hb4
 go_wp2_with fail
 go_loopw [20] (fun i wr=>∃k:Nat,i=.int .i64 k∧k≤il∧(∃V N C D,CyB wr w2.heap.size S (fun b=>w2.heap.size≤b) (runC c (ins.take k) st) V N C D)∧Below w2.heap.size w4 wr) (fun i _=>il - (intOf i).toNat)
 case atStart=>exact⟨0,by go_num,Nat.zero_le _,⟨V,N,C,D,by simpa[runC]using HCB.out⟩,Below.refl _ _⟩
 case round=>
  obtain⟨k,rfl,hk,⟨V1,N1,C1,D1,hcb⟩,hbr⟩:=hrel;have HCBR:=hid hcb;have HBR:=hid hbr;have HBW:=hid (HB4.out.trans (hbr.mono HB2.out.size));have HQR:=hid (HQ4.out.trans (hbr.mono HX03.out));have HGR:=hid (show Good c (runC c (ins.take k) st) from good_run hbus _ hg);obtain⟨wo,hwo⟩:∃W,W=wr:=⟨_,rfl⟩
  subst hwo;clear hcb hbr;by_cases hlt:k<il
  ·have hki:(k:Int)<(il:Int):=by omega
   obtain⟨b,off,rfl,hbB,hrow⟩:=HCELL.out (by omega);obtain⟨ra,rc,ta,tc,sa,sc,hiv,c0,c1,c2⟩:=hrow k hlt;rw[←HBW.out.cell (p:=⟨b,_,none⟩) (Nat.lt_of_lt_of_le hbB hB)]at c0 c1 c2;have HIV:=hid hiv;have HSN:=hid (runC_snoc c ins k (by rw[←HIL.out];exact hlt) st);clear hrow hiv
   go_upto_region 7 with fail
   clear c0 c1 c2;obtain⟨w5,hw5⟩:∃W,W=wo.alloc (.cells #[.slice ra 3 rc,.slice ta 4 tc,.slice sa 3 sc] 45):=⟨_,rfl⟩
   obtain⟨gi,hgi⟩:∃g,g=wo.heap.size:=⟨_,rfl⟩
   rw[←hw5,←hgi];have hb5:Below wo.heap.size wo w5:=by rw[hw5];exact(Below.refl _ _).alloc (Nat.le_refl _) _
   have X5:=hid (show Bx w5 gi [.slice ra 3 rc,.slice ta 4 tc,.slice sa 3 sc] by rw[hw5,hgi];exact Bx.new wo #[.slice ra 3 rc,.slice ta 4 tc,.slice sa 3 sc] 45 (by simp));have HB5:=hid hb5;have HBW5:=hid (HBW.out.trans (hb5.mono HBW.out.size));obtain⟨b0,b1,b2⟩:=(X0.out.below (HQR.out.trans (hb5.mono HQR.out.size)) X0.out.lt).three.1;obtain⟨i0,i1,i2⟩:=X5.out.three.1;have HST:=hid (step_any hbus (HCBR.out.below hb5) HGR.out (HBV.out.below (HBW5.out.mono hB)) (HIV.out.below (HBW5.out.mono hB)) (Nat.le_trans hB HB2.out.size));clear hw5 hgi hb5
   go_wp2_with (go_at_call 46;go_loud ((with_reducible refine(HST.out).mono ?_));rintro e w6 ⟨V', N', C', D', ve,rfl,hcb,_,hb6,_,_⟩;have HCB6:=hid hcb;have HQ6:=hid hb6;clear hcb hb6 b0 b1 b2 i0 i1 i2)
   go_roundw
   case rel=>exact⟨k+1,by go_num,by omega,⟨V', N', C', D', by rw[HSN.out];exact HCB6.out⟩,(HBR.out.trans (HB5.out.mono (by have:=HBR.out.size;have:=HB4.out.size;have:=HQ23.out.size;have:=HQ4.out.size;have:=HBW.out.size;exact Nat.le_trans (HCBR.out.s0) (Nat.le_of_lt HCBR.out.cells.2.2.2.2.2)))).trans HQ6.out⟩
   case measure=>simp[intOf];omega
  ·obtain rfl:k=il:=by omega
   have hki2:decide ((k:Int)<(k:Int))=false:=by simp
   have hend:ins.take k=ins:=List.take_of_length_le (by rw[HIL.out];exact Nat.le_refl _);rw[hend]at HCBR HGR;obtain⟨A', m', KK', e0,e1,e2,e3,e4⟩:=HCBR.out.raw.sl;obtain⟨c0,c1,c2,c3,c4,_⟩:=HCBR.out.cells;rw[e0]at c0;rw[e1]at c1;rw[e2]at c2;rw[e3]at c3;rw[e4]at c4
   have HCP5 := hid (show Calls Tryz.prog 45 #[.agg #[.slice (A' 0) (m' 0) (KK' 0), .slice (A' 1) (m' 1) (KK' 1), .slice (A' 2) (m' 2) (KK' 2), .slice (A' 3) (m' 3) (KK' 3), .slice (A' 4) (m' 4) (KK' 4)]] wo (CopP (runC c ins st) wo) from by
    obtain⟨P', Q', hv⟩:=HCBR.out.toV hbus HGR.out;rw[e0,e1,e2,e3,e4]at hv;exact cycCopyV_any hv (Nat.le_refl _) (zL3 hbus HGR.out))
   clear e0 e1 e2 e3 e4 hend;have HX35:=hid (show Bx wo g3 [vnil,vnil,vnil,vnil,vnil] from(X3.out.below HQR.out X3.out.lt))
   go_wp2_with (go_at_call 45;go_loud ((with_reducible refine(HCP5.out).mono ?_));rintro e w6 ⟨V6,N6,C6,D6,rfl,hcr,hb6⟩;obtain⟨A6,m6,K6,e0,e1,e2,e3,e4⟩:=hcr.raw.sl;have HE6:=hid (show V6 0=.slice (A6 0) (m6 0) (K6 0)∧V6 1=.slice (A6 1) (m6 1) (K6 1)∧V6 2=.slice (A6 2) (m6 2) (K6 2)∧V6 3=.slice (A6 3) (m6 3) (K6 3)∧V6 4=.slice (A6 4) (m6 4) (K6 4) from⟨e0,e1,e2,e3,e4⟩);rw[e0,e1,e2,e3,e4];have HCR6:=hid hcr;have HQ6:=hid hb6;have HX6:=hid (HX35.out.below hb6 HX35.out.lt);clear hcr hb6 e0 e1 e2 e3 e4 c0 c1 c2 c3 c4;obtain⟨⟨q0,q1,q2,q3,q4⟩,f0,f1,f2,f3,f4⟩:=HX6.out.five;have hrl:=HX6.out.lt)
   refine bodyPost_ret (zB0 Tryz.results23 _ _ ⟨g3,0,none⟩ (.agg #[.slice (A6 0) (m6 0) (K6 0),.slice (A6 1) (m6 1) (K6 1),.slice (A6 2) (m6 2) (K6 2),.slice (A6 3) (m6 3) (K6 3),.slice (A6 4) (m6 4) (K6 4)]) rfl (zM4 _ _ _ _ _ _ _ (by simp[go_sem, *]) (by simp[go_sem, *]) (by simp[go_sem, *]) (by simp[go_sem, *]) (by simp[go_sem, *]))) rfl ⟨V6,N6,C6,D6,?_,?_,?_⟩
   ·rw[HE6.out.1,HE6.out.2.1,HE6.out.2.2.1,HE6.out.2.2.2.1,HE6.out.2.2.2.2]
   ·have h35:=HX35.out.lt;exact(HCR6.out.kept (fun b h1 h2=>(touchC g3 _ _ _ _ _ _).block b h2 (by omega)) (touchC g3 _ _ _ _ _ _).size).rebase HBW.out.size
   ·have hg3:=HG3.out;have h5:w.heap.size≤g3:=by omega
    exact((((((HBW.out.trans (HQ6.out.mono HBW.out.size)).setCell (p:=⟨g3,_,none⟩) h5 _).setCell (p:=⟨g3,_,none⟩) h5 _).setCell (p:=⟨g3,_,none⟩) h5 _).setCell (p:=⟨g3,_,none⟩) h5 _).setCell (p:=⟨g3,_,none⟩) h5 _)
theorem CyO.toR {w:World} {lo:Nat} {a b p s:Value} (h:CyO w lo a b p s z64 z6 z3 z4):∃V N C D,CyR w lo cy0 V N C D∧V 0=a∧V 1=b∧V 2=p∧V 3=s∧V 4=vnil:=by
 have nil:∀(e sz:Nat),OwnR w lo e sz vnil 0 []:=fun e sz=>⟨by simp,.inl ⟨rfl,rfl⟩⟩
 have an:∀v:Value,Apart v vnil:=fun v k _ h2=>by simp[vnil,Value.ownBlock]at h2
 have na:∀v:Value,Apart vnil v:=fun v k h2=>by simp[vnil,Value.ownBlock]at h2
 refine ⟨fun κ => if κ = 0 then a else if κ = 1 then b else if κ = 2 then p else if κ = 3 then s else vnil, fun κ => if κ = 0 then 64 else if κ = 1 then 6 else if κ = 2 then 3 else if κ = 3 then 4 else 0,
  fun κ=>if κ=0 then z64.flatMap rowI else if κ=1 then z6.flatMap rowI else if κ=2 then z3.flatMap rowP else if κ=3 then z4.flatMap rowS else[],fun _=>[],⟨⟨fun κ hκ=>?_,fun κ μ hκ hμ hne=>?_⟩,?_,rfl,fun κ hκ x hx=>by cases hx⟩,rfl,rfl,rfl,rfl,rfl⟩
 ·rcases κ with _|_|_|_|κ
  ·exact h.oa
  ·exact h.ob
  ·exact h.op
  ·exact h.os
  ·exact nil _ _
 ·rcases κ with _|_|_|_|κ <;> rcases μ with _|_|_|_|μ <;> first|exact absurd rfl hne|exact an _|exact na _|exact h.dab|exact h.dab.symm|exact h.dap|exact h.dap.symm|exact h.das|exact h.das.symm|exact h.dbp|exact h.dbp.symm|exact h.dbs|exact h.dbs.symm|exact h.dps|exact h.dps.symm
 ·have q:∀i:Nat,((5+i=0)=False∧(5+i=1)=False∧(5+i=2)=False∧(5+i=3)=False)∧((8+i=0)=False∧(8+i=1)=False∧(8+i=2)=False∧(8+i=3)=False)∧((11+i=0)=False∧(11+i=1)=False∧(11+i=2)=False∧(11+i=3)=False)∧((15+i=0)=False∧(15+i=1)=False∧(15+i=2)=False∧(15+i=3)=False):=fun i=>by
   refine⟨⟨?_,?_,?_,?_⟩,⟨?_,?_,?_,?_⟩,⟨?_,?_,?_,?_⟩,⟨?_,?_,?_,?_⟩⟩ <;> exact eq_false (by omega)
  refine⟨rfl,rfl,rfl,rfl,rfl,rfl,rfl,rfl,rfl,rfl,rfl,fun i hi=>?_,fun i hi=>?_,fun i hi=>?_,fun i hi=>?_,fun i hi=>?_,fun i hi=>?_,fun i hi=>?_,fun i hi=>?_,fun i hi=>rfl,rfl,rfl⟩ <;> simp[q i,cy0]
theorem i64_z64:∀x∈z64,I64 x:=by intro x hx;obtain⟨_,rfl⟩:=List.mem_replicate.1 hx;exact⟨by omega,by omega⟩
theorem i64_z6:∀x∈z6,I64 x:=by intro x hx;obtain⟨_,rfl⟩:=List.mem_replicate.1 hx;exact⟨by omega,by omega⟩
theorem small_zero:SmallC cy0:=⟨by simp[cy0],by simp[cy0],⟨by simp[cy0],by simp[cy0]⟩,fun i _=>by simp[cy0],fun i _=>by simp[cy0],fun s _=>by simp[cy0],fun s _=>⟨by simp[cy0],by simp[cy0]⟩⟩
theorem CyO.toV {w:World} {lo:Nat} {a b p s:Value} (h:CyO w lo a b p s z64 z6 z3 z4):∃P Q,CyV w w.heap.size a b p s vnil cy0 P Q:=by
 obtain⟨V,N,C,D,hr,rfl,rfl,rfl,rfl,e4⟩:=h.toR;rw[←e4];exact cyV_raw hr.raw hr.con (fun κ hκ x hx=>(hr.dat κ hκ x hx).to fun b hb=>hb.2.1) small_zero i64_z64 i64_z6
theorem CopP.sl {st:Cy} {w:World} {e:Ending} {w':World} (h:CopP st w e w'):∃V N C D b0 b1 b2 b3 b4 n0 n1 n2 n3 n4 k0 k1 k2 k3 k4,(V 0=.slice b0 n0 k0∧V 1=.slice b1 n1 k1∧V 2=.slice b2 n2 k2∧V 3=.slice b3 n3 k3∧V 4=.slice b4 n4 k4)∧e=.returned (.agg #[.slice b0 n0 k0,.slice b1 n1 k1,.slice b2 n2 k2,.slice b3 n3 k3,.slice b4 n4 k4])∧CyR w' w.heap.size st V N C D∧Below w.heap.size w w':=by
 obtain⟨V,N,C,D,rfl,hr,hbl⟩:=h;obtain⟨A,n,K,e0,e1,e2,e3,e4⟩:=hr.raw.sl;exact⟨V,N,C,D,_,_,_,_,_,_,_,_,_,_,_,_,_,_,_,⟨e0,e1,e2,e3,e4⟩,by rw[e0,e1,e2,e3,e4],hr,hbl⟩
theorem CopP.out {st : Cy} {w wa : World} {V : Nat → Value} {N : Nat → Nat} {C : Nat → List Value} {D : Nat → List TJV} {b0 b1 b2 b3 b4 : Option Addr} {n0 n1 n2 n3 n4 k0 k1 k2 k3 k4 base : Nat} (hE : V 0 = .slice b0 n0 k0 ∧ V 1 = .slice b1 n1 k1 ∧ V 2 = .slice b2 n2 k2 ∧ V 3 = .slice b3 n3 k3 ∧ V 4 = .slice b4 n4 k4) (hr : CyR wa base st V N C D) (hw : Below w.heap.size w wa) (g : Nat) (hg : g < base) (hg2 : w.heap.size ≤ g) :
  CopP st w (.returned (.agg #[.slice b0 n0 k0,.slice b1 n1 k1,.slice b2 n2 k2,.slice b3 n3 k3,.slice b4 n4 k4])) (((((wa.setCell ⟨g,0,none⟩ (.slice b0 n0 k0)).setCell ⟨g,1,none⟩ (.slice b1 n1 k1)).setCell ⟨g,2,none⟩ (.slice b2 n2 k2)).setCell ⟨g,3,none⟩ (.slice b3 n3 k3)).setCell ⟨g,4,none⟩ (.slice b4 n4 k4)):=by
 obtain⟨e0,e1,e2,e3,e4⟩:=hE;refine⟨V,N,C,D,by rw[e0,e1,e2,e3,e4],(hr.kept (fun b h1 h2=>(touchC g _ _ _ _ _ _).block b h2 (by omega)) (touchC g _ _ _ _ _ _).size).rebase (by omega),?_⟩;exact((((hw.setCell (p:=⟨g,_,none⟩) hg2 _).setCell (p:=⟨g,_,none⟩) hg2 _).setCell (p:=⟨g,_,none⟩) hg2 _).setCell (p:=⟨g,_,none⟩) hg2 _).setCell (p:=⟨g,_,none⟩) hg2 _
set_option maxRecDepth 8000 in
theorem cycNew_any (w:World):Calls Tryz.prog 10 #[] w (CopP cy0 w):=by
 go_enter Tryz.func10,Tryz.ntmps10
 go_wp2_with fail
 refine(implAtmNewW_any _).mono ?_;rintro e w1 ⟨wa,wc,g,ga,go,gc,rfl,o1,o2,_,_,hap,hb⟩;have HR:=hid ((Bx.new w #[vnil,vnil,vnil,vnil,vnil] 39 (by simp)).below hb (by simp));have HB1:=hid ((bx1 w _).trans (hb.mono (by simp)));have O1:=hid o1;have O2:=hid o2;have AP:=hid hap;clear o1 o2 hap hb;obtain⟨⟨r0,r1,r2,r3,r4⟩,f0,f1,f2,f3,f4⟩:=HR.out.five;have hz1:=HR.out.lt
 go_wp2_with fail
 clear r0 r1 r2 r3 r4 f0 f1 f2 f3 f4;obtain⟨W2,hW2⟩:∃W2,W2=w1.alloc (.cells #[.slice (some ⟨g,wa,none⟩) 64 wc,.slice (some ⟨ga,go,none⟩) 6 gc,.slice none 0 0,.slice none 0 0,.slice none 0 0] 39):=⟨_,rfl⟩
 rw[←hW2];have hb2:Below w1.heap.size w1 W2:=by rw[hW2];exact bx1 _ _
 have hz2:W2.heap.size=w1.heap.size+1:=by rw[hW2];simp
 have HS:=hid (show Bx W2 w1.heap.size [.slice (some ⟨g,wa,none⟩) 64 wc,.slice (some ⟨ga,go,none⟩) 6 gc,vnil,vnil,vnil] by rw[hW2];exact Bx.new w1 #[.slice (some ⟨g,wa,none⟩) 64 wc,.slice (some ⟨ga,go,none⟩) 6 gc,vnil,vnil,vnil] _ (by simp));have HR2:=hid (HR.out.below hb2 hz1);have HB2:=hid hb2;have HZ2:=hid hz2;clear hW2 hb2 HR hz2
 go_loopw [4] (fun i wr=>∃(k:Nat) (u:Value),i=.int .i64 k∧k≤3∧Owns wr (w1.heap.size+1) 48 4 rowP u (List.replicate k ((0,3):Int×Int))∧Below w1.heap.size W2 wr∧Bx wr w.heap.size [vnil,vnil,vnil,vnil,vnil]∧Bx wr w1.heap.size [.slice (some ⟨g,wa,none⟩) 64 wc,.slice (some ⟨ga,go,none⟩) 6 gc,u,vnil,vnil]∧w1.heap.size+1≤wr.heap.size) (fun i _=>3 - (intOf i).toNat)
 case atStart=>exact⟨0,_,rfl,by omega,Owns.zero,Below.refl _ _,HR2.out,HS.out,by have:=HZ2.out;omega⟩
 case round=>
  clear HS HR2;obtain⟨k,u,rfl,hk3,hown,hbl,hr,hs,hsz⟩:=hrel;have HOW:=hid hown;have HBL:=hid hbl;have HR:=hid hr;have HS:=hid hs;have HSZ:=hid hsz;clear hown hbl hr hs hsz;have hrep:=hid (show List.replicate k ((0,3):Int×Int)++[(0,3)]=List.replicate (k+1) (0,3) from by rw[List.replicate_succ']);have hlr:=hid (show(List.replicate k ((0,3):Int×Int)).length=k from by simp);obtain⟨⟨s0,s1,s2,s3,s4⟩,e0,e1,e2,e3,e4⟩:=HS.out.five;have hsl:=HS.out.lt;by_cases hlt:k<3
  ·go_wp2_with (at_builtin;go_must (refine wpList_push elem_portY rowP rowP_len rowP_one wr rfl _ _ rfl (w1.heap.size+1) _ _ (0,3) (by rfl) HOW.out _ (by rfl) (by rfl) (by rw[hlr.out];omega) (by rw[hlr.out];omega) HSZ.out ?_);intro v' w3 hown1 hb1;rw[hrep.out]at hown1;obtain⟨va,vc,hv', hvc1,hvc2⟩:=hown1.shape;rw[List.length_replicate]at hv';subst hv';have HS3:=hid (HS.out.below hb1 (by omega));have HR3:=hid (HR.out.below hb1 (by omega));obtain⟨⟨s0,s1,s2,s3,s4⟩,e0,e1,e2,e3,e4⟩:=HS3.out.five;have hsl3:=HS3.out.lt;have HO1:=hid hown1;have HB1':=hid hb1;clear hown1 hb1)
   go_roundw
   case rel=>exact⟨k+1,_,by go_num,by omega,HO1.out.set' _ _ _ (fun j hj=>by have:=(OwnR.lt HO1.out j hj).1;omega),(HBL.out.trans (HB1'.out.mono (by omega))).setCell (by exact Nat.le_refl _) _,HR3.out.kept (Below.heap_setCell _ _ _ _ (by show w.heap.size≠w1.heap.size;omega)),HS3.out.set 2 (by simp) _,by have:=HB1'.out.size;have:=HSZ.out;simp[World.setCell];omega⟩
   case measure=>simp[intOf];omega
  ·obtain rfl:k=3:=by omega
   go_wp2_with fail
   obtain⟨wo,hwo⟩:∃W,W=wr:=⟨_,rfl⟩
   subst hwo;have hz3:w1.heap.size<wo.heap.size:=hsl;clear s0 s1 s2 s3 s4 e0 e1 e2 e3 e4;have hc3:((3:Nat):Int)=3:=rfl;simp only[hc3];clear hc3
   go_loopw [13] (fun i wx=>∃(k:Nat) (v:Value),i=.int .i64 k∧k≤4∧Owns wx wo.heap.size 94 3 rowS v (List.replicate k (2:Int))∧Owns wx (w1.heap.size+1) 48 4 rowP u (List.replicate 3 ((0,3):Int×Int))∧Below w1.heap.size W2 wx∧Bx wx w.heap.size [vnil,vnil,vnil,vnil,vnil]∧Bx wx w1.heap.size [.slice (some ⟨g,wa,none⟩) 64 wc,.slice (some ⟨ga,go,none⟩) 6 gc,u,v,vnil]∧wo.heap.size≤wx.heap.size) (fun i _=>4 - (intOf i).toNat)
   case atStart=>exact⟨0,_,rfl,by omega,Owns.zero,HOW.out,HBL.out,HR.out,HS.out,Nat.le_refl _⟩
   case round=>
    have hul:=hid (fun j hj=>(OwnR.lt HOW.out j hj).2);clear HBL HR HS;obtain⟨k,v,rfl,hk4,hown,hop,hbl,hr,hs,hsz⟩:=hrel;have HOS:=hid hown;have HOP:=hid hop;have HBL:=hid hbl;have HR:=hid hr;have HS:=hid hs;have HSZ2:=hid hsz;clear hown hop hbl hr hs hsz;have hrep:=hid (show List.replicate k (2:Int)++[2]=List.replicate (k+1) 2 from by rw[List.replicate_succ']);have hlr:=hid (show(List.replicate k (2:Int)).length=k from by simp);obtain⟨⟨s0,s1,s2,s3,s4⟩,e0,e1,e2,e3,e4⟩:=HS.out.five;have hsl:=HS.out.lt;by_cases hlt4:k<4
    ·have hle3:(k:Int)≤3:=by omega
     go_wp2_with (at_builtin;go_must (refine wpList_push elem_slaveY rowS rowS_len rowS_one _ rfl _ _ rfl wo.heap.size _ _ 2 (by rfl) HOS.out _ (by rfl) (by rfl) (by rw[hlr.out];omega) (by rw[hlr.out];omega) HSZ2.out ?_);intro v' w3 hown1 hb1;rw[hrep.out]at hown1;obtain⟨va,vc,hv', hvc1,hvc2⟩:=hown1.shape;rw[List.length_replicate]at hv';subst hv';have HS3:=hid (HS.out.below hb1 (by omega));have HR3:=hid (HR.out.below hb1 (by omega));have HOP3:=hid (OwnR.below HOP.out hb1 (fun j hj=>hul.out j hj));obtain⟨⟨s0,s1,s2,s3,s4⟩,e0,e1,e2,e3,e4⟩:=HS3.out.five;have hsl3:=HS3.out.lt;have HO1:=hid hown1;have HB1':=hid hb1;clear hown1 hb1)
     go_roundw
     case rel=>exact⟨k+1,_,by go_num,by omega,HO1.out.set' _ _ _ (fun j hj=>by have:=(OwnR.lt HO1.out j hj).1;omega),Owns.set' HOP3.out _ _ _ (fun j hj=>by have:=(OwnR.lt HOP3.out j hj).1;omega),(HBL.out.trans (HB1'.out.mono (by omega))).setCell (by exact Nat.le_refl _) _,HR3.out.kept (Below.heap_setCell _ _ _ _ (by show w.heap.size≠w1.heap.size;omega)),HS3.out.set 3 (by simp) _,by have:=HB1'.out.size;have:=HSZ2.out;simp[World.setCell];omega⟩
     case measure=>simp[intOf];omega
    ·obtain rfl:k=4:=by omega
     obtain⟨pa,pc,rfl,_,_⟩:=HOP.out.shape;obtain⟨sa,sc,rfl,_,_⟩:=HOS.out.shape;simp only[List.length_replicate]at *;have O1W:=hid (OwnR.below (O1.out.below HB2.out) HBL.out (fun j hj=>(OwnR.lt O1.out j hj).2));have O2W:=hid (OwnR.below (O2.out.below HB2.out) HBL.out (fun j hj=>(OwnR.lt O2.out j hj).2));have hg1:∀j,(Value.slice (some ⟨g,wa,none⟩) 64 wc).ownBlock=some j→w.heap.size+1≤j∧j<w1.heap.size:=fun j hj=>by have:=OwnR.lt O1.out j hj;simpa using this
     have hg2:∀j,(Value.slice (some ⟨ga,go,none⟩) 6 gc).ownBlock=some j→w.heap.size+1≤j∧j<w1.heap.size:=fun j hj=>by have:=OwnR.lt O2.out j hj;simpa using this
     have hg3:∀j,(Value.slice pa 3 pc).ownBlock=some j→w1.heap.size+1≤j∧j<wo.heap.size:=fun j hj=>⟨(OwnR.lt HOP.out j hj).1,hul.out j hj⟩
     have hg4:∀j,(Value.slice sa 4 sc).ownBlock=some j→wo.heap.size≤j:=fun j hj=>(OwnR.lt HOS.out j hj).1
     have HCY := hid (show CyO _ w.heap.size (.slice (some ⟨g, wa, none⟩) 64 wc) (.slice (some ⟨ga, go, none⟩) 6 gc) (.slice pa 3 pc) (.slice sa 4 sc) z64 z6 z3 z4 from
      ⟨OwnR.rebase O1W.out (show w.heap.size ≤ _ by simp), OwnR.rebase O2W.out (show w.heap.size ≤ _ by simp), OwnR.rebase HOP.out (show w.heap.size ≤ w1.heap.size + 1 by omega), OwnR.rebase HOS.out (show w.heap.size ≤ wo.heap.size by omega),
       AP.out,Apart.of_lt (m:=w1.heap.size) (fun j hj=>(hg1 j hj).2) (fun j hj=>by have:=hg3 j hj;omega),Apart.of_lt (m:=w1.heap.size) (fun j hj=>(hg1 j hj).2) (fun j hj=>by have:=hg4 j hj;omega),
       Apart.of_lt (m:=w1.heap.size) (fun j hj=>(hg2 j hj).2) (fun j hj=>by have:=hg3 j hj;omega),Apart.of_lt (m:=w1.heap.size) (fun j hj=>(hg2 j hj).2) (fun j hj=>by have:=hg4 j hj;omega),Apart.of_lt (m:=wo.heap.size) (fun j hj=>(hg3 j hj).2) (fun j hj=>hg4 j hj)⟩)
     clear hg1 hg2 hg3 hg4;obtain⟨⟨s0,s1,s2,s3,s4⟩,_⟩:=HS.out.five
     go_wp2_with fail
     clear s0 s1 s2 s3 s4;obtain⟨PP,QQ,hvv⟩:=HCY.out.toV;refine(cycCopyV_any hvv (Nat.le_refl _) small_zero).mono ?_;rintro e w5 hcop;obtain⟨V,N,C,D,y0,y1,y2,y3,y4,m0,m1,m2,m3,m4,j0,j1,j2,j3,j4,hE,rfl,hC,hb5⟩:=hcop.sl;have HC5:=hid hC;have HB5:=hid hb5;have HE:=hid hE;clear hC hb5 hcop hE hvv;have HR5:=hid (HR.out.below HB5.out HR.out.lt);obtain⟨⟨r0,r1,r2,r3,r4⟩,f0,f1,f2,f3,f4⟩:=HR5.out.five;have hrl:=HR.out.lt;have hr5:=HR5.out.lt;have hbE:Below w.heap.size w w5:=((HB1.out.trans (HB2.out.mono (by omega))).trans (HBL.out.mono (by omega))).trans (HB5.out.mono (by omega));have HBE:=hid hbE;clear hbE
     go_wp2_with fail
     refine bodyPost_ret (zB0 Tryz.results10 _ _ ⟨w.heap.size,0,none⟩ (.agg #[.slice y0 m0 j0,.slice y1 m1 j1,.slice y2 m2 j2,.slice y3 m3 j3,.slice y4 m4 j4]) rfl (zM4 _ _ _ _ _ _ _ (by simp[go_sem, *]) (by simp[go_sem, *]) (by simp[go_sem, *]) (by simp[go_sem, *]) (by simp[go_sem, *]))) rfl ?_;exact CopP.out HE.out HC5.out HBE.out w.heap.size (by omega) (Nat.le_refl _)
theorem CopP.view {c:Cfg} (hb:Bus c) {st:Cy} (hg:Good c st) {w:World} {e:Ending} {w':World} (h:CopP st w e w'):∃b0 b1 b2 b3 b4 n0 n1 n2 n3 n4 k0 k1 k2 k3 k4 P Q,e=.returned (.agg #[.slice b0 n0 k0,.slice b1 n1 k1,.slice b2 n2 k2,.slice b3 n3 k3,.slice b4 n4 k4])∧CyV w' w'.heap.size (.slice b0 n0 k0) (.slice b1 n1 k1) (.slice b2 n2 k2) (.slice b3 n3 k3) (.slice b4 n4 k4) st P Q∧Below w.heap.size w w':=by
 obtain⟨V,N,C,D,rfl,hr,hbl⟩:=h;obtain⟨P,Q,hv⟩:=hr.toV hb hg;obtain⟨b0,b1,b2,b3,b4,n0,n1,n2,n3,n4,k0,k1,k2,k3,k4,e0,e1,e2,e3,e4⟩:=hv.sl;rw[e0,e1,e2,e3,e4]at hv;exact⟨b0,b1,b2,b3,b4,n0,n1,n2,n3,n4,k0,k1,k2,k3,k4,P,Q,by rw[e0,e1,e2,e3,e4],hv,hbl⟩
theorem rqFit_ok {q:Rq} (h:reqOk q=true):RqFit q:=by
 unfold reqOk adrOk inB at h;simp only[Bool.and_eq_true,decide_eq_true_eq,Bool.or_eq_true,beq_iff_eq]at h;obtain⟨⟨⟨⟨⟨i0,i1⟩,k0,k1⟩,⟨⟨a0,a1⟩,m⟩,_⟩,_⟩,rest⟩:=h;have hm:1≤q.many∧q.many≤4:=by omega
 have hw:∀y:Int,zB1 y=true→I64 y:=fun y hy=>by
  unfold zB1 inB at hy;simp only[Bool.and_eq_true,decide_eq_true_eq]at hy;unfold I64;omega
 split at rest
 ·simp only[Bool.and_eq_true,beq_iff_eq,List.all_eq_true,decide_eq_true_eq]at rest;obtain⟨⟨⟨d,l⟩,dw⟩,lw⟩:=rest;refine⟨⟨by omega,by omega⟩,fun y hy=>hw y (dw y hy),fun y hy=>?_,?_,?_,?_,?_⟩
  ·have:=lw y hy;unfold I64;omega
  all_goals unfold I64;omega
 ·simp only[Bool.and_eq_true,beq_iff_eq]at rest;refine⟨⟨by omega,by omega⟩,fun y hy=>?_,fun y hy=>?_,?_,?_,?_,?_⟩
  ·have:=List.length_pos_of_mem hy;omega
  ·have:=List.length_pos_of_mem hy;omega
  all_goals unfold I64;omega
theorem BusI.toV {w:World} {B:Nat} {v:Value} {c:Cfg} (h:BusI w B v c.ms (c.lat.map fun(n:Nat)=>(n:Int)) c.progs):BusV w B v c:=by
 obtain⟨mv,lv,pv,rfl,h1,h2,h3⟩:=h;obtain⟨ma,mc,rfl,_⟩:=h1.opened;obtain⟨ao,cap,rfl,_⟩:=h3.opened;obtain⟨hl,_⟩:=h2;rw[List.map_map]at hl;have hl2:Arr w B 1 lv (c.lat.map rowN):=hl;obtain⟨la,lc,rfl⟩:∃la lc,lv=.slice la c.lat.length lc:=by
  obtain⟨la,lc,e,_⟩:=hl2;exact⟨la,lc,by rw[e,List.length_map]⟩
 obtain⟨vs,k1,k2,k3⟩:=h3;refine⟨_,_,_,_,_,_,fun i=>vs.getD i undef,rfl,h1,hl2,?_,fun i hi=>?_⟩
 ·have e:(List.range c.progs.length).map (fun i=>[vs.getD i undef])=vs.map fun u=>u.cells.toList:=by
   apply List.ext_getElem
   ·simp[k2]
   ·intro i h1 h2;have hi:i<c.progs.length:=by simpa using h1
    have hv:i<vs.length:=by omega
    obtain⟨a,k,e,_⟩:=(k3 i hi []).opened;have e2:vs.getD i undef=vs[i]:=by simp[List.getD,hv]
    rw[e2]at e;simp only[List.getElem_map,List.getElem_range,e2];rw[e];rfl
  rw[e];exact k1
 ·have:=k3 i hi [];exact this
def aloneC (c:Cfg) (who:Nat):Cfg:=⟨c.ms,c.lat,zC7 c.progs who 3⟩
theorem zJ4 {c:Cfg} (hb:Bus c) (who:Nat) {i:Nat} (hi:i<3):(aloneC c who).prog i=if i=who then c.prog who else[]:=by
 have h:=aloneK_get (pss:=c.progs) (who:=(who:Int)) (k:=3) (j:=i) (by rw[hb.progs];exact hi);show(zC7 c.progs who 3).getD i []=_;rw[h];by_cases e:i=who
 ·subst e;rw[if_pos rfl,if_neg (by simp)];rfl
 ·rw[if_neg e,if_pos ⟨hi,by omega⟩]
theorem aloneC_mem {c:Cfg} (hb:Bus c) (who:Nat):∀p∈(aloneC c who).progs,p=[]∨p∈c.progs:=by
 intro p hp;obtain⟨j,hj,rfl⟩:=List.mem_map.1 (show p∈(List.range c.progs.length).map fun(j:Nat)=>if j<3∧(j:Int)≠(who:Int) then[] else c.progs.getD j [] from hp)
 split
 ·exact .inl rfl
 ·exact .inr (zB8 (List.mem_range.1 hj))
theorem Bus.alone {c:Cfg} (hb:Bus c) (who:Nat):Bus (aloneC c who):=by
 refine⟨hb.ms,hb.lat,hb.lat3,(zB3 _ _ _).trans hb.progs,fun p hp=>?_,fun p hp r hr=>?_⟩
 ·rcases aloneC_mem hb who p hp with rfl|h
  ·simp
  ·exact hb.most p h
 ·rcases aloneC_mem hb who p hp with rfl|h
  ·simp at hr
  ·exact hb.reqs p h r hr
def AloneP (c:Cfg) (who:Nat) (w:World) (e:Ending) (w':World):Prop:=∃ma mk lb lo lc pb us L,e=.returned (.agg #[.slice ma c.ms.length mk,.slice (some ⟨lb,lo,none⟩) 4 lc,.slice (some ⟨pb,0,none⟩) 3 3])∧Maps w' w'.heap.size (.slice ma c.ms.length mk) c.ms∧(∀k,(Value.slice ma c.ms.length mk).ownBlock=some k→k≠pb∧w.heap.size≤k)∧Ints w' w'.heap.size (.slice (some ⟨lb,lo,none⟩) 4 lc) (c.lat.map fun(n:Nat)=>(n:Int))∧lb≠pb∧w.heap.size≤lb∧PsO w' w.heap.size pb 3 us (zC7 c.progs who 3) L∧Below w.heap.size w w'
theorem AloneP.bus {c : Cfg} (hb : Bus c) {who : Nat} {w' : World} {lo0 : Nat} {ma : Option Addr} {mk lb lo lc pb : Nat} {us : List Value} {L : Nat → Nat} (h1 : Maps w' w'.heap.size (.slice ma c.ms.length mk) c.ms) (h2 : Ints w' w'.heap.size (.slice (some ⟨lb, lo, none⟩) 4 lc) (c.lat.map fun (n : Nat) => (n : Int))) (h3 : PsO w' lo0 pb 3 us (zC7 c.progs who 3) L) :
  BusV w' w'.heap.size (.agg #[.slice ma c.ms.length mk,.slice (some ⟨lb,lo,none⟩) 4 lc,.slice (some ⟨pb,0,none⟩) 3 3]) (aloneC c who):=by
 refine BusI.toV ⟨_,_,_,rfl,h1,h2,?_⟩;refine h3.progs ((zB3 _ _ _).trans hb.progs) (by omega) fun p hp=>?_
 have hB:=hb.alone who;exact⟨by have:=hB.most p hp;omega,fun q hq=>rqFit_ok (hB.reqs p hp q hq)⟩
theorem zN2 {c:Cfg} (hb:Bus c) {w:World} {B:Nat} {v:Value} (h:BusV w B v c) (hB:B≤w.heap.size) {who:Nat} (hw:who<3):Calls Tryz.prog 18 #[v,.int .i64 who] w (AloneP c who w):=by
 have hms:∀r∈c.ms,MR64 r:=by
  obtain⟨_,_,_,_,_,_,_,_,h1,_⟩:=h;exact h1.2
 have hml:c.ms.length≤1048576:=by
  have:=hb.ms;unfold mapOk at this;simp at this;omega
 have hI:=h.int hb;refine(implBusAlone_any v c.ms (c.lat.map fun(n:Nat)=>(n:Int)) c.progs who B w hI hB hml (by rw[List.length_map,hb.lat];omega) (by rw[hb.progs];omega) (fun p hp=>⟨by have:=hb.most p hp;omega,fun q hq=>(rqFit_ok (hb.reqs p hp q hq)).1⟩)).mono ?_;rintro e w' (⟨_,a,b,pb,us,L,rfl,ha,hbb,hps,_,hbl⟩|⟨hno,_⟩)
 ·rw[hb.progs]at hps ⊢;have ap1:=ha.apartT hps.outer (by decide);have ap2:=hbb.apartT hps.outer (by decide);have hma:=ha.maps hml hms;obtain⟨ma,mk,rfl,_⟩:=hma.opened
  have hin : Ints w' w'.heap.size b (c.lat.map fun (n : Nat) => (n : Int)) := ⟨hbb.arr (fun _ => rfl) (by rw [List.length_map, hb.lat]; omega), fun x hx => by
   obtain⟨n,hn,rfl⟩:=List.mem_map.1 hx;have:=hb.lat3 n hn
   constructor <;> omega⟩
  obtain⟨la,lc,rfl,_,_,_,_,hc⟩:=hin.opened;rw[List.length_map,hb.lat]at hc;obtain⟨lb,lo,rfl,_,_⟩:=hc (by omega);rw[List.length_map,hb.lat]at hin ap2 ⊢;exact⟨ma,mk,lb,lo,lc,pb,us,L,rfl,hma,fun k hk=>⟨fun e=>ap1 k hk (by rw[e];rfl),(OwnR.lt ha k hk).1⟩,hin,fun e=>ap2 lb rfl (by rw[e];rfl),(OwnR.lt hbb lb rfl).1,hps,hbl⟩
 ·rw[busOk_yes hb]at hno
  exfalso
  have:inB (who:Int) 0 2=true:=by unfold inB;simp;omega
  rw[this]at hno;simp at hno
def oneC (c:Cfg) (who:Nat):Cfg:=⟨c.ms,c.lat,(zC7 c.progs who 3).set who ((c.prog who).take 1)⟩
theorem oneC_prog {c:Cfg} (hb:Bus c) {who:Nat} (hw:who<3) {i:Nat} (hi:i<3):(oneC c who).prog i=if i=who then(c.prog who).take 1 else[]:=by
 have hl:(zC7 c.progs who 3).length=3:=(zB3 _ _ _).trans hb.progs;show((zC7 c.progs who 3).set who ((c.prog who).take 1)).getD i []=_;by_cases e:i=who
 ·subst e;rw[if_pos rfl,zF2 (by omega)]
 ·rw[if_neg e,zD0 e];have:=zJ4 hb who hi;rw[if_neg e]at this;exact this
theorem oneC_mem {c:Cfg} (hb:Bus c) {who:Nat} (hw:who<3):∀p∈(oneC c who).progs,p.length≤12∧∀r∈p,reqOk r=true:=by
 intro p hp;have hl:(oneC c who).progs.length=3:=(List.length_set ..).trans ((zB3 _ _ _).trans hb.progs);obtain⟨i,hi,rfl⟩:=List.mem_iff_getElem.1 hp;have e:(oneC c who).progs[i]=(oneC c who).prog i:=by unfold Cfg.prog;simp[List.getD,hi]
 rw[e,oneC_prog hb hw (by omega)]
 split
 ·refine⟨by rw[List.length_take];omega,fun r hr=>hb.reqs _ (hb.prog hw) r (List.mem_of_mem_take hr)⟩
 ·exact⟨by simp,fun r hr=>by simp at hr⟩
theorem Bus.one {c:Cfg} (hb:Bus c) {who:Nat} (hw:who<3):Bus (oneC c who) :=
 ⟨hb.ms,hb.lat,hb.lat3,(List.length_set ..).trans ((zB3 _ _ _).trans hb.progs),fun p hp=>(oneC_mem hb hw p hp).1,fun p hp=>(oneC_mem hb hw p hp).2⟩
def PlayP (w:World) (e:Ending) (w':World):Prop:=∃u v c ins,e=.returned (.tuple #[u,v])∧Bus c∧BusV w' w'.heap.size u c∧Ins w' w'.heap.size v ins∧ins.length≤89∧Below w.heap.size w w'
def DrawPl:Prop:=∀(v:Value) (bs:List Nat) (B:Nat) (w:World),Bytes w B v bs→B≤w.heap.size→Calls Tryz.prog 9 #[v] w (PlayP w)
def CyBox (w:World) (gs:Nat) (st:Cy):Prop:=∃(V:Nat→Value) (N:Nat→Nat) (C:Nat→List Value) (D:Nat→List TJV),Bx w gs [V 0,V 1,V 2,V 3,V 4]∧Raw w 0 V N C∧Cont st [] V N C D∧Free V gs∧∀κ,κ<20→∀x∈D κ,IntsD w (fun b=>b<w.heap.size∧b≠gs) x.2 x.1.rsp.data
theorem CyBox.below {w w':World} {gs:Nat} {st:Cy} (h:CyBox w gs st) (hb:Below w.heap.size w w'):CyBox w' gs st:=by
 obtain⟨V,N,C,D,h1,h2,h3,h4,h5⟩:=h;exact⟨V,N,C,D,h1.below hb h1.lt,h2.below hb,h3,h4,fun κ hκ x hx=>((h5 κ hκ x hx).kept fun b hb2=>hb.block b hb2.1).weak fun b hb2=>⟨Nat.lt_of_lt_of_le hb2.1 hb.size,hb2.2⟩⟩
theorem CyBox.lt {w:World} {gs:Nat} {st:Cy} (h:CyBox w gs st):gs<w.heap.size:=by obtain⟨V,N,C,D,h1,_⟩:=h;exact h1.lt
theorem raw_zero {w:World} {base:Nat} {V:Nat→Value} {N:Nat→Nat} {C:Nat→List Value} (h:Raw w base V N C):Raw w 0 V N C:=⟨fun κ hκ=>OwnR.rebase (h.own κ hκ) (Nat.zero_le _),h.ap⟩
theorem CyBox.new {w w':World} {base gs:Nat} {st:Cy} {V:Nat→Value} {N:Nat→Nat} {C:Nat→List Value} {D:Nat→List TJV} (h:CyR w base st V N C D) (hb:Below w.heap.size w w') (hg:w.heap.size≤gs) (hx:Bx w' gs [V 0,V 1,V 2,V 3,V 4]):CyBox w' gs st :=
 ⟨V,N,C,D,hx,raw_zero (h.raw.below hb),h.con,fun κ hκ e=>by have:=(h.raw.lt hκ e).2;omega,fun κ hκ x hx2=>((h.dat κ hκ x hx2).kept fun b hb2=>hb.block b hb2.2.1).weak fun b hb2=>⟨Nat.lt_of_lt_of_le hb2.2.1 hb.size,by have:=hb2.2.1;omega⟩⟩
theorem CyBox.set {w w':World} {base gs:Nat} {st:Cy} {V:Nat→Value} {N:Nat→Nat} {C:Nat→List Value} {D:Nat→List TJV} (h:CyR w base st V N C D) (hk:∀b,b≠gs→w'.heap[b]? = w.heap[b]?) (hz:w'.heap.size=w.heap.size) (hg:gs<base) (hx:Bx w' gs [V 0,V 1,V 2,V 3,V 4]):CyBox w' gs st:=by
 have hf:Free V gs:=fun κ hκ e=>by have:=(h.raw.lt hκ e).1;omega
 exact⟨V,N,C,D,hx,raw_zero (h.raw.kept fun b _ hb=>hk b fun e=>hb (e▸hf)),h.con,hf,fun κ hκ x hx2=>((h.dat κ hκ x hx2).kept fun b hb2=>hk b (by have:=hb2.1;omega)).weak fun b hb2=>⟨by rw[hz];exact hb2.2.1,by have:=hb2.1;omega⟩⟩
theorem CyBox.view {c:Cfg} (hb:Bus c) {w:World} {gs:Nat} {st:Cy} (h:CyBox w gs st) (hg:Good c st):∃b0 b1 b2 b3 b4 n0 n1 n2 n3 n4 k0 k1 k2 k3 k4 P Q,Bx w gs [.slice b0 n0 k0,.slice b1 n1 k1,.slice b2 n2 k2,.slice b3 n3 k3,.slice b4 n4 k4]∧CyV w w.heap.size (.slice b0 n0 k0) (.slice b1 n1 k1) (.slice b2 n2 k2) (.slice b3 n3 k3) (.slice b4 n4 k4) st P Q:=by
 obtain⟨V,N,C,D,h1,h2,h3,h4,h5⟩:=h;obtain⟨P,Q,hv⟩:=cyV_raw h2 h3 (fun κ hκ x hx=>(h5 κ hκ x hx).to fun b hb=>hb.1) (zL3 hb hg) (atm_i64 hg.atm).1 (atm_i64 hg.atm).2;obtain⟨b0,b1,b2,b3,b4,n0,n1,n2,n3,n4,k0,k1,k2,k3,k4,e0,e1,e2,e3,e4⟩:=hv.sl;rw[e0,e1,e2,e3,e4]at hv h1;exact⟨b0,b1,b2,b3,b4,n0,n1,n2,n3,n4,k0,k1,k2,k3,k4,P,Q,h1,hv⟩
theorem Bx.put5 {w:World} {g:Nat} {a b c d e:Value} (h:Bx w g [a,b,c,d,e]) (a' b' c' d' e':Value):Bx (((((w.setCell ⟨g,0,none⟩ a').setCell ⟨g,1,none⟩ b').setCell ⟨g,2,none⟩ c').setCell ⟨g,3,none⟩ d').setCell ⟨g,4,none⟩ e') g [a', b', c', d', e']:=by
 have:=((((h.set 0 (by simp) a').set 1 (by simp) b').set 2 (by simp) c').set 3 (by simp) d').set 4 (by simp) e';simpa using this
theorem put5_other {w:World} {g:Nat} {a' b' c' d' e':Value} (b:Nat) (hb:b≠g):(((((w.setCell ⟨g,0,none⟩ a').setCell ⟨g,1,none⟩ b').setCell ⟨g,2,none⟩ c').setCell ⟨g,3,none⟩ d').setCell ⟨g,4,none⟩ e').heap[b]? = w.heap[b]?:=by
 rw[Below.heap_setCell _ _ _ _ hb,Below.heap_setCell _ _ _ _ hb,Below.heap_setCell _ _ _ _ hb,Below.heap_setCell _ _ _ _ hb,Below.heap_setCell _ _ _ _ hb]
theorem CopP.store {st st' : Cy} {w wa : World} {e : Ending} {gs : Nat} (hs : CyBox w gs st) (h : CopP st' w e wa) : ∃ b0 b1 b2 b3 b4 n0 n1 n2 n3 n4 k0 k1 k2 k3 k4, e = .returned (.agg #[.slice b0 n0 k0, .slice b1 n1 k1, .slice b2 n2 k2, .slice b3 n3 k3, .slice b4 n4 k4]) ∧ (∃ a b c d f, Bx wa gs [a, b, c, d, f]) ∧ Below w.heap.size w wa ∧
  CyBox (((((wa.setCell ⟨gs,0,none⟩ (.slice b0 n0 k0)).setCell ⟨gs,1,none⟩ (.slice b1 n1 k1)).setCell ⟨gs,2,none⟩ (.slice b2 n2 k2)).setCell ⟨gs,3,none⟩ (.slice b3 n3 k3)).setCell ⟨gs,4,none⟩ (.slice b4 n4 k4)) gs st':=by
 obtain⟨V,N,C,D,b0,b1,b2,b3,b4,n0,n1,n2,n3,n4,k0,k1,k2,k3,k4,⟨e0,e1,e2,e3,e4⟩,he,hr,hb⟩:=h.sl;obtain⟨V0,N0,C0,D0,hx,_⟩:=hs;have hx2:=hx.below hb hx.lt;refine⟨b0,b1,b2,b3,b4,n0,n1,n2,n3,n4,k0,k1,k2,k3,k4,he,⟨_,_,_,_,_,hx2⟩,hb,CyBox.set hr put5_other (by simp) hx.lt ?_⟩;rw[e0,e1,e2,e3,e4];exact hx2.put5 _ _ _ _ _
theorem CyBox.rows {c : Cfg} (hb : Bus c) {w : World} {gs : Nat} {st : Cy} (h : CyBox w gs st) (hg : Good c st) : ∃ (b0 b1 b4 : Option Addr) (n0 n1 k0 k1 k4 pg po pc tg tp tc : Nat) (P : List PS) (Q : List SS), Bx w gs [.slice b0 n0 k0, .slice b1 n1 k1, .slice (some ⟨pg, po, none⟩) 3 pc, .slice (some ⟨tg, tp, none⟩) 4 tc, .slice b4 st.told.length k4] ∧
  CyV w w.heap.size (.slice b0 n0 k0) (.slice b1 n1 k1) (.slice (some ⟨pg,po,none⟩) 3 pc) (.slice (some ⟨tg,tp,none⟩) 4 tc) (.slice b4 st.told.length k4) st P Q ∧
  (∀k,k<3→∀j,j<4→w.cell? ⟨pg,po+k * 4+j,none⟩=(rowPS (P.getD k default))[j]?)∧(∀k,k<4→∀j,j<3→w.cell? ⟨tg,tp+k * 3+j,none⟩=(rowSS (Q.getD k default))[j]?) ∧
  (∀k,k<3→∃qa qc oa oc,P.getD k default=⟨(st.ports k).next,(qa,(st.ports k).queue.length,qc),(oa,(st.ports k).out.length,oc),(st.ports k).last⟩) ∧
  (∀k,k<4→∃qa qc oa oc,Q.getD k default=⟨(qa,(st.slaves k).pipe.length,qc),(oa,(st.slaves k).done.length,oc),(st.slaves k).last⟩):=by
 obtain⟨b0,b1,b2,b3,b4,n0,n1,n2,n3,n4,k0,k1,k2,k3,k4,P,Q,hx,hv⟩:=h.view hb hg;obtain⟨pg,po,pc,e2,_,_,_,hpc⟩:=hv.ps.at (by rw[hv.lp];omega)
 obtain⟨tg,tp,tc,e3,_,_,_,htc⟩:=hv.ss.at (by rw[hv.lq];omega)
 rw[hv.lp]at e2 hpc;rw[hv.lq]at e3 htc;have e4:=hv.told.len;rw[e2,e3,e4]at hx hv;refine⟨b0,b1,b4,n0,n1,k0,k1,k4,pg,po,pc,tg,tp,tc,P,Q,hx,hv,fun k hk j hj=>hpc k default hk j hj,fun k hk j hj=>htc k default hk j hj,fun k hk=>?_,fun k hk=>?_⟩
 ·have h1:=hv.pn k hk;have h2:=hv.q k hk;have h3:=hv.o k hk;obtain⟨x,hx⟩:∃x,x=P.getD k default:=⟨_,rfl⟩
  rw[←hx]at h1 h2 h3 ⊢;obtain⟨nx,⟨qa,qn,qc⟩,⟨oa,on,oc⟩,la⟩:=x;simp only[sl]at h1 h2 h3;rw[←h1.1,←h1.2,←h2.len,←h3.len];exact⟨_,_,_,_,rfl⟩
 ·have h1:=hv.sn k hk;have h2:=hv.p k hk;have h3:=hv.d k hk;obtain⟨x,hx⟩:∃x,x=Q.getD k default:=⟨_,rfl⟩
  rw[←hx]at h1 h2 h3 ⊢;obtain⟨⟨qa,qn,qc⟩,⟨oa,on,oc⟩,la⟩:=x;simp only[sl]at h1 h2 h3;rw[←h1,←h2.len,←h3.len];exact⟨_,_,_,_,rfl⟩
end Go.Proofs.YtgkdoehkmbhfiaaGreat
