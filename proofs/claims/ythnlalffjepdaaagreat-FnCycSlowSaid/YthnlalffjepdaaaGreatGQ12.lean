/- The cycle engine: what holds of a bus that was only let run: Good; each part of a cycle keeps it. -/
import Derived.Test.YthnlalffjepdaaaGreatGQb5
import Derived.Test.YthnlalffjepdaaaGreatGLib
import Derived.Test.YthnlalffjepdaaaGreatGWrd
import Derived.Test.YthnlalffjepdaaaGreatGDr2
import Derived.Test.YthnlalffjepdaaaGreatGDo4
set_option linter.unusedVariables false
set_option linter.unusedSimpArgs false
set_option maxHeartbeats 16000000
namespace Go.Proofs.YthnlalffjepdaaaGreat
open Go.RowKit
def BusAloneP (ms:List MR) (lat:List Int) (pss:List (List Rq)) (who:Int) (w:World) (e:Ending) (w':World):Prop :=
 ((busOk ms lat pss=true∧inB who 0 2=true)∧∃a b pb us L,e=.returned (.agg #[a,b,.slice (some ⟨pb,0,none⟩) pss.length pss.length])∧Owns w' w.heap.size 158 4 rowM a ms∧Owns w' w.heap.size 3 1 rowI b lat∧PsO w' w.heap.size pb pss.length us (zD1 pss who pss.length) L∧((∀k,a.ownBlock=some k→k<L 0)∧∀k,b.ownBlock=some k→k<L 0)∧Below w.heap.size w w') ∨
 ((busOk ms lat pss&&inB who 0 2)=false∧e=.returned (.agg #[vnil,vnil,vnil])∧Below w.heap.size w w')
set_option maxRecDepth 8000 in
theorem implBusAlone_any (v : Value) (ms : List MR) (lat : List Int) (pss : List (List Rq)) (who : Int) (B : Nat) (w : World) (h : BusI w B v ms lat pss) (hB : B ≤ w.heap.size) (hl1 : ms.length ≤ 1048576) (hl2 : lat.length ≤ 1048576) (hl3 : pss.length ≤ 1048576) (hl4 : ∀ p ∈ pss, p.length ≤ 1048576 ∧ ∀ q ∈ p, Rq20 q) :
  Calls Tryz.prog 34 #[v,.int .i64 who] w (BusAloneP ms lat pss who w):=by
 have HI:=hid h;have HB:=hid hB;have HL1:=hid hl1;have HL2:=hid hl2;have HL3:=hid hl3;have HL4:=hid hl4;obtain⟨mv,lv,pv,rfl,hm,hl,hp⟩:=h;obtain⟨ma,mc,rfl,_⟩:=hm.opened;obtain⟨la,lc,rfl,_⟩:=hl.opened;obtain⟨pa,pc,rfl,_⟩:=hp.opened;clear hm hl hp hB hl1 hl2 hl3 hl4;obtain⟨W2,hW2⟩:∃W2,W2=(w.alloc (.cells #[.slice ma ms.length mc,.slice la lat.length lc,.slice pa pss.length pc] 27)).alloc (.cells #[.slice none 0 0,.slice none 0 0,.slice none 0 0] 27):=⟨_,rfl⟩
 have HB2:=hid (show Below w.heap.size w W2 by rw[hW2];exact(bx1 _ _).alloc (by simp) _);have HS:=hid (show Bx W2 w.heap.size [.slice ma ms.length mc,.slice la lat.length lc,.slice pa pss.length pc] by rw[hW2];exact(Bx.new w #[.slice ma ms.length mc,.slice la lat.length lc,.slice pa pss.length pc] _ (by simp)).below (bx1 _ _) (by simp));have HR:=hid (show Bx W2 (w.heap.size+1) [vnil,vnil,vnil] by rw[hW2];have:=Bx.new (w.alloc (.cells #[.slice ma ms.length mc,.slice la lat.length lc,.slice pa pss.length pc] 27)) #[vnil,vnil,vnil] 27 (by simp);simpa using this);have HZ:=hid (show W2.heap.size=w.heap.size+2 by rw[hW2];simp);have HW2:=hid hW2;rcases hbo:busOk ms lat pss with _|_
 ·have HO:=hid hbo;clear hbo hW2
  go_enter Tryz.func34,Tryz.ntmps34
  go_wp2_with (first
   |(go_at_call 25;rw[show(w.alloc _).alloc _=W2 from HW2.out.symm];refine(zI0 _ ms lat pss B W2 (HI.out.below (HB2.out.mono HB.out)) (Nat.le_trans HB.out HB2.out.size)).mono ?_;rw[HO.out];rintro e w1 ⟨rfl,hb⟩;have HR1:=hid (HR.out.below hb HR.out.lt);have HBE:=hid (HB2.out.trans (hb.mono HB2.out.size));obtain⟨⟨q0,q1,q2⟩,f0,f1,f2⟩:=HR1.out.three;have hrl:=HR1.out.lt;clear hb))
  refine bodyPost_ret (zA4 Tryz.results34 _ _ ⟨w.heap.size+1,0,none⟩ (.agg #[vnil,vnil,vnil]) rfl (zG2 _ _ _ _ _ (by simp[go_sem, *]) (by simp[go_sem, *]) (by simp[go_sem, *]))) rfl (.inr ⟨by rw[HO.out];rfl,rfl,?_⟩);exact((HBE.out.setCell (by exact Nat.le_succ _) _).setCell (by exact Nat.le_succ _) _).setCell (by exact Nat.le_succ _) _
 ·have HO:=hid hbo;clear hbo hW2;rcases hib:inB who 0 2 with _|_
  ·have HI2:=hid hib;clear hib
   go_enter Tryz.func34,Tryz.ntmps34
   go_wp2_with (first
    |(go_at_call 25;rw[show(w.alloc _).alloc _=W2 from HW2.out.symm];refine(zI0 _ ms lat pss B W2 (HI.out.below (HB2.out.mono HB.out)) (Nat.le_trans HB.out HB2.out.size)).mono ?_;rw[HO.out];rintro e w1 ⟨rfl,hb⟩;have HS1:=hid (HS.out.below hb HS.out.lt);have HR1:=hid (HR.out.below hb HR.out.lt);have HBE:=hid (HB2.out.trans (hb.mono HB2.out.size));obtain⟨⟨s0,s1,s2⟩,_⟩:=HS1.out.three;obtain⟨⟨q0,q1,q2⟩,f0,f1,f2⟩:=HR1.out.three;have hrl:=HR1.out.lt;clear hb)
    |(go_at_call 83;refine(zH0 _ _).mono ?_;rw[HI2.out];rintro e w' ⟨rfl,hw⟩;subst hw))
   refine bodyPost_ret (zA4 Tryz.results34 _ _ ⟨w.heap.size+1,0,none⟩ (.agg #[vnil,vnil,vnil]) rfl (zG2 _ _ _ _ _ (by simp[go_sem, *]) (by simp[go_sem, *]) (by simp[go_sem, *]))) rfl (.inr ⟨by rw[HO.out,HI2.out];rfl,rfl,?_⟩);exact((HBE.out.setCell (by exact Nat.le_succ _) _).setCell (by exact Nat.le_succ _) _).setCell (by exact Nat.le_succ _) _
  ·have HI2:=hid hib;clear hib
   go_enter Tryz.func34,Tryz.ntmps34
   go_wp2_with (first
    |(go_at_call 25;rw[show(w.alloc _).alloc _=W2 from HW2.out.symm];refine(zI0 _ ms lat pss B W2 (HI.out.below (HB2.out.mono HB.out)) (Nat.le_trans HB.out HB2.out.size)).mono ?_;rw[HO.out];rintro e w1 ⟨rfl,hb⟩;have HS1:=hid (HS.out.below hb HS.out.lt);have HR1:=hid (HR.out.below hb HR.out.lt);have HBE:=hid (HB2.out.trans (hb.mono HB2.out.size));obtain⟨⟨s0,s1,s2⟩,_⟩:=HS1.out.three;obtain⟨⟨q0,q1,q2⟩,f0,f1,f2⟩:=HR1.out.three;have hrl:=HR1.out.lt;clear hb)
    |(go_at_call 83;refine(zH0 _ _).mono ?_;rw[HI2.out];rintro e w' ⟨rfl,hw⟩;subst hw)
    |(go_at_call 84;go_must (refine(busCopy_any _ ms lat pss B _ (HI.out.below (HBE.out.mono HB.out)) (Nat.le_trans HB.out HBE.out.size) HL1.out HL2.out HL3.out HL4.out).mono ?_);rintro e w3 ⟨a,b,pb,us,L,rfl,oa,ob,hps,hl0,hb⟩;have HOA:=hid oa;have HOB:=hid ob;have HPS:=hid hps;have HBF:=hid (HBE.out.trans (hb.mono HBE.out.size));have HR3:=hid (HR1.out.below hb HR1.out.lt);obtain⟨ya,yb,rfl,_,_⟩:=oa.shape;obtain⟨za,zb,rfl,_,_⟩:=ob.shape;have HL0:=hid hl0;clear oa ob hps hl0 hb s0 s1 s2 q0 q1 q2 f0 f1 f2))
   obtain⟨W4,hW4⟩:∃W4,W4=w3.alloc (.cells #[.slice ya ms.length yb,.slice za lat.length zb,.slice (some ⟨pb,0,none⟩) pss.length pss.length] 27):=⟨_,rfl⟩
   rw[←hW4];have HB4:=hid (show Below w3.heap.size w3 W4 by rw[hW4];exact bx1 _ _);have HX4:=hid (show BoxB W4 w3.heap.size (.slice ya ms.length yb) (.slice za lat.length zb) (.slice (some ⟨pb,0,none⟩) pss.length pss.length) by rw[hW4];exact BoxB.new _ _ _ _);clear hW4;have HA4:=hid (HOA.out.below HB4.out);have HO4:=hid (HOB.out.below HB4.out);have HP4:=hid (HPS.out.below HB4.out);have HBG:=hid (HBF.out.trans (HB4.out.mono HBF.out.size));have HR4:=hid (HR3.out.below HB4.out HR3.out.lt);have hz1:=HR1.out.lt;have hpb3:=HPS.out.pb;have HPB:=hid hpb3;have HZ1:=hid hz1;clear HOA HOB HPS hpb3 hz1
   go_loopw [21] (fun i wr=>∃(k:Nat) (us:List Value),i=.int .i64 k∧k≤pss.length∧BoxB wr w3.heap.size (.slice ya ms.length yb) (.slice za lat.length zb) (.slice (some ⟨pb,0,none⟩) pss.length pss.length)∧Owns wr w1.heap.size 158 4 rowM (.slice ya ms.length yb) ms∧Owns wr w1.heap.size 3 1 rowI (.slice za lat.length zb) lat∧PsO wr w1.heap.size pb pss.length us (zD1 pss who k) L∧Below w.heap.size w wr∧Bx wr (w.heap.size+1) [vnil,vnil,vnil]) (fun i _=>pss.length - (intOf i).toNat)
   case atStart=>exact⟨0,us,rfl,by omega,HX4.out,HA4.out,HO4.out,by rw[aloneK_zero];exact HP4.out,HBG.out,HR4.out⟩
   case round=>
    clear HX4 HA4 HO4 HP4 HBG HR4;obtain⟨k,us,rfl,hk,hx,ha,ho,hp,hb,hr⟩:=hrel;have HX:=hid hx;have HA:=hid ha;have HO2:=hid ho;have HP:=hid hp;have HBE2:=hid hb;have HR5:=hid hr;clear hx ha ho hp hb hr;have hn3:=HL3.out;by_cases hlt:k<pss.length
    ·by_cases hw:(k:Int)=who
     ·have hne:((k:Int) != who)=false:=by simp[hw]
      have HK:=hid (aloneK_keep (pss:=pss) hw);clear hw
      go_wp2_with fail
      go_roundw
      case rel=>exact⟨k+1,us,by go_num,by omega,HX.out,HA.out,HO2.out,by rw[HK.out];exact HP.out,HBE2.out,HR5.out⟩
      case measure=>simp[intOf];omega
     ·have hne:((k:Int) != who)=true:=by simp[hw]
      have HN:=hid (HP.out.setNil hlt hw);clear hw;obtain⟨⟨s0,s1,s2⟩,_⟩:=HX.out.bx.three;have q:=HP.out.outer.cellAt zE3 k 0 vnil (by rw[HP.out.len];exact hlt) (by omega);have q2:=HP.out.outer.frozenAt k;simp only[Nat.zero_add,Nat.mul_one,Nat.add_zero,row1,List.getElem?_cons_zero]at q;have hpl:=HP.out.pb.2
      go_wp2_with fail
      go_roundw
      case rel=>exact⟨k+1,_,by go_num,by omega,HX.out.touch (Touch.setCell ..) (by have:=HPB.out.2;omega),HA.out.tchB (Touch.setCell ..) (fun e=>Owns.apartT HA.out HP.out.outer (by decide) pb e rfl),HO2.out.tchB (Touch.setCell ..) (fun e=>Owns.apartT HO2.out HP.out.outer (by decide) pb e rfl),HN.out,HBE2.out.setCell (by show w.heap.size≤pb;have:=HPB.out.1;have:=HZ1.out;omega) _,HR5.out.kept (Below.heap_setCell _ _ _ _ (by show w.heap.size+1≠pb;have:=HPB.out.1;have:=HZ1.out;omega))⟩
      case measure=>simp[intOf];omega
    ·obtain rfl:k=pss.length:=by omega
     obtain⟨⟨r0,r1,r2⟩,_⟩:=HX.out.bx.three;obtain⟨⟨q0,q1,q2⟩,f0,f1,f2⟩:=HR5.out.three;have hrl:=HR5.out.lt;have hbl:=HX.out.lt
     go_wp2_with fail
     refine bodyPost_ret (zA4 Tryz.results34 _ _ ⟨w.heap.size+1,0,none⟩ (.agg #[.slice ya ms.length yb,.slice za lat.length zb,.slice (some ⟨pb,0,none⟩) pss.length pss.length]) rfl (zG2 _ _ _ _ _ (by simp[go_sem, *]) (by simp[go_sem, *]) (by simp[go_sem, *]))) rfl (.inl ⟨⟨HO.out,HI2.out⟩,_,_,_,us,L,rfl,?_,?_,?_,HL0.out,?_⟩)
     ·have hz:=HZ1.out;exact OwnR.rebase (OwnR.kept HA.out (fun k hk=>(touchB (w.heap.size+1) _ _ _ _).block k (OwnR.lt HA.out k hk).2 (by have:=(OwnR.lt HA.out k hk).1;omega))) (show w.heap.size≤w1.heap.size by omega)
     ·have hz:=HZ1.out;exact OwnR.rebase (OwnR.kept HO2.out (fun k hk=>(touchB (w.heap.size+1) _ _ _ _).block k (OwnR.lt HO2.out k hk).2 (by have:=(OwnR.lt HO2.out k hk).1;omega))) (show w.heap.size≤w1.heap.size by omega)
     ·have hz:=HZ1.out;exact(HP.out.kept (fun k h1 h2=>(touchB (w.heap.size+1) _ _ _ _).block k h2 (by omega)) (touchB (w.heap.size+1) _ _ _ _).size).rebase (by omega)
     ·exact((HBE2.out.setCell (by exact Nat.le_succ _) _).setCell (by exact Nat.le_succ _) _).setCell (by exact Nat.le_succ _) _
end Go.Proofs.YthnlalffjepdaaaGreat
namespace Go.Proofs.YthnlalffjepdaaaGreat
structure Jb where
 who:Nat
 n:Nat
 left:Nat
deriving Inhabited
structure TJ where
 who:Nat
 n:Nat
 rsp:Rs
deriving Inhabited
structure Pt where
 next:Nat
 queue:List Nat
 out:List Jb
 last:Nat
deriving Inhabited
structure Sv where
 pipe:List Jb
 done:List TJ
 last:Nat
deriving Inhabited
structure Cy where
 ws:List Int
 hs:List Int
 ports:Nat→Pt
 slaves:Nat→Sv
 told:List TJ
structure Cfg where
 ms:List MR
 lat:List Nat
 progs:List (List Rq)
structure Inp where
 ready:List Bool
 stall:List Bool
 send:List Bool
structure Ev where
 kind:Nat
 who:Nat
 n:Nat
deriving Inhabited,DecidableEq
def upd {α:Type} (f:Nat→α) (i:Nat) (x:α):Nat→α:=fun j=>if j=i then x else f j
theorem zA2 {α:Type} (f:Nat→α) (i:Nat) (x:α):upd f i x i=x:=if_pos rfl
theorem zA0 {α:Type} (f:Nat→α) {i j:Nat} (x:α) (h:j≠i):upd f i x j=f j:=if_neg h
def foldN {α : Type} (f : Nat → α → α) : Nat → α → α
 |0,a=>a
 |n+1,a=>f n (foldN f n a)
theorem zF1 {α : Type} {f : Nat → α → α} {P : α → Prop} : ∀ (n : Nat) (a : α), P a → (∀ i x, i < n → P x → P (f i x)) → P (foldN f n a)
 |0,_,h,_=>h
 |n+1,a,h,hs=>hs n _ (Nat.lt_succ_self n) (zF1 n a h fun i x hi hx=>hs i x (Nat.lt_succ_of_lt hi) hx)
def firstK (m:Nat→Bool) (n:Nat):Option Nat:=((List.range n).map (·+1)).find? m
theorem firstK_hit {m:Nat→Bool} {n k:Nat} (h0:1≤k) (hk:k≤n) (hm:m k=true) (hb:∀j,1≤j→j<k→m j=false):firstK m n=some k:=by
 unfold firstK;rw[List.find?_eq_some_iff_append];refine⟨hm,(List.range (k - 1)).map (·+1),(List.range' k (n - k)).map (·+1),?_,?_⟩
 ·have e:List.range n=List.range (k - 1)++(k - 1)::List.range' k (n - k):=by
   rw[List.range_eq_range', List.range_eq_range', show n=(k - 1)+(1+(n - k)) by omega,←List.range'_append_1];simp only[Nat.zero_add];rw[show 1+(n - k)=(n - k)+1 by omega,show k - 1+(n - k+1) - k=n - k by omega];rw[List.range'_succ,show k - 1+1=k by omega]
  rw[e];simp[show k - 1+1=k by omega]
 ·intro a ha;obtain⟨b,hb2,rfl⟩:=List.mem_map.1 ha;rw[List.mem_range]at hb2;simp[hb (b+1) (by omega) (by omega)]
theorem zE1 {m:Nat→Bool} {n:Nat} (hb:∀j,1≤j→j≤n→m j=false):firstK m n=none:=by
 unfold firstK;rw[List.find?_eq_none];intro a ha;obtain⟨b,hb2,rfl⟩:=List.mem_map.1 ha;rw[List.mem_range]at hb2;simp[hb (b+1) (by omega) (by omega)]
theorem firstK_some {m:Nat→Bool} {n k:Nat} (h:firstK m n=some k):1≤k∧k≤n∧m k=true:=by
 unfold firstK at h;have h1:=List.find?_some h;have h2:=List.mem_of_find?_eq_some h;obtain⟨b,hb2,rfl⟩:=List.mem_map.1 h2;rw[List.mem_range]at hb2;exact⟨by omega,by omega,h1⟩
def Cfg.prog (c:Cfg) (who:Nat):List Rq:=c.progs.getD who []
def Cfg.req (c:Cfg) (who n:Nat):Rq:=(c.prog who).getD n default
def Cfg.id (c:Cfg) (who n:Nat):Int:=(c.req who n).id
def Cfg.slv (c:Cfg) (who n:Nat):Nat:=(zK6 c.ms (c.req who n)).toNat
def Cfg.lt (c:Cfg) (s:Nat):Nat:=c.lat.getD s 0
def tellM (st : Cy) (who k : Nat) : Bool := match (st.slaves (((st.ports who).last + k) % 4)).done with
 |[]=>false
 |j::_=>j.who==who
def zD6 (who s:Nat) (j:TJ) (rest:List TJ) (x:Cy×List Ev):Cy×List Ev :=
 ({ x.1 with told:=x.1.told++[j],slaves:=upd x.1.slaves s { x.1.slaves s with done:=rest },ports:=upd x.1.ports who { x.1.ports who with out:=(x.1.ports who).out.eraseP (fun o=>o.n==j.n),last:=s } },x.2++[⟨3,who,j.n⟩])
def tell1 (inp:Inp) (who:Nat) (x:Cy×List Ev):Cy×List Ev :=
 if inp.ready.getD who false=true then
  match firstK (tellM x.1 who) 4 with
  |none=>x
  | some k => match (x.1.slaves (((x.1.ports who).last + k) % 4)).done with
   |[]=>x
   |j::rest=>zD6 who (((x.1.ports who).last+k) % 4) j rest x
 else x
def zJ3 (c:Cfg) (s:Nat) (j:Jb) (rest:List Jb) (x:Cy×List Ev):Cy×List Ev :=
  ({ x.1 with ws := (doReq c.ms x.1.ws x.1.hs j.who (c.req j.who j.n)).1, hs := (doReq c.ms x.1.ws x.1.hs j.who (c.req j.who j.n)).2.1,
              slaves:=upd x.1.slaves s { x.1.slaves s with pipe:=rest,done:=(x.1.slaves s).done++[⟨j.who,j.n,(doReq c.ms x.1.ws x.1.hs j.who (c.req j.who j.n)).2.2⟩] } },x.2++[⟨2,j.who,j.n⟩])
def workDec (s:Nat) (j:Jb) (rest:List Jb) (st:Cy):Cy:={ st with slaves:=upd st.slaves s { st.slaves s with pipe:=⟨j.who,j.n,j.left - 1⟩::rest } }
def work1 (c:Cfg) (inp:Inp) (s:Nat) (x:Cy×List Ev):Cy×List Ev :=
 if inp.stall.getD s false=true then x
 else match (x.1.slaves s).pipe with
  |[]=>x
  |j::rest=>if 0<j.left then(workDec s j rest x.1,x.2) else if(x.1.slaves s).done.length<2 then zJ3 c s j rest x else x
def may (c : Cfg) (st : Cy) (who s : Nat) : Bool := match (st.ports who).queue with
 |[]=>false
 |n::_=>decide ((st.ports who).out.length<4)&&(c.slv who n==s)&&!(st.ports who).out.any (fun j=>c.id who j.n==c.id who n&&j.left != s)
structure Lt where
 st:Cy
 used:Nat→Bool
 lets:Nat→Nat
def letM (c:Cfg) (s:Nat) (y:Lt) (k:Nat):Bool:=!y.used (((y.st.slaves s).last+k) % 3)&&may c y.st (((y.st.slaves s).last+k) % 3) s
def letDo (c:Cfg) (s who n:Nat) (rest:List Nat) (y:Lt):Lt :=
  { st := { y.st with ports := upd y.st.ports who { y.st.ports who with queue := rest, out := (y.st.ports who).out ++ [⟨who, n, s⟩] },
                      slaves:=upd y.st.slaves s { y.st.slaves s with pipe:=(y.st.slaves s).pipe++[⟨who,n,c.lt s⟩],last:=who } },
    used:=upd y.used who true,lets:=upd y.lets s 1 }
def let1 (c:Cfg) (s:Nat) (y:Lt):Lt :=
 if(y.st.slaves s).pipe.length<2 then
  match firstK (letM c s y) 3 with
  |none=>y
  | some k => match (y.st.ports (((y.st.slaves s).last + k) % 3)).queue with
   |[]=>y
   |n::rest=>letDo c s (((y.st.slaves s).last+k) % 3) n rest y
 else y
def askDo (who:Nat) (x:Cy×List Ev):Cy×List Ev :=
 ({ x.1 with ports:=upd x.1.ports who { x.1.ports who with queue:=(x.1.ports who).queue++[(x.1.ports who).next],next:=(x.1.ports who).next+1 } },x.2++[⟨1,who,(x.1.ports who).next⟩])
def ask1 (c:Cfg) (inp:Inp) (who:Nat) (x:Cy×List Ev):Cy×List Ev :=
 if inp.send.getD who false=true∧(x.1.ports who).queue.length<2∧(x.1.ports who).next<(c.prog who).length then askDo who x else x
def zH6 (inp:Inp) (x:Cy×List Ev):Cy×List Ev:=foldN (tell1 inp) 3 x
def zI7 (c:Cfg) (inp:Inp) (x:Cy×List Ev):Cy×List Ev:=foldN (work1 c inp) 4 x
def letAll (c:Cfg) (st:Cy):Lt:=foldN (let1 c) 4 ⟨st,fun _=>false,fun _=>0⟩
def askAll (c:Cfg) (inp:Inp) (x:Cy×List Ev):Cy×List Ev:=foldN (ask1 c inp) 3 x
def step (c:Cfg) (inp:Inp) (st:Cy):Cy×List Ev :=
 askAll c inp ((letAll c (zI7 c inp (zH6 inp (st,[]))).1).st,(zI7 c inp (zH6 inp (st,[]))).2)
def lets (c:Cfg) (inp:Inp) (st:Cy):Nat→Nat:=(letAll c (zI7 c inp (zH6 inp (st,[]))).1).lets
def cyc (c:Cfg) (inp:Inp) (st:Cy):Cy:=(step c inp st).1
def evs (c:Cfg) (inp:Inp) (st:Cy):List Ev:=(step c inp st).2
def runC (c : Cfg) : List Inp → Cy → Cy
 |[],st=>st
 |i::rest,st=>runC c rest (cyc c i st)
def cy0:Cy:=⟨List.replicate 64 0,List.replicate 6 (-1),fun _=>⟨0,[],[],3⟩,fun _=>⟨[],[],2⟩,[]⟩
end Go.Proofs.YthnlalffjepdaaaGreat
namespace Go.Proofs.YthnlalffjepdaaaGreat
open Go.RowKit
def ety (κ:Nat):TypeId:=if κ<2 then 3 else if κ=2 then 52 else if κ=3 then 50 else if κ=4 then 85 else if κ<8 then 3 else if κ<15 then 75 else if κ<19 then 85 else 66
def esz (κ:Nat):Nat:=if κ<2 then 1 else if κ=2 then 4 else if κ=3 then 3 else if κ=4 then 5 else if κ<8 then 1 else if κ<15 then 3 else if κ<19 then 5 else 3
structure Raw (w:World) (base:Nat) (V:Nat→Value) (N:Nat→Nat) (C:Nat→List Value):Prop where
 own:∀κ,κ<20→OwnR w base (ety κ) (esz κ) (V κ) (N κ) (C κ)
 ap:∀κ μ,κ<20→μ<20→κ≠μ→Apart (V κ) (V μ)
def Free (V:Nat→Value) (b:Nat):Prop:=∀κ,κ<20→(V κ).ownBlock≠some b
theorem Raw.lt {w:World} {base:Nat} {V:Nat→Value} {N:Nat→Nat} {C:Nat→List Value} (h:Raw w base V N C) {κ k:Nat} (hκ:κ<20) (hk:(V κ).ownBlock=some k):base≤k∧k<w.heap.size:=OwnR.lt (h.own κ hκ) k hk
theorem Raw.kept {w w':World} {base:Nat} {V:Nat→Value} {N:Nat→Nat} {C:Nat→List Value} (h:Raw w base V N C) (hk:∀b,b<w.heap.size→¬Free V b→w'.heap[b]? = w.heap[b]?):Raw w' base V N C :=
 ⟨fun κ hκ=>(h.own κ hκ).kept fun k hk2=>hk k (h.lt hκ hk2).2 fun hf=>hf κ hκ hk2,h.ap⟩
theorem Raw.below {w w':World} {base:Nat} {V:Nat→Value} {N:Nat→Nat} {C:Nat→List Value} (h:Raw w base V N C) (hb:Below w.heap.size w w'):Raw w' base V N C:=h.kept fun b hlt _=>hb.block b hlt
theorem Raw.chg {w w' : World} {base : Nat} {V : Nat → Value} {N : Nat → Nat} {C : Nat → List Value} (h : Raw w base V N C) {κ n : Nat} {v : Value} {c : List Value} (hκ : κ < 20) (hk : ∀ b, b < w.heap.size → (V κ).ownBlock ≠ some b → w'.heap[b]? = w.heap[b]?)
  (ho:OwnR w' base (ety κ) (esz κ) v n c) (hv:∀k,v.ownBlock=some k→(V κ).ownBlock=some k∨w.heap.size≤k):Raw w' base (upd V κ v) (upd N κ n) (upd C κ c):=by
 refine⟨fun μ hμ=>?_,fun μ ν hμ hν hne=>?_⟩
 ·by_cases e:μ=κ
  ·subst e;simp only[zA2];exact ho
  ·simp only[zA0 _ _ e];exact(h.own μ hμ).kept fun k hk2=>hk k (h.lt hμ hk2).2 (fun hk3=>h.ap μ κ hμ hκ e k hk2 hk3)
 ·have key:∀{ρ:Nat},ρ<20→ρ≠κ→Apart (V ρ) v:=fun {ρ} hρ e k hk1 hk2=>by
   rcases hv k hk2 with h1|h1
   ·exact h.ap ρ κ hρ hκ e k hk1 h1
   ·have:=(h.lt hρ hk1).2;omega
  by_cases e1:μ=κ
  ·subst e1;simp only[zA2,zA0 _ _ (Ne.symm hne)];exact(key hν (Ne.symm hne)).symm
  ·by_cases e2:ν=κ
   ·subst e2;simp only[zA2,zA0 _ _ e1];exact key hμ e1
   ·simp only[zA0 _ _ e1,zA0 _ _ e2];exact h.ap μ ν hμ hν hne
theorem Free.chg {V:Nat→Value} {b κ:Nat} {v:Value} {w:World} (h:Free V b) (hb:b<w.heap.size) (hv:∀k,v.ownBlock=some k→(V κ).ownBlock=some k∨w.heap.size≤k) (hκ:κ<20):Free (upd V κ v) b:=by
 intro μ hμ e;by_cases e1:μ=κ
 ·subst e1;rw[zA2]at e;rcases hv b e with h1|h1
  ·exact h μ hμ h1
  ·omega
 ·rw[zA0 _ _ e1]at e;exact h μ hμ e
theorem OwnR.get {w:World} {base e sz g off n cap:Nat} {xs:List Value} (h:OwnR w base e sz (.slice (some ⟨g,off,none⟩) n cap) n xs) (j:Nat) (hj:j<n * sz):w.cell? ⟨g,off+j,none⟩=xs[j]?:=by
 obtain⟨hl,h2⟩:=h;rcases h2 with⟨h2,_⟩|⟨g', off', cap', cur,hv,hg,hh,hle,hmax,hsz,hc⟩
 ·cases h2
 ·simp only[Value.slice.injEq,Option.some.injEq,Addr.mk.injEq,and_true]at hv;obtain⟨⟨rfl,rfl⟩,_,rfl⟩:=hv;simp only[World.cell?,hh];rw[hc j hj];have:j<xs.length:=by rw[hl];exact hj
  simp[this]
theorem OwnR.unfrozen {w:World} {base e sz g off n cap:Nat} {xs:List Value} (h:OwnR w base e sz (.slice (some ⟨g,off,none⟩) n cap) n xs) (o:Nat):w.frozen? ⟨g,o,none⟩=false:=by
 obtain⟨hl,h2⟩:=h;rcases h2 with⟨h2,_⟩|⟨g', off', cap', cur,hv,hg,hh,_⟩
 ·cases h2
 ·simp only[Value.slice.injEq,Option.some.injEq,Addr.mk.injEq,and_true]at hv;obtain⟨⟨rfl,rfl⟩,_,rfl⟩:=hv;simp[World.frozen?,hh]
theorem OwnR.put {w:World} {base e sz g off n cap:Nat} {xs:List Value} (h:OwnR w base e sz (.slice (some ⟨g,off,none⟩) n cap) n xs) (j:Nat) (hj:j<n * sz) (u:Value):OwnR (w.setCell ⟨g,off+j,none⟩ u) base e sz (.slice (some ⟨g,off,none⟩) n cap) n (xs.set j u):=by
 obtain⟨hl,h2⟩:=h;rcases h2 with⟨h2,_⟩|⟨g', off', cap', cur,hv,hg,hh,hle,hmax,hsz,hc⟩
 ·cases h2
 ·simp only[Value.slice.injEq,Option.some.injEq,Addr.mk.injEq,and_true]at hv;obtain⟨⟨rfl,rfl⟩,_,rfl⟩:=hv;refine⟨by simpa using hl,.inr ⟨g,off,cap,cur.set! (off+j) u,rfl,hg,?_,hle,hmax,by simpa using hsz,fun i hi=>?_⟩⟩
  ·simp[World.setCell,Array.getElem?_modify,hh]
  ·have hjl:j<xs.length:=by rw[hl];exact hj
   have hjc:off+j<cur.size:=by
    have:n * sz≤cap * sz:=Nat.mul_le_mul_right _ hle;omega
   by_cases e:i=j
   ·subst e;simp[Array.set!_eq_setIfInBounds,Array.getElem?_setIfInBounds,hjc,hjl]
   ·rw[List.getElem?_set_ne (Ne.symm e),←hc i hi];simp only[Array.set!_eq_setIfInBounds,Array.getElem?_setIfInBounds];rw[if_neg (by omega)]
theorem Raw.set {w:World} {base:Nat} {V:Nat→Value} {N:Nat→Nat} {C:Nat→List Value} (h:Raw w base V N C) {κ g off cap j:Nat} (hκ:κ<20) (hV:V κ=.slice (some ⟨g,off,none⟩) (N κ) cap) (hj:j<N κ * esz κ) (u:Value):Raw (w.setCell ⟨g,off+j,none⟩ u) base V N (upd C κ ((C κ).set j u)):=by
 have ho:=h.own κ hκ;rw[hV]at ho
 have := h.chg (w' := w.setCell ⟨g, off + j, none⟩ u) (κ := κ) (n := N κ) (v := V κ) (c := (C κ).set j u) hκ (fun b _ hb => by
   rw[Below.heap_setCell _ _ _ _ (by show b≠g;intro e;subst e;exact hb (by rw[hV];rfl))]) (by rw[hV];exact ho.put j hj u) (fun k hk=>.inl hk)
 have e1:upd V κ (V κ)=V:=by funext i;by_cases e:i=κ <;> simp[upd,e]
 have e2:upd N κ (N κ)=N:=by funext i;by_cases e:i=κ <;> simp[upd,e]
 rw[e1,e2]at this;exact this
theorem OwnR.addr {w:World} {base e sz n:Nat} {v:Value} {xs:List Value} (h:OwnR w base e sz v n xs) (hn:n≠0):∃g off cap,v=.slice (some ⟨g,off,none⟩) n cap∧n≤cap∧cap≤9223372036854775807∧base≤g∧g<w.heap.size:=by
 have hlt:=h.lt;obtain⟨hl,h2⟩:=h;rcases h2 with⟨_,h2⟩|⟨g,off,cap,cur,rfl,hg,hh,hle,hmax,_⟩
 ·exact absurd h2 hn
 ·exact⟨g,off,cap,rfl,hle,by unfold maxLen at hmax;omega,hg,(hlt g rfl).2⟩
theorem OwnR.form {w:World} {base e sz n:Nat} {v:Value} {xs:List Value} (h:OwnR w base e sz v n xs):∃a cap,v=.slice a n cap∧n≤cap∧cap≤9223372036854775807:=by
 obtain⟨hl,h2⟩:=h;rcases h2 with⟨rfl,rfl⟩|⟨g,off,cap,cur,rfl,hg,hh,hle,hmax,_⟩
 ·exact⟨none,0,rfl,by omega,by omega⟩
 ·exact⟨_,cap,rfl,hle,by unfold maxLen at hmax;omega⟩
theorem OwnR.tail1 {w : World} {base e sz g off n cap : Nat} {xs : List Value} (h : OwnR w base e sz (.slice (some ⟨g, off, none⟩) n cap) n xs) (hn : n ≠ 0) :
  OwnR w base e sz (.slice (if cap=1 then some ⟨g,off,none⟩ else some ⟨g,off+sz,none⟩) (n - 1) (cap - 1)) (n - 1) (xs.drop sz):=by
 obtain⟨hl,h2⟩:=h;rcases h2 with⟨h2,_⟩|⟨g', off', cap', cur,hv,hg,hh,hle,hmax,hsz,hc⟩
 ·cases h2
 ·simp only[Value.slice.injEq,Option.some.injEq,Addr.mk.injEq,and_true]at hv;obtain⟨⟨rfl,rfl⟩,_,rfl⟩:=hv;have hm:(n - 1) * sz+sz=n * sz:=by rw[←Nat.succ_mul];congr 1;omega
  have hm2:(cap - 1) * sz+sz=cap * sz:=by rw[←Nat.succ_mul];congr 1;omega
  refine⟨by rw[List.length_drop,hl];omega,.inr ?_⟩;by_cases e1:cap=1
  ·rw[if_pos e1]
   exact ⟨g, off, cap - 1, cur, rfl, hg, hh, by omega, by omega, by omega, fun j hj => by
    have:n - 1=0:=by omega
    rw[this]at hj;omega⟩
  ·rw[if_neg e1];refine⟨g,off+sz,cap - 1,cur,rfl,hg,hh,by omega,by omega,by omega,fun j hj=>?_⟩;rw[show off+sz+j=off+(sz+j) by omega,hc (sz+j) (by omega),List.getElem?_drop]
def rowN (n:Nat):List Value:=[.int .i64 n]
def jbRow (j:Jb):List Value:=[.int .i64 j.who,.int .i64 j.n,.int .i64 j.left]
abbrev TJV:=TJ×Value
def tjRow (x:TJV):List Value:=[.int .i64 x.1.who,.int .i64 x.1.n,.int .i64 x.1.rsp.id,.int .i64 x.1.rsp.code,x.2]
def evRow (e:Ev):List Value:=[.int .i64 e.kind,.int .i64 e.who,.int .i64 e.n]
def ptRow (V:Nat→Value) (p:Pt) (i:Nat):List Value:=[.int .i64 p.next,V (5+i),V (8+i),.int .i64 p.last]
def svRow (V:Nat→Value) (v:Sv) (s:Nat):List Value:=[V (11+s),V (15+s),.int .i64 v.last]
structure Cont (st:Cy) (ev:List Ev) (V:Nat→Value) (N:Nat→Nat) (C:Nat→List Value) (D:Nat→List TJV):Prop where
 n0:N 0=st.ws.length
 c0:C 0=st.ws.flatMap rowI
 n1:N 1=st.hs.length
 c1:C 1=st.hs.flatMap rowI
 n2:N 2=3
 c2:C 2=ptRow V (st.ports 0) 0++ptRow V (st.ports 1) 1++ptRow V (st.ports 2) 2
 n3:N 3=4
 c3:C 3=svRow V (st.slaves 0) 0++svRow V (st.slaves 1) 1++svRow V (st.slaves 2) 2++svRow V (st.slaves 3) 3
 n4:N 4=st.told.length
 c4:C 4=(D 4).flatMap tjRow
 t4:(D 4).map (·.1)=st.told
 nq:∀i,i<3→N (5+i)=(st.ports i).queue.length
 cq:∀i,i<3→C (5+i)=(st.ports i).queue.flatMap rowN
 no:∀i,i<3→N (8+i)=(st.ports i).out.length
 co:∀i,i<3→C (8+i)=(st.ports i).out.flatMap jbRow
 np:∀s,s<4→N (11+s)=(st.slaves s).pipe.length
 cp:∀s,s<4→C (11+s)=(st.slaves s).pipe.flatMap jbRow
 nd:∀s,s<4→N (15+s)=(st.slaves s).done.length
 cd:∀s,s<4→C (15+s)=(D (15+s)).flatMap tjRow
 td:∀s,s<4→(D (15+s)).map (·.1)=(st.slaves s).done
 ne:N 19=ev.length
 ce:C 19=ev.flatMap evRow
def DFree (V:Nat→Value) (S Hb:Nat) (w:World) (b:Nat):Prop:=b<w.heap.size∧Free V b∧b≠S∧b≠Hb
def Clr (L:Nat→Value) (v:Value):Prop:=∀i,4≤i→∀b,(L i).ownBlock=some b→v.ownBlock≠some b
def DatP (L:Nat→Value) (w:World) (P:Nat→Prop) (x:TJV):Prop:=IntsD w P x.2 x.1.rsp.data∧(x.1.rsp.data≠[]→Clr L x.2)
theorem DatP.kept {L:Nat→Value} {w w':World} {P:Nat→Prop} {x:TJV} (h:DatP L w P x) (hk:Keeps P w w'):DatP L w' P x:=⟨h.1.kept hk,h.2⟩
theorem DatP.weak {L:Nat→Value} {w:World} {P Q:Nat→Prop} {x:TJV} (h:DatP L w P x) (hs:∀b,P b→Q b):DatP L w Q x:=⟨h.1.weak hs,h.2⟩
theorem DatP.put {L:Nat→Value} {w:World} {P:Nat→Prop} {x:TJV} (h:DatP L w P x) {s:Nat} (hs:s<4) (u:Value):DatP (upd L s u) w P x:=⟨h.1,fun hn i hi b hb=>h.2 hn i hi b (by rwa [zA0 _ _ (by omega)]at hb)⟩
structure CyM (w:World) (base S Hb:Nat) (L:Nat→Value) (st:Cy) (ev:List Ev) (V:Nat→Value) (N:Nat→Nat) (C:Nat→List Value) (D:Nat→List TJV):Prop where
 raw:Raw w base V N C
 con:Cont st ev V N C D
 bs:w.heap[S]? = some (.cells #[V 0,V 1,V 2,V 3,V 4] 46 (0,0))
 bh:w.heap[Hb]? = some (.cells #[V 19,L 0,L 1,L 2,L 3] 116 (0,0))
 fs:Free V S
 fh:Free V Hb
 ne:S≠Hb
 s0:base≤S
 h0:base≤Hb
 lx:∀i,4≤i→∀b,(L i).ownBlock=some b→b<w.heap.size
 dat:∀κ,κ<20→∀x∈D κ,DatP L w (DFree V S Hb w) x
theorem zA3 {w:World} {b:Nat} {o:Obj} (h:w.heap[b]? = some o):b<w.heap.size:=(Array.getElem?_eq_some_iff.1 h).1
theorem CyM.below {w w':World} {base S Hb:Nat} {L:Nat→Value} {st:Cy} {ev:List Ev} {V:Nat→Value} {N:Nat→Nat} {C:Nat→List Value} {D:Nat→List TJV} (h:CyM w base S Hb L st ev V N C D) (hb:Below w.heap.size w w'):CyM w' base S Hb L st ev V N C D :=
 ⟨h.raw.below hb,h.con,(hb.block S (zA3 h.bs)).trans h.bs,(hb.block Hb (zA3 h.bh)).trans h.bh,h.fs,h.fh,h.ne,h.s0,h.h0,fun i hi b hb2=>Nat.lt_of_lt_of_le (h.lx i hi b hb2) hb.size,fun κ hκ x hx=>((h.dat κ hκ x hx).kept fun b hb2=>hb.block b hb2.1).weak fun b hb2=>⟨Nat.lt_of_lt_of_le hb2.1 hb.size,hb2.2⟩⟩
theorem CyM.put {w w1 : World} {base S Hb : Nat} {L : Nat → Value} {st st' : Cy} {ev : List Ev} {V : Nat → Value} {N : Nat → Nat} {C : Nat → List Value} {D D' : Nat → List TJV} (h : CyM w base S Hb L st ev V N C D)
  {κ μ g off cap j n:Nat} {v:Value} {c:List Value} (hκ:5≤κ∧κ<19) (hμ:μ=2∨μ=3) (hV:V μ=.slice (some ⟨g,off,none⟩) (N μ) cap) (hj:j<N μ * esz μ)
  (hk:∀b,b<w.heap.size→(V κ).ownBlock≠some b→w1.heap[b]? = w.heap[b]?) (hsz:w.heap.size≤w1.heap.size) (ho:OwnR w1 base (ety κ) (esz κ) v n c) (hv:∀k,v.ownBlock=some k→(V κ).ownBlock=some k∨w.heap.size≤k)
  (hD:∀i,i≠κ→D' i=D i) (hd:∀x∈D' κ,DatP L w1 (DFree (upd V κ v) S Hb w1) x)
  (hc:Cont st' ev (upd V κ v) (upd N κ n) (upd (upd C κ c) μ ((C μ).set j v)) D') :
  CyM (w1.setCell ⟨g,off+j,none⟩ v) base S Hb L st' ev (upd V κ v) (upd N κ n) (upd (upd C κ c) μ ((C μ).set j v)) D':=by
 have hκ2:κ<20:=by omega
 have hμ2:μ<20:=by omega
 have hne:μ≠κ:=by omega
 have hgo:(V μ).ownBlock=some g:=by rw[hV];rfl
 have r1:=h.raw.chg hκ2 hk ho hv;have r2:=r1.set (κ:=μ) (g:=g) (off:=off) (cap:=cap) (j:=j) hμ2 (by rw[zA0 _ _ hne,zA0 _ _ hne];exact hV) (by rw[zA0 _ _ hne];exact hj) v;rw[zA0 C _ hne]at r2;have hgS:S≠g:=fun e=>h.fs μ hμ2 (by rw[hgo,e])
 have hgH:Hb≠g:=fun e=>h.fh μ hμ2 (by rw[hgo,e])
 have hset:∀b,b≠g→(w1.setCell ⟨g,off+j,none⟩ v).heap[b]? = w1.heap[b]?:=fun b hb=>Below.heap_setCell _ _ _ _ hb
 have hz:(w1.setCell ⟨g,off+j,none⟩ v).heap.size=w1.heap.size:=by simp
 have hS:=zA3 h.bs;have hH:=zA3 h.bh;have eV:∀i,i≠κ→upd V κ v i=V i:=fun i hi=>zA0 _ _ hi
 refine⟨r2,hc,?_,?_,h.fs.chg (w:=w) hS hv hκ2,h.fh.chg (w:=w) hH hv hκ2,h.ne,h.s0,h.h0,fun i hi b hb=>by rw[hz];exact Nat.lt_of_lt_of_le (h.lx i hi b hb) hsz,fun ν hν x hx=>?_⟩
 ·rw[hset S hgS,hk S hS (h.fs κ hκ2),h.bs,eV 0 (by omega),eV 1 (by omega),eV 2 (by omega),eV 3 (by omega),eV 4 (by omega)]
 ·rw[hset Hb hgH,hk Hb hH (h.fh κ hκ2),h.bh,eV 19 (by omega)]
 ·have hgn:∀b,DFree (upd V κ v) S Hb w1 b→b≠g:=fun b hb e=>hb.2.1 μ hμ2 (by rw[eV μ hne,hgo,e])
  have step:∀{x:TJV},DatP L w1 (DFree (upd V κ v) S Hb w1) x→DatP L (w1.setCell ⟨g,off+j,none⟩ v) (DFree (upd V κ v) S Hb (w1.setCell ⟨g,off+j,none⟩ v)) x:=fun hi=>
   (hi.kept fun b hb=>hset b (hgn b hb)).weak fun b hb=>⟨by rw[hz];exact hb.1,hb.2⟩
  by_cases e:ν=κ
  ·subst e;exact step (hd x hx)
  ·rw[hD ν e]at hx;exact step (((h.dat ν hν x hx).kept fun b hb=>hk b hb.1 (hb.2.1 κ hκ2)).weak fun b hb=>⟨Nat.lt_of_lt_of_le hb.1 hsz,hb.2.1.chg (w:=w) hb.1 hv hκ2,hb.2.2⟩)
theorem CyM.old {w w1 : World} {base S Hb : Nat} {L : Nat → Value} {st : Cy} {ev : List Ev} {V : Nat → Value} {N : Nat → Nat} {C : Nat → List Value} {D : Nat → List TJV} (h : CyM w base S Hb L st ev V N C D) {κ ν : Nat} {v : Value} {x : TJV} (hκ : κ < 20) (hν : ν < 20)
  (hk:∀b,b<w.heap.size→(V κ).ownBlock≠some b→w1.heap[b]? = w.heap[b]?) (hsz:w.heap.size≤w1.heap.size) (hv:∀k,v.ownBlock=some k→(V κ).ownBlock=some k∨w.heap.size≤k) (hx:x∈D ν):DatP L w1 (DFree (upd V κ v) S Hb w1) x :=
 ((h.dat ν hν x hx).kept fun b hb=>hk b hb.1 (hb.2.1 κ hκ)).weak fun b hb=>⟨Nat.lt_of_lt_of_le hb.1 hsz,hb.2.1.chg (w:=w) hb.1 hv hκ,hb.2.2⟩
theorem CyM.cell {w : World} {base S Hb : Nat} {L : Nat → Value} {st st' : Cy} {ev : List Ev} {V : Nat → Value} {N : Nat → Nat} {C : Nat → List Value} {D : Nat → List TJV} (h : CyM w base S Hb L st ev V N C D)
  {κ g off cap j:Nat} {u:Value} (hκ:κ<20) (hV:V κ=.slice (some ⟨g,off,none⟩) (N κ) cap) (hj:j<N κ * esz κ) (hc:Cont st' ev V N (upd C κ ((C κ).set j u)) D) :
  CyM (w.setCell ⟨g,off+j,none⟩ u) base S Hb L st' ev V N (upd C κ ((C κ).set j u)) D:=by
 have hgo:(V κ).ownBlock=some g:=by rw[hV];rfl
 have hset:∀b,b≠g→(w.setCell ⟨g,off+j,none⟩ u).heap[b]? = w.heap[b]?:=fun b hb=>Below.heap_setCell _ _ _ _ hb
 have hgS:S≠g:=fun e=>h.fs κ hκ (by rw[hgo,e])
 have hgH:Hb≠g:=fun e=>h.fh κ hκ (by rw[hgo,e])
 refine⟨h.raw.set hκ hV hj u,hc,(hset S hgS).trans h.bs,(hset Hb hgH).trans h.bh,h.fs,h.fh,h.ne,h.s0,h.h0,fun i hi b hb=>by simpa using h.lx i hi b hb,fun ν hν x hx=>?_⟩;exact((h.dat ν hν x hx).kept fun b hb=>hset b (fun e=>hb.2.1 κ hκ (by rw[hgo,e]))).weak fun b hb=>⟨by simpa using hb.1,hb.2⟩
theorem CyM.toldPut {w w1 : World} {base S Hb : Nat} {L : Nat → Value} {st st' : Cy} {ev : List Ev} {V : Nat → Value} {N : Nat → Nat} {C : Nat → List Value} {D D' : Nat → List TJV} (h : CyM w base S Hb L st ev V N C D)
  {n:Nat} {v:Value} {c:List Value} (hk:∀b,b<w.heap.size→(V 4).ownBlock≠some b→w1.heap[b]? = w.heap[b]?) (hsz:w.heap.size≤w1.heap.size) (ho:OwnR w1 base (ety 4) (esz 4) v n c) (hv:∀k,v.ownBlock=some k→(V 4).ownBlock=some k∨w.heap.size≤k)
  (hD:∀i,i≠4→D' i=D i) (hd:∀x∈D' 4,DatP L w1 (DFree (upd V 4 v) S Hb w1) x)
  (hc:Cont st' ev (upd V 4 v) (upd N 4 n) (upd C 4 c) D') :
  CyM (w1.setCell ⟨S,4,none⟩ v) base S Hb L st' ev (upd V 4 v) (upd N 4 n) (upd C 4 c) D':=by
 have r1:=h.raw.chg (κ:=4) (by omega) hk ho hv;have hset:∀b,b≠S→(w1.setCell ⟨S,4,none⟩ v).heap[b]? = w1.heap[b]?:=fun b hb=>Below.heap_setCell _ _ _ _ hb
 have hS:=zA3 h.bs;have hH:=zA3 h.bh;have f1:=h.fs.chg (w:=w) hS hv (κ:=4) (by omega);have f2:=h.fh.chg (w:=w) hH hv (κ:=4) (by omega);have eV:∀i,i≠4→upd V 4 v i=V i:=fun i hi=>zA0 _ _ hi
 refine⟨r1.kept fun b _ hb=>hset b (fun e=>hb (by rw[e];exact f1)),hc,?_,?_,f1,f2,h.ne,h.s0,h.h0,fun i hi b hb=>by simpa using Nat.lt_of_lt_of_le (h.lx i hi b hb) hsz,fun ν hν x hx=>?_⟩
 ·have hb1:=(hk S hS (h.fs 4 (by omega))).trans h.bs;rw[eV 0 (by omega),eV 1 (by omega),eV 2 (by omega),eV 3 (by omega),zA2];simp[World.setCell,Array.getElem?_modify,hb1]
 ·rw[hset Hb (Ne.symm h.ne),hk Hb hH (h.fh 4 (by omega)),h.bh,eV 19 (by omega)]
 ·have step:∀{x:TJV},DatP L w1 (DFree (upd V 4 v) S Hb w1) x→DatP L (w1.setCell ⟨S,4,none⟩ v) (DFree (upd V 4 v) S Hb (w1.setCell ⟨S,4,none⟩ v)) x:=fun hi=>
   (hi.kept fun b hb=>hset b hb.2.2.1).weak fun b hb=>⟨by simpa using hb.1,hb.2⟩
  by_cases e:ν=4
  ·subst e;exact step (hd x hx)
  ·rw[hD ν e]at hx;exact step (h.old (by omega) hν hk hsz hv hx)
theorem CyM.evPut {w w1 : World} {base S Hb : Nat} {L : Nat → Value} {st : Cy} {ev ev' : List Ev} {V : Nat → Value} {N : Nat → Nat} {C : Nat → List Value} {D : Nat → List TJV} (h : CyM w base S Hb L st ev V N C D)
  {n:Nat} {v:Value} {c:List Value} (hk:∀b,b<w.heap.size→(V 19).ownBlock≠some b→w1.heap[b]? = w.heap[b]?) (hsz:w.heap.size≤w1.heap.size) (ho:OwnR w1 base (ety 19) (esz 19) v n c) (hv:∀k,v.ownBlock=some k→(V 19).ownBlock=some k∨w.heap.size≤k)
  (hc:Cont st ev' (upd V 19 v) (upd N 19 n) (upd C 19 c) D) :
  CyM (w1.setCell ⟨Hb,0,none⟩ v) base S Hb L st ev' (upd V 19 v) (upd N 19 n) (upd C 19 c) D:=by
 have r1:=h.raw.chg (κ:=19) (by omega) hk ho hv;have hset:∀b,b≠Hb→(w1.setCell ⟨Hb,0,none⟩ v).heap[b]? = w1.heap[b]?:=fun b hb=>Below.heap_setCell _ _ _ _ hb
 have hS:=zA3 h.bs;have hH:=zA3 h.bh;have f1:=h.fs.chg (w:=w) hS hv (κ:=19) (by omega);have f2:=h.fh.chg (w:=w) hH hv (κ:=19) (by omega);have eV:∀i,i≠19→upd V 19 v i=V i:=fun i hi=>zA0 _ _ hi
 refine⟨r1.kept fun b _ hb=>hset b (fun e=>hb (by rw[e];exact f2)),hc,?_,?_,f1,f2,h.ne,h.s0,h.h0,fun i hi b hb=>by simpa using Nat.lt_of_lt_of_le (h.lx i hi b hb) hsz,fun ν hν x hx=>?_⟩
 ·rw[hset S h.ne,hk S hS (h.fs 19 (by omega)),h.bs,eV 0 (by omega),eV 1 (by omega),eV 2 (by omega),eV 3 (by omega),eV 4 (by omega)]
 ·have hb1:=(hk Hb hH (h.fh 19 (by omega))).trans h.bh;rw[zA2];simp[World.setCell,Array.getElem?_modify,hb1]
 ·exact((h.old (ν:=ν) (κ:=19) (by omega) hν hk hsz hv hx).kept fun b hb=>hset b hb.2.2.2).weak fun b hb=>⟨by simpa using hb.1,hb.2⟩
theorem CyM.letPut {w : World} {base S Hb : Nat} {L : Nat → Value} {st : Cy} {ev : List Ev} {V : Nat → Value} {N : Nat → Nat} {C : Nat → List Value} {D : Nat → List TJV} (h : CyM w base S Hb L st ev V N C D) {s : Nat} (hs : s < 4) (u : Value) :
  CyM (w.setCell ⟨Hb,1+s,none⟩ u) base S Hb (upd L s u) st ev V N C D:=by
 have hset:∀b,b≠Hb→(w.setCell ⟨Hb,1+s,none⟩ u).heap[b]? = w.heap[b]?:=fun b hb=>Below.heap_setCell _ _ _ _ hb
 refine⟨h.raw.kept fun b _ hb=>hset b (fun e=>hb (by rw[e];exact h.fh)),h.con,(hset S h.ne).trans h.bs,?_,h.fs,h.fh,h.ne,h.s0,h.h0,fun i hi b hb=>by rw[zA0 _ _ (by omega)]at hb;simpa using h.lx i hi b hb,fun ν hν x hx=>?_⟩
 ·have hb1:=h.bh;rcases(show s=0∨s=1∨s=2∨s=3 by omega)with rfl|rfl|rfl|rfl <;> simp[World.setCell,Array.getElem?_modify,hb1,upd]
 ·exact(((h.dat ν hν x hx).kept fun b hb=>hset b hb.2.2.2).weak fun b hb=>⟨by simpa using hb.1,hb.2⟩).put hs u
theorem CyM.atm {w w1 : World} {base S Hb : Nat} {L : Nat → Value} {st : Cy} {ev : List Ev} {V : Nat → Value} {N : Nat → Nat} {C : Nat → List Value} {D : Nat → List TJV} (h : CyM w base S Hb L st ev V N C D) {ws hs : List Int}
  (hk:∀b,b<w.heap.size→(V 0).ownBlock≠some b→(V 1).ownBlock≠some b→w1.heap[b]? = w.heap[b]?) (hsz:w.heap.size≤w1.heap.size) (h0:Owns w1 base 3 1 rowI (V 0) ws) (h1:Owns w1 base 3 1 rowI (V 1) hs) :
  CyM w1 base S Hb L { st with ws:=ws,hs:=hs } ev V (upd (upd N 0 ws.length) 1 hs.length) (upd (upd C 0 (ws.flatMap rowI)) 1 (hs.flatMap rowI)) D:=by
 have hS:=zA3 h.bs;have hH:=zA3 h.bh;refine⟨⟨fun κ hκ=>?_,h.raw.ap⟩,?_,(hk S hS (h.fs 0 (by omega)) (h.fs 1 (by omega))).trans h.bs,(hk Hb hH (h.fh 0 (by omega)) (h.fh 1 (by omega))).trans h.bh,h.fs,h.fh,h.ne,h.s0,h.h0,fun i hi b hb=>Nat.lt_of_lt_of_le (h.lx i hi b hb) hsz,fun ν hν x hx=>?_⟩
 ·by_cases e1:κ=1
  ·subst e1;simp only[zA2];exact h1
  ·by_cases e0:κ=0
   ·subst e0;simp only[zA2,zA0 _ _ (show(0:Nat)≠1 by omega)];exact h0
   ·simp only[zA0 _ _ e1,zA0 _ _ e0];exact(h.raw.own κ hκ).kept fun k hk2=>hk k (h.raw.lt hκ hk2).2 (fun hk3=>h.raw.ap κ 0 hκ (by omega) e0 k hk2 hk3) (fun hk3=>h.raw.ap κ 1 hκ (by omega) e1 k hk2 hk3)
 ·have c:=h.con;have u:∀{α:Type} {f:Nat→α} {a b:α} {i:Nat},2≤i→upd (upd f 0 a) 1 b i=f i:=fun hi=>by rw[zA0 _ _ (by omega),zA0 _ _ (by omega)]
  refine⟨by simp[upd],by simp[upd],by simp[upd],by simp[upd],by rw[u (by omega)];exact c.n2,by rw[u (by omega)];exact c.c2,by rw[u (by omega)];exact c.n3,by rw[u (by omega)];exact c.c3,by rw[u (by omega)];exact c.n4,by rw[u (by omega)];exact c.c4,c.t4,?_,?_,?_,?_,?_,?_,?_,?_,c.td,by rw[u (by omega)];exact c.ne,by rw[u (by omega)];exact c.ce⟩
  ·intro i hi;rw[u (by omega)];exact c.nq i hi
  ·intro i hi;rw[u (by omega)];exact c.cq i hi
  ·intro i hi;rw[u (by omega)];exact c.no i hi
  ·intro i hi;rw[u (by omega)];exact c.co i hi
  ·intro i hi;rw[u (by omega)];exact c.np i hi
  ·intro i hi;rw[u (by omega)];exact c.cp i hi
  ·intro i hi;rw[u (by omega)];exact c.nd i hi
  ·intro i hi;rw[u (by omega)];exact c.cd i hi
 ·exact((h.dat ν hν x hx).kept fun b hb=>hk b hb.1 (hb.2.1 0 (by omega)) (hb.2.1 1 (by omega))).weak fun b hb=>⟨Nat.lt_of_lt_of_le hb.1 hsz,hb.2⟩
end Go.Proofs.YthnlalffjepdaaaGreat
namespace Go.Proofs.YthnlalffjepdaaaGreat
def zA8 (v:Sv):List (Nat×Nat):=v.done.map (fun j=>(j.who,j.n))++v.pipe.map (fun j=>(j.who,j.n))
def nsOf (w:Nat) (l:List (Nat×Nat)):List Nat:=(l.filter (fun k=>k.1==w)).map (·.2)
theorem zM1 (w:Nat) (a b:List (Nat×Nat)):nsOf w (a++b)=nsOf w a++nsOf w b:=by simp[nsOf]
theorem zM0 (w n:Nat) (l:List (Nat×Nat)):nsOf w ((w,n)::l)=n::nsOf w l:=by simp[nsOf]
theorem zG9 {w v:Nat} (n:Nat) (l:List (Nat×Nat)) (h:v≠w):nsOf w ((v,n)::l)=nsOf w l:=by simp[nsOf,h]
theorem mem_nsOf {w n:Nat} {l:List (Nat×Nat)}:n∈nsOf w l↔(w,n)∈l:=by
 simp only[nsOf,List.mem_map,List.mem_filter,beq_iff_eq]
 constructor
 ·rintro⟨⟨a,b⟩,⟨h1,rfl⟩,rfl⟩;exact h1
 ·intro h;exact⟨(w,n),⟨h,rfl⟩,rfl⟩
structure Bus (c:Cfg):Prop where
 ms:mapOk c.ms=true
 lat:c.lat.length=4
 lat3:∀x∈c.lat,x≤3
 progs:c.progs.length=3
 most:∀p∈c.progs,p.length≤12
 reqs:∀p∈c.progs,∀r∈p,reqOk r=true
theorem Bus.prog {c:Cfg} (h:Bus c) {w:Nat} (hw:w<3):c.prog w∈c.progs:=zB8 (by rw[h.progs];exact hw)
theorem Bus.req {c:Cfg} (h:Bus c) {w n:Nat} (hw:w<3) (hn:n<(c.prog w).length):reqOk (c.req w n)=true:=h.reqs _ (h.prog hw) _ (zB8 hn)
theorem Bus.twelve {c:Cfg} (h:Bus c) {w:Nat} (hw:w<3):(c.prog w).length≤12:=h.most _ (h.prog hw)
theorem Bus.lt3 {c:Cfg} (h:Bus c) {s:Nat} (hs:s<4):c.lt s≤3:=h.lat3 _ (zB8 (by rw[h.lat];exact hs))
structure PGood (c:Cfg) (w:Nat) (p:Pt):Prop where
 q:p.queue=List.range' (p.next - p.queue.length) p.queue.length
 qn:p.queue.length≤p.next
 q2:p.queue.length≤2
 nx:p.next≤(c.prog w).length
 o4:p.out.length≤4
 o:∀j∈p.out,j.who=w∧j.left=c.slv w j.n∧j.n<p.next - p.queue.length
 os:p.out.Pairwise (fun a b=>a.n<b.n)
 oi:∀a∈p.out,∀b∈p.out,c.id w a.n=c.id w b.n→a.left=b.left
 l:p.last≤3
structure SGood (c:Cfg) (s:Nat) (v:Sv):Prop where
 p2:v.pipe.length≤2
 d2:v.done.length≤2
 l:v.last≤2
 w3:∀k∈zA8 v,k.1<3
 pl:∀j rest,v.pipe=j::rest→j.left≤c.lt s∧∀i∈rest,i.left=c.lt s
 dr:∀j∈v.done,rspOk j.rsp=true∧j.rsp.id=c.id j.who j.n
structure Good (c:Cfg) (st:Cy):Prop where
 atm:atmOk st.ws st.hs=true
 p:∀w,w<3→PGood c w (st.ports w)
 s:∀s,s<4→SGood c s (st.slaves s)
 link:∀s w,s<4→w<3→nsOf w (zA8 (st.slaves s))=((st.ports w).out.filter (fun j=>j.left==s)).map (·.n)
 t:∀j∈st.told,j.who<3∧rspOk j.rsp=true∧j.rsp.id=c.id j.who j.n
 part:∀w,w<3→(((st.told.filter (fun j=>j.who==w)).map (·.n))++(st.ports w).out.map (·.n)).Perm (List.range ((st.ports w).next - (st.ports w).queue.length))
theorem zL3 (c:Cfg):Good c cy0:=by
 refine⟨by decide +kernel,fun w _=>⟨rfl,Nat.le_refl _,by simp[cy0],Nat.zero_le _,by simp[cy0],by simp[cy0],by simp[cy0],by simp[cy0],by simp[cy0]⟩,fun s _=>⟨by simp[cy0],by simp[cy0],by simp[cy0],by simp[cy0,zA8],by simp[cy0],by simp[cy0]⟩,by simp[cy0,zA8,nsOf],by simp[cy0],by simp[cy0]⟩
theorem Good.key {c:Cfg} {st:Cy} (h:Good c st) {s w n:Nat} (hs:s<4) (hk:(w,n)∈zA8 (st.slaves s)):w<3∧∃o∈(st.ports w).out,o.n=n∧o.left=s:=by
 have hw:w<3:=(h.s s hs).w3 _ hk;refine⟨hw,?_⟩;have:=mem_nsOf.2 hk;rw[h.link s w hs hw,List.mem_map]at this;obtain⟨o,ho,rfl⟩:=this;rw[List.mem_filter]at ho;exact⟨o,ho.1,rfl,by simpa using ho.2⟩
theorem Good.keyN {c:Cfg} {st:Cy} (h:Good c st) {s w n:Nat} (hs:s<4) (hk:(w,n)∈zA8 (st.slaves s)):n<(c.prog w).length:=by
 obtain⟨hw,o,ho,rfl,_⟩:=h.key hs hk;have:=(h.p w hw).o o ho;have:=(h.p w hw).nx;omega
theorem uniq_n {l:List Jb} (h:l.Pairwise (fun a b=>a.n<b.n)) {a b:Jb} (ha:a∈l) (hb:b∈l) (e:a.n=b.n):a=b:=by
 induction l with
 |nil=>cases ha
 |cons x l ih=>
  rw[List.pairwise_cons]at h;rcases List.mem_cons.1 ha with e1|h1 <;> rcases List.mem_cons.1 hb with e2|h2
  ·rw[e1,e2]
  ·subst e1;have:=h.1 _ h2;omega
  ·subst e2;have:=h.1 _ h1;omega
  ·exact ih h.2 h1 h2
theorem zL5 {α : Type} {p q : α → Bool} : ∀ {l : List α}, (∀ x ∈ l, p x = true → q x = true) → (l.eraseP p).filter q = (l.filter q).eraseP p
 |[],_=>rfl
 |x::l,h=>by
  have ih:=zL5 (p:=p) (q:=q) (l:=l) (fun y hy=>h y (List.mem_cons_of_mem _ hy));rcases hp:p x with _|_
  ·rcases hq:q x with _|_
   ·simp[List.eraseP_cons,hp,hq,ih]
   ·simp[List.eraseP_cons,hp,hq,ih]
  ·have hq:=h x (by simp) hp;simp[List.eraseP_cons,hp,hq]
theorem zJ7 {α : Type} {p q : α → Bool} : ∀ {l : List α}, (∀ x ∈ l, p x = true → q x = false) → (l.eraseP p).filter q = l.filter q
 |[],_=>rfl
 |x::l,h=>by
  have ih:=zJ7 (p:=p) (q:=q) (l:=l) (fun y hy=>h y (List.mem_cons_of_mem _ hy));rcases hp:p x with _|_
  ·rcases hq:q x with _|_
   ·simp[List.eraseP_cons,hp,hq,ih]
   ·simp[List.eraseP_cons,hp,hq,ih]
  ·have hq:=h x (by simp) hp;simp[List.eraseP_cons,hp,hq]
theorem Good.tell {c:Cfg} {x:Cy×List Ev} (h:Good c x.1) {w s:Nat} {j:TJ} {rest:List TJ} (hw:w<3) (hs:s<4) (hd:(x.1.slaves s).done=j::rest) (hj:j.who=w):Good c (zD6 w s j rest x).1:=by
 have hsg:=h.s s hs;have hpg:=h.p w hw;have hkeys:zA8 (x.1.slaves s)=(w,j.n)::zA8 { x.1.slaves s with done:=rest }:=by simp[zA8,hd,hj]
 have hl:=h.link s w hs hw;rw[hkeys,zM0]at hl;obtain⟨o,ho,hon,hos⟩:=(h.key hs (by rw[hkeys];simp:(w,j.n)∈zA8 (x.1.slaves s))).2;obtain⟨a,l1,l2,_,ha,he,he2⟩:=List.exists_of_eraseP (p:=fun o:Jb=>o.n==j.n) ho (by simp[hon]);have ha':a.n=j.n:=by simpa using ha
 have hperm:((x.1.ports w).out.map (·.n)).Perm (j.n::((x.1.ports w).out.eraseP (fun o=>o.n==j.n)).map (·.n)):=by
  rw[he2,he];simp only[List.map_append,List.map_cons,ha'];exact List.perm_middle
 have hsub:((x.1.ports w).out.eraseP (fun o=>o.n==j.n)).Sublist (x.1.ports w).out:=List.eraseP_sublist;have hmem:∀y∈(x.1.ports w).out,(y.n==j.n)=true→y=o:=fun y hy e=>uniq_n hpg.os hy ho (by rw[hon];simpa using e)
 refine⟨h.atm,fun v hv=>?_,fun t ht=>?_,fun t v ht hv=>?_,fun i hi=>?_,fun v hv=>?_⟩
 ·by_cases hvw:v=w
  ·subst hvw;simp only[zD6,zA2];exact⟨hpg.q,hpg.qn,hpg.q2,hpg.nx,Nat.le_trans hsub.length_le hpg.o4,fun j hj=>hpg.o j (hsub.subset hj),hpg.os.sublist hsub,fun a ha b hb=>hpg.oi a (hsub.subset ha) b (hsub.subset hb),by simp only;omega⟩
  ·simp only[zD6,zA0 _ _ hvw];exact h.p v hv
 ·by_cases hts:t=s
  ·subst hts;simp only[zD6,zA2];refine⟨hsg.p2,?_,hsg.l,fun k hk=>hsg.w3 k (by rw[hkeys];exact List.mem_cons_of_mem _ hk),hsg.pl,fun i hi=>hsg.dr i (by rw[hd];exact List.mem_cons_of_mem _ hi)⟩;have:=hsg.d2;rw[hd]at this;simp at this ⊢;omega
  ·simp only[zD6,zA0 _ _ hts];exact h.s t ht
 ·by_cases hvw:v=w
  ·subst hvw;by_cases hts:t=s
   ·subst hts;simp only[zD6,zA2];rw[zL5 (fun y hy e=>by rw[hmem y hy e];simp[hos])];have hm2:(((x.1.ports v).out.filter (fun j=>j.left==t)).map (·.n))=j.n::nsOf v (zA8 { x.1.slaves t with done:=rest }):=hl.symm;rcases hf:(x.1.ports v).out.filter (fun j=>j.left==t)with _|⟨y,ys⟩
    ·rw[hf]at hm2;cases hm2
    ·rw[hf]at hm2;simp only[List.map_cons,List.cons.injEq]at hm2;rw[hf,List.eraseP_cons_of_pos (by simp[hm2.1])];exact hm2.2.symm
   ·simp only[zD6,zA2,zA0 _ _ hts];rw[zJ7 (fun y hy e=>by rw[hmem y hy e];simp[hos];omega)];exact h.link t v ht hv
  ·by_cases hts:t=s
   ·subst hts;simp only[zD6,zA2,zA0 _ _ hvw];rw[←h.link t v ht hv,hkeys,zG9 _ _ (Ne.symm hvw)]
   ·simp only[zD6,zA0 _ _ hvw,zA0 _ _ hts];exact h.link t v ht hv
 ·simp only[zD6,List.mem_append,List.mem_singleton]at hi;rcases hi with hi|rfl
  ·exact h.t i hi
  ·exact⟨by omega,hsg.dr _ (by rw[hd];simp)⟩
 ·by_cases hvw:v=w
  ·subst hvw;simp only[zD6,zA2,List.filter_append,List.map_append,List.filter_cons,hj,beq_self_eq_true,if_true,List.filter_nil,List.map_cons,List.map_nil,List.append_assoc,List.singleton_append];exact(hperm.symm.append_left _).trans (h.part v hv)
  ·simp only[zD6,zA0 _ _ hvw,List.filter_append,List.map_append,List.filter_cons,hj];rw[show(w==v)=false by simpa using Ne.symm hvw];simpa using h.part v hv
theorem good_tell1 {c:Cfg} {inp:Inp} {x:Cy×List Ev} (h:Good c x.1) {w:Nat} (hw:w<3):Good c (tell1 inp w x).1:=by
 unfold tell1
 split
 ·split
  ·exact h
  ·rename_i k hk;obtain⟨_,_,hm⟩:=firstK_some hk
   split
   ·exact h
   ·rename_i j rest hd;refine h.tell hw (Nat.mod_lt _ (by omega)) hd ?_;unfold tellM at hm;rw[hd]at hm;simpa using hm
 ·exact h
theorem Good.dec {c:Cfg} {st:Cy} (h:Good c st) {s:Nat} {j:Jb} {rest:List Jb} (hs:s<4) (hp:(st.slaves s).pipe=j::rest):Good c (workDec s j rest st):=by
 have hsg:=h.s s hs;have hkeys:zA8 { st.slaves s with pipe:=⟨j.who,j.n,j.left - 1⟩::rest }=zA8 (st.slaves s):=by simp[zA8,hp]
 refine⟨h.atm,h.p,fun t ht=>?_,fun t v ht hv=>?_,h.t,h.part⟩
 ·by_cases hts:t=s
  ·subst hts;simp only[workDec,zA2];refine⟨by have:=hsg.p2;rw[hp]at this;simpa using this,hsg.d2,hsg.l,fun k hk=>hsg.w3 k (by rwa [hkeys]at hk),?_,hsg.dr⟩;intro i r e;simp only[List.cons.injEq]at e;obtain⟨rfl,rfl⟩:=e;have:=hsg.pl _ _ hp;exact⟨by simp only;omega,this.2⟩
  ·simp only[workDec,zA0 _ _ hts];exact h.s t ht
 ·by_cases hts:t=s
  ·subst hts;simp only[workDec,zA2];rw[hkeys];exact h.link t v ht hv
  ·simp only[workDec,zA0 _ _ hts];exact h.link t v ht hv
theorem Good.work {c:Cfg} (hb:Bus c) {x:Cy×List Ev} (h:Good c x.1) {s:Nat} {j:Jb} {rest:List Jb} (hs:s<4) (hp:(x.1.slaves s).pipe=j::rest) (hd:(x.1.slaves s).done.length<2):Good c (zJ3 c s j rest x).1:=by
 have hsg:=h.s s hs;obtain⟨r,hr⟩:∃r,r=(doReq c.ms x.1.ws x.1.hs j.who (c.req j.who j.n)).2.2:=⟨_,rfl⟩
 have hin:(j.who,j.n)∈zA8 (x.1.slaves s):=by simp[zA8,hp]
 have hw:=(h.key hs hin).1;have hq:=hb.req hw (h.keyN hs hin);have hwi:inB (j.who:Int) 0 2=true:=by simp[inB];omega
 have hok:atmOkk c.ms x.1.ws x.1.hs j.who (c.req j.who j.n)=true:=okk_parts.2 ⟨hb.ms,h.atm,hwi,hq⟩;have hrsp:=rsp_law hok;rw[atmDo_yes hok,←hr]at hrsp;have hkeys:zA8 { x.1.slaves s with pipe:=rest,done:=(x.1.slaves s).done++[⟨j.who,j.n,r⟩] }=zA8 (x.1.slaves s):=by simp[zA8,hp]
 refine⟨doReq_ok hwi hq h.atm,h.p,fun t ht=>?_,fun t v ht hv=>?_,h.t,h.part⟩
 ·by_cases hts:t=s
  ·subst hts;simp only[zJ3,zA2,←hr];refine⟨by have:=hsg.p2;rw[hp]at this;simp at this ⊢;omega,by simp;omega,hsg.l,fun k hk=>hsg.w3 k (by rwa [hkeys]at hk),?_,?_⟩
   ·intro i r' e;simp only at e;have hh:=(hsg.pl _ _ hp).2;rw[e]at hh;exact⟨Nat.le_of_eq (hh i (by simp)),fun k hk=>hh k (by simp[hk])⟩
   ·intro i hi;simp only[List.mem_append,List.mem_singleton]at hi;rcases hi with hi|rfl
    ·exact hsg.dr i hi
    ·exact hrsp
  ·simp only[zJ3,zA0 _ _ hts];exact h.s t ht
 ·by_cases hts:t=s
  ·subst hts;simp only[zJ3,zA2,←hr];rw[hkeys];exact h.link t v ht hv
  ·simp only[zJ3,zA0 _ _ hts];exact h.link t v ht hv
theorem good_work1 {c:Cfg} (hb:Bus c) {inp:Inp} {x:Cy×List Ev} (h:Good c x.1) {s:Nat} (hs:s<4):Good c (work1 c inp s x).1:=by
 unfold work1
 split
 ·exact h
 ·split
  ·exact h
  ·rename_i j rest hp
   split
   ·exact h.dec hs hp
   ·split
    ·exact h.work hb hs hp ‹_›
    ·exact h
theorem range'_cons {a n m:Nat} {rest:List Nat} (h:n::rest=List.range' a m):n=a∧rest=List.range' (a+1) (m - 1)∧0<m:=by
 rcases m with _|m
 ·simp at h
 ·rw[List.range'_succ]at h;simp only[List.cons.injEq]at h;exact⟨h.1,by simpa using h.2,by omega⟩
theorem Good.lets {c:Cfg} {y:Lt} (h:Good c y.st) {s w n:Nat} {rest:List Nat} (hs:s<4) (hw:w<3) (hq:(y.st.ports w).queue=n::rest) (hp:(y.st.slaves s).pipe.length<2) (hm:may c y.st w s=true):Good c (letDo c s w n rest y).st:=by
 have hsg:=h.s s hs;have hpg:=h.p w hw;unfold may at hm;rw[hq]at hm;simp only[Bool.and_eq_true,decide_eq_true_eq,beq_iff_eq,Bool.not_eq_true', List.any_eq_false,bne_iff_ne]at hm;obtain⟨⟨ho4,hslv⟩,hcon⟩:=hm;have hql:(y.st.ports w).queue.length=rest.length+1:=by rw[hq];rfl
 have hqq:=hpg.q;rw[hq]at hqq;obtain⟨hn,hrest,_⟩:=range'_cons hqq;simp only[List.length_cons,Nat.add_sub_cancel]at hn hrest;have hqn:=hpg.qn;rw[hql]at hqn;have hnn:(y.st.ports w).next - rest.length=n+1:=by omega
 have hold:(y.st.ports w).next - (y.st.ports w).queue.length=n:=by omega
 have hkeys:zA8 { y.st.slaves s with pipe:=(y.st.slaves s).pipe++[⟨w,n,c.lt s⟩],last:=w }=zA8 (y.st.slaves s)++[(w,n)]:=by simp[zA8]
 refine⟨h.atm,fun v hv=>?_,fun t ht=>?_,fun t v ht hv=>?_,h.t,fun v hv=>?_⟩
 ·by_cases hvw:v=w
  ·subst hvw;simp only[letDo,zA2];refine⟨?_,by simp only;omega,by have:=hpg.q2;simp only;omega,hpg.nx,by simp;omega,?_,?_,?_,hpg.l⟩
   ·simp only[hnn];rw[hrest];simp only[List.length_range'];rw[hn]
   ·intro j hj;simp only[List.mem_append,List.mem_singleton]at hj;simp only[hnn];rcases hj with hj|rfl
    ·have:=hpg.o j hj;rw[hold]at this;exact⟨this.1,this.2.1,by omega⟩
    ·exact⟨rfl,hslv.symm,by simp⟩
   ·simp only[List.pairwise_append,List.pairwise_cons,List.not_mem_nil,List.mem_singleton];refine⟨hpg.os,⟨fun _ h=>absurd h (by simp),List.Pairwise.nil⟩,?_⟩;rintro a ha b rfl;have:=(hpg.o a ha).2.2;rw[hold]at this;exact this
   ·intro a ha b hb e;simp only[List.mem_append,List.mem_singleton]at ha hb;rcases ha with ha|rfl <;> rcases hb with hb|rfl
    ·exact hpg.oi a ha b hb e
    ·have:=hcon a ha;simp only[not_and,Decidable.not_not]at this;exact this (by simpa using e)
    ·have:=hcon b hb;simp only[not_and,Decidable.not_not]at this;exact(this (by simpa using e.symm)).symm
    ·rfl
  ·simp only[letDo,zA0 _ _ hvw];exact h.p v hv
 ·by_cases hts:t=s
  ·subst hts;simp only[letDo,zA2];refine⟨by simp;omega,hsg.d2,by simp only;omega,?_,?_,hsg.dr⟩
   ·intro k hk;rw[hkeys]at hk;simp only[List.mem_append,List.mem_singleton]at hk;rcases hk with hk|rfl
    ·exact hsg.w3 k hk
    ·exact hw
   ·intro i r e;simp only at e;rcases hpp:(y.st.slaves t).pipe with _|⟨a,al⟩
    ·rw[hpp]at e;simp only[List.nil_append,List.cons.injEq]at e;obtain⟨rfl,rfl⟩:=e;exact⟨Nat.le_refl _,by simp⟩
    ·rw[hpp]at e;simp only[List.cons_append,List.cons.injEq]at e;obtain⟨rfl,rfl⟩:=e;have:=hsg.pl _ _ hpp;refine⟨this.1,fun k hk=>?_⟩;simp only[List.mem_append,List.mem_singleton]at hk;rcases hk with hk|rfl
     ·exact this.2 k hk
     ·rfl
  ·simp only[letDo,zA0 _ _ hts];exact h.s t ht
 ·by_cases hts:t=s
  ·subst hts;by_cases hvw:v=w
   ·subst hvw;simp only[letDo,zA2];rw[hkeys,zM1,h.link t v ht hv];simp[nsOf]
   ·simp only[letDo,zA2,zA0 _ _ hvw];rw[hkeys,zM1,h.link t v ht hv];simp[nsOf,Ne.symm hvw]
  ·by_cases hvw:v=w
   ·subst hvw;simp only[letDo,zA2,zA0 _ _ hts,List.filter_append,List.map_append];rw[h.link t v ht hv];simp[Ne.symm hts]
   ·simp only[letDo,zA0 _ _ hvw,zA0 _ _ hts];exact h.link t v ht hv
 ·by_cases hvw:v=w
  ·subst hvw;simp only[letDo,zA2,hnn,List.map_append,List.map_cons,List.map_nil];have:=h.part v hv;rw[hold]at this;rw[List.range_succ,←List.append_assoc];exact this.append_right _
  ·simp only[letDo,zA0 _ _ hvw];exact h.part v hv
theorem good_let1 {c:Cfg} {y:Lt} (h:Good c y.st) {s:Nat} (hs:s<4):Good c (let1 c s y).st:=by
 unfold let1
 split
 ·split
  ·exact h
  ·rename_i k hk;obtain⟨_,_,hm⟩:=firstK_some hk;unfold letM at hm;rw[Bool.and_eq_true]at hm
   split
   ·exact h
   ·exact h.lets hs (Nat.mod_lt _ (by omega)) ‹_› ‹_› hm.2
 ·exact h
theorem Good.ask {c:Cfg} {x:Cy×List Ev} (h:Good c x.1) {w:Nat} (hw:w<3) (hq:(x.1.ports w).queue.length<2) (hn:(x.1.ports w).next<(c.prog w).length):Good c (askDo w x).1:=by
 have hpg:=h.p w hw;have hqn:=hpg.qn;have hold:(x.1.ports w).next+1 - ((x.1.ports w).queue.length+1)=(x.1.ports w).next - (x.1.ports w).queue.length:=by omega
 refine⟨h.atm,fun v hv=>?_,h.s,fun t v ht hv=>?_,h.t,fun v hv=>?_⟩
 ·by_cases hvw:v=w
  ·subst hvw;simp only[askDo,zA2];refine⟨?_,by simp;omega,by simp;omega,by simp only;omega,hpg.o4,?_,hpg.os,hpg.oi,hpg.l⟩
   ·simp only[List.length_append,List.length_singleton,hold];rw[List.range'_1_concat]
    congr 1
    ·exact hpg.q
    ·congr 1;omega
   ·intro j hj;simp only[List.length_append,List.length_singleton,hold];exact hpg.o j hj
  ·simp only[askDo,zA0 _ _ hvw];exact h.p v hv
 ·by_cases hvw:v=w
  ·subst hvw;simp only[askDo,zA2];exact h.link t v ht hv
  ·simp only[askDo,zA0 _ _ hvw];exact h.link t v ht hv
 ·by_cases hvw:v=w
  ·subst hvw;simp only[askDo,zA2,List.length_append,List.length_singleton,hold];exact h.part v hv
  ·simp only[askDo,zA0 _ _ hvw];exact h.part v hv
theorem good_ask1 {c:Cfg} {inp:Inp} {x:Cy×List Ev} (h:Good c x.1) {w:Nat} (hw:w<3):Good c (ask1 c inp w x).1:=by
 unfold ask1
 split
 ·rename_i hc;exact h.ask hw hc.2.1 hc.2.2
 ·exact h
theorem good_tellAll {c:Cfg} {inp:Inp} {x:Cy×List Ev} (h:Good c x.1):Good c (zH6 inp x).1:=zF1 (P:=fun x:Cy×List Ev=>Good c x.1) 3 x h fun _ _ hi hx=>good_tell1 hx hi
theorem good_workAll {c:Cfg} (hb:Bus c) {inp:Inp} {x:Cy×List Ev} (h:Good c x.1):Good c (zI7 c inp x).1:=zF1 (P:=fun x:Cy×List Ev=>Good c x.1) 4 x h fun _ _ hi hx=>good_work1 hb hx hi
theorem good_letAll {c:Cfg} {st:Cy} (h:Good c st):Good c (letAll c st).st:=zF1 (P:=fun y:Lt=>Good c y.st) 4 ⟨st,fun _=>false,fun _=>0⟩ h fun _ _ hi hx=>good_let1 hx hi
theorem good_askAll {c:Cfg} {inp:Inp} {x:Cy×List Ev} (h:Good c x.1):Good c (askAll c inp x).1:=zF1 (P:=fun x:Cy×List Ev=>Good c x.1) 3 x h fun _ _ hi hx=>good_ask1 hx hi
theorem good_step {c:Cfg} (hb:Bus c) {inp:Inp} {st:Cy} (h:Good c st):Good c (cyc c inp st) :=
 good_askAll (x:=((letAll c (zI7 c inp (zH6 inp (st,[]))).1).st,_)) (good_letAll (good_workAll hb (good_tellAll (x:=(st,[])) h)))
theorem good_run {c : Cfg} (hb : Bus c) : ∀ (ins : List Inp) {st : Cy}, Good c st → Good c (runC c ins st)
 |[],_,h=>h
 |_::rest,_,h=>good_run hb rest (good_step hb h)
end Go.Proofs.YthnlalffjepdaaaGreat
