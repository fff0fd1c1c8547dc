/- slices.SortStableFunc of jobs by compareJobs, of a list of at most 19. -/
import Derived.Test.YthnlalffjepdaaaGreatGQ12
import Derived.Test.YthnlalffjepdaaaGreatGWrd
import Derived.Test.YthnlalffjepdaaaGreatGQ5
import Derived.Test.YthnlalffjepdaaaGreatGLib
import Derived.Test.YthnlalffjepdaaaGreatGDr2
import Derived.Test.YthnlalffjepdaaaGreatGY1
import Derived.Deep.QuietTactic
import Derived.BigQuiet
import Derived.Maps.OwnSet
import Derived.DeepKeys4
import Derived.BigGuardPart
import Derived.Deep.Cut
import Derived.Deep.CutRange
import Derived.Deep.RegionHeld3
import Derived.Deep.RegionWith
import Derived.StillTailTactics
set_option linter.unusedVariables false
set_option linter.unusedSimpArgs false
set_option maxHeartbeats 16000000
namespace Go.Proofs.YthnlalffjepdaaaGreat
open Go.RowKit
def BusV (w:World) (B:Nat) (v:Value) (c:Cfg):Prop :=
 ∃ (ma la pa : Option Addr) (mc lc pc : Nat) (Q : Nat → Value), v = .agg #[.slice ma c.ms.length mc, .slice la c.lat.length lc, .slice pa c.progs.length pc] ∧ Maps w B (.slice ma c.ms.length mc) c.ms ∧ Arr w B 1 (.slice la c.lat.length lc) (c.lat.map rowN) ∧
  Arr w B 1 (.slice pa c.progs.length pc) ((List.range c.progs.length).map fun i=>[Q i])∧∀i,i<c.progs.length→Reqs w B (Q i) (c.prog i)
theorem BusV.below {w w':World} {B:Nat} {v:Value} {c:Cfg} (h:BusV w B v c) (hb:Below B w w'):BusV w' B v c:=by
 obtain⟨ma,la,pa,mc,lc,pc,Q,e,h1,h2,h3,h4⟩:=h;exact⟨ma,la,pa,mc,lc,pc,Q,e,h1.below hb,h2.below hb,h3.below hb,fun i hi=>(h4 i hi).below hb⟩
theorem BusV.mono {w:World} {B B':Nat} {v:Value} {c:Cfg} (h:BusV w B v c) (hb:B≤B'):BusV w B' v c:=by
 obtain⟨ma,la,pa,mc,lc,pc,Q,e,h1,h2,h3,h4⟩:=h;exact⟨ma,la,pa,mc,lc,pc,Q,e,h1.mono hb,h2.mono hb,h3.mono hb,fun i hi=>(h4 i hi).mono hb⟩
theorem BusV.opened {w : World} {B : Nat} {v : Value} {c : Cfg} (h : BusV w B v c) (hc : Bus c) : ∃ (mv : Value) (lb lo lc pb po pc : Nat) (Q : Nat → Option Addr) (K : Nat → Nat), v = .agg #[mv, .slice (some ⟨lb, lo, none⟩) 4 lc, .slice (some ⟨pb, po, none⟩) 3 pc] ∧ (∃ a n k, mv = .slice a n k) ∧ Maps w B mv c.ms ∧
  lb<B∧pb<B∧(∀s,s<4→w.cell? ⟨lb,lo+s,none⟩=some (.int .i64 (c.lt s:Nat)))∧(∀i,i<3→w.cell? ⟨pb,po+i,none⟩=some (.slice (Q i) (c.prog i).length (K i)))∧(∀i,i<3→Reqs w B (.slice (Q i) (c.prog i).length (K i)) (c.prog i)):=by
 obtain⟨ma,la,pa,mc,lc,pc,Q,rfl,h1,⟨_,_,e2,_,_,_,_,h2⟩,⟨_,_,e3,_,_,_,_,h3⟩,h4⟩:=h;simp only[Value.slice.injEq,List.length_map,List.length_range]at e2 e3 h2 h3;obtain⟨rfl,_,rfl⟩:=e2;obtain⟨rfl,_,rfl⟩:=e3;rw[hc.lat]at h2;rw[hc.progs]at h3 h4;obtain⟨lb,lo,rfl,hlb,hl⟩:=h2 (by omega);obtain⟨pb,po,rfl,hpb,hp⟩:=h3 (by omega);have sh:∀i,∃(a:Option Addr) (k:Nat),i<3→Q i=.slice a (c.prog i).length k:=fun i=>by
  by_cases hi:i<3
  ·obtain⟨a,k,e,_⟩:=(h4 i hi).shape;exact⟨a,k,fun _=>e⟩
  ·exact⟨none,0,fun h=>absurd h hi⟩
 refine⟨_,lb,lo,lc,pb,po,pc,fun i=>(sh i).choose,fun i=>(sh i).choose_spec.choose,by rw[hc.lat,hc.progs],⟨_,_,_,rfl⟩,h1,hlb,hpb,fun s hs=>?_,fun i hi=>?_,fun i hi=>?_⟩
 ·have:=hl s hs 0 (by omega);simp only[Nat.mul_one,Nat.add_zero]at this;rw[this];have hs':s<c.lat.length:=by rw[hc.lat];exact hs
  simp[List.getD,rowN,hs', Cfg.lt]
 ·have:=hp i hi 0 (by omega);simp only[Nat.mul_one,Nat.add_zero]at this;rw[this];have e:=(sh i).choose_spec.choose_spec hi;rw[←e];simp[List.getD,hi]
 ·have e:=(sh i).choose_spec.choose_spec hi;rw[←e];exact h4 i hi
theorem BusV.int {w:World} {B:Nat} {v:Value} {c:Cfg} (h:BusV w B v c) (hb:Bus c):BusI w B v c.ms (c.lat.map fun(n:Nat)=>(n:Int)) c.progs:=by
 obtain⟨ma,la,pa,mc,lc,pc,Q,e,h1,h2,h3,h4⟩:=h;refine⟨_,_,_,e,h1,⟨?_,fun x hx=>?_⟩,?_⟩
 ·rw[List.map_map];exact h2
 ·obtain⟨n,hn,rfl⟩:=List.mem_map.1 hx;have:=hb.lat3 n hn
  constructor <;> omega
 ·refine⟨(List.range c.progs.length).map Q,?_,by simp,fun k hk d=>?_⟩
  ·rw[List.map_map];have:(List.range c.progs.length).map ((fun u:Value=>u.cells.toList) ∘ Q)=(List.range c.progs.length).map fun i=>[Q i]:=List.map_congr_left fun i hi=>by
    obtain⟨ao,cap,e,_⟩:=(h4 i (List.mem_range.1 hi)).opened;simp only[Function.comp,e]
    rfl
   rw[this];exact h3
  ·have h:=h4 k hk;have e1:((List.range c.progs.length).map Q).getD k undef=Q k:=by simp[List.getD,hk]
   have e2:c.progs.getD k d=c.prog k:=by unfold Cfg.prog;simp[List.getD,hk]
   rw[e1,e2];exact h
theorem busOk_yes {c:Cfg} (hb:Bus c):busOk c.ms (c.lat.map fun(n:Nat)=>(n:Int)) c.progs=true:=by
 unfold busOk;simp only[Bool.and_eq_true,decide_eq_true_eq,List.all_eq_true,List.length_map];refine⟨⟨⟨⟨hb.ms,hb.lat⟩,fun x hx=>?_⟩,hb.progs⟩,fun p hp=>?_⟩
 ·obtain⟨n,hn,rfl⟩:=List.mem_map.1 hx;have:=hb.lat3 n hn;simp[inB];omega
 ·simp only[progOk,Bool.and_eq_true,decide_eq_true_eq,List.all_eq_true];exact⟨hb.most p hp,hb.reqs p hp⟩
theorem busOk_good {c:Cfg} (hb:Bus c) {w:World} {B:Nat} {v:Value} (h:BusV w B v c) (hB:B≤w.heap.size):Calls Tryz.prog 25 #[v] w fun e w' => e=.returned (.bool true)∧Below w.heap.size w w':=by
 have:=zI0 v _ _ _ B w (h.int hb) hB;rw[busOk_yes hb]at this;exact this
def BwT (w:World):Type:={W:World // Below w.heap.size w W}
instance (w:World):Nonempty (BwT w):=⟨⟨w,Below.refl _ _⟩⟩
theorem zH5 {id : Nat} {Q : Exit → Act → World → Prop} {a : Act} {w : World} {l : List Oper} (hm : Tryz.prog.follows .mixedOrders = true) (hB : Region.lexB .any l.toArray = true)
  (h:wpQuiet Tryz.prog l.toArray (fun w' => ∃x:BwT w,w' = x.val) (fun a' => ∀w', (∃x:BwT w,w' = x.val)→Q .normal a' w') l a):(Code.region id l.toArray true).wp Tryz.prog Q a w :=
 wp_region_quiet (C:=fun w' => ∃x:BwT w,w' = x.val) hm hB ⟨⟨w.drew,(Below.refl _ _).drew⟩,rfl⟩ (by simpa using h)
theorem callsB {f:FuncId} {args:Array Value} {w:World} {x:BwT w} {v:Value} (h:Calls Tryz.prog f args x.val fun e w' => e=.returned v∧Below x.val.heap.size x.val w'):Calls Tryz.prog f args x.val fun e w'' => e=.returned v∧∃y:BwT w,w'' = y.val :=
 h.mono fun _ w' ⟨he,hb⟩=>⟨he,⟨w', x.property.trans (hb.mono x.property.size)⟩,rfl⟩
theorem callsS {f:FuncId} {args:Array Value} {w:World} {x:BwT w} {v:Value} (h:Calls Tryz.prog f args x.val fun e w' => e=.returned v∧x.val=w'):Calls Tryz.prog f args x.val fun e w'' => e=.returned v∧∃y:BwT w,w'' = y.val :=
 h.mono fun _ _ ⟨he,hm⟩=>⟨he,x,hm.symm⟩
theorem bcell {w:World} {p:Addr} {v:Value} (h:w.cell? p=some v) (x:BwT w):x.val.cell? p=some v:=(x.property.cell (World.block_lt_of_cell? w p h)).trans h
theorem zA9 {c:Prop} [Decidable c] {a b:Prop} (h:¬c) (hb:b):if c then a else b:=by rw[if_neg h];exact hb
end Go.Proofs.YthnlalffjepdaaaGreat
namespace Go.Proofs.YthnlalffjepdaaaGreat
def down {α : Type} [Inhabited α] (lt : α → α → Bool) : Nat → List α → List α
 |0,l=>l
 |j+1,l=>if lt (l.getD (j+1) default) (l.getD j default)=true then down lt j ((l.set (j+1) (l.getD j default)).set j (l.getD (j+1) default)) else l
def isort {α : Type} [Inhabited α] (lt : α → α → Bool) : Nat → List α → List α
 |0,l=>l
 |i+1,l=>down lt (i+1) (isort lt i l)
theorem down_less {α:Type} [Inhabited α] (lt:α→α→Bool) (j:Nat) (l:List α) (h:lt (l.getD (j+1) default) (l.getD j default)=true):down lt (j+1) l=down lt j ((l.set (j+1) (l.getD j default)).set j (l.getD (j+1) default)):=by
 show(if _ then _ else _)=_;rw[if_pos h]
theorem down_stop {α:Type} [Inhabited α] (lt:α→α→Bool) (j:Nat) (l:List α) (h:lt (l.getD (j+1) default) (l.getD j default)=false):down lt (j+1) l=l:=by
 show(if _ then _ else _)=_;rw[if_neg (by rw[h];simp)]
theorem down_len {α : Type} [Inhabited α] (lt : α → α → Bool) : ∀ (j : Nat) (l : List α), (down lt j l).length = l.length
 |0,_=>rfl
 |j+1,l=>by
  show(if _ then _ else _:List α).length=_
  split
  ·rw[down_len lt j];simp
  ·rfl
theorem isort_len {α : Type} [Inhabited α] (lt : α → α → Bool) : ∀ (i : Nat) (l : List α), (isort lt i l).length = l.length
 |0,_=>rfl
 |i+1,l=>by show(down lt (i+1) (isort lt i l)).length=_;rw[down_len,isort_len lt i l]
def insR {α : Type} (lt : α → α → Bool) (x : α) : List α → List α
 |[]=>[x]
 |y::r=>if lt x y=true then y::insR lt x r else x::y::r
theorem insR_perm {α : Type} (lt : α → α → Bool) (x : α) : ∀ r : List α, (insR lt x r).Perm (x :: r)
 |[]=>List.Perm.refl _
 |y::r=>by
  unfold insR
  split
  ·exact((insR_perm lt x r).cons y).trans (List.Perm.swap x y r)
  ·exact List.Perm.refl _
theorem down_ins {α : Type} [Inhabited α] (lt : α → α → Bool) (x : α) : ∀ (r s : List α), down lt r.length (r.reverse ++ x :: s) = (insR lt x r).reverse ++ s
 |[],s=>by simp[down,insR]
 |y::r,s=>by
  have e1:((y::r).reverse++x::s)=r.reverse++y::x::s:=by simp
  have g1:(r.reverse++y::x::s).getD (r.length+1) default=x:=by simp[List.getD,List.getElem?_append_right]
  have g0:(r.reverse++y::x::s).getD r.length default=y:=by simp[List.getD,List.getElem?_append_right]
  rw[e1];show down lt (r.length+1) _=_;rcases h:lt x y with _|_
  ·rw[down_stop lt _ _ (by rw[g1,g0];exact h)];simp[insR,h]
  ·rw[down_less lt _ _ (by rw[g1,g0];exact h),g1,g0];have e2:((r.reverse++y::x::s).set (r.length+1) y).set r.length x=r.reverse++x::y::s:=by
    rw[List.set_append_right _ _ (by simp),List.set_append_right _ _ (by simp)];simp
   rw[e2,down_ins lt x r (y::s)];simp[insR,h]
theorem down_perm {α:Type} [Inhabited α] (lt:α→α→Bool) (j:Nat) (l:List α) (h:j<l.length):(down lt j l).Perm l:=by
 have e:l=(l.take j).reverse.reverse++l.getD j default::l.drop (j+1):=by
  simp only[List.reverse_reverse];rw[List.getD_eq_getElem?_getD,List.getElem?_eq_getElem h,Option.getD_some,List.getElem_cons_drop,List.take_append_drop]
 have hj:j=(l.take j).reverse.length:=by simp;omega
 have:=down_ins lt (l.getD j default) (l.take j).reverse (l.drop (j+1));rw[←hj,←e]at this;rw[this];refine((List.reverse_perm _).append_right _).trans ?_;refine((insR_perm lt _ _).append_right _).trans ?_
 conv=>rhs;rw[e]
 simp only[List.reverse_reverse,List.cons_append];exact(((List.reverse_perm (l.take j)).append_right _).cons _).trans (List.perm_middle.symm)
theorem isort_perm {α : Type} [Inhabited α] (lt : α → α → Bool) : ∀ (i : Nat) (l : List α), i < l.length → (isort lt i l).Perm l
 |0,_,_=>List.Perm.refl _
 |i+1,l,h=>(down_perm lt (i+1) (isort lt i l) (by rw[isort_len];exact h)).trans (isort_perm lt i l (by omega))
structure Ord3 {α:Type} (lt:α→α→Bool) (le:α→α→Prop):Prop where
 t:∀a b,lt a b=true→le a b
 f:∀a b,lt a b=false→le b a
 tr:∀a b c,le a b→le b c→le a c
theorem insR_sorted {α : Type} {lt : α → α → Bool} {le : α → α → Prop} (O : Ord3 lt le) (x : α) : ∀ r : List α, r.reverse.Pairwise le → (insR lt x r).reverse.Pairwise le
 |[],_=>by simp[insR]
 |y::r,h=>by
  rw[List.reverse_cons,List.pairwise_append]at h;unfold insR
  split
  ·rename_i hl;rw[List.reverse_cons,List.pairwise_append];refine⟨insR_sorted O x r h.1,by simp,fun a ha b hb=>?_⟩;rw[List.mem_singleton]at hb;subst hb;rw[List.mem_reverse]at ha;rcases List.mem_cons.1 ((insR_perm lt x r).mem_iff.1 ha)with rfl|h2
   ·exact O.t _ _ hl
   ·exact h.2.2 a (List.mem_reverse.2 h2) b (by simp)
  ·rename_i hl;have hxy:=O.f x y (by simpa using hl);rw[List.reverse_cons,List.pairwise_append];refine⟨by rw[List.reverse_cons,List.pairwise_append];exact h,by simp,fun a ha b hb=>?_⟩;rw[List.mem_singleton]at hb;subst hb;rw[List.reverse_cons,List.mem_append,List.mem_singleton]at ha;rcases ha with ha|rfl
   ·exact O.tr _ _ _ (h.2.2 a ha y (by simp)) hxy
   ·exact hxy
theorem isort_sorted {α : Type} [Inhabited α] {lt : α → α → Bool} {le : α → α → Prop} (O : Ord3 lt le) : ∀ (i : Nat) (l : List α), i < l.length → ((isort lt i l).take (i + 1)).Pairwise le
 |0,l,h=>by
  show(l.take 1).Pairwise le;rcases l with _|⟨a,l⟩ <;> simp
 |i+1,l,h=>by
  obtain⟨m,hm⟩:∃m,m=isort lt i l:=⟨_,rfl⟩
  have hlen:i+1<m.length:=by rw[hm,isort_len];exact h
  have ih:=isort_sorted O i l (by omega);rw[←hm]at ih;show((down lt (i+1) (isort lt i l)).take (i+1+1)).Pairwise le;rw[←hm];have e:m=(m.take (i+1)).reverse.reverse++m.getD (i+1) default::m.drop (i+1+1):=by
   simp only[List.reverse_reverse];rw[List.getD_eq_getElem?_getD,List.getElem?_eq_getElem hlen,Option.getD_some,List.getElem_cons_drop,List.take_append_drop]
  have hj:i+1=(m.take (i+1)).reverse.length:=by simp;omega
  have h2:=down_ins lt (m.getD (i+1) default) (m.take (i+1)).reverse (m.drop (i+1+1));rw[←hj,←e]at h2;rw[h2,List.take_append_of_le_length (by rw[List.length_reverse,(insR_perm lt _ _).length_eq];simp;omega),List.take_of_length_le (by rw[List.length_reverse,(insR_perm lt _ _).length_eq];simp;omega)];exact insR_sorted O _ _ (by rw[List.reverse_reverse];exact ih)
def zL0 {α:Type} [Inhabited α] (lt:α→α→Bool) (l:List α):List α:=isort lt (l.length - 1) l
theorem zF0 {α:Type} [Inhabited α] (lt:α→α→Bool) (l:List α):(zL0 lt l).Perm l:=by
 unfold zL0;rcases l with _|⟨a,l⟩
 ·exact List.Perm.refl _
 ·exact isort_perm lt _ _ (by simp)
theorem sorted_sorted {α:Type} [Inhabited α] {lt:α→α→Bool} {le:α→α→Prop} (O:Ord3 lt le) (l:List α):(zL0 lt l).Pairwise le:=by
 unfold zL0;rcases l with _|⟨a,l⟩
 ·simp[isort]
 ·have:=isort_sorted O ((a::l).length - 1) (a::l) (by simp)
  rwa [List.take_of_length_le (by rw[isort_len];simp)]at this
def kOf (j:TJ):Nat×Nat:=(j.who,j.n)
def kLt (a b:TJ):Bool:=decide (a.who<b.who) || (a.who==b.who&&decide (a.n<b.n))
def kLe (a b:TJ):Prop:=a.who<b.who∨(a.who=b.who∧a.n≤b.n)
theorem kLt_iff (a b:TJ):kLt a b=true↔a.who<b.who∨(a.who=b.who∧a.n<b.n):=by simp[kLt]
theorem ordK:Ord3 kLt kLe:=by
 refine⟨fun a b h=>?_,fun a b h=>?_,fun a b c h1 h2=>?_⟩
 ·rw[kLt_iff]at h;unfold kLe;omega
 ·have:¬(kLt a b=true):=by rw[h];simp
  rw[kLt_iff]at this;unfold kLe;omega
 ·unfold kLe at *;omega
def kQ (st:Cy) (w:Nat):List (Nat×Nat):=(st.ports w).queue.map fun n=>(w,n)
def kP (st:Cy) (s:Nat):List (Nat×Nat):=(st.slaves s).pipe.map fun j=>(j.who,j.n)
def kD (st:Cy) (s:Nat):List (Nat×Nat):=(st.slaves s).done.map fun j=>(j.who,j.n)
def kWait (st:Cy):List (Nat×Nat):=kQ st 0++kQ st 1++kQ st 2++kP st 0++kP st 1++kP st 2++kP st 3
def kDone (st:Cy):List (Nat×Nat):=kD st 0++kD st 1++kD st 2++kD st 3
def kTold (st:Cy):List (Nat×Nat):=st.told.map fun j=>(j.who,j.n)
def kAll (st:Cy):List (Nat×Nat):=kWait st++kDone st++kTold st
theorem nsOf_q (st:Cy) (w v:Nat):nsOf w (kQ st v)=if v=w then(st.ports w).queue else[]:=by
 unfold nsOf kQ;by_cases h:v=w
 ·subst h;simp[List.filter_map,Function.comp_def]
 ·simp[h,List.filter_map,Function.comp_def]
theorem nsOf_told (st:Cy) (w:Nat):nsOf w (kTold st)=(st.told.filter (fun j=>j.who==w)).map (·.n):=by
 unfold nsOf kTold;simp[List.filter_map,Function.comp_def]
theorem filter4 (l:List Jb) (h:∀j∈l,j.left<4):((l.filter (fun j=>j.left==0))++(l.filter (fun j=>j.left==1))++(l.filter (fun j=>j.left==2))++(l.filter (fun j=>j.left==3))).Perm l:=by
 induction l with
 |nil=>exact List.Perm.refl _
 |cons x l ih=>
  have ih:=ih fun j hj=>h j (List.mem_cons_of_mem _ hj)
  have hx:=h x (by simp);rcases(show x.left=0∨x.left=1∨x.left=2∨x.left=3 by omega)with e|e|e|e
  ·simp only[List.filter_cons,e];simpa using ih
  ·simp only[List.filter_cons,e];simp only[show((1:Nat)==0)=false from rfl,show((1:Nat)==2)=false from rfl,show((1:Nat)==3)=false from rfl,beq_self_eq_true,if_true,Bool.false_eq_true,if_false];refine List.Perm.trans ?_ (ih.cons x);simp only[List.append_assoc,List.cons_append];exact List.perm_middle
  ·simp only[List.filter_cons,e];simp only[show((2:Nat)==0)=false from rfl,show((2:Nat)==1)=false from rfl,show((2:Nat)==3)=false from rfl,beq_self_eq_true,if_true,Bool.false_eq_true,if_false];refine List.Perm.trans ?_ (ih.cons x);simp only[List.append_assoc,List.cons_append];rw[←List.append_assoc,←List.append_assoc];exact List.perm_middle
  ·simp only[List.filter_cons,e];simp only[show((3:Nat)==0)=false from rfl,show((3:Nat)==1)=false from rfl,show((3:Nat)==2)=false from rfl,beq_self_eq_true,if_true,Bool.false_eq_true,if_false];exact List.Perm.trans List.perm_middle (ih.cons x)
theorem slv_lt4 {ms:List MR} (h:mapOk ms=true) (r:Rq):(zK6 ms r).toNat<4:=by
 unfold zK6
 split
 ·simp
 ·rename_i hh;have hlt:=zG1 ms (zA6 r);have hk:(zA5 ms (zA6 r)).toNat<ms.length:=by omega
  simp only[mapOk,Bool.and_eq_true,List.all_eq_true]at h;have h2:=h.2 _ (List.mem_range.2 hk);simp only[zK9,Bool.and_eq_true,inB,decide_eq_true_eq]at h2;omega
theorem Good.all {c:Cfg} (hb:Bus c) {st:Cy} (h:Good c st) {w:Nat} (hw:w<3):(nsOf w (kAll st)).Perm (List.range (st.ports w).next):=by
 have hp:=h.p w hw;have hkeys:∀s,(nsOf w (kD st s)++nsOf w (kP st s))=nsOf w (zA8 (st.slaves s)):=fun s=>by rw[←zM1];rfl
 have hl:=fun s hs=>h.link s w hs hw
 have h4:=(filter4 (st.ports w).out (fun j hj=>by rw[(hp.o j hj).2.1];exact slv_lt4 hb.ms _)).map (·.n);simp only[List.map_append]at h4;rw[←hl 0 (by omega),←hl 1 (by omega),←hl 2 (by omega),←hl 3 (by omega)]at h4;have hq:nsOf w (kQ st 0++kQ st 1++kQ st 2)=(st.ports w).queue:=by
  simp only[zM1,nsOf_q];rcases(show w=0∨w=1∨w=2 by omega)with rfl|rfl|rfl <;> simp
 have hr:(List.range (st.ports w).next)=List.range ((st.ports w).next - (st.ports w).queue.length)++(st.ports w).queue:=by
  rw[List.range_eq_range', List.range_eq_range'];have:=hp.qn
  conv=>lhs;rw[show(st.ports w).next=((st.ports w).next - (st.ports w).queue.length)+(st.ports w).queue.length by omega,←List.range'_append_1]
  rw[Nat.zero_add,←hp.q]
 rw[hr];refine List.Perm.trans ?_ ((h.part w hw).append_right _);have e:nsOf w (kAll st)=(st.ports w).queue++nsOf w (kP st 0)++nsOf w (kP st 1)++nsOf w (kP st 2)++nsOf w (kP st 3)++nsOf w (kD st 0)++nsOf w (kD st 1)++nsOf w (kD st 2)++nsOf w (kD st 3)++nsOf w (kTold st):=by
  rw[←hq];simp only[kAll,kWait,kDone,zM1,List.append_assoc]
 rw[e,nsOf_told];simp only[←hkeys]at h4;obtain⟨Q,hQ⟩:∃Q,Q=(st.ports w).queue:=⟨_,rfl⟩
 rw[←hQ];generalize nsOf w (kP st 0)=a0 at *;generalize nsOf w (kP st 1)=a1 at *;generalize nsOf w (kP st 2)=a2 at *;generalize nsOf w (kP st 3)=a3 at *;generalize nsOf w (kD st 0)=b0 at *;generalize nsOf w (kD st 1)=b1 at *;generalize nsOf w (kD st 2)=b2 at *;generalize nsOf w (kD st 3)=b3 at *;generalize (st.told.filter (fun j=>j.who==w)).map (·.n)=T at *;have hc:∀a:Nat,List.count a ((st.ports w).out.map (·.n))=List.count a (b0++a0++(b1++a1)++(b2++a2)++(b3++a3)):=fun a=>(h4.count_eq a).symm
 rw[List.perm_iff_count];intro a;have:=hc a;simp only[List.count_append]at this ⊢;omega
theorem Good.kin {c:Cfg} (hb:Bus c) {st:Cy} (h:Good c st) {k:Nat×Nat} (hk:k∈kAll st):k.1<3∧k.2<(st.ports k.1).next:=by
 have hw:k.1<3:=by
  simp only[kAll,kWait,kDone,kTold,kQ,kP,kD,List.mem_append,List.mem_map]at hk;have hs:∀s,s<4→k∈zA8 (st.slaves s)→k.1<3:=fun s hs hk=>(h.s s hs).w3 k hk
  simp only[zA8,List.mem_append,List.mem_map]at hs;rcases hk with((((((((⟨n,_,rfl⟩|⟨n,_,rfl⟩)|⟨n,_,rfl⟩)|hk)|hk)|hk)|hk))|(((hk|hk)|hk)|hk))|⟨j,hj,rfl⟩
  ·simp
  ·simp
  ·simp
  ·exact hs 0 (by omega) (.inr hk)
  ·exact hs 1 (by omega) (.inr hk)
  ·exact hs 2 (by omega) (.inr hk)
  ·exact hs 3 (by omega) (.inr hk)
  ·exact hs 0 (by omega) (.inl hk)
  ·exact hs 1 (by omega) (.inl hk)
  ·exact hs 2 (by omega) (.inl hk)
  ·exact hs 3 (by omega) (.inl hk)
  ·exact(h.t j hj).1
 refine⟨hw,?_⟩;have:=(h.all hb hw).mem_iff.1 (mem_nsOf.2 (show(k.1,k.2)∈kAll st from hk));exact List.mem_range.1 this
theorem nodup_of_ns {l:List (Nat×Nat)} (h:∀w,(nsOf w l).Nodup):l.Nodup:=by
 induction l with
 |nil=>exact List.nodup_nil
 |cons k l ih=>
  rw[List.nodup_cons]
  constructor
  ·intro hk;have:=h k.1;have e:nsOf k.1 (k::l)=k.2::nsOf k.1 l:=zM0 k.1 k.2 l;rw[e,List.nodup_cons]at this;exact this.1 (mem_nsOf.2 hk)
  ·refine ih fun w=>?_
   have:=h w;by_cases e:k.1=w
   ·subst e;rw[show nsOf k.1 (k::l)=k.2::nsOf k.1 l from zM0 k.1 k.2 l,List.nodup_cons]at this;exact this.2
   ·rwa [show nsOf w (k::l)=nsOf w l from zG9 k.2 l e]at this
theorem Good.nodup {c:Cfg} (hb:Bus c) {st:Cy} (h:Good c st):(kAll st).Nodup:=by
 refine nodup_of_ns fun w=>?_
 by_cases hw:w<3
 ·exact(h.all hb hw).nodup_iff.2 List.nodup_range
 ·have:nsOf w (kAll st)=[]:=by
   rw[List.eq_nil_iff_forall_not_mem];intro n hn;have:=(h.kin hb (mem_nsOf.1 hn)).1;omega
  rw[this];exact List.nodup_nil
theorem len_of_ns (l:List (Nat×Nat)) (h:∀k∈l,k.1<3):l.length=(nsOf 0 l).length+(nsOf 1 l).length+(nsOf 2 l).length:=by
 induction l with
 |nil=>rfl
 |cons k l ih=>
  have ih:=ih fun x hx=>h x (List.mem_cons_of_mem _ hx)
  have hk:=h k (by simp);obtain⟨a,b⟩:=k;simp only at hk;rcases(show a=0∨a=1∨a=2 by omega)with rfl|rfl|rfl
  ·rw[zM0,zG9 _ _ (by omega),zG9 _ _ (by omega)];simp only[List.length_cons];omega
  ·rw[zM0,zG9 _ _ (by omega),zG9 _ _ (by omega)];simp only[List.length_cons];omega
  ·rw[zM0,zG9 _ _ (by omega),zG9 _ _ (by omega)];simp only[List.length_cons];omega
theorem Good.many {c:Cfg} (hb:Bus c) {st:Cy} (h:Good c st):(kAll st).length=(st.ports 0).next+(st.ports 1).next+(st.ports 2).next:=by
 rw[len_of_ns _ fun k hk=>(h.kin hb hk).1];have e:=fun w (hw:w<3)=>(h.all hb hw).length_eq
 simp only[List.length_range]at e;rw[e 0 (by omega),e 1 (by omega),e 2 (by omega)]
end Go.Proofs.YthnlalffjepdaaaGreat
namespace Go.Proofs.YthnlalffjepdaaaGreat
open Go.RowKit
abbrev KEY:TypeId:=177
def kv (a b:Nat):Value:=.agg #[.int .i64 a,.int .i64 b]
theorem keys_some:((List.range 3).all fun a=>(List.range 12).all fun b=>(keyOf Tryz.prog KEY (kv a b)).isSome)=true:=by kernel_rfl
noncomputable def kl (a b:Nat):Lit:=(keyOf Tryz.prog KEY (kv a b)).getD (.bool false)
theorem keyOf_kv {a b:Nat} (ha:a<3) (hb:b<12):keyOf Tryz.prog KEY (kv a b)=some (kl a b):=by
 have h:=keys_some;rw[List.all_eq_true]at h;have h1:=h a (List.mem_range.2 ha);rw[List.all_eq_true]at h1;have h2:=h1 b (List.mem_range.2 hb);unfold kl;rcases e:keyOf Tryz.prog KEY (kv a b)with _|l
 ·rw[e]at h2;cases h2
 ·rfl
theorem laidP:laidOutB Tryz.prog=true:=by kernel_rfl
theorem law_key:Maps.Keyed Tryz.prog KEY:=Maps.Keyed.of_law (deep_law_laid laidP (m:=2) (by omega) (of_decide_eq_true (by kernel_rfl)) (by kernel_rfl) (by kernel_rfl))
theorem kl_inj {a b a' b':Nat} (ha:a<3) (hb:b<12) (ha':a' < 3) (hb':b' < 12) (h:kl a b=kl a' b'):a=a' ∧ b=b':=by
 have h1:=keyOf_kv ha hb;have h2:=keyOf_kv ha' hb';rw[←h]at h2;have:=law_key.inj h1 h2;simp only[kv,Value.agg.injEq,Array.mk.injEq,List.cons.injEq,Value.int.injEq,true_and,and_true]at this;omega
theorem mapKB_under:Tryz.prog.underlying 174=some (.map KEY 4):=by kernel_rfl
theorem zero_bool (w:World):(zeroValue 4).run Tryz.prog w=.ok (.bool false) w:=by kernel_rfl
def SetM (w : World) (b : Nat) (L : List (Nat × Nat)) : Prop := ∃ D : DataW Unit, w.ownsMap Tryz.prog KEY (plainElem Tryz.prog 4) b L.length D ∧ Maps.size D = L.length ∧
 ∀x y,x<3→y<12→D.atKey (kl x y) (.lit (.bool false))=.lit (.bool (decide ((x,y)∈L)))  ∧ Maps.has D (kl x y)=decide ((x,y)∈L)
theorem SetM.below {w w':World} {b:Nat} {L:List (Nat×Nat)} (h:SetM w b L) (hb:Below w.heap.size w w'):SetM w' b L:=by
 obtain⟨D,h1,h2⟩:=h;have hlt:=h1.lt;obtain⟨es,clock,e1,e2⟩:=h1;exact⟨D,⟨es,clock,(hb.block b hlt).trans e1,e2⟩,h2⟩
theorem SetM.lt {w:World} {b:Nat} {L:List (Nat×Nat)} (h:SetM w b L):b<w.heap.size:=h.choose_spec.1.lt
theorem SetM.new (w:World):SetM (w.alloc (.map #[] 0)) w.heap.size []:=⟨.map [],World.ownsMap_made _ _ _ _,rfl,fun x y _ _=>⟨by simp[DataW.atKey],by simp[Maps.has]⟩⟩
set_option maxRecDepth 20000 in
theorem SetM.look {w:World} {b:Nat} {L:List (Nat×Nat)} (h:SetM w b L) {x y:Nat} (hx:x<3) (hy:y<12) (hn:(x,y) ∉ L):(Instr.lookup 174 (.map (some b)) (.agg #[.int .i64 x,.int .i64 y]) false).run Tryz.prog w=.ok (.bool false) w:=by
 obtain⟨D,h1,h2,h3⟩:=h;obtain⟨v,ps,hr,hv⟩:=h1.lookup law_key mapKB_under (zero_bool w) (plainElem_bool Tryz.underlying4 false) (keyOf_kv hx hy);rw[(h3 x y hx hy).1,decide_eq_false hn]at hv;have:v=.bool false:=by
  unfold plainElem at hv;rw[Tryz.underlying4]at hv;cases v <;> simp at hv;simpa using hv.1
 rw[this]at hr;exact hr
set_option maxRecDepth 20000 in
theorem SetM.put {w w' : World} {b : Nat} {L : List (Nat × Nat)} {D : DataW Unit} (h1 : w.ownsMap Tryz.prog KEY (plainElem Tryz.prog 4) b L.length D) (h2 : Maps.size D = L.length)
  (h3:∀x y,x<3→y<12→D.atKey (kl x y) (.lit (.bool false))=.lit (.bool (decide ((x,y)∈L)))  ∧ Maps.has D (kl x y)=decide ((x,y)∈L)) {x y:Nat} (hx:x<3) (hy:y<12) (hn:(x,y) ∉ L)
  (h:w'.ownsMap Tryz.prog KEY (plainElem Tryz.prog 4) b (L.length+1) (D.put (kl x y) (.lit (.bool true)))):SetM w' b (L++[(x,y)]):=by
 have hk:=law_key.key (keyOf_kv hx hy);refine⟨_,by rw[List.length_append];exact h,?_,fun a c ha hc=>?_⟩
 ·rw[Maps.size_put (h1.tidy law_key),(h3 x y hx hy).2,decide_eq_false hn];simp[h2]
 ·by_cases e:a=x∧c=y
  ·obtain⟨rfl,rfl⟩:=e;exact⟨by rw[Maps.atKey_put_same h1.isMap hk];simp,by rw[Maps.has_put_same h1.isMap hk];simp⟩
  ·have hne:kl a c≠kl x y:=fun h=>e (kl_inj ha hc hx hy h)
   rw[Maps.atKey_put_other hne,Maps.has_put_other hne,(h3 a c ha hc).1,(h3 a c ha hc).2];have:decide ((a,c)∈L)=decide ((a,c)∈L++[(x,y)]):=by
    rw[decide_eq_decide];simp only[List.mem_append,List.mem_singleton,Prod.mk.injEq];exact⟨fun h=>.inl h,fun h=>h.resolve_right e⟩
   exact⟨by rw[this],this⟩
def icmp (a b:Int):Int:=if a<b then -1 else if b<a then 1 else 0
theorem isNaN_any (a:Int) (w:World):Calls Tryz.prog 181 #[.int .i64 a] w fun e w' => e=.returned (.bool false)∧w=w':=by
 go_enter Tryz.func181,Tryz.ntmps181
 go_wp2
 go_ret
 exact⟨by simp,rfl⟩
theorem cmpInt_any (a b:Int) (w:World):Calls Tryz.prog 145 #[.int .i64 a,.int .i64 b] w fun e w' => e=.returned (.int .i64 (icmp a b))∧w=w':=by
 rcases Int.lt_trichotomy a b with h|h|h
 ·have HI:=hid (show icmp a b = -1 by unfold icmp;rw[if_pos h])
  go_enter Tryz.func145,Tryz.ntmps145
  go_wp2_with (go_at_call 181;refine(isNaN_any _ _).mono ?_;rintro e w' ⟨rfl,rfl⟩)
  go_ret
  exact⟨by rw[HI.out];rfl,rfl⟩
 ·subst h;have HI:=hid (show icmp a a=0 by unfold icmp;simp);have h1:decide (a<a)=false:=by simp
  go_enter Tryz.func145,Tryz.ntmps145
  go_wp2_with (go_at_call 181;refine(isNaN_any _ _).mono ?_;rintro e w' ⟨rfl,rfl⟩)
  go_ret
  exact⟨by rw[HI.out];rfl,rfl⟩
 ·have HI:=hid (show icmp a b=1 by unfold icmp;rw[if_neg (by omega),if_pos h]);have h1:decide (a<b)=false:=by rw[decide_eq_false_iff_not];omega
  go_enter Tryz.func145,Tryz.ntmps145
  go_wp2_with (go_at_call 181;refine(isNaN_any _ _).mono ?_;rintro e w' ⟨rfl,rfl⟩)
  go_ret
  exact⟨by rw[HI.out];rfl,rfl⟩
theorem or_any (a b : Int) (g c : Nat) (w : World) (h0 : w.cell? ⟨g, 0, none⟩ = some (.int .i64 a)) (h1 : w.cell? ⟨g, 1, none⟩ = some (.int .i64 b)) :
  Calls Tryz.prog 144 #[.slice (some ⟨g,0,none⟩) 2 c] w fun e w' => e=.returned (.int .i64 (if a=0 then b else a))∧w=w':=by
 by_cases ha:a=0
 ·subst ha;by_cases hb:b=0
  ·subst hb
   go_enter Tryz.func144,Tryz.ntmps144
   go_wp2_with fail
   refine wp_loop_rounds 3 ?_
   iterate 3 (first|(rw[rounds_succ];go_wp2_with fail))
   go_ret
   exact⟨by simp,rfl⟩
  ·have hb':(b != 0)=true:=by simpa using hb
   go_enter Tryz.func144,Tryz.ntmps144
   go_wp2_with fail
   refine wp_loop_rounds 3 ?_;rw[rounds_succ];go_wp2_with fail;rw[rounds_succ];go_wp2_with fail
   go_ret
   exact⟨by simp,rfl⟩
 ·have ha':(a != 0)=true:=by simpa using ha
  go_enter Tryz.func144,Tryz.ntmps144
  go_wp2_with fail
  refine wp_loop_rounds 3 ?_;rw[rounds_succ];go_wp2_with fail
  go_ret
  exact⟨by simp[ha],rfl⟩
def kcmp (a b:TJ):Int:=if icmp a.who b.who=0 then icmp a.n b.n else icmp a.who b.who
theorem kcmp_lt (a b:TJ):decide (kcmp a b<0)=kLt a b:=by
 rw[Bool.eq_iff_iff,decide_eq_true_eq,kLt_iff];unfold kcmp icmp
 split <;> (try split) <;> (try split) <;> omega
theorem kcmp_ge (a b:TJ):decide (0≤kcmp a b)=!kLt a b:=by
 rw[←kcmp_lt];by_cases h:0≤kcmp a b
 ·rw[decide_eq_true h,decide_eq_false (by omega)];rfl
 ·rw[decide_eq_false h,decide_eq_true (by omega)];rfl
def CmpP (a b:TJ) (w:World) (e:Ending) (w':World):Prop:=e=.returned (.int .i64 (kcmp a b))∧Below w.heap.size w w'
set_option maxRecDepth 8000 in
theorem cmpJobs_any (a b : TJ) (x1 x2 : Option Addr) (n1 c1 n2 c2 : Nat) (w : World) :
  Calls Tryz.prog 97 #[.agg #[.int .i64 a.who,.int .i64 a.n,.int .i64 a.rsp.id,.int .i64 a.rsp.code,.slice x1 n1 c1],.agg #[.int .i64 b.who,.int .i64 b.n,.int .i64 b.rsp.id,.int .i64 b.rsp.code,.slice x2 n2 c2]] w (CmpP a b w):=by
 obtain⟨aw,an,ar⟩:=a;obtain⟨bw,bn,br⟩:=b;obtain⟨w0,hw0⟩:∃W,W=((w.alloc (.cells #[.int .i64 aw,.int .i64 an,.int .i64 ar.id,.int .i64 ar.code,.slice x1 n1 c1] 85)).alloc (.cells #[.int .i64 bw,.int .i64 bn,.int .i64 br.id,.int .i64 br.code,.slice x2 n2 c2] 85)):=⟨_,rfl⟩
 have HB0:=hid (show Below w.heap.size w w0 by rw[hw0];exact((Below.refl _ _).alloc (Nat.le_refl _) _).alloc (by simp) _);have HP:=hid (show kcmp ⟨aw,an,ar⟩ ⟨bw,bn,br⟩=if icmp aw bw=0 then icmp an bn else icmp aw bw from rfl);have p0:w0.cell? ⟨w.heap.size,0,none⟩=some (.int .i64 aw):=by rw[hw0];simp[go_sem]
 have p1:w0.cell? ⟨w.heap.size,1,none⟩=some (.int .i64 an):=by rw[hw0];simp[go_sem]
 have q0:w0.cell? ⟨w.heap.size+1,0,none⟩=some (.int .i64 bw):=by rw[hw0];simp[go_sem]
 have q1:w0.cell? ⟨w.heap.size+1,1,none⟩=some (.int .i64 bn):=by rw[hw0];simp[go_sem]
 obtain⟨i1,hi1⟩:∃x,x=icmp aw bw:=⟨_,rfl⟩
 obtain⟨i2,hi2⟩:∃x,x=icmp an bn:=⟨_,rfl⟩
 rw[←hi1,←hi2]at HP;have HI1:=hid hi1;have HI2:=hid hi2;clear hi1 hi2
 go_enter Tryz.func97,Tryz.ntmps97
 go_upto_region 1 with fail
 rw[←hw0];clear hw0;refine wp_region_still_tail 10 (by kernel_rfl) (by kernel_rfl) ?_;obtain⟨w9,hw9⟩:∃w9,w9=w0.drew:=⟨_,rfl⟩
 change wpStill Tryz.prog _ w0.drew (fun a' => wpList Tryz.prog _ _ _ a' w0.drew) _ _;have r0:w9.cell? ⟨w.heap.size,0,none⟩=some (.int .i64 aw):=by rw[hw9];exact p0
 have r1:w9.cell? ⟨w.heap.size,1,none⟩=some (.int .i64 an):=by rw[hw9];exact p1
 have s0:w9.cell? ⟨w.heap.size+1,0,none⟩=some (.int .i64 bw):=by rw[hw9];exact q0
 have s1:w9.cell? ⟨w.heap.size+1,1,none⟩=some (.int .i64 bn):=by rw[hw9];exact q1
 have HB9:=hid (show Below w.heap.size w w9 by rw[hw9];exact HB0.out.drew);rw[←hw9];clear hw9 p0 p1 q0 q1;simp only[List.take_succ_cons,List.take_zero,List.drop_succ_cons,List.drop_zero]
 repeat still_step
 have HC1:=hid (cmpInt_any (aw:Nat) (bw:Nat) w9);rw[←HI1.out]at HC1;have HC2:=hid (cmpInt_any (an:Nat) (bn:Nat) w9);rw[←HI2.out]at HC2
 still_call ((HC1.out).mono (fun _ _ h=>⟨h.1,h.2.symm⟩))
 repeat still_step
 still_call ((HC2.out).mono (fun _ _ h=>⟨h.1,h.2.symm⟩))
 repeat still_step
 refine wpStill_nil ?_
 go_wp2_with (go_at_call 144;(with_reducible refine(or_any i1 i2 _ _ _ (by simp[go_sem]) (by simp[go_sem])).mono ?_);rw[←HP.out];rintro e w8 ⟨rfl,rfl⟩)
 go_ret
 exact⟨rfl,HB9.out.alloc HB9.out.size _⟩
theorem elem_TlmJob:Elem 44 85 5 56:=zE8 Tryz.underlying44 (z:=.agg #[.int .i64 0,.int .i64 0,.int .i64 0,.int .i64 0,.slice none 0 0]) (by kernel_rfl) rfl (by omega)
theorem sClone_TlmJob {α : Type} (f : α → List Value) (hf : ∀ x, (f x).length = 5) (h1 : ∀ x, ∀ u ∈ f x, u.oneCell' = true) (v : Value) (ys : List α) (B : Nat) (w : World) (ha : Arr w B 5 v (ys.map f)) (hlen : ys.length * 56 ≤ 140737488355328) :
  Calls Tryz.prog 153 #[v] w (zK4 f 85 5 ys w):=by
 have ha0:=hid ha;obtain⟨ao,cap,rfl,g1,g2,g0,g9,g3⟩:=ha;simp only[List.length_map]at g1 g2 g0 ⊢;clear g3;cases ao with
 |none=>
  obtain rfl:=g9 rfl;have hy:ys=[]:=by
   rcases ys with _|⟨y,ys⟩
   ·rfl
   ·simp at g1
  subst hy;have he:=fun w=>Lib.run_eql_slice_nil (P:=Tryz.prog) w 44 85 none 0 0 0 0 Tryz.underlying44
  go_enter Tryz.func153,Tryz.ntmps153
  go_wp2_with fail
  go_ret
  exact⟨_,rfl,Owns.zero,Below.refl _ _⟩
 |some ad=>
  have he:=fun w=>Lib.run_eql_slice_nil (P:=Tryz.prog) w 44 85 (some ad) ys.length cap 0 0 Tryz.underlying44
  clear g9
  go_enter Tryz.func153,Tryz.ntmps153
  go_wp2_with (at_builtin;go_must (refine zE9 elem_TlmJob f hf h1 _ rfl _ _ rfl w.heap.size _ [] (by rfl) (Owns.lit (Nat.le_refl _)) _ ys (min B w.heap.size) (by rfl) (by have:=(ha0.out).fit (by omega) (by intro r hr;obtain⟨y,_,rfl⟩:=List.mem_map.1 hr;exact hf y);simp only[List.length_map]at this;exact this.below ((Below.refl _ _).alloc (Nat.min_le_right _ _) _)) (by simpa using hlen) (by simp;omega) (by simp) ?_);intro v' w1 hown1 hb1 _)
  go_ret
  exact⟨v', rfl,by simpa using hown1,((Below.refl _ _).alloc (Nat.le_refl _) _).trans hb1⟩
theorem sClip_TlmJob (a:Option Addr) (n c:Nat) (w:World) (hc:n≤c) (hm:c≤9223372036854775807):Calls Tryz.prog 152 #[.slice a n c] w fun e w' => e=.returned (.slice a n n)∧w=w':=by
 go_enter Tryz.func152,Tryz.ntmps152
 go_wp2_with fail
 go_ret
 exact⟨rfl,rfl⟩
theorem clone_TlmJob {α : Type} (f : α → List Value) (hf : ∀ x, (f x).length = 5) (h1 : ∀ x, ∀ u ∈ f x, u.oneCell' = true) (v : Value) (ys : List α) (B : Nat) (w : World) (ha : Arr w B 5 v (ys.map f)) (hlen : ys.length * 56 ≤ 140737488355328) :
  Calls Tryz.prog 109 #[v] w (zK4 f 85 5 ys w):=by
 go_enter Tryz.func109,Tryz.ntmps109
 go_wp2_with fail
 refine(sClone_TlmJob f hf h1 v ys B w ha hlen).mono ?_;rintro e w1 ⟨u,rfl,hown,hb⟩;obtain⟨a,c,rfl,hc1,hc2⟩:=hown.shape
 go_wp2_with fail
 refine(sClip_TlmJob a ys.length c _ hc1 hc2).mono ?_;rintro e w2 ⟨rfl,rfl⟩
 go_wp2_with fail
 go_ret
 exact⟨_,rfl,hown.clip,hb⟩
abbrev TJA:=TJ×(Option Addr×Nat×Nat)
def toA (x:TJA):TJV:=(x.1,.slice x.2.1 x.2.2.1 x.2.2.2)
def rowA (x:TJA):List Value:=tjRow (toA x)
theorem zD8 (x:TJA):(rowA x).length=5:=rfl
theorem rowA_one (x:TJA):∀u∈rowA x,u.oneCell' = true:=by
 intro u hu;simp only[rowA,toA,tjRow,List.mem_cons,List.not_mem_nil,or_false]at hu;rcases hu with rfl|rfl|rfl|rfl|rfl <;> rfl
theorem exA : ∀ (D : List TJV), (∀ x ∈ D, ∃ a n c, x.2 = .slice a n c) → ∃ A : List TJA, A.map toA = D
 |[],_=>⟨[],rfl⟩
 |x::D,h=>by
  obtain⟨A,hA⟩:=exA D fun y hy=>h y (by simp[hy])
  obtain⟨a,n,c,e⟩:=h x (by simp);exact⟨(x.1,a,n,c)::A,by simp only[List.map_cons,hA,toA,←e]⟩
theorem owns_map {α β:Type} {w:World} {base e sz:Nat} {f:β→List Value} {g:α→β} {v:Value} {xs:List α} (h:Owns w base e sz (fun x=>f (g x)) v xs):Owns w base e sz f v (xs.map g):=by
 unfold Owns at h ⊢;rw[List.length_map,List.flatMap_map];exact h
def CjP (D:List TJV) (w:World) (e:Ending) (w':World):Prop :=
 ∃u D', e=.returned u∧Owns w' w.heap.size 85 5 tjRow u D' ∧ D'.map (·.1)=D.map (·.1)∧(∀x∈D', IntsD w' (fun b=>w.heap.size≤b∧b<w'.heap.size∧u.ownBlock≠some b) x.2 x.1.rsp.data)∧Below w.heap.size w w'
theorem zH3 (D : List TJV) (v : Value) (B : Nat) (w : World) (hv : Arr w B 5 v (D.map tjRow)) (hd : ∀ x ∈ D, Ints w B x.2 x.1.rsp.data) (hB : B ≤ w.heap.size) (hl : D.length ≤ 1000) (hdl : ∀ x ∈ D, x.1.rsp.data.length ≤ 1000) :
  Calls Tryz.prog 64 #[v] w (CjP D w):=by
 obtain⟨A,rfl⟩:=exA D fun x hx=>by obtain⟨ao,cap,e,_⟩:=(hd x hx).1;exact⟨_,_,_,e⟩
 rw[List.map_map]at hv;have HV:=hid hv;have HD:=hid hd;have HDL:=hid hdl;rw[List.length_map]at hl;clear hv hd hdl
 go_enter Tryz.func64,Tryz.ntmps64
 go_wp2_with fail
 refine(clone_TlmJob rowA zD8 rowA_one _ A B w HV.out (by omega)).mono ?_;rintro e w1 ⟨u,rfl,ho,hb⟩;obtain⟨ua,uc,rfl,huc,huc2⟩:=ho.shape;have HO:=hid ho;have HB:=hid hb;clear ho hb
 go_wp2_with fail
 go_loopw [10] (fun i wr=>∃k:Nat,k≤A.length∧i=.int .i64 k∧(∃A', A'.length=A.length∧Owns wr w.heap.size 85 5 rowA (.slice ua A.length uc) A' ∧ A'.map (·.1)=A.map (·.1)∧(∀j,j<k→∀x,A'[j]? = some x→IntsD wr (fun b=>w.heap.size≤b∧b<wr.heap.size∧(Value.slice ua A.length uc).ownBlock≠some b) (toA x).2 x.1.rsp.data)∧(∀j,k≤j→A'[j]? = A[j]?))∧Below w.heap.size w wr) (fun i _=>A.length - (intOf i).toNat)
 case atStart=>exact⟨0,by omega,rfl,⟨A,rfl,HO.out,rfl,fun j hj=>by omega,fun _ _=>rfl⟩,HB.out⟩
 case round=>
  obtain⟨k,hk,rfl,⟨A', hl', ho', hm', hn', hs'⟩,hbl⟩:=hrel;by_cases hlt:k<A.length
  ·have hlti:(k:Int)<(A.length:Int):=by omega
   obtain⟨g,off,cap,hvs,hcap,hcap2,hgb,hgz⟩:=OwnR.addr ho' (by omega);simp only[Value.slice.injEq]at hvs;obtain⟨rfl,hll,rfl⟩:=hvs;clear hll;obtain⟨x,hx⟩:∃x,A'[k]? = some x:=⟨A'[k]'(by omega),List.getElem?_eq_getElem _⟩
   have hgd:A'.getD k default=x:=by simp[List.getD,hx]
   have hc:∀i,i<5→wr.cell? ⟨g,off+k * 5+i,none⟩=(rowA x)[i]?:=fun i hi=>by rw[←hgd];exact Owns.cellAt ho' zD8 k i default (by omega) hi
   obtain⟨⟨wh,n,ri,rc,rd⟩,da,dn,dc⟩:=x;have c0:=hc 0 (by omega);have c1:=hc 1 (by omega);have c2:=hc 2 (by omega);have c3:=hc 3 (by omega);have c4:=hc 4 (by omega);simp only[rowA,toA,tjRow,List.getElem?_cons_zero,List.getElem?_cons_succ,Nat.add_zero]at c0 c1 c2 c3 c4;have hfz:=Owns.frozenAt ho';have hxm:((⟨wh,n,ri,rc,rd⟩,da,dn,dc):TJA)∈A:=List.mem_of_getElem? (by rw[←hs' k (by omega)];exact hx);have hxd:Ints w B (.slice da dn dc) rd:=HD.out _ (List.mem_map.2 ⟨_,hxm,rfl⟩);have hxl:rd.length≤1000:=HDL.out _ (List.mem_map.2 ⟨_,hxm,rfl⟩);have hsz:=ho'.1;have hbl2:Below w.heap.size w (wr.alloc (.cells #[.int .i64 (wh:Nat),.int .i64 (n:Nat),.int .i64 ri,.int .i64 rc,.slice da dn dc] 85)):=hbl.alloc hbl.size _;have hbl1:Below wr.heap.size wr (wr.alloc (.cells #[.int .i64 (wh:Nat),.int .i64 (n:Nat),.int .i64 ri,.int .i64 rc,.slice da dn dc] 85)):=(Below.refl _ _).alloc (Nat.le_refl _) _;have HL:=hid hl';have HO':=hid ho';have HM:=hid hm';have HN:=hid hn';have HS:=hid hs';have HBL:=hid hbl;have HX:=hid hx;have HFZ:=hid hfz;have HB2:=hid hbl2;have HB1:=hid hbl1;have HXD:=hid hxd;have HXL:=hid hxl;clear hl' ho' hm' hn' hs' hbl hx hgd hc hfz hbl2 hbl1 hxm hxd hsz
   go_upto_region 5 with fail
   obtain⟨w2,hw2⟩:∃W,W=wr.alloc (.cells #[.int .i64 (wh:Nat),.int .i64 (n:Nat),.int .i64 ri,.int .i64 rc,.slice da dn dc] 85):=⟨_,rfl⟩
   rw[←hw2]at HB2 HB1;rw[←hw2];have d4:w2.cell? ⟨wr.heap.size,4,none⟩=some (.slice da dn dc):=by rw[hw2,World.cell?_alloc_at _ _ _ _ rfl];rfl
   have hz2:w2.heap.size=wr.heap.size+1:=by rw[hw2];simp
   clear hw2 c0 c1 c2 c3 c4;have hfz2:w2.frozen? ⟨g,off+k * 5+4,none⟩=false:=(HB1.out.frozen (p:=⟨g,_,none⟩) hgz).trans (HFZ.out _);have c42:w2.cell? ⟨g,off+k * 5+4,none⟩=some (.slice da dn dc):=by
    rw[HB1.out.cell (p:=⟨g,_,none⟩) hgz];have:=Owns.cellAt HO'.out zD8 k 4 default (by rw[HL.out];exact hlt) (by omega);rw[this,show A'.getD k default=((⟨wh,n,ri,rc,rd⟩,da,dn,dc):TJA) by simp[List.getD,HX.out]];rfl
   have hg2:g<w2.heap.size:=by omega
   have HXA:=hid (show Arr w2 B 1 (.slice da dn dc) (rd.map rowI) from(HXD.out.below (HB2.out.mono hB)).1)
   go_wp2_with (first
    |(go_at_call 110;(with_reducible refine(zH4 rowI zD7 zF7 _ rd B w2 HXA.out (by omega)).mono ?_);rintro e w3 ⟨u2,rfl,ho2,hb2⟩;obtain⟨ba,bc,rfl,_,_⟩:=ho2.shape;have hfz3:=(hb2.frozen (p:=⟨g,off+k * 5+4,none⟩) hg2).trans hfz2;have c43:=(hb2.cell (p:=⟨g,off+k * 5+4,none⟩) hg2).trans c42;have HO2:=hid ho2;have HB3:=hid hb2;clear ho2 hb2))
   have hw:=HB1.out.trans (HB3.out.mono HB1.out.size);have hbw:Below w.heap.size w w3:=HB2.out.trans (HB3.out.mono HB2.out.size);have hsz3:=HB3.out.size;obtain⟨y,hy⟩:∃y:TJA,y=(⟨wh,n,ri,rc,rd⟩,ba,rd.length,bc):=⟨_,rfl⟩
   have ho4:=Owns.putRow (OwnR.kept HO'.out (fun b hb=>hw.block b (OwnR.lt HO'.out b hb).2)) zD8 k 4 default y (.slice ba rd.length bc) (by rw[HL.out];exact hlt) (by omega) (by rw[show A'.getD k default=((⟨wh,n,ri,rc,rd⟩,da,dn,dc):TJA) by simp[List.getD,HX.out],hy];rfl);have hset:∀b,b≠g→(w3.setCell ⟨g,off+k * 5+4,none⟩ (.slice ba rd.length bc)).heap[b]? = w3.heap[b]?:=fun b hb=>Below.heap_setCell _ _ _ _ hb
   have hz4:(w3.setCell ⟨g,off+k * 5+4,none⟩ (.slice ba rd.length bc)).heap.size=w3.heap.size:=by simp
   have hyd:IntsD (w3.setCell ⟨g,off+k * 5+4,none⟩ (.slice ba rd.length bc)) (fun b=>w.heap.size≤b∧b<(w3.setCell ⟨g,off+k * 5+4,none⟩ (.slice ba rd.length bc)).heap.size∧(Value.slice (some ⟨g,off,none⟩) A.length uc).ownBlock≠some b) (toA y).2 y.1.rsp.data:=by
    rw[hy];refine Owns.intsD (xs:=rd) (OwnR.kept HO2.out (fun b hb=>hset b (by have:=(OwnR.lt HO2.out b hb).1;omega))) (fun b hb=>?_) (by omega) HXD.out.2;have h1:=OwnR.lt HO2.out b hb;have h2:=HB2.out.size;refine⟨by omega,by rw[hz4];exact h1.2,?_⟩;simp only[Value.ownBlock,ne_eq,Option.some.injEq];omega
   go_roundw
   case rel=>
    refine⟨k+1,by omega,by go_num,⟨A'.set k y,by rw[List.length_set];exact HL.out,ho4,?_,fun j hj z hz=>?_,fun j hj=>?_⟩,hbw.setCell (p:=⟨g,_,none⟩) hgb _⟩
    ·rw[←HM.out];apply List.ext_getElem?;intro i;rw[List.getElem?_map,List.getElem?_map,List.getElem?_set]
     split
     ·rename_i e;subst e;rw[HX.out,if_pos (by rw[HL.out];exact hlt),hy];rfl
     ·rfl
    ·rw[List.getElem?_set]at hz
     split at hz
     ·rename_i e;subst e;rw[if_pos (by rw[HL.out];exact hlt)]at hz;obtain rfl:=Option.some.inj hz;exact hyd
     ·exact((HN.out j (by omega) z hz).kept fun b hb=>(hset b (fun e=>hb.2.2 (by rw[e];rfl))).trans (hw.block b hb.2.1)).weak fun b hb=>⟨hb.1,by rw[hz4];exact Nat.lt_of_lt_of_le hb.2.1 hw.size,hb.2.2⟩
    ·rw[List.getElem?_set,if_neg (by omega)];exact HS.out j (by omega)
   case measure=>simp[intOf];omega
  ·obtain rfl:k=A.length:=by omega
   have hkf:decide ((A.length:Int)<(A.length:Int))=false:=by simp
   go_wp2_with fail
   go_ret
   refine⟨_,A'.map toA,rfl,owns_map ho', by rw[List.map_map,List.map_map];exact hm', fun x hx=>?_,hbl⟩;obtain⟨y,hy,rfl⟩:=List.mem_map.1 hx;obtain⟨j,hj,e⟩:=List.getElem_of_mem hy;exact hn' j (by omega) y (by rw[List.getElem?_eq_getElem hj,e])
def aLt (x y:TJA):Bool:=kLt x.1 y.1
theorem ordA:Ord3 aLt (fun x y:TJA=>kLe x.1 y.1):=⟨fun a b=>ordK.t a.1 b.1,fun a b=>ordK.f a.1 b.1,fun a b c=>ordK.tr a.1 b.1 c.1⟩
theorem Owns.put5 {w : World} {base e g off n c : Nat} {xs : List TJA} (h : Owns w base e 5 rowA (.slice (some ⟨g, off, none⟩) n c) xs) (k : Nat) (hk : k < xs.length) (wh nn : Nat) (ri rc : Int) (rd : List Int) (da : Option Addr) (dn dc : Nat) :
  Owns (((((w.setCell ⟨g,off+k * 5,none⟩ (.int .i64 wh)).setCell ⟨g,off+k * 5+1,none⟩ (.int .i64 nn)).setCell ⟨g,off+k * 5+2,none⟩ (.int .i64 ri)).setCell ⟨g,off+k * 5+3,none⟩ (.int .i64 rc)).setCell ⟨g,off+k * 5+4,none⟩ (.slice da dn dc)) base e 5 rowA (.slice (some ⟨g,off,none⟩) n c) (xs.set k (⟨wh,nn,⟨ri,rc,rd⟩⟩,da,dn,dc)):=by
 obtain⟨x,hx⟩:∃x,x=xs.getD k default:=⟨_,rfl⟩
 have gd:∀(ys:List TJA) (y:TJA),k<ys.length→(ys.set k y).getD k default=y:=fun ys y h=>by simp[List.getD,h]
 have h1:=h.putRow zD8 k 0 default (⟨wh,x.1.n,x.1.rsp⟩,x.2) (.int .i64 wh) hk (by omega) (by rw[←hx];rfl);have h2:=h1.putRow zD8 k 1 default (⟨wh,nn,x.1.rsp⟩,x.2) (.int .i64 nn) (by simpa using hk) (by omega) (by rw[gd _ _ hk];rfl);have h3:=h2.putRow zD8 k 2 default (⟨wh,nn,⟨ri,x.1.rsp.code,rd⟩⟩,x.2) (.int .i64 ri) (by simpa using hk) (by omega) (by rw[gd _ _ (by simpa using hk)];rfl);have h4:=h3.putRow zD8 k 3 default (⟨wh,nn,⟨ri,rc,rd⟩⟩,x.2) (.int .i64 rc) (by simpa using hk) (by omega) (by rw[gd _ _ (by simpa using hk)];rfl);have h5:=h4.putRow zD8 k 4 default (⟨wh,nn,⟨ri,rc,rd⟩⟩,da,dn,dc) (.slice da dn dc) (by simpa using hk) (by omega) (by rw[gd _ _ (by simpa using hk)];rfl);simpa only[List.set_set,Nat.add_zero]using h5
theorem touch5 (s o:Nat) (w:World) (a b c d e:Value):Touch s w (((((w.setCell ⟨s,o,none⟩ a).setCell ⟨s,o+1,none⟩ b).setCell ⟨s,o+2,none⟩ c).setCell ⟨s,o+3,none⟩ d).setCell ⟨s,o+4,none⟩ e) :=
 ((((Touch.setCell _ _ _ _).trans (Touch.setCell _ _ _ _)).trans (Touch.setCell _ _ _ _)).trans (Touch.setCell _ _ _ _)).trans (Touch.setCell _ _ _ _)
def SortP (base g off cap:Nat) (A:List TJA) (w:World) (e:Ending) (w':World):Prop :=
 e=.returned (.tuple #[])∧Owns w' base 85 5 rowA (.slice (some ⟨g,off,none⟩) A.length cap) (zL0 aLt A)∧Touch g w w'
set_option maxRecDepth 4000 in
theorem insSort_any (base g off cap : Nat) (A : List TJA) (w : World) (ho : Owns w base 85 5 rowA (.slice (some ⟨g, off, none⟩) A.length cap) A) (hl : A.length ≤ 100) (hn : 0 < A.length) :
  Calls Tryz.prog 179 #[.slice (some ⟨g,off,none⟩) A.length cap,.int .i64 0,.int .i64 A.length,.func (.func 97) #[] #[]] w (SortP base g off cap A w):=by
 obtain⟨n,hnn⟩:∃n,n=A.length:=⟨_,rfl⟩
 have hK2:=zB4 (K:=97) Tryz.func97 (by kernel_rfl) (by kernel_rfl);rw[←hnn]at hl hn ho ⊢;have HNN:=hid hnn;have HO:=hid ho;have hcap:n≤cap∧cap≤9223372036854775807:=by
  obtain⟨a,c,e,h1,h2⟩:=OwnR.form (n:=A.length) (by rw[hnn]at ho;exact ho);simp only[Value.slice.injEq]at e;obtain⟨_,_,rfl⟩:=e;exact⟨by omega,h2⟩
 obtain⟨hc1,hc2⟩:=hcap;have hgz:=(OwnR.lt ho g rfl).2;have HGZ:=hid hgz;clear ho hnn hgz
 go_enter Tryz.func179,Tryz.ntmps179
 go_wp2_with fail
 go_loopw [8] (fun i wr=>∃k:Nat,k<n∧i=.int .i64 ((k:Int)+1)∧Owns wr base 85 5 rowA (.slice (some ⟨g,off,none⟩) n cap) (isort aLt k A)∧Touch g w wr) (fun i _=>n+1 - (intOf i).toNat)
 case atStart=>exact⟨0,hn,by go_num,HO.out,Touch.refl _ _⟩
 case round=>
  obtain⟨k,hk,rfl,ho,ht⟩:=hrel;have HO2:=hid ho;have HT:=hid ht;clear ho ht;by_cases hlt:k+1<n
  ·have hlti:(k:Int)+1<(n:Int):=by omega
   go_wp2_with fail
   obtain⟨w1,hw1⟩:∃W,W=wr:=⟨_,rfl⟩
   subst hw1
   go_loopw [9] (fun j wr=>∃m:Nat,m≤k+1∧j=.int .i64 (m:Int)∧(∃L:List TJA,L.length=n∧down aLt m L=isort aLt (k+1) A∧Owns wr base 85 5 rowA (.slice (some ⟨g,off,none⟩) n cap) L)∧Touch g w wr) (fun j _=>(intOf j).toNat)
   case atStart=>exact⟨k+1,Nat.le_refl _,by go_num,⟨isort aLt k A,by rw[isort_len];exact HNN.out.symm,rfl,HO2.out⟩,HT.out⟩
   case round=>
    clear HO2 HT;obtain⟨m,hm,rfl,⟨L,hL,hd,ho⟩,ht⟩:=hrel;have HL:=hid hL;have HD:=hid hd;have HO3:=hid ho;have HT3:=hid ht;clear hL hd ho ht;by_cases hm0:m=0
    ·subst hm0;have h0:decide ((0:Int)<((0:Nat):Int))=false:=by simp
     go_wp2_with fail
     go_region
     go_wp2_with fail
     go_roundw
     case rel=>exact⟨k+1,hlt,by go_num,by rw[←HD.out];exact HO3.out,HT3.out.drew⟩
     case measure=>simp[intOf];omega
    ·obtain⟨p,hmp⟩:∃p,m=p+1:=⟨m - 1,by omega⟩
     have ew:IntKind.i64.wrap ((m:Int) - 1)=(p:Int):=by rw[IntKind.wrap_i64];omega
     have hpn:m<n:=by omega
     have hL:=HL.out;have hx5:∀i,i<5→wr.cell? ⟨g,off+m * 5+i,none⟩=(rowA (L.getD m default))[i]?:=fun i hi=>Owns.cellAt HO3.out zD8 m i default (by omega) hi
     have hy5:∀i,i<5→wr.cell? ⟨g,off+p * 5+i,none⟩=(rowA (L.getD p default))[i]?:=fun i hi=>Owns.cellAt HO3.out zD8 p i default (by omega) hi
     obtain⟨x,hx⟩:∃x,x=L.getD m default:=⟨_,rfl⟩
     obtain⟨y,hy⟩:∃y,y=L.getD p default:=⟨_,rfl⟩
     rw[←hx]at hx5;rw[←hy]at hy5;have HX:=hid hx;have HY:=hid hy;clear hx hy;obtain⟨⟨xw,xn,xi,xc,xd⟩,xa,xl,xk⟩:=x;obtain⟨⟨yw,yn,yi,yc,yd⟩,ya,yl,yk⟩:=y;have x0:=hx5 0 (by omega);have x1:=hx5 1 (by omega);have x2:=hx5 2 (by omega);have x3:=hx5 3 (by omega);have x4:=hx5 4 (by omega);have y0:=hy5 0 (by omega);have y1:=hy5 1 (by omega);have y2:=hy5 2 (by omega);have y3:=hy5 3 (by omega);have y4:=hy5 4 (by omega);simp only[rowA,toA,tjRow,List.getElem?_cons_zero,List.getElem?_cons_succ,Nat.add_zero]at x0 x1 x2 x3 x4 y0 y1 y2 y3 y4;have hpi:(0:Int)<(m:Int):=by omega
     have hpi2:(m:Int)<(n:Int):=by omega
     have hpi3:(p:Int)<(n:Int):=by omega
     have hmp0:0<m:=by omega
     have hmpd:decide (0<m)=true:=by simpa using hmp0
     have HMP:=hid hmp;clear hmp;have hgz:g<wr.heap.size:=(OwnR.lt HO3.out g rfl).2;obtain⟨r,hr⟩:∃r,r=kcmp ⟨xw,xn,⟨xi,xc,xd⟩⟩ ⟨yw,yn,⟨yi,yc,yd⟩⟩:=⟨_,rfl⟩
     have HR:=hid hr;have HKL:=hid (kcmp_lt ⟨xw,xn,⟨xi,xc,xd⟩⟩ ⟨yw,yn,⟨yi,yc,yd⟩⟩);rw[←hr]at HKL;clear hr hx5 hy5 hL;obtain⟨wo,hwo⟩:∃W,W=wr:=⟨_,rfl⟩
     subst hwo
     go_upto_region 4 with fail
     go_cut [34] from 18 to 52 (fun u wd=>u=.bool (decide (r<0))∧Below wo.heap.size wo wd)
     case first=>
      go_region_held3 (fun w' => w'.cell? ⟨g, off + m * 5, none⟩ = some (.int .i64 (xw : Nat)) ∧ w'.cell? ⟨g, off + m * 5 + 1, none⟩ = some (.int .i64 (xn : Nat)) ∧ w'.cell? ⟨g, off + m * 5 + 2, none⟩ = some (.int .i64 xi) ∧ w'.cell? ⟨g, off + m * 5 + 3, none⟩ = some (.int .i64 xc) ∧ w'.cell? ⟨g, off + m * 5 + 4, none⟩ = some (.slice xa xl xk) ∧ w'.cell? ⟨g, off + p * 5, none⟩ = some (.int .i64 (yw : Nat)) ∧ w'.cell? ⟨g, off + p * 5 + 1, none⟩ = some (.int .i64 (yn : Nat)) ∧ w'.cell? ⟨g, off + p * 5 + 2, none⟩ = some (.int .i64 yi) ∧ w'.cell? ⟨g, off + p * 5 + 3, none⟩ = some (.int .i64 yc) ∧ w'.cell? ⟨g, off + p * 5 + 4, none⟩ = some (.slice ya yl yk))
       (first|exact s6|go_keep)
       (first
        |(go_at_call 97;(with_reducible refine(cmpJobs_any ⟨xw,xn,⟨xi,xc,xd⟩⟩ ⟨yw,yn,⟨yi,yc,yd⟩⟩ xa ya xl xk yl yk _).mono ?_);unfold CmpP;rw[←HR.out];rintro e w5 ⟨rfl,hb5⟩;have hb5':=(show Below wo.heap.size wo wo.drew from(Below.refl _ _).drew).trans hb5;have HB5:=hid hb5';have s6:w5.cell? ⟨g,off+m * 5,none⟩=some (.int .i64 (xw:Nat))∧w5.cell? ⟨g,off+m * 5+1,none⟩=some (.int .i64 (xn:Nat))∧w5.cell? ⟨g,off+m * 5+2,none⟩=some (.int .i64 xi)∧w5.cell? ⟨g,off+m * 5+3,none⟩=some (.int .i64 xc)∧w5.cell? ⟨g,off+m * 5+4,none⟩=some (.slice xa xl xk)∧w5.cell? ⟨g,off+p * 5,none⟩=some (.int .i64 (yw:Nat))∧w5.cell? ⟨g,off+p * 5+1,none⟩=some (.int .i64 (yn:Nat))∧w5.cell? ⟨g,off+p * 5+2,none⟩=some (.int .i64 yi)∧w5.cell? ⟨g,off+p * 5+3,none⟩=some (.int .i64 yc)∧w5.cell? ⟨g,off+p * 5+4,none⟩=some (.slice ya yl yk):=⟨(hb5'.cell (p:=⟨g,off+m * 5,none⟩) hgz).trans x0,(hb5'.cell (p:=⟨g,off+m * 5+1,none⟩) hgz).trans x1,(hb5'.cell (p:=⟨g,off+m * 5+2,none⟩) hgz).trans x2,(hb5'.cell (p:=⟨g,off+m * 5+3,none⟩) hgz).trans x3,(hb5'.cell (p:=⟨g,off+m * 5+4,none⟩) hgz).trans x4,(hb5'.cell (p:=⟨g,off+p * 5,none⟩) hgz).trans y0,(hb5'.cell (p:=⟨g,off+p * 5+1,none⟩) hgz).trans y1,(hb5'.cell (p:=⟨g,off+p * 5+2,none⟩) hgz).trans y2,(hb5'.cell (p:=⟨g,off+p * 5+3,none⟩) hgz).trans y3,(hb5'.cell (p:=⟨g,off+p * 5+4,none⟩) hgz).trans y4⟩))
      go_wp2_with fail
      go_meet
      case rel=>exact⟨rfl,HB5.out⟩
     case rest=>
      obtain⟨w5,hw5⟩:∃W,W=wc:=⟨_,rfl⟩
      subst hw5;obtain⟨rfl,hb5⟩:=hcut;have HB5:=hid hb5;have HO5:=hid (HO3.out.below hb5);have HT5:=hid (HT3.out.trans (Touch.of_below hb5 (Nat.le_refl _)));have hgz5:g<w5.heap.size:=Nat.lt_of_lt_of_le hgz hb5.size;rw[←hb5.cell (p:=⟨g,_,none⟩) hgz]at x0 x1 x2 x3 x4 y0 y1 y2 y3 y4;have hfz:=Owns.frozenAt HO5.out;have hgx:L.getD m default=(⟨xw,xn,⟨xi,xc,xd⟩⟩,xa,xl,xk):=HX.out.symm;have hgy:L.getD p default=(⟨yw,yn,⟨yi,yc,yd⟩⟩,ya,yl,yk):=HY.out.symm;have HGX:=hid hgx;have HGY:=hid hgy;clear hb5 hgx hgy;rcases hq:decide (r<0)with _|_
      ·have HST := hid (show down aLt m L = L by
        rw[HMP.out];refine down_stop aLt p L ?_;rw[←HMP.out,HGX.out,HGY.out];exact HKL.out.symm.trans hq)
       clear hq
       go_wp2_with fail
       go_roundw
       case rel=>exact⟨k+1,hlt,by go_num,by rw[←HD.out,HST.out];exact HO5.out,HT5.out⟩
       case measure=>simp[intOf];omega
      ·have HST := hid (show down aLt m L = down aLt p ((L.set m (⟨yw, yn, ⟨yi, yc, yd⟩⟩, ya, yl, yk)).set p (⟨xw, xn, ⟨xi, xc, xd⟩⟩, xa, xl, xk)) by
        have h1:=down_less aLt p L (by rw[←HMP.out,HGX.out,HGY.out];exact HKL.out.symm.trans hq);rw[←HMP.out,HGX.out,HGY.out]at h1;exact h1)
       clear hq
       go_upto_region 6 with fail
       have f0:=hfz (off+m * 5);have f1:=hfz (off+m * 5+1);have f2:=hfz (off+m * 5+2);have f3:=hfz (off+m * 5+3);have f4:=hfz (off+m * 5+4);have e0:=hfz (off+p * 5);have e1:=hfz (off+p * 5+1);have e2:=hfz (off+p * 5+2);have e3:=hfz (off+p * 5+3);have e4:=hfz (off+p * 5+4);have HO6:=hid (HO5.out.put5 m (by rw[HL.out];exact hpn) yw yn yi yc yd ya yl yk);have HT6:=hid (HT5.out.trans (touch5 g (off+m * 5) w5 (.int .i64 yw) (.int .i64 yn) (.int .i64 yi) (.int .i64 yc) (.slice ya yl yk)))
       have HG6 := hid (show (L.set m (⟨yw, yn, ⟨yi, yc, yd⟩⟩, ya, yl, yk)).getD p default = (⟨yw, yn, ⟨yi, yc, yd⟩⟩, ya, yl, yk) by
        have:m≠p:=by have:=HMP.out;omega
        rw[←HGY.out];simp[List.getD,List.getElem?_set,this])
       have HPL:=hid (show p<(L.set m (⟨yw,yn,⟨yi,yc,yd⟩⟩,ya,yl,yk)).length by rw[List.length_set,HL.out];have:=HMP.out;omega);have hy6:∀i,i<5→(((((w5.setCell ⟨g,off+m * 5,none⟩ (.int .i64 yw)).setCell ⟨g,off+m * 5+1,none⟩ (.int .i64 yn)).setCell ⟨g,off+m * 5+2,none⟩ (.int .i64 yi)).setCell ⟨g,off+m * 5+3,none⟩ (.int .i64 yc)).setCell ⟨g,off+m * 5+4,none⟩ (.slice ya yl yk)).cell? ⟨g,off+p * 5+i,none⟩=(rowA ((L.set m (⟨yw,yn,⟨yi,yc,yd⟩⟩,ya,yl,yk)).getD p default))[i]?:=fun i hi=>Owns.cellAt HO6.out zD8 p i default HPL.out hi
       rw[HG6.out]at hy6;have z0:=hy6 0 (by omega);have z1:=hy6 1 (by omega);have z2:=hy6 2 (by omega);have z3:=hy6 3 (by omega);have z4:=hy6 4 (by omega);simp only[rowA,toA,tjRow,List.getElem?_cons_zero,List.getElem?_cons_succ,Nat.add_zero]at z0 z1 z2 z3 z4;clear hfz hy6
       go_region
       have HO7:=hid (HO6.out.put5 p HPL.out xw xn xi xc xd xa xl xk);have HT7:=hid (HT6.out.trans (touch5 g (off+p * 5) _ (.int .i64 xw) (.int .i64 xn) (.int .i64 xi) (.int .i64 xc) (.slice xa xl xk)));clear x0 x1 x2 x3 x4 y0 y1 y2 y3 y4 z0 z1 z2 z3 z4 f0 f1 f2 f3 f4 e0 e1 e2 e3 e4;generalize hw7:(((((((((w5.setCell ⟨g,off+m * 5,none⟩ (.int .i64 yw)).setCell ⟨g,off+m * 5+1,none⟩ (.int .i64 yn)).setCell ⟨g,off+m * 5+2,none⟩ (.int .i64 yi)).setCell ⟨g,off+m * 5+3,none⟩ (.int .i64 yc)).setCell ⟨g,off+m * 5+4,none⟩ (.slice ya yl yk)).setCell ⟨g,off+p * 5,none⟩ (.int .i64 xw)).setCell ⟨g,off+p * 5+1,none⟩ (.int .i64 xn)).setCell ⟨g,off+p * 5+2,none⟩ (.int .i64 xi)).setCell ⟨g,off+p * 5+3,none⟩ (.int .i64 xc)).setCell ⟨g,off+p * 5+4,none⟩ (.slice xa xl xk)=w7 at HO7 HT7 ⊢;clear hw7
       go_wp2_with fail
       go_roundw
       case rel=>exact⟨p,by have:=HMP.out;omega,by go_num,⟨_,by rw[List.length_set,List.length_set];exact HL.out,by rw[←HST.out];exact HD.out,HO7.out.drewd⟩,HT7.out.drewd⟩
       case measure=>simp[intOf];have:=HMP.out;omega
  ·obtain rfl:k+1=n:=by omega
   go_wp2_with fail
   exact bodyPost_end (v:=.tuple #[]) (by simp[results,Tryz.results179,go_sem]) rfl ⟨rfl,by unfold zL0;rw[show A.length - 1=k by rw[←HNN.out];omega,←HNN.out];exact HO2.out,HT.out⟩
end Go.Proofs.YthnlalffjepdaaaGreat
