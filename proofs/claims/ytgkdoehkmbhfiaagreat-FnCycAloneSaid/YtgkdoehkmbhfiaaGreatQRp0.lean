/- cmp.Compare, cmp.Or at ints; compareJobs. -/
import Derived.Test.YtgkdoehkmbhfiaaGreatQDr7
import Derived.Test.YtgkdoehkmbhfiaaGreatQLib
import Derived.Test.YtgkdoehkmbhfiaaGreatQDo4
import Derived.Test.YtgkdoehkmbhfiaaGreatQWrd
import Derived.Laws.IdiomCopy
import Derived.Lib.LazyBuf
import Derived.Deep.QuietTactic
import Derived.BigQuiet
import Derived.Maps.OwnSet
import Derived.DeepKeys4
import Derived.BigGuardPart
import Derived.Deep.Cut
import Derived.Deep.CutRange
import Derived.Deep.RegionHeld3
import Derived.Deep.RegionWith
import Derived.StillTailTactics
set_option linter.unusedVariables false
set_option linter.unusedSimpArgs false
set_option maxHeartbeats 16000000
namespace Go.Proofs.YtgkdoehkmbhfiaaGreat
open Go.RowKit
theorem run_copy_rows {P : Program} (w : World) (dT sT ty elem : TypeId) (sz b o dLen dCap : Nat) (a : Addr) (sLen sCap k : Nat) (cs : List Value)
  (hu:P.underlying dT=some (.slice elem)) (hs:(P.info? elem).map (·.size)=some sz) (hk:k=Nat.min sLen dLen) (hn:cs.length=k * sz)
  (hsrc:∀j v,cs[j]? = some v→w.cell? (a.add j)=some v) (hc:∀j,j<cs.length→(w.cell? ⟨b,o+j,none⟩).isSome=true) (hf:∀j,j<cs.length→w.frozen? ⟨b,o+j,none⟩=false) (h1:∀v∈cs,v.oneCell' = true) :
  (Builtin.copy_ #[dT,sT] ty #[.slice (some ⟨b,o,none⟩) dLen dCap,.slice (some a) sLen sCap]).run P w=.ok (goInt k) (w.setCells b o cs):=by
 have hl:=run_loadCells_list (P:=P) w a cs hsrc;have hst:=run_storeCells_cells (P:=P) b o cs 0 w (by simpa using hc) (by simpa using hf) h1;cases hq:P.info? elem with
 |none=>simp[hq]at hs
 |some i=>
  have hi:i.size=sz:=by simpa[hq]using hs
  simp[Builtin.copy_,run_underlying hu,Builtin.lenOf,Builtin.firstCells,sizeOf,typeInfo,hq,hi,←hk,←hn,hl,hst]
theorem flat_rep {α : Type} (xs : List α) (i j : Nat) (hj : j < xs.length) : ∀ (k : Nat), i < k → ((List.replicate k xs).flatten)[i * xs.length + j]? = xs[j]?
 |0,h=>absurd h (Nat.not_lt_zero _)
 |k+1,h=>by
  rw[List.replicate_succ,List.flatten_cons];cases i with
  |zero=>rw[Nat.zero_mul,Nat.zero_add,List.getElem?_append_left hj]
  |succ i=>
   have e:(i+1) * xs.length=xs.length+i * xs.length:=by rw[Nat.add_mul,Nat.one_mul,Nat.add_comm]
   rw[e,Nat.add_assoc,List.getElem?_append_right (Nat.le_add_right _ _),Nat.add_sub_cancel_left];exact flat_rep xs i j hj k (by omega)
theorem zI3 {α:Type} (xs:List α) (k:Nat):((List.replicate k xs).flatten).length=k * xs.length:=by
 rw[List.length_flatten,List.map_replicate,List.sum_replicate_nat]
theorem flatR_mem {α:Type} (xs:List α) (k:Nat) (v:α) (h:v∈(List.replicate k xs).flatten):v∈xs:=by
 rw[List.mem_flatten]at h;obtain⟨l,h1,h2⟩:=h;rw[(List.mem_replicate.1 h1).2]at h2;exact h2
theorem div_row {j sz k:Nat} (h:j<k * sz):∃i r,i<k∧r<sz∧j=i * sz+r:=by
 have hs:0<sz:=by cases sz with|zero=>simp at h|succ n=>omega
 refine⟨j / sz,j % sz,?_,Nat.mod_lt _ hs,?_⟩
 ·rw[Nat.div_lt_iff_lt_mul hs];exact h
 ·rw[Nat.mul_comm];exact(Nat.div_add_mod j sz).symm
theorem belowSet {B : Nat} {a : World} (b : Nat) (hb : B ≤ b) : ∀ (vs : List Value) (o : Nat) {w : World}, Below B a w → Below B a (w.setCells b o vs)
 |[],_,_,h=>h
 |v::vs,o,_,h=>belowSet b hb vs (o+1) (h.setCell (p:=⟨b,o,none⟩) hb v)
theorem someSet (b : Nat) : ∀ (vs : List Value) (o : Nat) (w : World) (q : Addr), (w.cell? q).isSome = true → ((w.setCells b o vs).cell? q).isSome = true
 |[],_,_,_,h=>h
 | v :: vs, o, w, q, h => someSet b vs (o + 1) (w.setCell ⟨b, o, none⟩ v) q (by
  by_cases e:q=⟨b,o,none⟩
  ·subst e;rw[World.cell?_setCell_same' _ _ _ h];rfl
  ·have e2:(w.setCell ⟨b,o,none⟩ v).cell? q=w.cell? q:=by apply World.cell?_setCell_other;exact fun h=>e h.symm
   rw[e2];exact h)
structure RepI (w0:World) (g N:Nat) (xs:List Value) (n:Nat) (w:World):Prop where
 rws:∀i,i<n→∀j,j<xs.length→w.cell? ⟨g,i * xs.length+j,none⟩=xs[j]?
 sm:∀o,o<N * xs.length→(w.cell? ⟨g,o,none⟩).isSome=true
 fz:∀o,o<N * xs.length→w.frozen? ⟨g,o,none⟩=false
 bel:Below w0.heap.size w0 w
theorem RepI.more {w0 w:World} {g N n k:Nat} {xs:List Value} (h:RepI w0 g N xs n w) (hk:n+k≤N) (hg:w0.heap.size≤g):RepI w0 g N xs (n+k) (w.setCells g (n * xs.length) (List.replicate k xs).flatten):=by
 have hin:∀j,j<((List.replicate k xs).flatten).length→(w.cell? ⟨g,n * xs.length+j,none⟩).isSome=true:=fun j hj=>by
  rw[zI3]at hj;refine h.sm _ ?_;have:(n+k) * xs.length≤N * xs.length:=Nat.mul_le_mul_right _ hk;rw[Nat.add_mul]at this;omega
 refine⟨fun i hi j hj=>?_,fun o ho=>?_,fun o ho=>?_,belowSet g hg _ _ h.bel⟩
 ·by_cases hlt:i<n
  ·rw[World.cell?_setCells_out]
   ·exact h.rws i hlt j hj
   ·intro _ _
    left
    have:(i+1) * xs.length≤n * xs.length:=Nat.mul_le_mul_right _ hlt;rw[Nat.add_mul,Nat.one_mul]at this;show i * xs.length+j<n * xs.length;omega
  ·obtain⟨m,rfl⟩:∃m,i=n+m:=⟨i - n,by omega⟩
   have hm:m * xs.length+j<((List.replicate k xs).flatten).length:=by
    rw[zI3];have:(m+1) * xs.length≤k * xs.length:=Nat.mul_le_mul_right _ (by omega);rw[Nat.add_mul,Nat.one_mul]at this;omega
   have:=World.cell?_setCells_in g _ (n * xs.length) w hin _ hm;rw[show(n+m) * xs.length+j=n * xs.length+(m * xs.length+j) by rw[Nat.add_mul,Nat.add_assoc],this,←flat_rep xs m j hj k (by omega)];rw[List.getElem?_eq_getElem hm]
 ·exact someSet _ _ _ _ _ (h.sm o ho)
 ·rw[World.frozen?_setCells];exact h.fz o ho
theorem RepI.copy {w0 w : World} {g N n k T e : Nat} {xs : List Value} (h : RepI w0 g N xs n w) (hu : Tryz.prog.underlying T = some (.slice e)) (hs : (Tryz.prog.info? e).map (·.size) = some xs.length) (h1 : ∀ v ∈ xs, v.oneCell' = true) (hk : k = min n (N - n)) (hn : n ≤ N) (ty : TypeId) (d1 d2 : Nat) :
  (Builtin.copy_ #[T,T] ty #[.slice (some ⟨g,n * xs.length,none⟩) (N - n) d1,.slice (some ⟨g,0,none⟩) n d2]).run Tryz.prog w=.ok (goInt k) (w.setCells g (n * xs.length) (List.replicate k xs).flatten):=by
 refine run_copy_rows w T T ty e xs.length g (n * xs.length) (N - n) d1 ⟨g,0,none⟩ n d2 k _ hu hs hk (zI3 xs k) (fun j v hv=>?_) (fun j hj=>?_) (fun j hj=>?_) fun v hv=>h1 v (flatR_mem xs k v hv)
 ·have hj:=(List.getElem?_eq_some_iff.1 hv).1;rw[zI3]at hj;obtain⟨i,r,hi,hr,rfl⟩:=div_row hj;rw[flat_rep xs i r hr k hi]at hv;rw[Addr.add_lit,Nat.zero_add,h.rws i (by omega) r hr];exact hv
 all_goals
  rw[zI3]at hj;have:(n+k) * xs.length≤N * xs.length:=Nat.mul_le_mul_right _ (by omega);rw[Nat.add_mul]at this
 ·exact h.sm _ (by omega)
 ·exact h.fz _ (by omega)
theorem RepI.first {w0 w : World} {g N b o k T e : Nat} {xs : List Value} (h : RepI w0 g N xs 0 w) (hu : Tryz.prog.underlying T = some (.slice e)) (hs : (Tryz.prog.info? e).map (·.size) = some xs.length) (h1 : ∀ v ∈ xs, v.oneCell' = true) (hk : k = min 1 N) (hc : ∀ j, j < xs.length → w.cell? ⟨b, o + j, none⟩ = xs[j]?) (ty : TypeId) (d1 d2 : Nat) :
  (Builtin.copy_ #[T,T] ty #[.slice (some ⟨g,0,none⟩) N d1,.slice (some ⟨b,o,none⟩) 1 d2]).run Tryz.prog w=.ok (goInt k) (w.setCells g (0 * xs.length) (List.replicate k xs).flatten):=by
 rw[Nat.zero_mul];refine run_copy_rows w T T ty e xs.length g 0 N d1 ⟨b,o,none⟩ 1 d2 k _ hu hs hk (zI3 xs k) (fun j v hv=>?_) (fun j hj=>?_) (fun j hj=>?_) fun v hv=>h1 v (flatR_mem xs k v hv)
 ·have hj:=(List.getElem?_eq_some_iff.1 hv).1;rw[zI3]at hj;obtain⟨i,r,hi,hr,rfl⟩:=div_row hj;rw[flat_rep xs i r hr k hi]at hv;have hi0:i=0:=by omega
  subst hi0;rw[Addr.add_lit,Nat.zero_mul,Nat.zero_add,hc r hr];exact hv
 all_goals
  rw[zI3]at hj;have:k * xs.length≤N * xs.length:=Nat.mul_le_mul_right _ (by omega)
 ·exact h.sm _ (by omega)
 ·exact h.fz _ (by omega)
theorem RepI.new {w w':World} {g N cap e:Nat} {xs:List Value} {α:Type} {f:α→List Value} {x:α} (h:Owns w' w.heap.size e xs.length f (.slice (some ⟨g,0,none⟩) N cap) (List.replicate N x)) (hf:(f x).length=xs.length) (hb:Below w.heap.size w w'):RepI w g N xs 0 w':=by
 unfold Owns at h;rw[List.length_replicate]at h;have hl:((List.replicate N x).flatMap f).length=N * xs.length:=by
  rw[List.flatMap_replicate,zI3,hf]
 refine⟨fun i hi=>absurd hi (Nat.not_lt_zero _),fun o ho=>?_,fun o _=>OwnR.unfrozen h o,hb⟩;have:=OwnR.get h o ho;rw[Nat.zero_add]at this;rw[this,List.getElem?_eq_getElem (by rw[hl];exact ho)];rfl
theorem RepI.arr {w0 w:World} {g N:Nat} {xs:List Value} (h:RepI w0 g N xs N w) (hN:N≤1000) (hg:g<w.heap.size):Arr w w.heap.size xs.length (.slice (some ⟨g,0,none⟩) N N) (List.replicate N xs):=by
 refine⟨some ⟨g,0,none⟩,N,by rw[List.length_replicate],by rw[List.length_replicate];exact Nat.le_refl _,by omega,by rw[List.length_replicate];omega,(fun h=>nomatch h),fun hn=>⟨g,0,rfl,hg,fun t ht j hj=>?_⟩⟩;rw[List.length_replicate]at ht;rw[Nat.zero_add,h.rws t ht j hj];simp[List.getD,ht]
def BwT (w:World):Type:={W:World // Below w.heap.size w W}
instance (w:World):Nonempty (BwT w):=⟨⟨w,Below.refl _ _⟩⟩
theorem zH6 {id : Nat} {Q : Exit → Act → World → Prop} {a : Act} {w : World} {l : List Oper} (hm : Tryz.prog.follows .mixedOrders = true) (hB : Region.lexB .any l.toArray = true)
  (h:wpQuiet Tryz.prog l.toArray (fun w' => ∃x:BwT w,w' = x.val) (fun a' => ∀w', (∃x:BwT w,w' = x.val)→Q .normal a' w') l a):(Code.region id l.toArray true).wp Tryz.prog Q a w :=
 wp_region_quiet (C:=fun w' => ∃x:BwT w,w' = x.val) hm hB ⟨⟨w.drew,(Below.refl _ _).drew⟩,rfl⟩ (by simpa using h)
theorem callsB {f:FuncId} {args:Array Value} {w:World} {x:BwT w} {v:Value} (h:Calls Tryz.prog f args x.val fun e w' => e=.returned v∧Below x.val.heap.size x.val w'):Calls Tryz.prog f args x.val fun e w'' => e=.returned v∧∃y:BwT w,w'' = y.val :=
 h.mono fun _ w' ⟨he,hb⟩=>⟨he,⟨w', x.property.trans (hb.mono x.property.size)⟩,rfl⟩
theorem callsS {f:FuncId} {args:Array Value} {w:World} {x:BwT w} {v:Value} (h:Calls Tryz.prog f args x.val fun e w' => e=.returned v∧x.val=w'):Calls Tryz.prog f args x.val fun e w'' => e=.returned v∧∃y:BwT w,w'' = y.val :=
 h.mono fun _ _ ⟨he,hm⟩=>⟨he,x,hm.symm⟩
theorem bcell {w:World} {p:Addr} {v:Value} (h:w.cell? p=some v) (x:BwT w):x.val.cell? p=some v:=(x.property.cell (World.block_lt_of_cell? w p h)).trans h
theorem zA7 {c:Prop} [Decidable c] {a b:Prop} (h:¬c) (hb:b):if c then a else b:=by rw[if_neg h];exact hb
end Go.Proofs.YtgkdoehkmbhfiaaGreat
namespace Go.Proofs.YtgkdoehkmbhfiaaGreat
def zA6 (v:Sv):List (Nat×Nat):=v.done.map (fun j=>(j.who,j.n))++v.pipe.map (fun j=>(j.who,j.n))
def nsOf (w:Nat) (l:List (Nat×Nat)):List Nat:=(l.filter (fun k=>k.1==w)).map (·.2)
theorem zK3 (w:Nat) (a b:List (Nat×Nat)):nsOf w (a++b)=nsOf w a++nsOf w b:=by simp[nsOf]
theorem zK2 (w n:Nat) (l:List (Nat×Nat)):nsOf w ((w,n)::l)=n::nsOf w l:=by simp[nsOf]
theorem zH1 {w v:Nat} (n:Nat) (l:List (Nat×Nat)) (h:v≠w):nsOf w ((v,n)::l)=nsOf w l:=by simp[nsOf,h]
theorem mem_nsOf {w n:Nat} {l:List (Nat×Nat)}:n∈nsOf w l↔(w,n)∈l:=by
 simp only[nsOf,List.mem_map,List.mem_filter,beq_iff_eq]
 constructor
 ·rintro⟨⟨a,b⟩,⟨h1,rfl⟩,rfl⟩;exact h1
 ·intro h;exact⟨(w,n),⟨h,rfl⟩,rfl⟩
structure Bus (c:Cfg):Prop where
 ms:mapOk c.ms=true
 lat:c.lat.length=4
 lat3:∀x∈c.lat,x≤3
 progs:c.progs.length=3
 most:∀p∈c.progs,p.length≤12
 reqs:∀p∈c.progs,∀r∈p,reqOk r=true
theorem Bus.prog {c:Cfg} (h:Bus c) {w:Nat} (hw:w<3):c.prog w∈c.progs:=zB5 (by rw[h.progs];exact hw)
theorem Bus.req {c:Cfg} (h:Bus c) {w n:Nat} (hw:w<3) (hn:n<(c.prog w).length):reqOk (c.req w n)=true:=h.reqs _ (h.prog hw) _ (zB5 hn)
theorem Bus.twelve {c:Cfg} (h:Bus c) {w:Nat} (hw:w<3):(c.prog w).length≤12:=h.most _ (h.prog hw)
theorem Bus.lt3 {c:Cfg} (h:Bus c) {s:Nat} (hs:s<4):c.lt s≤3:=h.lat3 _ (zB5 (by rw[h.lat];exact hs))
structure PGood (c:Cfg) (w:Nat) (p:Pt):Prop where
 q:p.queue=List.range' (p.next - p.queue.length) p.queue.length
 qn:p.queue.length≤p.next
 q2:p.queue.length≤2
 nx:p.next≤(c.prog w).length
 o4:p.out.length≤4
 o:∀j∈p.out,j.who=w∧j.left=c.slv w j.n∧j.n<p.next - p.queue.length
 os:p.out.Pairwise (fun a b=>a.n<b.n)
 oi:∀a∈p.out,∀b∈p.out,c.id w a.n=c.id w b.n→a.left=b.left
 l:p.last≤3
structure SGood (c:Cfg) (s:Nat) (v:Sv):Prop where
 p2:v.pipe.length≤2
 d2:v.done.length≤2
 l:v.last≤2
 w3:∀k∈zA6 v,k.1<3
 pl:∀j rest,v.pipe=j::rest→j.left≤c.lt s∧∀i∈rest,i.left=c.lt s
 dr:∀j∈v.done,rspOk j.rsp=true∧j.rsp.id=c.id j.who j.n
structure Good (c:Cfg) (st:Cy):Prop where
 atm:atmOk st.ws st.hs=true
 p:∀w,w<3→PGood c w (st.ports w)
 s:∀s,s<4→SGood c s (st.slaves s)
 link:∀s w,s<4→w<3→nsOf w (zA6 (st.slaves s))=((st.ports w).out.filter (fun j=>j.left==s)).map (·.n)
 t:∀j∈st.told,j.who<3∧rspOk j.rsp=true∧j.rsp.id=c.id j.who j.n
 part:∀w,w<3→(((st.told.filter (fun j=>j.who==w)).map (·.n))++(st.ports w).out.map (·.n)).Perm (List.range ((st.ports w).next - (st.ports w).queue.length))
theorem zJ4 (c:Cfg):Good c cy0:=by
 refine⟨by decide +kernel,fun w _=>⟨rfl,Nat.le_refl _,by simp[cy0],Nat.zero_le _,by simp[cy0],by simp[cy0],by simp[cy0],by simp[cy0],by simp[cy0]⟩,fun s _=>⟨by simp[cy0],by simp[cy0],by simp[cy0],by simp[cy0,zA6],by simp[cy0],by simp[cy0]⟩,by simp[cy0,zA6,nsOf],by simp[cy0],by simp[cy0]⟩
theorem Good.key {c:Cfg} {st:Cy} (h:Good c st) {s w n:Nat} (hs:s<4) (hk:(w,n)∈zA6 (st.slaves s)):w<3∧∃o∈(st.ports w).out,o.n=n∧o.left=s:=by
 have hw:w<3:=(h.s s hs).w3 _ hk;refine⟨hw,?_⟩;have:=mem_nsOf.2 hk;rw[h.link s w hs hw,List.mem_map]at this;obtain⟨o,ho,rfl⟩:=this;rw[List.mem_filter]at ho;exact⟨o,ho.1,rfl,by simpa using ho.2⟩
theorem Good.keyN {c:Cfg} {st:Cy} (h:Good c st) {s w n:Nat} (hs:s<4) (hk:(w,n)∈zA6 (st.slaves s)):n<(c.prog w).length:=by
 obtain⟨hw,o,ho,rfl,_⟩:=h.key hs hk;have:=(h.p w hw).o o ho;have:=(h.p w hw).nx;omega
theorem uniq_n {l:List Jb} (h:l.Pairwise (fun a b=>a.n<b.n)) {a b:Jb} (ha:a∈l) (hb:b∈l) (e:a.n=b.n):a=b:=by
 induction l with
 |nil=>cases ha
 |cons x l ih=>
  rw[List.pairwise_cons]at h;rcases List.mem_cons.1 ha with e1|h1 <;> rcases List.mem_cons.1 hb with e2|h2
  ·rw[e1,e2]
  ·subst e1;have:=h.1 _ h2;omega
  ·subst e2;have:=h.1 _ h1;omega
  ·exact ih h.2 h1 h2
theorem zL9 {α : Type} {p q : α → Bool} : ∀ {l : List α}, (∀ x ∈ l, p x = true → q x = true) → (l.eraseP p).filter q = (l.filter q).eraseP p
 |[],_=>rfl
 |x::l,h=>by
  have ih:=zL9 (p:=p) (q:=q) (l:=l) (fun y hy=>h y (List.mem_cons_of_mem _ hy));rcases hp:p x with _|_
  ·rcases hq:q x with _|_
   ·simp[List.eraseP_cons,hp,hq,ih]
   ·simp[List.eraseP_cons,hp,hq,ih]
  ·have hq:=h x (by simp) hp;simp[List.eraseP_cons,hp,hq]
theorem zK5 {α : Type} {p q : α → Bool} : ∀ {l : List α}, (∀ x ∈ l, p x = true → q x = false) → (l.eraseP p).filter q = l.filter q
 |[],_=>rfl
 |x::l,h=>by
  have ih:=zK5 (p:=p) (q:=q) (l:=l) (fun y hy=>h y (List.mem_cons_of_mem _ hy));rcases hp:p x with _|_
  ·rcases hq:q x with _|_
   ·simp[List.eraseP_cons,hp,hq,ih]
   ·simp[List.eraseP_cons,hp,hq,ih]
  ·have hq:=h x (by simp) hp;simp[List.eraseP_cons,hp,hq]
theorem Good.tell {c:Cfg} {x:Cy×List Ev} (h:Good c x.1) {w s:Nat} {j:TJ} {rest:List TJ} (hw:w<3) (hs:s<4) (hd:(x.1.slaves s).done=j::rest) (hj:j.who=w):Good c (zD4 w s j rest x).1:=by
 have hsg:=h.s s hs;have hpg:=h.p w hw;have hkeys:zA6 (x.1.slaves s)=(w,j.n)::zA6 { x.1.slaves s with done:=rest }:=by simp[zA6,hd,hj]
 have hl:=h.link s w hs hw;rw[hkeys,zK2]at hl;obtain⟨o,ho,hon,hos⟩:=(h.key hs (by rw[hkeys];simp:(w,j.n)∈zA6 (x.1.slaves s))).2;obtain⟨a,l1,l2,_,ha,he,he2⟩:=List.exists_of_eraseP (p:=fun o:Jb=>o.n==j.n) ho (by simp[hon]);have ha':a.n=j.n:=by simpa using ha
 have hperm:((x.1.ports w).out.map (·.n)).Perm (j.n::((x.1.ports w).out.eraseP (fun o=>o.n==j.n)).map (·.n)):=by
  rw[he2,he];simp only[List.map_append,List.map_cons,ha'];exact List.perm_middle
 have hsub:((x.1.ports w).out.eraseP (fun o=>o.n==j.n)).Sublist (x.1.ports w).out:=List.eraseP_sublist;have hmem:∀y∈(x.1.ports w).out,(y.n==j.n)=true→y=o:=fun y hy e=>uniq_n hpg.os hy ho (by rw[hon];simpa using e)
 refine⟨h.atm,fun v hv=>?_,fun t ht=>?_,fun t v ht hv=>?_,fun i hi=>?_,fun v hv=>?_⟩
 ·by_cases hvw:v=w
  ·subst hvw;simp only[zD4,zA1];exact⟨hpg.q,hpg.qn,hpg.q2,hpg.nx,Nat.le_trans hsub.length_le hpg.o4,fun j hj=>hpg.o j (hsub.subset hj),hpg.os.sublist hsub,fun a ha b hb=>hpg.oi a (hsub.subset ha) b (hsub.subset hb),by simp only;omega⟩
  ·simp only[zD4,zA0 _ _ hvw];exact h.p v hv
 ·by_cases hts:t=s
  ·subst hts;simp only[zD4,zA1];refine⟨hsg.p2,?_,hsg.l,fun k hk=>hsg.w3 k (by rw[hkeys];exact List.mem_cons_of_mem _ hk),hsg.pl,fun i hi=>hsg.dr i (by rw[hd];exact List.mem_cons_of_mem _ hi)⟩;have:=hsg.d2;rw[hd]at this;simp at this ⊢;omega
  ·simp only[zD4,zA0 _ _ hts];exact h.s t ht
 ·by_cases hvw:v=w
  ·subst hvw;by_cases hts:t=s
   ·subst hts;simp only[zD4,zA1];rw[zL9 (fun y hy e=>by rw[hmem y hy e];simp[hos])];have hm2:(((x.1.ports v).out.filter (fun j=>j.left==t)).map (·.n))=j.n::nsOf v (zA6 { x.1.slaves t with done:=rest }):=hl.symm;rcases hf:(x.1.ports v).out.filter (fun j=>j.left==t)with _|⟨y,ys⟩
    ·rw[hf]at hm2;cases hm2
    ·rw[hf]at hm2;simp only[List.map_cons,List.cons.injEq]at hm2;rw[hf,List.eraseP_cons_of_pos (by simp[hm2.1])];exact hm2.2.symm
   ·simp only[zD4,zA1,zA0 _ _ hts];rw[zK5 (fun y hy e=>by rw[hmem y hy e];simp[hos];omega)];exact h.link t v ht hv
  ·by_cases hts:t=s
   ·subst hts;simp only[zD4,zA1,zA0 _ _ hvw];rw[←h.link t v ht hv,hkeys,zH1 _ _ (Ne.symm hvw)]
   ·simp only[zD4,zA0 _ _ hvw,zA0 _ _ hts];exact h.link t v ht hv
 ·simp only[zD4,List.mem_append,List.mem_singleton]at hi;rcases hi with hi|rfl
  ·exact h.t i hi
  ·exact⟨by omega,hsg.dr _ (by rw[hd];simp)⟩
 ·by_cases hvw:v=w
  ·subst hvw;simp only[zD4,zA1,List.filter_append,List.map_append,List.filter_cons,hj,beq_self_eq_true,if_true,List.filter_nil,List.map_cons,List.map_nil,List.append_assoc,List.singleton_append];exact(hperm.symm.append_left _).trans (h.part v hv)
  ·simp only[zD4,zA0 _ _ hvw,List.filter_append,List.map_append,List.filter_cons,hj];rw[show(w==v)=false by simpa using Ne.symm hvw];simpa using h.part v hv
theorem good_tell1 {c:Cfg} {inp:Inp} {x:Cy×List Ev} (h:Good c x.1) {w:Nat} (hw:w<3):Good c (tell1 inp w x).1:=by
 unfold tell1
 split
 ·split
  ·exact h
  ·rename_i k hk;obtain⟨_,_,hm⟩:=zN1 hk
   split
   ·exact h
   ·rename_i j rest hd;refine h.tell hw (Nat.mod_lt _ (by omega)) hd ?_;unfold tellM at hm;rw[hd]at hm;simpa using hm
 ·exact h
theorem Good.dec {c:Cfg} {st:Cy} (h:Good c st) {s:Nat} {j:Jb} {rest:List Jb} (hs:s<4) (hp:(st.slaves s).pipe=j::rest):Good c (zF6 s j rest st):=by
 have hsg:=h.s s hs;have hkeys:zA6 { st.slaves s with pipe:=⟨j.who,j.n,j.left - 1⟩::rest }=zA6 (st.slaves s):=by simp[zA6,hp]
 refine⟨h.atm,h.p,fun t ht=>?_,fun t v ht hv=>?_,h.t,h.part⟩
 ·by_cases hts:t=s
  ·subst hts;simp only[zF6,zA1];refine⟨by have:=hsg.p2;rw[hp]at this;simpa using this,hsg.d2,hsg.l,fun k hk=>hsg.w3 k (by rwa [hkeys]at hk),?_,hsg.dr⟩;intro i r e;simp only[List.cons.injEq]at e;obtain⟨rfl,rfl⟩:=e;have:=hsg.pl _ _ hp;exact⟨by simp only;omega,this.2⟩
  ·simp only[zF6,zA0 _ _ hts];exact h.s t ht
 ·by_cases hts:t=s
  ·subst hts;simp only[zF6,zA1];rw[hkeys];exact h.link t v ht hv
  ·simp only[zF6,zA0 _ _ hts];exact h.link t v ht hv
theorem Good.work {c:Cfg} (hb:Bus c) {x:Cy×List Ev} (h:Good c x.1) {s:Nat} {j:Jb} {rest:List Jb} (hs:s<4) (hp:(x.1.slaves s).pipe=j::rest) (hd:(x.1.slaves s).done.length<2):Good c (zD9 c s j rest x).1:=by
 have hsg:=h.s s hs;obtain⟨r,hr⟩:∃r,r=(doReq c.ms x.1.ws x.1.hs j.who (c.req j.who j.n)).2.2:=⟨_,rfl⟩
 have hin:(j.who,j.n)∈zA6 (x.1.slaves s):=by simp[zA6,hp]
 have hw:=(h.key hs hin).1;have hq:=hb.req hw (h.keyN hs hin);have hwi:inB (j.who:Int) 0 2=true:=by simp[inB];omega
 have hok:atmOkk c.ms x.1.ws x.1.hs j.who (c.req j.who j.n)=true:=okk_parts.2 ⟨hb.ms,h.atm,hwi,hq⟩;have hrsp:=rsp_law hok;rw[zM1 hok,←hr]at hrsp;have hkeys:zA6 { x.1.slaves s with pipe:=rest,done:=(x.1.slaves s).done++[⟨j.who,j.n,r⟩] }=zA6 (x.1.slaves s):=by simp[zA6,hp]
 refine⟨doReq_ok hwi hq h.atm,h.p,fun t ht=>?_,fun t v ht hv=>?_,h.t,h.part⟩
 ·by_cases hts:t=s
  ·subst hts;simp only[zD9,zA1,←hr];refine⟨by have:=hsg.p2;rw[hp]at this;simp at this ⊢;omega,by simp;omega,hsg.l,fun k hk=>hsg.w3 k (by rwa [hkeys]at hk),?_,?_⟩
   ·intro i r' e;simp only at e;have hh:=(hsg.pl _ _ hp).2;rw[e]at hh;exact⟨Nat.le_of_eq (hh i (by simp)),fun k hk=>hh k (by simp[hk])⟩
   ·intro i hi;simp only[List.mem_append,List.mem_singleton]at hi;rcases hi with hi|rfl
    ·exact hsg.dr i hi
    ·exact hrsp
  ·simp only[zD9,zA0 _ _ hts];exact h.s t ht
 ·by_cases hts:t=s
  ·subst hts;simp only[zD9,zA1,←hr];rw[hkeys];exact h.link t v ht hv
  ·simp only[zD9,zA0 _ _ hts];exact h.link t v ht hv
theorem good_work1 {c:Cfg} (hb:Bus c) {inp:Inp} {x:Cy×List Ev} (h:Good c x.1) {s:Nat} (hs:s<4):Good c (work1 c inp s x).1:=by
 unfold work1
 split
 ·exact h
 ·split
  ·exact h
  ·rename_i j rest hp
   split
   ·exact h.dec hs hp
   ·split
    ·exact h.work hb hs hp ‹_›
    ·exact h
theorem range'_cons {a n m:Nat} {rest:List Nat} (h:n::rest=List.range' a m):n=a∧rest=List.range' (a+1) (m - 1)∧0<m:=by
 rcases m with _|m
 ·simp at h
 ·rw[List.range'_succ]at h;simp only[List.cons.injEq]at h;exact⟨h.1,by simpa using h.2,by omega⟩
theorem Good.lets {c:Cfg} {y:Lt} (h:Good c y.st) {s w n:Nat} {rest:List Nat} (hs:s<4) (hw:w<3) (hq:(y.st.ports w).queue=n::rest) (hp:(y.st.slaves s).pipe.length<2) (hm:may c y.st w s=true):Good c (letDo c s w n rest y).st:=by
 have hsg:=h.s s hs;have hpg:=h.p w hw;unfold may at hm;rw[hq]at hm;simp only[Bool.and_eq_true,decide_eq_true_eq,beq_iff_eq,Bool.not_eq_true', List.any_eq_false,bne_iff_ne]at hm;obtain⟨⟨ho4,hslv⟩,hcon⟩:=hm;have hql:(y.st.ports w).queue.length=rest.length+1:=by rw[hq];rfl
 have hqq:=hpg.q;rw[hq]at hqq;obtain⟨hn,hrest,_⟩:=range'_cons hqq;simp only[List.length_cons,Nat.add_sub_cancel]at hn hrest;have hqn:=hpg.qn;rw[hql]at hqn;have hnn:(y.st.ports w).next - rest.length=n+1:=by omega
 have hold:(y.st.ports w).next - (y.st.ports w).queue.length=n:=by omega
 have hkeys:zA6 { y.st.slaves s with pipe:=(y.st.slaves s).pipe++[⟨w,n,c.lt s⟩],last:=w }=zA6 (y.st.slaves s)++[(w,n)]:=by simp[zA6]
 refine⟨h.atm,fun v hv=>?_,fun t ht=>?_,fun t v ht hv=>?_,h.t,fun v hv=>?_⟩
 ·by_cases hvw:v=w
  ·subst hvw;simp only[letDo,zA1];refine⟨?_,by simp only;omega,by have:=hpg.q2;simp only;omega,hpg.nx,by simp;omega,?_,?_,?_,hpg.l⟩
   ·simp only[hnn];rw[hrest];simp only[List.length_range'];rw[hn]
   ·intro j hj;simp only[List.mem_append,List.mem_singleton]at hj;simp only[hnn];rcases hj with hj|rfl
    ·have:=hpg.o j hj;rw[hold]at this;exact⟨this.1,this.2.1,by omega⟩
    ·exact⟨rfl,hslv.symm,by simp⟩
   ·simp only[List.pairwise_append,List.pairwise_cons,List.not_mem_nil,List.mem_singleton];refine⟨hpg.os,⟨fun _ h=>absurd h (by simp),List.Pairwise.nil⟩,?_⟩;rintro a ha b rfl;have:=(hpg.o a ha).2.2;rw[hold]at this;exact this
   ·intro a ha b hb e;simp only[List.mem_append,List.mem_singleton]at ha hb;rcases ha with ha|rfl <;> rcases hb with hb|rfl
    ·exact hpg.oi a ha b hb e
    ·have:=hcon a ha;simp only[not_and,Decidable.not_not]at this;exact this (by simpa using e)
    ·have:=hcon b hb;simp only[not_and,Decidable.not_not]at this;exact(this (by simpa using e.symm)).symm
    ·rfl
  ·simp only[letDo,zA0 _ _ hvw];exact h.p v hv
 ·by_cases hts:t=s
  ·subst hts;simp only[letDo,zA1];refine⟨by simp;omega,hsg.d2,by simp only;omega,?_,?_,hsg.dr⟩
   ·intro k hk;rw[hkeys]at hk;simp only[List.mem_append,List.mem_singleton]at hk;rcases hk with hk|rfl
    ·exact hsg.w3 k hk
    ·exact hw
   ·intro i r e;simp only at e;rcases hpp:(y.st.slaves t).pipe with _|⟨a,al⟩
    ·rw[hpp]at e;simp only[List.nil_append,List.cons.injEq]at e;obtain⟨rfl,rfl⟩:=e;exact⟨Nat.le_refl _,by simp⟩
    ·rw[hpp]at e;simp only[List.cons_append,List.cons.injEq]at e;obtain⟨rfl,rfl⟩:=e;have:=hsg.pl _ _ hpp;refine⟨this.1,fun k hk=>?_⟩;simp only[List.mem_append,List.mem_singleton]at hk;rcases hk with hk|rfl
     ·exact this.2 k hk
     ·rfl
  ·simp only[letDo,zA0 _ _ hts];exact h.s t ht
 ·by_cases hts:t=s
  ·subst hts;by_cases hvw:v=w
   ·subst hvw;simp only[letDo,zA1];rw[hkeys,zK3,h.link t v ht hv];simp[nsOf]
   ·simp only[letDo,zA1,zA0 _ _ hvw];rw[hkeys,zK3,h.link t v ht hv];simp[nsOf,Ne.symm hvw]
  ·by_cases hvw:v=w
   ·subst hvw;simp only[letDo,zA1,zA0 _ _ hts,List.filter_append,List.map_append];rw[h.link t v ht hv];simp[Ne.symm hts]
   ·simp only[letDo,zA0 _ _ hvw,zA0 _ _ hts];exact h.link t v ht hv
 ·by_cases hvw:v=w
  ·subst hvw;simp only[letDo,zA1,hnn,List.map_append,List.map_cons,List.map_nil];have:=h.part v hv;rw[hold]at this;rw[List.range_succ,←List.append_assoc];exact this.append_right _
  ·simp only[letDo,zA0 _ _ hvw];exact h.part v hv
theorem good_let1 {c:Cfg} {y:Lt} (h:Good c y.st) {s:Nat} (hs:s<4):Good c (let1 c s y).st:=by
 unfold let1
 split
 ·split
  ·exact h
  ·rename_i k hk;obtain⟨_,_,hm⟩:=zN1 hk;unfold letM at hm;rw[Bool.and_eq_true]at hm
   split
   ·exact h
   ·exact h.lets hs (Nat.mod_lt _ (by omega)) ‹_› ‹_› hm.2
 ·exact h
theorem Good.ask {c:Cfg} {x:Cy×List Ev} (h:Good c x.1) {w:Nat} (hw:w<3) (hq:(x.1.ports w).queue.length<2) (hn:(x.1.ports w).next<(c.prog w).length):Good c (askDo w x).1:=by
 have hpg:=h.p w hw;have hqn:=hpg.qn;have hold:(x.1.ports w).next+1 - ((x.1.ports w).queue.length+1)=(x.1.ports w).next - (x.1.ports w).queue.length:=by omega
 refine⟨h.atm,fun v hv=>?_,h.s,fun t v ht hv=>?_,h.t,fun v hv=>?_⟩
 ·by_cases hvw:v=w
  ·subst hvw;simp only[askDo,zA1];refine⟨?_,by simp;omega,by simp;omega,by simp only;omega,hpg.o4,?_,hpg.os,hpg.oi,hpg.l⟩
   ·simp only[List.length_append,List.length_singleton,hold];rw[List.range'_1_concat]
    congr 1
    ·exact hpg.q
    ·congr 1;omega
   ·intro j hj;simp only[List.length_append,List.length_singleton,hold];exact hpg.o j hj
  ·simp only[askDo,zA0 _ _ hvw];exact h.p v hv
 ·by_cases hvw:v=w
  ·subst hvw;simp only[askDo,zA1];exact h.link t v ht hv
  ·simp only[askDo,zA0 _ _ hvw];exact h.link t v ht hv
 ·by_cases hvw:v=w
  ·subst hvw;simp only[askDo,zA1,List.length_append,List.length_singleton,hold];exact h.part v hv
  ·simp only[askDo,zA0 _ _ hvw];exact h.part v hv
theorem good_ask1 {c:Cfg} {inp:Inp} {x:Cy×List Ev} (h:Good c x.1) {w:Nat} (hw:w<3):Good c (ask1 c inp w x).1:=by
 unfold ask1
 split
 ·rename_i hc;exact h.ask hw hc.2.1 hc.2.2
 ·exact h
theorem good_tellAll {c:Cfg} {inp:Inp} {x:Cy×List Ev} (h:Good c x.1):Good c (zE0 inp x).1:=zD6 (P:=fun x:Cy×List Ev=>Good c x.1) 3 x h fun _ _ hi hx=>good_tell1 hx hi
theorem good_workAll {c:Cfg} (hb:Bus c) {inp:Inp} {x:Cy×List Ev} (h:Good c x.1):Good c (zF0 c inp x).1:=zD6 (P:=fun x:Cy×List Ev=>Good c x.1) 4 x h fun _ _ hi hx=>good_work1 hb hx hi
theorem good_letAll {c:Cfg} {st:Cy} (h:Good c st):Good c (zL7 c st).st:=zD6 (P:=fun y:Lt=>Good c y.st) 4 ⟨st,fun _=>false,fun _=>0⟩ h fun _ _ hi hx=>good_let1 hx hi
theorem good_askAll {c:Cfg} {inp:Inp} {x:Cy×List Ev} (h:Good c x.1):Good c (askAll c inp x).1:=zD6 (P:=fun x:Cy×List Ev=>Good c x.1) 3 x h fun _ _ hi hx=>good_ask1 hx hi
theorem good_step {c:Cfg} (hb:Bus c) {inp:Inp} {st:Cy} (h:Good c st):Good c (cyc c inp st) :=
 good_askAll (x:=((zL7 c (zF0 c inp (zE0 inp (st,[]))).1).st,_)) (good_letAll (good_workAll hb (good_tellAll (x:=(st,[])) h)))
theorem zM8 {c : Cfg} (hb : Bus c) : ∀ (ins : List Inp) {st : Cy}, Good c st → Good c (runC c ins st)
 |[],_,h=>h
 |_::rest,_,h=>zM8 hb rest (good_step hb h)
def down {α : Type} [Inhabited α] (lt : α → α → Bool) : Nat → List α → List α
 |0,l=>l
 |j+1,l=>if lt (l.getD (j+1) default) (l.getD j default)=true then down lt j ((l.set (j+1) (l.getD j default)).set j (l.getD (j+1) default)) else l
def isort {α : Type} [Inhabited α] (lt : α → α → Bool) : Nat → List α → List α
 |0,l=>l
 |i+1,l=>down lt (i+1) (isort lt i l)
theorem down_less {α:Type} [Inhabited α] (lt:α→α→Bool) (j:Nat) (l:List α) (h:lt (l.getD (j+1) default) (l.getD j default)=true):down lt (j+1) l=down lt j ((l.set (j+1) (l.getD j default)).set j (l.getD (j+1) default)):=by
 show(if _ then _ else _)=_;rw[if_pos h]
theorem down_stop {α:Type} [Inhabited α] (lt:α→α→Bool) (j:Nat) (l:List α) (h:lt (l.getD (j+1) default) (l.getD j default)=false):down lt (j+1) l=l:=by
 show(if _ then _ else _)=_;rw[if_neg (by rw[h];simp)]
theorem down_len {α : Type} [Inhabited α] (lt : α → α → Bool) : ∀ (j : Nat) (l : List α), (down lt j l).length = l.length
 |0,_=>rfl
 |j+1,l=>by
  show(if _ then _ else _:List α).length=_
  split
  ·rw[down_len lt j];simp
  ·rfl
theorem isort_len {α : Type} [Inhabited α] (lt : α → α → Bool) : ∀ (i : Nat) (l : List α), (isort lt i l).length = l.length
 |0,_=>rfl
 |i+1,l=>by show(down lt (i+1) (isort lt i l)).length=_;rw[down_len,isort_len lt i l]
def insR {α : Type} (lt : α → α → Bool) (x : α) : List α → List α
 |[]=>[x]
 |y::r=>if lt x y=true then y::insR lt x r else x::y::r
theorem insR_perm {α : Type} (lt : α → α → Bool) (x : α) : ∀ r : List α, (insR lt x r).Perm (x :: r)
 |[]=>List.Perm.refl _
 |y::r=>by
  unfold insR
  split
  ·exact((insR_perm lt x r).cons y).trans (List.Perm.swap x y r)
  ·exact List.Perm.refl _
theorem down_ins {α : Type} [Inhabited α] (lt : α → α → Bool) (x : α) : ∀ (r s : List α), down lt r.length (r.reverse ++ x :: s) = (insR lt x r).reverse ++ s
 |[],s=>by simp[down,insR]
 |y::r,s=>by
  have e1:((y::r).reverse++x::s)=r.reverse++y::x::s:=by simp
  have g1:(r.reverse++y::x::s).getD (r.length+1) default=x:=by simp[List.getD,List.getElem?_append_right]
  have g0:(r.reverse++y::x::s).getD r.length default=y:=by simp[List.getD,List.getElem?_append_right]
  rw[e1];show down lt (r.length+1) _=_;rcases h:lt x y with _|_
  ·rw[down_stop lt _ _ (by rw[g1,g0];exact h)];simp[insR,h]
  ·rw[down_less lt _ _ (by rw[g1,g0];exact h),g1,g0];have e2:((r.reverse++y::x::s).set (r.length+1) y).set r.length x=r.reverse++x::y::s:=by
    rw[List.set_append_right _ _ (by simp),List.set_append_right _ _ (by simp)];simp
   rw[e2,down_ins lt x r (y::s)];simp[insR,h]
theorem down_perm {α:Type} [Inhabited α] (lt:α→α→Bool) (j:Nat) (l:List α) (h:j<l.length):(down lt j l).Perm l:=by
 have e:l=(l.take j).reverse.reverse++l.getD j default::l.drop (j+1):=by
  simp only[List.reverse_reverse];rw[List.getD_eq_getElem?_getD,List.getElem?_eq_getElem h,Option.getD_some,List.getElem_cons_drop,List.take_append_drop]
 have hj:j=(l.take j).reverse.length:=by simp;omega
 have:=down_ins lt (l.getD j default) (l.take j).reverse (l.drop (j+1));rw[←hj,←e]at this;rw[this];refine((List.reverse_perm _).append_right _).trans ?_;refine((insR_perm lt _ _).append_right _).trans ?_
 conv=>rhs;rw[e]
 simp only[List.reverse_reverse,List.cons_append];exact(((List.reverse_perm (l.take j)).append_right _).cons _).trans (List.perm_middle.symm)
theorem isort_perm {α : Type} [Inhabited α] (lt : α → α → Bool) : ∀ (i : Nat) (l : List α), i < l.length → (isort lt i l).Perm l
 |0,_,_=>List.Perm.refl _
 |i+1,l,h=>(down_perm lt (i+1) (isort lt i l) (by rw[isort_len];exact h)).trans (isort_perm lt i l (by omega))
structure Ord3 {α:Type} (lt:α→α→Bool) (le:α→α→Prop):Prop where
 t:∀a b,lt a b=true→le a b
 f:∀a b,lt a b=false→le b a
 tr:∀a b c,le a b→le b c→le a c
theorem insR_sorted {α : Type} {lt : α → α → Bool} {le : α → α → Prop} (O : Ord3 lt le) (x : α) : ∀ r : List α, r.reverse.Pairwise le → (insR lt x r).reverse.Pairwise le
 |[],_=>by simp[insR]
 |y::r,h=>by
  rw[List.reverse_cons,List.pairwise_append]at h;unfold insR
  split
  ·rename_i hl;rw[List.reverse_cons,List.pairwise_append];refine⟨insR_sorted O x r h.1,by simp,fun a ha b hb=>?_⟩;rw[List.mem_singleton]at hb;subst hb;rw[List.mem_reverse]at ha;rcases List.mem_cons.1 ((insR_perm lt x r).mem_iff.1 ha)with rfl|h2
   ·exact O.t _ _ hl
   ·exact h.2.2 a (List.mem_reverse.2 h2) b (by simp)
  ·rename_i hl;have hxy:=O.f x y (by simpa using hl);rw[List.reverse_cons,List.pairwise_append];refine⟨by rw[List.reverse_cons,List.pairwise_append];exact h,by simp,fun a ha b hb=>?_⟩;rw[List.mem_singleton]at hb;subst hb;rw[List.reverse_cons,List.mem_append,List.mem_singleton]at ha;rcases ha with ha|rfl
   ·exact O.tr _ _ _ (h.2.2 a ha y (by simp)) hxy
   ·exact hxy
theorem isort_sorted {α : Type} [Inhabited α] {lt : α → α → Bool} {le : α → α → Prop} (O : Ord3 lt le) : ∀ (i : Nat) (l : List α), i < l.length → ((isort lt i l).take (i + 1)).Pairwise le
 |0,l,h=>by
  show(l.take 1).Pairwise le;rcases l with _|⟨a,l⟩ <;> simp
 |i+1,l,h=>by
  obtain⟨m,hm⟩:∃m,m=isort lt i l:=⟨_,rfl⟩
  have hlen:i+1<m.length:=by rw[hm,isort_len];exact h
  have ih:=isort_sorted O i l (by omega);rw[←hm]at ih;show((down lt (i+1) (isort lt i l)).take (i+1+1)).Pairwise le;rw[←hm];have e:m=(m.take (i+1)).reverse.reverse++m.getD (i+1) default::m.drop (i+1+1):=by
   simp only[List.reverse_reverse];rw[List.getD_eq_getElem?_getD,List.getElem?_eq_getElem hlen,Option.getD_some,List.getElem_cons_drop,List.take_append_drop]
  have hj:i+1=(m.take (i+1)).reverse.length:=by simp;omega
  have h2:=down_ins lt (m.getD (i+1) default) (m.take (i+1)).reverse (m.drop (i+1+1));rw[←hj,←e]at h2;rw[h2,List.take_append_of_le_length (by rw[List.length_reverse,(insR_perm lt _ _).length_eq];simp;omega),List.take_of_length_le (by rw[List.length_reverse,(insR_perm lt _ _).length_eq];simp;omega)];exact insR_sorted O _ _ (by rw[List.reverse_reverse];exact ih)
def zL5 {α:Type} [Inhabited α] (lt:α→α→Bool) (l:List α):List α:=isort lt (l.length - 1) l
theorem zF2 {α:Type} [Inhabited α] (lt:α→α→Bool) (l:List α):(zL5 lt l).Perm l:=by
 unfold zL5;rcases l with _|⟨a,l⟩
 ·exact List.Perm.refl _
 ·exact isort_perm lt _ _ (by simp)
theorem sorted_sorted {α:Type} [Inhabited α] {lt:α→α→Bool} {le:α→α→Prop} (O:Ord3 lt le) (l:List α):(zL5 lt l).Pairwise le:=by
 unfold zL5;rcases l with _|⟨a,l⟩
 ·simp[isort]
 ·have:=isort_sorted O ((a::l).length - 1) (a::l) (by simp)
  rwa [List.take_of_length_le (by rw[isort_len];simp)]at this
def kOf (j:TJ):Nat×Nat:=(j.who,j.n)
def kLt (a b:TJ):Bool:=decide (a.who<b.who) || (a.who==b.who&&decide (a.n<b.n))
def kLe (a b:TJ):Prop:=a.who<b.who∨(a.who=b.who∧a.n≤b.n)
theorem kLt_iff (a b:TJ):kLt a b=true↔a.who<b.who∨(a.who=b.who∧a.n<b.n):=by simp[kLt]
theorem ordK:Ord3 kLt kLe:=by
 refine⟨fun a b h=>?_,fun a b h=>?_,fun a b c h1 h2=>?_⟩
 ·rw[kLt_iff]at h;unfold kLe;omega
 ·have:¬(kLt a b=true):=by rw[h];simp
  rw[kLt_iff]at this;unfold kLe;omega
 ·unfold kLe at *;omega
def kQ (st:Cy) (w:Nat):List (Nat×Nat):=(st.ports w).queue.map fun n=>(w,n)
def kP (st:Cy) (s:Nat):List (Nat×Nat):=(st.slaves s).pipe.map fun j=>(j.who,j.n)
def kD (st:Cy) (s:Nat):List (Nat×Nat):=(st.slaves s).done.map fun j=>(j.who,j.n)
def kWait (st:Cy):List (Nat×Nat):=kQ st 0++kQ st 1++kQ st 2++kP st 0++kP st 1++kP st 2++kP st 3
def kDone (st:Cy):List (Nat×Nat):=kD st 0++kD st 1++kD st 2++kD st 3
def kTold (st:Cy):List (Nat×Nat):=st.told.map fun j=>(j.who,j.n)
def kAll (st:Cy):List (Nat×Nat):=kWait st++kDone st++kTold st
theorem nsOf_q (st:Cy) (w v:Nat):nsOf w (kQ st v)=if v=w then(st.ports w).queue else[]:=by
 unfold nsOf kQ;by_cases h:v=w
 ·subst h;simp[List.filter_map,Function.comp_def]
 ·simp[h,List.filter_map,Function.comp_def]
theorem nsOf_told (st:Cy) (w:Nat):nsOf w (kTold st)=(st.told.filter (fun j=>j.who==w)).map (·.n):=by
 unfold nsOf kTold;simp[List.filter_map,Function.comp_def]
theorem filter4 (l:List Jb) (h:∀j∈l,j.left<4):((l.filter (fun j=>j.left==0))++(l.filter (fun j=>j.left==1))++(l.filter (fun j=>j.left==2))++(l.filter (fun j=>j.left==3))).Perm l:=by
 induction l with
 |nil=>exact List.Perm.refl _
 |cons x l ih=>
  have ih:=ih fun j hj=>h j (List.mem_cons_of_mem _ hj)
  have hx:=h x (by simp);rcases(show x.left=0∨x.left=1∨x.left=2∨x.left=3 by omega)with e|e|e|e
  ·simp only[List.filter_cons,e];simpa using ih
  ·simp only[List.filter_cons,e];simp only[show((1:Nat)==0)=false from rfl,show((1:Nat)==2)=false from rfl,show((1:Nat)==3)=false from rfl,beq_self_eq_true,if_true,Bool.false_eq_true,if_false];refine List.Perm.trans ?_ (ih.cons x);simp only[List.append_assoc,List.cons_append];exact List.perm_middle
  ·simp only[List.filter_cons,e];simp only[show((2:Nat)==0)=false from rfl,show((2:Nat)==1)=false from rfl,show((2:Nat)==3)=false from rfl,beq_self_eq_true,if_true,Bool.false_eq_true,if_false];refine List.Perm.trans ?_ (ih.cons x);simp only[List.append_assoc,List.cons_append];rw[←List.append_assoc,←List.append_assoc];exact List.perm_middle
  ·simp only[List.filter_cons,e];simp only[show((3:Nat)==0)=false from rfl,show((3:Nat)==1)=false from rfl,show((3:Nat)==2)=false from rfl,beq_self_eq_true,if_true,Bool.false_eq_true,if_false];exact List.Perm.trans List.perm_middle (ih.cons x)
theorem slv_lt4 {ms:List MR} (h:mapOk ms=true) (r:Rq):(zH7 ms r).toNat<4:=by
 unfold zH7
 split
 ·simp
 ·rename_i hh;have hlt:=zI5 ms (zA4 r);have hk:(zA5 ms (zA4 r)).toNat<ms.length:=by omega
  simp only[mapOk,Bool.and_eq_true,List.all_eq_true]at h;have h2:=h.2 _ (List.mem_range.2 hk);simp only[zL4,Bool.and_eq_true,inB,decide_eq_true_eq]at h2;omega
theorem Good.all {c:Cfg} (hb:Bus c) {st:Cy} (h:Good c st) {w:Nat} (hw:w<3):(nsOf w (kAll st)).Perm (List.range (st.ports w).next):=by
 have hp:=h.p w hw;have hkeys:∀s,(nsOf w (kD st s)++nsOf w (kP st s))=nsOf w (zA6 (st.slaves s)):=fun s=>by rw[←zK3];rfl
 have hl:=fun s hs=>h.link s w hs hw
 have h4:=(filter4 (st.ports w).out (fun j hj=>by rw[(hp.o j hj).2.1];exact slv_lt4 hb.ms _)).map (·.n);simp only[List.map_append]at h4;rw[←hl 0 (by omega),←hl 1 (by omega),←hl 2 (by omega),←hl 3 (by omega)]at h4;have hq:nsOf w (kQ st 0++kQ st 1++kQ st 2)=(st.ports w).queue:=by
  simp only[zK3,nsOf_q];rcases(show w=0∨w=1∨w=2 by omega)with rfl|rfl|rfl <;> simp
 have hr:(List.range (st.ports w).next)=List.range ((st.ports w).next - (st.ports w).queue.length)++(st.ports w).queue:=by
  rw[List.range_eq_range', List.range_eq_range'];have:=hp.qn
  conv=>lhs;rw[show(st.ports w).next=((st.ports w).next - (st.ports w).queue.length)+(st.ports w).queue.length by omega,←List.range'_append_1]
  rw[Nat.zero_add,←hp.q]
 rw[hr];refine List.Perm.trans ?_ ((h.part w hw).append_right _);have e:nsOf w (kAll st)=(st.ports w).queue++nsOf w (kP st 0)++nsOf w (kP st 1)++nsOf w (kP st 2)++nsOf w (kP st 3)++nsOf w (kD st 0)++nsOf w (kD st 1)++nsOf w (kD st 2)++nsOf w (kD st 3)++nsOf w (kTold st):=by
  rw[←hq];simp only[kAll,kWait,kDone,zK3,List.append_assoc]
 rw[e,nsOf_told];simp only[←hkeys]at h4;obtain⟨Q,hQ⟩:∃Q,Q=(st.ports w).queue:=⟨_,rfl⟩
 rw[←hQ];generalize nsOf w (kP st 0)=a0 at *;generalize nsOf w (kP st 1)=a1 at *;generalize nsOf w (kP st 2)=a2 at *;generalize nsOf w (kP st 3)=a3 at *;generalize nsOf w (kD st 0)=b0 at *;generalize nsOf w (kD st 1)=b1 at *;generalize nsOf w (kD st 2)=b2 at *;generalize nsOf w (kD st 3)=b3 at *;generalize (st.told.filter (fun j=>j.who==w)).map (·.n)=T at *;have hc:∀a:Nat,List.count a ((st.ports w).out.map (·.n))=List.count a (b0++a0++(b1++a1)++(b2++a2)++(b3++a3)):=fun a=>(h4.count_eq a).symm
 rw[List.perm_iff_count];intro a;have:=hc a;simp only[List.count_append]at this ⊢;omega
theorem Good.kin {c:Cfg} (hb:Bus c) {st:Cy} (h:Good c st) {k:Nat×Nat} (hk:k∈kAll st):k.1<3∧k.2<(st.ports k.1).next:=by
 have hw:k.1<3:=by
  simp only[kAll,kWait,kDone,kTold,kQ,kP,kD,List.mem_append,List.mem_map]at hk;have hs:∀s,s<4→k∈zA6 (st.slaves s)→k.1<3:=fun s hs hk=>(h.s s hs).w3 k hk
  simp only[zA6,List.mem_append,List.mem_map]at hs;rcases hk with((((((((⟨n,_,rfl⟩|⟨n,_,rfl⟩)|⟨n,_,rfl⟩)|hk)|hk)|hk)|hk))|(((hk|hk)|hk)|hk))|⟨j,hj,rfl⟩
  ·simp
  ·simp
  ·simp
  ·exact hs 0 (by omega) (.inr hk)
  ·exact hs 1 (by omega) (.inr hk)
  ·exact hs 2 (by omega) (.inr hk)
  ·exact hs 3 (by omega) (.inr hk)
  ·exact hs 0 (by omega) (.inl hk)
  ·exact hs 1 (by omega) (.inl hk)
  ·exact hs 2 (by omega) (.inl hk)
  ·exact hs 3 (by omega) (.inl hk)
  ·exact(h.t j hj).1
 refine⟨hw,?_⟩;have:=(h.all hb hw).mem_iff.1 (mem_nsOf.2 (show(k.1,k.2)∈kAll st from hk));exact List.mem_range.1 this
theorem nodup_of_ns {l:List (Nat×Nat)} (h:∀w,(nsOf w l).Nodup):l.Nodup:=by
 induction l with
 |nil=>exact List.nodup_nil
 |cons k l ih=>
  rw[List.nodup_cons]
  constructor
  ·intro hk;have:=h k.1;have e:nsOf k.1 (k::l)=k.2::nsOf k.1 l:=zK2 k.1 k.2 l;rw[e,List.nodup_cons]at this;exact this.1 (mem_nsOf.2 hk)
  ·refine ih fun w=>?_
   have:=h w;by_cases e:k.1=w
   ·subst e;rw[show nsOf k.1 (k::l)=k.2::nsOf k.1 l from zK2 k.1 k.2 l,List.nodup_cons]at this;exact this.2
   ·rwa [show nsOf w (k::l)=nsOf w l from zH1 k.2 l e]at this
theorem Good.nodup {c:Cfg} (hb:Bus c) {st:Cy} (h:Good c st):(kAll st).Nodup:=by
 refine nodup_of_ns fun w=>?_
 by_cases hw:w<3
 ·exact(h.all hb hw).nodup_iff.2 List.nodup_range
 ·have:nsOf w (kAll st)=[]:=by
   rw[List.eq_nil_iff_forall_not_mem];intro n hn;have:=(h.kin hb (mem_nsOf.1 hn)).1;omega
  rw[this];exact List.nodup_nil
theorem len_of_ns (l:List (Nat×Nat)) (h:∀k∈l,k.1<3):l.length=(nsOf 0 l).length+(nsOf 1 l).length+(nsOf 2 l).length:=by
 induction l with
 |nil=>rfl
 |cons k l ih=>
  have ih:=ih fun x hx=>h x (List.mem_cons_of_mem _ hx)
  have hk:=h k (by simp);obtain⟨a,b⟩:=k;simp only at hk;rcases(show a=0∨a=1∨a=2 by omega)with rfl|rfl|rfl
  ·rw[zK2,zH1 _ _ (by omega),zH1 _ _ (by omega)];simp only[List.length_cons];omega
  ·rw[zK2,zH1 _ _ (by omega),zH1 _ _ (by omega)];simp only[List.length_cons];omega
  ·rw[zK2,zH1 _ _ (by omega),zH1 _ _ (by omega)];simp only[List.length_cons];omega
theorem Good.many {c:Cfg} (hb:Bus c) {st:Cy} (h:Good c st):(kAll st).length=(st.ports 0).next+(st.ports 1).next+(st.ports 2).next:=by
 rw[len_of_ns _ fun k hk=>(h.kin hb hk).1];have e:=fun w (hw:w<3)=>(h.all hb hw).length_eq
 simp only[List.length_range]at e;rw[e 0 (by omega),e 1 (by omega),e 2 (by omega)]
end Go.Proofs.YtgkdoehkmbhfiaaGreat
namespace Go.Proofs.YtgkdoehkmbhfiaaGreat
open Go.RowKit
abbrev KEY:TypeId:=162
def kv (a b:Nat):Value:=.agg #[.int .i64 a,.int .i64 b]
theorem keys_some:((List.range 3).all fun a=>(List.range 12).all fun b=>(keyOf Tryz.prog KEY (kv a b)).isSome)=true:=by kernel_rfl
noncomputable def kl (a b:Nat):Lit:=(keyOf Tryz.prog KEY (kv a b)).getD (.bool false)
theorem keyOf_kv {a b:Nat} (ha:a<3) (hb:b<12):keyOf Tryz.prog KEY (kv a b)=some (kl a b):=by
 have h:=keys_some;rw[List.all_eq_true]at h;have h1:=h a (List.mem_range.2 ha);rw[List.all_eq_true]at h1;have h2:=h1 b (List.mem_range.2 hb);unfold kl;rcases e:keyOf Tryz.prog KEY (kv a b)with _|l
 ·rw[e]at h2;cases h2
 ·rfl
theorem laidP:laidOutB Tryz.prog=true:=by kernel_rfl
theorem law_key:Maps.Keyed Tryz.prog KEY:=Maps.Keyed.of_law (deep_law_laid laidP (m:=2) (by omega) (of_decide_eq_true (by kernel_rfl)) (by kernel_rfl) (by kernel_rfl))
theorem kl_inj {a b a' b':Nat} (ha:a<3) (hb:b<12) (ha':a' < 3) (hb':b' < 12) (h:kl a b=kl a' b'):a=a' ∧ b=b':=by
 have h1:=keyOf_kv ha hb;have h2:=keyOf_kv ha' hb';rw[←h]at h2;have:=law_key.inj h1 h2;simp only[kv,Value.agg.injEq,Array.mk.injEq,List.cons.injEq,Value.int.injEq,true_and,and_true]at this;omega
theorem mapKB_under:Tryz.prog.underlying 159=some (.map KEY 4):=by kernel_rfl
theorem zero_bool (w:World):(zeroValue 4).run Tryz.prog w=.ok (.bool false) w:=by kernel_rfl
def SetM (w : World) (b : Nat) (L : List (Nat × Nat)) : Prop := ∃ D : DataW Unit, w.ownsMap Tryz.prog KEY (plainElem Tryz.prog 4) b L.length D ∧ Maps.size D = L.length ∧
 ∀x y,x<3→y<12→D.atKey (kl x y) (.lit (.bool false))=.lit (.bool (decide ((x,y)∈L)))  ∧ Maps.has D (kl x y)=decide ((x,y)∈L)
theorem SetM.below {w w':World} {b:Nat} {L:List (Nat×Nat)} (h:SetM w b L) (hb:Below w.heap.size w w'):SetM w' b L:=by
 obtain⟨D,h1,h2⟩:=h;have hlt:=h1.lt;obtain⟨es,clock,e1,e2⟩:=h1;exact⟨D,⟨es,clock,(hb.block b hlt).trans e1,e2⟩,h2⟩
theorem SetM.lt {w:World} {b:Nat} {L:List (Nat×Nat)} (h:SetM w b L):b<w.heap.size:=h.choose_spec.1.lt
theorem SetM.new (w:World):SetM (w.alloc (.map #[] 0)) w.heap.size []:=⟨.map [],World.ownsMap_made _ _ _ _,rfl,fun x y _ _=>⟨by simp[DataW.atKey],by simp[Maps.has]⟩⟩
set_option maxRecDepth 20000 in
theorem SetM.look {w:World} {b:Nat} {L:List (Nat×Nat)} (h:SetM w b L) {x y:Nat} (hx:x<3) (hy:y<12) (hn:(x,y) ∉ L):(Instr.lookup 159 (.map (some b)) (.agg #[.int .i64 x,.int .i64 y]) false).run Tryz.prog w=.ok (.bool false) w:=by
 obtain⟨D,h1,h2,h3⟩:=h;obtain⟨v,ps,hr,hv⟩:=h1.lookup law_key mapKB_under (zero_bool w) (plainElem_bool Tryz.underlying4 false) (keyOf_kv hx hy);rw[(h3 x y hx hy).1,decide_eq_false hn]at hv;have:v=.bool false:=by
  unfold plainElem at hv;rw[Tryz.underlying4]at hv;cases v <;> simp at hv;simpa using hv.1
 rw[this]at hr;exact hr
set_option maxRecDepth 20000 in
theorem SetM.put {w w' : World} {b : Nat} {L : List (Nat × Nat)} {D : DataW Unit} (h1 : w.ownsMap Tryz.prog KEY (plainElem Tryz.prog 4) b L.length D) (h2 : Maps.size D = L.length)
  (h3:∀x y,x<3→y<12→D.atKey (kl x y) (.lit (.bool false))=.lit (.bool (decide ((x,y)∈L)))  ∧ Maps.has D (kl x y)=decide ((x,y)∈L)) {x y:Nat} (hx:x<3) (hy:y<12) (hn:(x,y) ∉ L)
  (h:w'.ownsMap Tryz.prog KEY (plainElem Tryz.prog 4) b (L.length+1) (D.put (kl x y) (.lit (.bool true)))):SetM w' b (L++[(x,y)]):=by
 have hk:=law_key.key (keyOf_kv hx hy);refine⟨_,by rw[List.length_append];exact h,?_,fun a c ha hc=>?_⟩
 ·rw[Maps.size_put (h1.tidy law_key),(h3 x y hx hy).2,decide_eq_false hn];simp[h2]
 ·by_cases e:a=x∧c=y
  ·obtain⟨rfl,rfl⟩:=e;exact⟨by rw[Maps.atKey_put_same h1.isMap hk];simp,by rw[Maps.has_put_same h1.isMap hk];simp⟩
  ·have hne:kl a c≠kl x y:=fun h=>e (kl_inj ha hc hx hy h)
   rw[Maps.atKey_put_other hne,Maps.has_put_other hne,(h3 a c ha hc).1,(h3 a c ha hc).2];have:decide ((a,c)∈L)=decide ((a,c)∈L++[(x,y)]):=by
    rw[decide_eq_decide];simp only[List.mem_append,List.mem_singleton,Prod.mk.injEq];exact⟨fun h=>.inl h,fun h=>h.resolve_right e⟩
   exact⟨by rw[this],this⟩
def icmp (a b:Int):Int:=if a<b then -1 else if b<a then 1 else 0
theorem isNaN_any (a:Int) (w:World):Calls Tryz.prog 165 #[.int .i64 a] w fun e w' => e=.returned (.bool false)∧w=w':=by
 go_enter Tryz.func165,Tryz.ntmps165
 go_wp2
 go_ret
 exact⟨by simp,rfl⟩
theorem cmpInt_any (a b:Int) (w:World):Calls Tryz.prog 127 #[.int .i64 a,.int .i64 b] w fun e w' => e=.returned (.int .i64 (icmp a b))∧w=w':=by
 rcases Int.lt_trichotomy a b with h|h|h
 ·have HI:=hid (show icmp a b = -1 by unfold icmp;rw[if_pos h])
  go_enter Tryz.func127,Tryz.ntmps127
  go_wp2_with (go_at_call 165;refine(isNaN_any _ _).mono ?_;rintro e w' ⟨rfl,rfl⟩)
  go_ret
  exact⟨by rw[HI.out];rfl,rfl⟩
 ·subst h;have HI:=hid (show icmp a a=0 by unfold icmp;simp);have h1:decide (a<a)=false:=by simp
  go_enter Tryz.func127,Tryz.ntmps127
  go_wp2_with (go_at_call 165;refine(isNaN_any _ _).mono ?_;rintro e w' ⟨rfl,rfl⟩)
  go_ret
  exact⟨by rw[HI.out];rfl,rfl⟩
 ·have HI:=hid (show icmp a b=1 by unfold icmp;rw[if_neg (by omega),if_pos h]);have h1:decide (a<b)=false:=by rw[decide_eq_false_iff_not];omega
  go_enter Tryz.func127,Tryz.ntmps127
  go_wp2_with (go_at_call 165;refine(isNaN_any _ _).mono ?_;rintro e w' ⟨rfl,rfl⟩)
  go_ret
  exact⟨by rw[HI.out];rfl,rfl⟩
theorem or_any (a b : Int) (g c : Nat) (w : World) (h0 : w.cell? ⟨g, 0, none⟩ = some (.int .i64 a)) (h1 : w.cell? ⟨g, 1, none⟩ = some (.int .i64 b)) :
  Calls Tryz.prog 126 #[.slice (some ⟨g,0,none⟩) 2 c] w fun e w' => e=.returned (.int .i64 (if a=0 then b else a))∧w=w':=by
 by_cases ha:a=0
 ·subst ha;by_cases hb:b=0
  ·subst hb
   go_enter Tryz.func126,Tryz.ntmps126
   go_wp2_with fail
   refine wp_loop_rounds 3 ?_
   iterate 3 (first|(rw[rounds_succ];go_wp2_with fail))
   go_ret
   exact⟨by simp,rfl⟩
  ·have hb':(b != 0)=true:=by simpa using hb
   go_enter Tryz.func126,Tryz.ntmps126
   go_wp2_with fail
   refine wp_loop_rounds 3 ?_;rw[rounds_succ];go_wp2_with fail;rw[rounds_succ];go_wp2_with fail
   go_ret
   exact⟨by simp,rfl⟩
 ·have ha':(a != 0)=true:=by simpa using ha
  go_enter Tryz.func126,Tryz.ntmps126
  go_wp2_with fail
  refine wp_loop_rounds 3 ?_;rw[rounds_succ];go_wp2_with fail
  go_ret
  exact⟨by simp[ha],rfl⟩
def kcmp (a b:TJ):Int:=if icmp a.who b.who=0 then icmp a.n b.n else icmp a.who b.who
theorem kcmp_lt (a b:TJ):decide (kcmp a b<0)=kLt a b:=by
 rw[Bool.eq_iff_iff,decide_eq_true_eq,kLt_iff];unfold kcmp icmp
 split <;> (try split) <;> (try split) <;> omega
theorem kcmp_ge (a b:TJ):decide (0≤kcmp a b)=!kLt a b:=by
 rw[←kcmp_lt];by_cases h:0≤kcmp a b
 ·rw[decide_eq_true h,decide_eq_false (by omega)];rfl
 ·rw[decide_eq_false h,decide_eq_true (by omega)];rfl
def CmpP (a b:TJ) (w:World) (e:Ending) (w':World):Prop:=e=.returned (.int .i64 (kcmp a b))∧Below w.heap.size w w'
set_option maxRecDepth 8000 in
theorem cmpJobs_any (a b : TJ) (x1 x2 : Option Addr) (n1 c1 n2 c2 : Nat) (w : World) :
  Calls Tryz.prog 75 #[.agg #[.int .i64 a.who,.int .i64 a.n,.int .i64 a.rsp.id,.int .i64 a.rsp.code,.slice x1 n1 c1],.agg #[.int .i64 b.who,.int .i64 b.n,.int .i64 b.rsp.id,.int .i64 b.rsp.code,.slice x2 n2 c2]] w (CmpP a b w):=by
 obtain⟨aw,an,ar⟩:=a;obtain⟨bw,bn,br⟩:=b;obtain⟨w0,hw0⟩:∃W,W=((w.alloc (.cells #[.int .i64 aw,.int .i64 an,.int .i64 ar.id,.int .i64 ar.code,.slice x1 n1 c1] 65)).alloc (.cells #[.int .i64 bw,.int .i64 bn,.int .i64 br.id,.int .i64 br.code,.slice x2 n2 c2] 65)):=⟨_,rfl⟩
 have HB0:=hid (show Below w.heap.size w w0 by rw[hw0];exact((Below.refl _ _).alloc (Nat.le_refl _) _).alloc (by simp) _);have HP:=hid (show kcmp ⟨aw,an,ar⟩ ⟨bw,bn,br⟩=if icmp aw bw=0 then icmp an bn else icmp aw bw from rfl);have p0:w0.cell? ⟨w.heap.size,0,none⟩=some (.int .i64 aw):=by rw[hw0];simp[go_sem]
 have p1:w0.cell? ⟨w.heap.size,1,none⟩=some (.int .i64 an):=by rw[hw0];simp[go_sem]
 have q0:w0.cell? ⟨w.heap.size+1,0,none⟩=some (.int .i64 bw):=by rw[hw0];simp[go_sem]
 have q1:w0.cell? ⟨w.heap.size+1,1,none⟩=some (.int .i64 bn):=by rw[hw0];simp[go_sem]
 obtain⟨i1,hi1⟩:∃x,x=icmp aw bw:=⟨_,rfl⟩
 obtain⟨i2,hi2⟩:∃x,x=icmp an bn:=⟨_,rfl⟩
 rw[←hi1,←hi2]at HP;have HI1:=hid hi1;have HI2:=hid hi2;clear hi1 hi2
 go_enter Tryz.func75,Tryz.ntmps75
 go_upto_region 1 with fail
 rw[←hw0];clear hw0;refine wp_region_still_tail 10 (by kernel_rfl) (by kernel_rfl) ?_;obtain⟨w9,hw9⟩:∃w9,w9=w0.drew:=⟨_,rfl⟩
 change wpStill Tryz.prog _ w0.drew (fun a' => wpList Tryz.prog _ _ _ a' w0.drew) _ _;have r0:w9.cell? ⟨w.heap.size,0,none⟩=some (.int .i64 aw):=by rw[hw9];exact p0
 have r1:w9.cell? ⟨w.heap.size,1,none⟩=some (.int .i64 an):=by rw[hw9];exact p1
 have s0:w9.cell? ⟨w.heap.size+1,0,none⟩=some (.int .i64 bw):=by rw[hw9];exact q0
 have s1:w9.cell? ⟨w.heap.size+1,1,none⟩=some (.int .i64 bn):=by rw[hw9];exact q1
 have HB9:=hid (show Below w.heap.size w w9 by rw[hw9];exact HB0.out.drew);rw[←hw9];clear hw9 p0 p1 q0 q1;simp only[List.take_succ_cons,List.take_zero,List.drop_succ_cons,List.drop_zero]
 repeat still_step
 have HC1:=hid (cmpInt_any (aw:Nat) (bw:Nat) w9);rw[←HI1.out]at HC1;have HC2:=hid (cmpInt_any (an:Nat) (bn:Nat) w9);rw[←HI2.out]at HC2
 still_call ((HC1.out).mono (fun _ _ h=>⟨h.1,h.2.symm⟩))
 repeat still_step
 still_call ((HC2.out).mono (fun _ _ h=>⟨h.1,h.2.symm⟩))
 repeat still_step
 refine wpStill_nil ?_
 go_wp2_with (go_at_call 126;(with_reducible refine(or_any i1 i2 _ _ _ (by simp[go_sem]) (by simp[go_sem])).mono ?_);rw[←HP.out];rintro e w8 ⟨rfl,rfl⟩)
 go_ret
 exact⟨rfl,HB9.out.alloc HB9.out.size _⟩
end Go.Proofs.YtgkdoehkmbhfiaaGreat
