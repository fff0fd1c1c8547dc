/- What the slices hold behind each change of a bus (printed by wip/gen_mq.py). -/
import Derived.Test.YthnlalffjepdaaaGreatGE1
import Derived.Test.YthnlalffjepdaaaGreatGClInt
import Derived.Test.YthnlalffjepdaaaGreatGLib
import Derived.OwnWalk
import Derived.Deep.MidRow
set_option linter.unusedVariables false
set_option linter.unusedSimpArgs false
set_option maxHeartbeats 16000000
namespace Go.Proofs.YthnlalffjepdaaaGreat
open Go.RowKit
theorem Owns.touch {α:Type} {w w':World} {r base e sz:Nat} {f:α→List Value} {v:Value} {xs:List α} (h:Owns w base e sz f v xs) (ht:Touch r w w') (hr:r<base):Owns w' base e sz f v xs :=
 OwnR.kept h fun k hk=>ht.block k (OwnR.lt h k hk).2 (by have:=(OwnR.lt h k hk).1;omega)
theorem Owns.cellAt {α:Type} {w:World} {base e sz g off n c:Nat} {f:α→List Value} {xs:List α} (h:Owns w base e sz f (.slice (some ⟨g,off,none⟩) n c) xs) (hf:∀x,(f x).length=sz) (k j:Nat) (d:α) (hk:k<xs.length) (hj:j<sz):w.cell? ⟨g,off+k * sz+j,none⟩=(f (xs.getD k d))[j]?:=by
 obtain⟨hl,h2⟩:=h;rcases h2 with⟨h2,_⟩|⟨g', off', cap,cur,hv,hg,hh,hle,hmax,hsz,hc⟩
 ·cases h2
 ·simp only[Value.slice.injEq,Option.some.injEq,Addr.mk.injEq]at hv;obtain⟨⟨rfl,rfl,_⟩,rfl,rfl⟩:=hv;have hlt:k * sz+j<xs.length * sz:=by
   have:(k+1) * sz≤xs.length * sz:=Nat.mul_le_mul_right _ hk;rw[Nat.add_mul]at this;omega
  have h3:=hc (k * sz+j) hlt;rw[zI2 hf xs k j hk hj]at h3;simp only[World.cell?,hh,Nat.add_assoc,h3];simp[List.getD,hk]
theorem Owns.frozenAt {α:Type} {w:World} {base e sz g off n c:Nat} {f:α→List Value} {xs:List α} (h:Owns w base e sz f (.slice (some ⟨g,off,none⟩) n c) xs) (o:Nat):w.frozen? ⟨g,o,none⟩=false:=by
 obtain⟨hl,h2⟩:=h;rcases h2 with⟨h2,_⟩|⟨g', off', cap,cur,hv,hg,hh,hle,hmax,hsz,hc⟩
 ·cases h2
 ·simp only[Value.slice.injEq,Option.some.injEq,Addr.mk.injEq]at hv;obtain⟨⟨rfl,rfl,_⟩,rfl,rfl⟩:=hv;simp[World.frozen?,hh]
theorem Owns.putRow {α : Type} {w : World} {base e sz g off n c : Nat} {f : α → List Value} {xs : List α} (h : Owns w base e sz f (.slice (some ⟨g, off, none⟩) n c) xs) (hf : ∀ x, (f x).length = sz) (k j : Nat) (d y : α) (u : Value) (hk : k < xs.length) (hj : j < sz)
  (hy:f y=(f (xs.getD k d)).set j u):Owns (w.setCell ⟨g,off+k * sz+j,none⟩ u) base e sz f (.slice (some ⟨g,off,none⟩) n c) (xs.set k y):=by
 obtain⟨hl,h2⟩:=h;rcases h2 with⟨h2,_⟩|⟨g', off', cap,cur,hv,hg,hh,hle,hmax,hsz,hc⟩
 ·cases h2
 ·simp only[Value.slice.injEq,Option.some.injEq,Addr.mk.injEq]at hv;obtain⟨⟨rfl,rfl,_⟩,rfl,rfl⟩:=hv;have hks:(k+1) * sz≤xs.length * sz:=Nat.mul_le_mul_right _ hk;have hcs:xs.length * sz≤c * sz:=Nat.mul_le_mul_right _ hle;rw[Nat.add_mul]at hks;refine⟨by rw[zC3 hf],.inr ⟨g,off,c,cur.set! (off+k * sz+j) u,by simp,hg,?_,by simpa using hle,hmax,by simpa using hsz,?_⟩⟩
  ·simp only[World.setCell,Array.getElem?_modify,hh];simp
  ·intro i hi;have hi':i<xs.length * sz:=by simpa using hi
   have hs0:0<sz:=by omega
   rw[zK5 hf (xs.set k y) i (by simpa using hi') hs0];have hq:i / sz<xs.length:=Nat.div_lt_of_lt_mul (by rw[Nat.mul_comm];exact hi');have hm:i % sz<sz:=Nat.mod_lt _ hs0;have hdm:sz * (i / sz)+i % sz=i:=Nat.div_add_mod i sz;by_cases hik:i=k * sz+j
   ·have hq2:i / sz=k:=by
     rw[hik,Nat.mul_comm,Nat.mul_add_div hs0,Nat.div_eq_of_lt hj,Nat.add_zero]
    have hm2:i % sz=j:=by rw[hik,Nat.mul_comm,Nat.mul_add_mod,Nat.mod_eq_of_lt hj]
    have hlt:off+k * sz+j<cur.size:=by omega
    rw[hq2,hm2,hik,←Nat.add_assoc];have e1:((xs.set k y).map f).getD k []=f y:=by simp[List.getD,hk]
    rw[e1,hy,List.getElem?_set_self (by rw[hf];exact hj)];simp[hlt]
   ·rw[Array.set!_eq_setIfInBounds,Array.getElem?_setIfInBounds_ne (by omega),hc i hi', zK5 hf xs i hi' hs0];by_cases hqk:i / sz=k
    ·have hne:i % sz≠j:=by
      intro e;apply hik;rw[←hdm,hqk,e,Nat.mul_comm]
     have e1:((xs.set k y).map f).getD (i / sz) []=f y:=by rw[hqk];simp[List.getD,hk]
     have e2:(xs.map f).getD (i / sz) []=f (xs.getD k d):=by rw[hqk];simp[List.getD,hk]
     rw[e1,e2,hy,List.getElem?_set_ne (Ne.symm hne)]
    ·congr 1
     simp[List.getD,List.getElem?_set,Ne.symm hqk]
theorem Owns.take {α:Type} {w:World} {base e sz n c:Nat} {a:Option Addr} {f:α→List Value} {xs:List α} (h:Owns w base e sz f (.slice a n c) xs) (hf:∀x,(f x).length=sz) (m:Nat) (hm:m≤xs.length):Owns w base e sz f (.slice a m c) (xs.take m):=by
 obtain⟨hl,h2⟩:=h;have hlm:(xs.take m).length=m:=by simp;omega
 refine⟨by rw[zC3 hf],?_⟩;rcases h2 with⟨h2,h3⟩|⟨g', off', cap,cur,hv,hg,hh,hle,hmax,hsz,hc⟩
 ·simp only[Value.slice.injEq]at h2;obtain⟨rfl,rfl,rfl⟩:=h2;have hm0:m=0:=by omega
  exact .inl ⟨by rw[hm0],by omega⟩
 ·simp only[Value.slice.injEq]at hv;obtain⟨rfl,rfl,rfl⟩:=hv;refine .inr ⟨g', off', c,cur,by rw[hlm],hg,hh,by omega,hmax,hsz,fun j hj=>?_⟩;rw[hlm]at hj;have hms:m * sz≤xs.length * sz:=Nat.mul_le_mul_right _ hm;rw[hc j (by omega)];rcases Nat.eq_zero_or_pos sz with h0|h0
  ·subst h0;omega
  ·rw[zK5 hf xs j (by omega) h0,zK5 hf (xs.take m) j (by rw[hlm];exact hj) h0];have hq:j / sz<m:=Nat.div_lt_of_lt_mul (by rw[Nat.mul_comm];exact hj)
   congr 1
   simp[List.getD,List.getElem?_take,hq]
theorem Owns.litOf {α : Type} {w : World} {base e sz : Nat} {f : α → List Value} (xs : List α) (cs : Array Value) (hb : base ≤ w.heap.size) (hf : ∀ x, (f x).length = sz) (hcs : cs.toList = xs.flatMap f) (hm : xs.length ≤ maxLen) :
  Owns (w.alloc (.cells cs e)) base e sz f (.slice (some ⟨w.heap.size,0,none⟩) xs.length xs.length) xs:=by
 have hlen:cs.size=xs.length * sz:=by rw[←Array.length_toList,hcs,zC3 hf]
 unfold Owns;rw[←hcs];exact OwnR.of_row (World.ownsRow_lit w cs xs.length hb hm hlen)
theorem Owns.kept {α:Type} {w w':World} {base e sz:Nat} {f:α→List Value} {v:Value} {xs:List α} (h:Owns w base e sz f v xs) (hk:∀k,v.ownBlock=some k→w'.heap[k]? = w.heap[k]?):Owns w' base e sz f v xs:=OwnR.kept h hk
theorem Apart.of_lt {v u:Value} {m:Nat} (h:∀k,v.ownBlock=some k→k<m) (h':∀k,u.ownBlock=some k→m≤k):Apart v u:=fun k hk hu=>by
 have:=h k hk;have:=h' k hu;omega
theorem Apart.symm {v u:Value} (h:Apart v u):Apart u v:=fun k hk hu=>h k hu hk
def Keeps (P:Nat→Prop) (w w':World):Prop:=∀b,P b→w'.heap[b]? = w.heap[b]?
theorem Keeps.weak {P Q:Nat→Prop} {w w':World} (h:Keeps Q w w') (hs:∀b,P b→Q b):Keeps P w w':=fun b hb=>h b (hs b hb)
theorem Keeps.trans {P:Nat→Prop} {u v w:World} (h:Keeps P u v) (k:Keeps P v w):Keeps P u w:=fun b hb=>(k b hb).trans (h b hb)
theorem Keeps.cell {P:Nat→Prop} {w w':World} (h:Keeps P w w') {a:Addr} (ha:P a.block):w'.cell? a=w.cell? a:=by simp only[World.cell?,h _ ha]
theorem Keeps.frozen {P:Nat→Prop} {w w':World} (h:Keeps P w w') {a:Addr} (ha:P a.block):w'.frozen? a=w.frozen? a:=by simp only[World.frozen?,h _ ha]
def ArrD (w:World) (P:Nat→Prop) (sz:Nat) (v:Value) (rows:List (List Value)):Prop :=
 ∃ ao cap, v = .slice ao rows.length cap ∧ rows.length ≤ cap ∧ cap ≤ 9223372036854775807 ∧ rows.length ≤ 140737488351232 ∧ (ao = none → cap = 0) ∧
  (rows.length≠0→∃b off,ao=some ⟨b,off,none⟩∧P b∧∀t,t<rows.length→∀j,j<sz→w.cell? ⟨b,off+t * sz+j,none⟩=(rows.getD t [])[j]?)
theorem ArrD.of {w:World} {B sz:Nat} {v:Value} {rows:List (List Value)} (h:Arr w B sz v rows):ArrD w (·<B) sz v rows:=h
theorem ArrD.to {w:World} {P:Nat→Prop} {B sz:Nat} {v:Value} {rows:List (List Value)} (h:ArrD w P sz v rows) (hP:∀b,P b→b<B):Arr w B sz v rows:=by
 obtain⟨ao,cap,hv,h1,h2,h0,h9,h3⟩:=h;refine⟨ao,cap,hv,h1,h2,h0,h9,fun hn=>?_⟩;obtain⟨b,off,ha,hlt,hc⟩:=h3 hn;exact⟨b,off,ha,hP b hlt,hc⟩
theorem ArrD.kept {w w':World} {P:Nat→Prop} {sz:Nat} {v:Value} {rows:List (List Value)} (h:ArrD w P sz v rows) (hk:Keeps P w w'):ArrD w' P sz v rows:=by
 obtain⟨ao,cap,hv,h1,h2,h0,h9,h3⟩:=h;refine⟨ao,cap,hv,h1,h2,h0,h9,fun hn=>?_⟩;obtain⟨b,off,ha,hlt,hc⟩:=h3 hn;exact⟨b,off,ha,hlt,fun t ht j hj=>by rw[←hc t ht j hj];exact hk.cell (a:=⟨b,_,none⟩) hlt⟩
theorem ArrD.weak {w:World} {P Q:Nat→Prop} {sz:Nat} {v:Value} {rows:List (List Value)} (h:ArrD w P sz v rows) (hs:∀b,P b→Q b):ArrD w Q sz v rows:=by
 obtain⟨ao,cap,hv,h1,h2,h0,h9,h3⟩:=h;refine⟨ao,cap,hv,h1,h2,h0,h9,fun hn=>?_⟩;obtain⟨b,off,ha,hlt,hc⟩:=h3 hn;exact⟨b,off,ha,hs b hlt,hc⟩
theorem OwnR.arrD {w : World} {base e sz : Nat} {v : Value} {n : Nat} {cells : List Value} {rows : List (List Value)} {P : Nat → Prop} (h : OwnR w base e sz v n cells) (hP : ∀ k, v.ownBlock = some k → P k)
  (hrows:rows.length=n) (hn:n≤140737488351232) (hc:∀t,t<n→∀j,j<sz→cells[t * sz+j]? = (rows.getD t [])[j]?):ArrD w P sz v rows:=by
 obtain⟨ao,cap,hv,h1,h2,h0,h9,h3⟩:=h.arr hrows hn hc;refine⟨ao,cap,hv,h1,h2,h0,h9,fun hnz=>?_⟩;obtain⟨b,off,ha,hlt,hc⟩:=h3 hnz;exact⟨b,off,ha,hP b (by rw[hv,ha];rfl),hc⟩
theorem Owns.arrD {α:Type} {w:World} {base e sz:Nat} {f:α→List Value} {v:Value} {xs:List α} {P:Nat→Prop} (h:Owns w base e sz f v xs) (hP:∀k,v.ownBlock=some k→P k) (hf:∀x,(f x).length=sz) (hn:xs.length≤140737488351232):ArrD w P sz v (xs.map f) :=
 OwnR.arrD h hP (by simp) hn (fun t ht j hj=>zI2 hf xs t j ht hj)
def IntsD (w:World) (P:Nat→Prop) (v:Value) (xs:List Int):Prop:=ArrD w P 1 v (xs.map rowI)∧∀x∈xs,I64 x
theorem IntsD.of {w:World} {B:Nat} {v:Value} {xs:List Int} (h:Ints w B v xs):IntsD w (·<B) v xs:=h
theorem IntsD.to {w:World} {P:Nat→Prop} {B:Nat} {v:Value} {xs:List Int} (h:IntsD w P v xs) (hP:∀b,P b→b<B):Ints w B v xs:=⟨h.1.to hP,h.2⟩
theorem IntsD.kept {w w':World} {P:Nat→Prop} {v:Value} {xs:List Int} (h:IntsD w P v xs) (hk:Keeps P w w'):IntsD w' P v xs:=⟨h.1.kept hk,h.2⟩
theorem IntsD.weak {w:World} {P Q:Nat→Prop} {v:Value} {xs:List Int} (h:IntsD w P v xs) (hs:∀b,P b→Q b):IntsD w Q v xs:=⟨h.1.weak hs,h.2⟩
theorem Owns.intsD {w:World} {base e:Nat} {v:Value} {xs:List Int} {P:Nat→Prop} (h:Owns w base e 1 rowI v xs) (hP:∀k,v.ownBlock=some k→P k) (hn:xs.length≤140737488351232) (hx:∀x∈xs,I64 x):IntsD w P v xs:=⟨h.arrD hP zF5 hn,hx⟩
theorem IntsD.nil (w:World) (P:Nat→Prop):IntsD w P (.slice none 0 0) []:=⟨⟨none,0,rfl,by simp,by omega,by simp,fun _=>rfl,fun h=>absurd rfl h⟩,by simp⟩
abbrev RqV:=Rq×Value×Value
def rowQ (y:RqV):List Value:=[.int .i64 y.1.id,.int .i64 y.1.kind,.int .i64 y.1.addr,.int .i64 y.1.many,.bool y.1.wrap,y.2.1,y.2.2]
theorem zI8 (y:RqV):(rowQ y).length=7:=rfl
def RqD (w:World) (P:Nat→Prop) (y:RqV):Prop:=IntsD w P y.2.1 y.1.data∧IntsD w P y.2.2 y.1.lanes∧I64 y.1.id∧I64 y.1.kind∧I64 y.1.addr∧I64 y.1.many
theorem RqD.kept {w w':World} {P:Nat→Prop} {y:RqV} (h:RqD w P y) (hk:Keeps P w w'):RqD w' P y:=⟨h.1.kept hk,h.2.1.kept hk,h.2.2⟩
theorem RqD.weak {w:World} {P Q:Nat→Prop} {y:RqV} (h:RqD w P y) (hs:∀b,P b→Q b):RqD w Q y:=⟨h.1.weak hs,h.2.1.weak hs,h.2.2⟩
theorem RqD.val {w:World} {P:Nat→Prop} {B:Nat} {y:RqV} (h:RqD w P y) (hP:∀b,P b→b<B):ReqV w B (.agg #[.int .i64 y.1.id,.int .i64 y.1.kind,.int .i64 y.1.addr,.int .i64 y.1.many,.bool y.1.wrap,y.2.1,y.2.2]) y.1 :=
 ⟨_,_,rfl,h.1.to hP,h.2.1.to hP,h.2.2⟩
theorem reqs_of {w:World} {P:Nat→Prop} {B:Nat} {v:Value} {ys:List RqV} (ha:ArrD w P 7 v (ys.map rowQ)) (hy:∀y∈ys,RqD w P y) (hP:∀b,P b→b<B):Reqs w B v (ys.map (·.1)):=by
 refine⟨ys.map fun y=>.agg #[.int .i64 y.1.id,.int .i64 y.1.kind,.int .i64 y.1.addr,.int .i64 y.1.many,.bool y.1.wrap,y.2.1,y.2.2],?_,by simp,fun k hk d=>?_⟩
 ·rw[List.map_map];exact ha.to hP
 ·simp only[List.length_map]at hk;have e:(ys.map fun y:RqV=>Value.agg #[.int .i64 y.1.id,.int .i64 y.1.kind,.int .i64 y.1.addr,.int .i64 y.1.many,.bool y.1.wrap,y.2.1,y.2.2]).getD k undef=.agg #[.int .i64 ys[k].1.id,.int .i64 ys[k].1.kind,.int .i64 ys[k].1.addr,.int .i64 ys[k].1.many,.bool ys[k].1.wrap,ys[k].2.1,ys[k].2.2]:=by simp[List.getD,hk]
  have e2:(ys.map (·.1)).getD k d=ys[k].1:=by simp[List.getD,hk]
  rw[e,e2];exact(hy _ (List.getElem_mem hk)).val hP
theorem zC1 {α : Type} {ops : Array Oper} {rest : List Oper} {o : Oper} {a : Act} {Q : Exit → Act → World → Prop} {T e sz by_ : Nat} (E : Elem T e sz by_) (f : α → List Value) (hf : ∀ x, (f x).length = sz) (y : α) (h1 : ∀ u ∈ f y, u.oneCell' = true)
  (w:World) (hgd:o.guard=none) (s x:Operand) (ho:o.op=.call { callee:=.builtin .append,args:=#[s,x],argTypes:=#[T,T] })
  (base:Nat) (v:Value) (xs:List α) (hs:a.eval s=v) (hown:Owns w base e sz f v xs) (cs:Array Value) (hcs:cs.toList=f y) (hx:a.eval x=.slice (some ⟨w.heap.size,0,none⟩) 1 1)
  (hlen:(xs.length+1) * by_≤140737488355328) (hlen2:xs.length+1≤9223372036854775807) (hbase:base≤w.heap.size)
  (h:∀v' w', Owns w' base e sz f v' (xs++[y])→w.heap.size≤w'.heap.size→(∀b,b<w.heap.size→v.ownBlock≠some b→w'.heap[b]? = w.heap[b]?)→(v'.ownBlock=v.ownBlock∨∃k,w.heap.size≤k∧v'.ownBlock=some k)→Below base w w' → wpList Tryz.prog ops Q rest (a.put o.dst v') w') :
  wpList Tryz.prog ops Q (o::rest) a (w.alloc (.cells cs e)):=by
 obtain⟨ht,i,z,hi,hz,hsize,hby,hzs,hsz⟩:=E;have hown':OwnR (w.alloc (.cells cs e)) base e sz v xs.length (xs.flatMap f):=OwnR.alloc hown _;refine zC9 hgd s x T ho base e i z sz by_ ht hi hz hsize hby hzs v xs.length (xs.flatMap f) hs hown' ⟨w.heap.size,0,none⟩ 1 1 (f y) hx (by rw[hf];omega) ?_ h1 (by unfold maxLen;omega) hlen (by simp;omega) ?_
 ·intro j u hj;rw[Addr.add_lit,Nat.zero_add,World.cell?_alloc_at _ _ _ _ rfl,←hj,←hcs];simp
 ·intro v' w' ho' hg _ hb;have hsz:=hg.size;simp only[World.size_alloc]at hsz;refine h v' w' (by unfold Owns;simpa using ho') (by omega) (fun b hb hne=>?_) ?_ (((Below.refl _ _).alloc hbase _).grown hg (by simp;omega) (fun k hk=>(OwnR.lt hown k hk).1))
  ·rw[hg.block b (by simp;omega) (by intro e;exact hne e.symm)];exact((Below.refl w.heap.size w).alloc (Nat.le_refl _) _).block b hb
  ·rcases hb with hb|hb
   ·exact .inl hb
   ·exact .inr ⟨_,by simp,hb⟩
def ety (κ:Nat):TypeId:=if κ<2 then 3 else if κ=2 then 52 else if κ=3 then 50 else if κ=4 then 85 else if κ<8 then 3 else if κ<15 then 75 else if κ<19 then 85 else 66
def esz (κ:Nat):Nat:=if κ<2 then 1 else if κ=2 then 4 else if κ=3 then 3 else if κ=4 then 5 else if κ<8 then 1 else if κ<15 then 3 else if κ<19 then 5 else 3
structure Raw (w:World) (base:Nat) (V:Nat→Value) (N:Nat→Nat) (C:Nat→List Value):Prop where
 own:∀κ,κ<20→OwnR w base (ety κ) (esz κ) (V κ) (N κ) (C κ)
 ap:∀κ μ,κ<20→μ<20→κ≠μ→Apart (V κ) (V μ)
def Free (V:Nat→Value) (b:Nat):Prop:=∀κ,κ<20→(V κ).ownBlock≠some b
theorem Raw.lt {w:World} {base:Nat} {V:Nat→Value} {N:Nat→Nat} {C:Nat→List Value} (h:Raw w base V N C) {κ k:Nat} (hκ:κ<20) (hk:(V κ).ownBlock=some k):base≤k∧k<w.heap.size:=OwnR.lt (h.own κ hκ) k hk
theorem Raw.kept {w w':World} {base:Nat} {V:Nat→Value} {N:Nat→Nat} {C:Nat→List Value} (h:Raw w base V N C) (hk:∀b,b<w.heap.size→¬Free V b→w'.heap[b]? = w.heap[b]?):Raw w' base V N C :=
 ⟨fun κ hκ=>(h.own κ hκ).kept fun k hk2=>hk k (h.lt hκ hk2).2 fun hf=>hf κ hκ hk2,h.ap⟩
theorem Raw.below {w w':World} {base:Nat} {V:Nat→Value} {N:Nat→Nat} {C:Nat→List Value} (h:Raw w base V N C) (hb:Below w.heap.size w w'):Raw w' base V N C:=h.kept fun b hlt _=>hb.block b hlt
theorem Raw.chg {w w' : World} {base : Nat} {V : Nat → Value} {N : Nat → Nat} {C : Nat → List Value} (h : Raw w base V N C) {κ n : Nat} {v : Value} {c : List Value} (hκ : κ < 20) (hk : ∀ b, b < w.heap.size → (V κ).ownBlock ≠ some b → w'.heap[b]? = w.heap[b]?)
  (ho:OwnR w' base (ety κ) (esz κ) v n c) (hv:∀k,v.ownBlock=some k→(V κ).ownBlock=some k∨w.heap.size≤k):Raw w' base (upd V κ v) (upd N κ n) (upd C κ c):=by
 refine⟨fun μ hμ=>?_,fun μ ν hμ hν hne=>?_⟩
 ·by_cases e:μ=κ
  ·subst e;simp only[zA1];exact ho
  ·simp only[zA0 _ _ e];exact(h.own μ hμ).kept fun k hk2=>hk k (h.lt hμ hk2).2 (fun hk3=>h.ap μ κ hμ hκ e k hk2 hk3)
 ·have key:∀{ρ:Nat},ρ<20→ρ≠κ→Apart (V ρ) v:=fun {ρ} hρ e k hk1 hk2=>by
   rcases hv k hk2 with h1|h1
   ·exact h.ap ρ κ hρ hκ e k hk1 h1
   ·have:=(h.lt hρ hk1).2;omega
  by_cases e1:μ=κ
  ·subst e1;simp only[zA1,zA0 _ _ (Ne.symm hne)];exact(key hν (Ne.symm hne)).symm
  ·by_cases e2:ν=κ
   ·subst e2;simp only[zA1,zA0 _ _ e1];exact key hμ e1
   ·simp only[zA0 _ _ e1,zA0 _ _ e2];exact h.ap μ ν hμ hν hne
theorem Free.chg {V:Nat→Value} {b κ:Nat} {v:Value} {w:World} (h:Free V b) (hb:b<w.heap.size) (hv:∀k,v.ownBlock=some k→(V κ).ownBlock=some k∨w.heap.size≤k) (hκ:κ<20):Free (upd V κ v) b:=by
 intro μ hμ e;by_cases e1:μ=κ
 ·subst e1;rw[zA1]at e;rcases hv b e with h1|h1
  ·exact h μ hμ h1
  ·omega
 ·rw[zA0 _ _ e1]at e;exact h μ hμ e
theorem OwnR.get {w:World} {base e sz g off n cap:Nat} {xs:List Value} (h:OwnR w base e sz (.slice (some ⟨g,off,none⟩) n cap) n xs) (j:Nat) (hj:j<n * sz):w.cell? ⟨g,off+j,none⟩=xs[j]?:=by
 obtain⟨hl,h2⟩:=h;rcases h2 with⟨h2,_⟩|⟨g', off', cap', cur,hv,hg,hh,hle,hmax,hsz,hc⟩
 ·cases h2
 ·simp only[Value.slice.injEq,Option.some.injEq,Addr.mk.injEq,and_true]at hv;obtain⟨⟨rfl,rfl⟩,_,rfl⟩:=hv;simp only[World.cell?,hh];rw[hc j hj];have:j<xs.length:=by rw[hl];exact hj
  simp[this]
theorem OwnR.unfrozen {w:World} {base e sz g off n cap:Nat} {xs:List Value} (h:OwnR w base e sz (.slice (some ⟨g,off,none⟩) n cap) n xs) (o:Nat):w.frozen? ⟨g,o,none⟩=false:=by
 obtain⟨hl,h2⟩:=h;rcases h2 with⟨h2,_⟩|⟨g', off', cap', cur,hv,hg,hh,_⟩
 ·cases h2
 ·simp only[Value.slice.injEq,Option.some.injEq,Addr.mk.injEq,and_true]at hv;obtain⟨⟨rfl,rfl⟩,_,rfl⟩:=hv;simp[World.frozen?,hh]
theorem OwnR.put {w:World} {base e sz g off n cap:Nat} {xs:List Value} (h:OwnR w base e sz (.slice (some ⟨g,off,none⟩) n cap) n xs) (j:Nat) (hj:j<n * sz) (u:Value):OwnR (w.setCell ⟨g,off+j,none⟩ u) base e sz (.slice (some ⟨g,off,none⟩) n cap) n (xs.set j u):=by
 obtain⟨hl,h2⟩:=h;rcases h2 with⟨h2,_⟩|⟨g', off', cap', cur,hv,hg,hh,hle,hmax,hsz,hc⟩
 ·cases h2
 ·simp only[Value.slice.injEq,Option.some.injEq,Addr.mk.injEq,and_true]at hv;obtain⟨⟨rfl,rfl⟩,_,rfl⟩:=hv;refine⟨by simpa using hl,.inr ⟨g,off,cap,cur.set! (off+j) u,rfl,hg,?_,hle,hmax,by simpa using hsz,fun i hi=>?_⟩⟩
  ·simp[World.setCell,Array.getElem?_modify,hh]
  ·have hjl:j<xs.length:=by rw[hl];exact hj
   have hjc:off+j<cur.size:=by
    have:n * sz≤cap * sz:=Nat.mul_le_mul_right _ hle;omega
   by_cases e:i=j
   ·subst e;simp[Array.set!_eq_setIfInBounds,Array.getElem?_setIfInBounds,hjc,hjl]
   ·rw[List.getElem?_set_ne (Ne.symm e),←hc i hi];simp only[Array.set!_eq_setIfInBounds,Array.getElem?_setIfInBounds];rw[if_neg (by omega)]
theorem Raw.set {w:World} {base:Nat} {V:Nat→Value} {N:Nat→Nat} {C:Nat→List Value} (h:Raw w base V N C) {κ g off cap j:Nat} (hκ:κ<20) (hV:V κ=.slice (some ⟨g,off,none⟩) (N κ) cap) (hj:j<N κ * esz κ) (u:Value):Raw (w.setCell ⟨g,off+j,none⟩ u) base V N (upd C κ ((C κ).set j u)):=by
 have ho:=h.own κ hκ;rw[hV]at ho
 have := h.chg (w' := w.setCell ⟨g, off + j, none⟩ u) (κ := κ) (n := N κ) (v := V κ) (c := (C κ).set j u) hκ (fun b _ hb => by
   rw[Below.heap_setCell _ _ _ _ (by show b≠g;intro e;subst e;exact hb (by rw[hV];rfl))]) (by rw[hV];exact ho.put j hj u) (fun k hk=>.inl hk)
 have e1:upd V κ (V κ)=V:=by funext i;by_cases e:i=κ <;> simp[upd,e]
 have e2:upd N κ (N κ)=N:=by funext i;by_cases e:i=κ <;> simp[upd,e]
 rw[e1,e2]at this;exact this
theorem OwnR.addr {w:World} {base e sz n:Nat} {v:Value} {xs:List Value} (h:OwnR w base e sz v n xs) (hn:n≠0):∃g off cap,v=.slice (some ⟨g,off,none⟩) n cap∧n≤cap∧cap≤9223372036854775807∧base≤g∧g<w.heap.size:=by
 have hlt:=h.lt;obtain⟨hl,h2⟩:=h;rcases h2 with⟨_,h2⟩|⟨g,off,cap,cur,rfl,hg,hh,hle,hmax,_⟩
 ·exact absurd h2 hn
 ·exact⟨g,off,cap,rfl,hle,by unfold maxLen at hmax;omega,hg,(hlt g rfl).2⟩
theorem OwnR.form {w:World} {base e sz n:Nat} {v:Value} {xs:List Value} (h:OwnR w base e sz v n xs):∃a cap,v=.slice a n cap∧n≤cap∧cap≤9223372036854775807:=by
 obtain⟨hl,h2⟩:=h;rcases h2 with⟨rfl,rfl⟩|⟨g,off,cap,cur,rfl,hg,hh,hle,hmax,_⟩
 ·exact⟨none,0,rfl,by omega,by omega⟩
 ·exact⟨_,cap,rfl,hle,by unfold maxLen at hmax;omega⟩
theorem OwnR.tail1 {w : World} {base e sz g off n cap : Nat} {xs : List Value} (h : OwnR w base e sz (.slice (some ⟨g, off, none⟩) n cap) n xs) (hn : n ≠ 0) :
  OwnR w base e sz (.slice (if cap=1 then some ⟨g,off,none⟩ else some ⟨g,off+sz,none⟩) (n - 1) (cap - 1)) (n - 1) (xs.drop sz):=by
 obtain⟨hl,h2⟩:=h;rcases h2 with⟨h2,_⟩|⟨g', off', cap', cur,hv,hg,hh,hle,hmax,hsz,hc⟩
 ·cases h2
 ·simp only[Value.slice.injEq,Option.some.injEq,Addr.mk.injEq,and_true]at hv;obtain⟨⟨rfl,rfl⟩,_,rfl⟩:=hv;have hm:(n - 1) * sz+sz=n * sz:=by rw[←Nat.succ_mul];congr 1;omega
  have hm2:(cap - 1) * sz+sz=cap * sz:=by rw[←Nat.succ_mul];congr 1;omega
  refine⟨by rw[List.length_drop,hl];omega,.inr ?_⟩;by_cases e1:cap=1
  ·rw[if_pos e1]
   exact ⟨g, off, cap - 1, cur, rfl, hg, hh, by omega, by omega, by omega, fun j hj => by
    have:n - 1=0:=by omega
    rw[this]at hj;omega⟩
  ·rw[if_neg e1];refine⟨g,off+sz,cap - 1,cur,rfl,hg,hh,by omega,by omega,by omega,fun j hj=>?_⟩;rw[show off+sz+j=off+(sz+j) by omega,hc (sz+j) (by omega),List.getElem?_drop]
def rowN (n:Nat):List Value:=[.int .i64 n]
def jbRow (j:Jb):List Value:=[.int .i64 j.who,.int .i64 j.n,.int .i64 j.left]
abbrev TJV:=TJ×Value
def tjRow (x:TJV):List Value:=[.int .i64 x.1.who,.int .i64 x.1.n,.int .i64 x.1.rsp.id,.int .i64 x.1.rsp.code,x.2]
def evRow (e:Ev):List Value:=[.int .i64 e.kind,.int .i64 e.who,.int .i64 e.n]
def ptRow (V:Nat→Value) (p:Pt) (i:Nat):List Value:=[.int .i64 p.next,V (5+i),V (8+i),.int .i64 p.last]
def svRow (V:Nat→Value) (v:Sv) (s:Nat):List Value:=[V (11+s),V (15+s),.int .i64 v.last]
structure Cont (st:Cy) (ev:List Ev) (V:Nat→Value) (N:Nat→Nat) (C:Nat→List Value) (D:Nat→List TJV):Prop where
 n0:N 0=st.ws.length
 c0:C 0=st.ws.flatMap rowI
 n1:N 1=st.hs.length
 c1:C 1=st.hs.flatMap rowI
 n2:N 2=3
 c2:C 2=ptRow V (st.ports 0) 0++ptRow V (st.ports 1) 1++ptRow V (st.ports 2) 2
 n3:N 3=4
 c3:C 3=svRow V (st.slaves 0) 0++svRow V (st.slaves 1) 1++svRow V (st.slaves 2) 2++svRow V (st.slaves 3) 3
 n4:N 4=st.told.length
 c4:C 4=(D 4).flatMap tjRow
 t4:(D 4).map (·.1)=st.told
 nq:∀i,i<3→N (5+i)=(st.ports i).queue.length
 cq:∀i,i<3→C (5+i)=(st.ports i).queue.flatMap rowN
 no:∀i,i<3→N (8+i)=(st.ports i).out.length
 co:∀i,i<3→C (8+i)=(st.ports i).out.flatMap jbRow
 np:∀s,s<4→N (11+s)=(st.slaves s).pipe.length
 cp:∀s,s<4→C (11+s)=(st.slaves s).pipe.flatMap jbRow
 nd:∀s,s<4→N (15+s)=(st.slaves s).done.length
 cd:∀s,s<4→C (15+s)=(D (15+s)).flatMap tjRow
 td:∀s,s<4→(D (15+s)).map (·.1)=(st.slaves s).done
 ne:N 19=ev.length
 ce:C 19=ev.flatMap evRow
def DFree (V:Nat→Value) (S Hb:Nat) (w:World) (b:Nat):Prop:=b<w.heap.size∧Free V b∧b≠S∧b≠Hb
def Clr (L:Nat→Value) (v:Value):Prop:=∀i,4≤i→∀b,(L i).ownBlock=some b→v.ownBlock≠some b
def DatP (L:Nat→Value) (w:World) (P:Nat→Prop) (x:TJV):Prop:=IntsD w P x.2 x.1.rsp.data∧(x.1.rsp.data≠[]→Clr L x.2)
theorem DatP.kept {L:Nat→Value} {w w':World} {P:Nat→Prop} {x:TJV} (h:DatP L w P x) (hk:Keeps P w w'):DatP L w' P x:=⟨h.1.kept hk,h.2⟩
theorem DatP.weak {L:Nat→Value} {w:World} {P Q:Nat→Prop} {x:TJV} (h:DatP L w P x) (hs:∀b,P b→Q b):DatP L w Q x:=⟨h.1.weak hs,h.2⟩
theorem DatP.put {L:Nat→Value} {w:World} {P:Nat→Prop} {x:TJV} (h:DatP L w P x) {s:Nat} (hs:s<4) (u:Value):DatP (upd L s u) w P x:=⟨h.1,fun hn i hi b hb=>h.2 hn i hi b (by rwa [zA0 _ _ (by omega)]at hb)⟩
structure CyM (w:World) (base S Hb:Nat) (L:Nat→Value) (st:Cy) (ev:List Ev) (V:Nat→Value) (N:Nat→Nat) (C:Nat→List Value) (D:Nat→List TJV):Prop where
 raw:Raw w base V N C
 con:Cont st ev V N C D
 bs:w.heap[S]? = some (.cells #[V 0,V 1,V 2,V 3,V 4] 46 (0,0))
 bh:w.heap[Hb]? = some (.cells #[V 19,L 0,L 1,L 2,L 3] 116 (0,0))
 fs:Free V S
 fh:Free V Hb
 ne:S≠Hb
 s0:base≤S
 h0:base≤Hb
 lx:∀i,4≤i→∀b,(L i).ownBlock=some b→b<w.heap.size
 dat:∀κ,κ<20→∀x∈D κ,DatP L w (DFree V S Hb w) x
theorem zA2 {w:World} {b:Nat} {o:Obj} (h:w.heap[b]? = some o):b<w.heap.size:=(Array.getElem?_eq_some_iff.1 h).1
theorem CyM.below {w w':World} {base S Hb:Nat} {L:Nat→Value} {st:Cy} {ev:List Ev} {V:Nat→Value} {N:Nat→Nat} {C:Nat→List Value} {D:Nat→List TJV} (h:CyM w base S Hb L st ev V N C D) (hb:Below w.heap.size w w'):CyM w' base S Hb L st ev V N C D :=
 ⟨h.raw.below hb,h.con,(hb.block S (zA2 h.bs)).trans h.bs,(hb.block Hb (zA2 h.bh)).trans h.bh,h.fs,h.fh,h.ne,h.s0,h.h0,fun i hi b hb2=>Nat.lt_of_lt_of_le (h.lx i hi b hb2) hb.size,fun κ hκ x hx=>((h.dat κ hκ x hx).kept fun b hb2=>hb.block b hb2.1).weak fun b hb2=>⟨Nat.lt_of_lt_of_le hb2.1 hb.size,hb2.2⟩⟩
theorem CyM.put {w w1 : World} {base S Hb : Nat} {L : Nat → Value} {st st' : Cy} {ev : List Ev} {V : Nat → Value} {N : Nat → Nat} {C : Nat → List Value} {D D' : Nat → List TJV} (h : CyM w base S Hb L st ev V N C D)
  {κ μ g off cap j n:Nat} {v:Value} {c:List Value} (hκ:5≤κ∧κ<19) (hμ:μ=2∨μ=3) (hV:V μ=.slice (some ⟨g,off,none⟩) (N μ) cap) (hj:j<N μ * esz μ)
  (hk:∀b,b<w.heap.size→(V κ).ownBlock≠some b→w1.heap[b]? = w.heap[b]?) (hsz:w.heap.size≤w1.heap.size) (ho:OwnR w1 base (ety κ) (esz κ) v n c) (hv:∀k,v.ownBlock=some k→(V κ).ownBlock=some k∨w.heap.size≤k)
  (hD:∀i,i≠κ→D' i=D i) (hd:∀x∈D' κ,DatP L w1 (DFree (upd V κ v) S Hb w1) x)
  (hc:Cont st' ev (upd V κ v) (upd N κ n) (upd (upd C κ c) μ ((C μ).set j v)) D') :
  CyM (w1.setCell ⟨g,off+j,none⟩ v) base S Hb L st' ev (upd V κ v) (upd N κ n) (upd (upd C κ c) μ ((C μ).set j v)) D':=by
 have hκ2:κ<20:=by omega
 have hμ2:μ<20:=by omega
 have hne:μ≠κ:=by omega
 have hgo:(V μ).ownBlock=some g:=by rw[hV];rfl
 have r1:=h.raw.chg hκ2 hk ho hv;have r2:=r1.set (κ:=μ) (g:=g) (off:=off) (cap:=cap) (j:=j) hμ2 (by rw[zA0 _ _ hne,zA0 _ _ hne];exact hV) (by rw[zA0 _ _ hne];exact hj) v;rw[zA0 C _ hne]at r2;have hgS:S≠g:=fun e=>h.fs μ hμ2 (by rw[hgo,e])
 have hgH:Hb≠g:=fun e=>h.fh μ hμ2 (by rw[hgo,e])
 have hset:∀b,b≠g→(w1.setCell ⟨g,off+j,none⟩ v).heap[b]? = w1.heap[b]?:=fun b hb=>Below.heap_setCell _ _ _ _ hb
 have hz:(w1.setCell ⟨g,off+j,none⟩ v).heap.size=w1.heap.size:=by simp
 have hS:=zA2 h.bs;have hH:=zA2 h.bh;have eV:∀i,i≠κ→upd V κ v i=V i:=fun i hi=>zA0 _ _ hi
 refine⟨r2,hc,?_,?_,h.fs.chg (w:=w) hS hv hκ2,h.fh.chg (w:=w) hH hv hκ2,h.ne,h.s0,h.h0,fun i hi b hb=>by rw[hz];exact Nat.lt_of_lt_of_le (h.lx i hi b hb) hsz,fun ν hν x hx=>?_⟩
 ·rw[hset S hgS,hk S hS (h.fs κ hκ2),h.bs,eV 0 (by omega),eV 1 (by omega),eV 2 (by omega),eV 3 (by omega),eV 4 (by omega)]
 ·rw[hset Hb hgH,hk Hb hH (h.fh κ hκ2),h.bh,eV 19 (by omega)]
 ·have hgn:∀b,DFree (upd V κ v) S Hb w1 b→b≠g:=fun b hb e=>hb.2.1 μ hμ2 (by rw[eV μ hne,hgo,e])
  have step:∀{x:TJV},DatP L w1 (DFree (upd V κ v) S Hb w1) x→DatP L (w1.setCell ⟨g,off+j,none⟩ v) (DFree (upd V κ v) S Hb (w1.setCell ⟨g,off+j,none⟩ v)) x:=fun hi=>
   (hi.kept fun b hb=>hset b (hgn b hb)).weak fun b hb=>⟨by rw[hz];exact hb.1,hb.2⟩
  by_cases e:ν=κ
  ·subst e;exact step (hd x hx)
  ·rw[hD ν e]at hx;exact step (((h.dat ν hν x hx).kept fun b hb=>hk b hb.1 (hb.2.1 κ hκ2)).weak fun b hb=>⟨Nat.lt_of_lt_of_le hb.1 hsz,hb.2.1.chg (w:=w) hb.1 hv hκ2,hb.2.2⟩)
theorem CyM.old {w w1 : World} {base S Hb : Nat} {L : Nat → Value} {st : Cy} {ev : List Ev} {V : Nat → Value} {N : Nat → Nat} {C : Nat → List Value} {D : Nat → List TJV} (h : CyM w base S Hb L st ev V N C D) {κ ν : Nat} {v : Value} {x : TJV} (hκ : κ < 20) (hν : ν < 20)
  (hk:∀b,b<w.heap.size→(V κ).ownBlock≠some b→w1.heap[b]? = w.heap[b]?) (hsz:w.heap.size≤w1.heap.size) (hv:∀k,v.ownBlock=some k→(V κ).ownBlock=some k∨w.heap.size≤k) (hx:x∈D ν):DatP L w1 (DFree (upd V κ v) S Hb w1) x :=
 ((h.dat ν hν x hx).kept fun b hb=>hk b hb.1 (hb.2.1 κ hκ)).weak fun b hb=>⟨Nat.lt_of_lt_of_le hb.1 hsz,hb.2.1.chg (w:=w) hb.1 hv hκ,hb.2.2⟩
theorem CyM.cell {w : World} {base S Hb : Nat} {L : Nat → Value} {st st' : Cy} {ev : List Ev} {V : Nat → Value} {N : Nat → Nat} {C : Nat → List Value} {D : Nat → List TJV} (h : CyM w base S Hb L st ev V N C D)
  {κ g off cap j:Nat} {u:Value} (hκ:κ<20) (hV:V κ=.slice (some ⟨g,off,none⟩) (N κ) cap) (hj:j<N κ * esz κ) (hc:Cont st' ev V N (upd C κ ((C κ).set j u)) D) :
  CyM (w.setCell ⟨g,off+j,none⟩ u) base S Hb L st' ev V N (upd C κ ((C κ).set j u)) D:=by
 have hgo:(V κ).ownBlock=some g:=by rw[hV];rfl
 have hset:∀b,b≠g→(w.setCell ⟨g,off+j,none⟩ u).heap[b]? = w.heap[b]?:=fun b hb=>Below.heap_setCell _ _ _ _ hb
 have hgS:S≠g:=fun e=>h.fs κ hκ (by rw[hgo,e])
 have hgH:Hb≠g:=fun e=>h.fh κ hκ (by rw[hgo,e])
 refine⟨h.raw.set hκ hV hj u,hc,(hset S hgS).trans h.bs,(hset Hb hgH).trans h.bh,h.fs,h.fh,h.ne,h.s0,h.h0,fun i hi b hb=>by simpa using h.lx i hi b hb,fun ν hν x hx=>?_⟩;exact((h.dat ν hν x hx).kept fun b hb=>hset b (fun e=>hb.2.1 κ hκ (by rw[hgo,e]))).weak fun b hb=>⟨by simpa using hb.1,hb.2⟩
theorem CyM.toldPut {w w1 : World} {base S Hb : Nat} {L : Nat → Value} {st st' : Cy} {ev : List Ev} {V : Nat → Value} {N : Nat → Nat} {C : Nat → List Value} {D D' : Nat → List TJV} (h : CyM w base S Hb L st ev V N C D)
  {n:Nat} {v:Value} {c:List Value} (hk:∀b,b<w.heap.size→(V 4).ownBlock≠some b→w1.heap[b]? = w.heap[b]?) (hsz:w.heap.size≤w1.heap.size) (ho:OwnR w1 base (ety 4) (esz 4) v n c) (hv:∀k,v.ownBlock=some k→(V 4).ownBlock=some k∨w.heap.size≤k)
  (hD:∀i,i≠4→D' i=D i) (hd:∀x∈D' 4,DatP L w1 (DFree (upd V 4 v) S Hb w1) x)
  (hc:Cont st' ev (upd V 4 v) (upd N 4 n) (upd C 4 c) D') :
  CyM (w1.setCell ⟨S,4,none⟩ v) base S Hb L st' ev (upd V 4 v) (upd N 4 n) (upd C 4 c) D':=by
 have r1:=h.raw.chg (κ:=4) (by omega) hk ho hv;have hset:∀b,b≠S→(w1.setCell ⟨S,4,none⟩ v).heap[b]? = w1.heap[b]?:=fun b hb=>Below.heap_setCell _ _ _ _ hb
 have hS:=zA2 h.bs;have hH:=zA2 h.bh;have f1:=h.fs.chg (w:=w) hS hv (κ:=4) (by omega);have f2:=h.fh.chg (w:=w) hH hv (κ:=4) (by omega);have eV:∀i,i≠4→upd V 4 v i=V i:=fun i hi=>zA0 _ _ hi
 refine⟨r1.kept fun b _ hb=>hset b (fun e=>hb (by rw[e];exact f1)),hc,?_,?_,f1,f2,h.ne,h.s0,h.h0,fun i hi b hb=>by simpa using Nat.lt_of_lt_of_le (h.lx i hi b hb) hsz,fun ν hν x hx=>?_⟩
 ·have hb1:=(hk S hS (h.fs 4 (by omega))).trans h.bs;rw[eV 0 (by omega),eV 1 (by omega),eV 2 (by omega),eV 3 (by omega),zA1];simp[World.setCell,Array.getElem?_modify,hb1]
 ·rw[hset Hb (Ne.symm h.ne),hk Hb hH (h.fh 4 (by omega)),h.bh,eV 19 (by omega)]
 ·have step:∀{x:TJV},DatP L w1 (DFree (upd V 4 v) S Hb w1) x→DatP L (w1.setCell ⟨S,4,none⟩ v) (DFree (upd V 4 v) S Hb (w1.setCell ⟨S,4,none⟩ v)) x:=fun hi=>
   (hi.kept fun b hb=>hset b hb.2.2.1).weak fun b hb=>⟨by simpa using hb.1,hb.2⟩
  by_cases e:ν=4
  ·subst e;exact step (hd x hx)
  ·rw[hD ν e]at hx;exact step (h.old (by omega) hν hk hsz hv hx)
theorem CyM.evPut {w w1 : World} {base S Hb : Nat} {L : Nat → Value} {st : Cy} {ev ev' : List Ev} {V : Nat → Value} {N : Nat → Nat} {C : Nat → List Value} {D : Nat → List TJV} (h : CyM w base S Hb L st ev V N C D)
  {n:Nat} {v:Value} {c:List Value} (hk:∀b,b<w.heap.size→(V 19).ownBlock≠some b→w1.heap[b]? = w.heap[b]?) (hsz:w.heap.size≤w1.heap.size) (ho:OwnR w1 base (ety 19) (esz 19) v n c) (hv:∀k,v.ownBlock=some k→(V 19).ownBlock=some k∨w.heap.size≤k)
  (hc:Cont st ev' (upd V 19 v) (upd N 19 n) (upd C 19 c) D) :
  CyM (w1.setCell ⟨Hb,0,none⟩ v) base S Hb L st ev' (upd V 19 v) (upd N 19 n) (upd C 19 c) D:=by
 have r1:=h.raw.chg (κ:=19) (by omega) hk ho hv;have hset:∀b,b≠Hb→(w1.setCell ⟨Hb,0,none⟩ v).heap[b]? = w1.heap[b]?:=fun b hb=>Below.heap_setCell _ _ _ _ hb
 have hS:=zA2 h.bs;have hH:=zA2 h.bh;have f1:=h.fs.chg (w:=w) hS hv (κ:=19) (by omega);have f2:=h.fh.chg (w:=w) hH hv (κ:=19) (by omega);have eV:∀i,i≠19→upd V 19 v i=V i:=fun i hi=>zA0 _ _ hi
 refine⟨r1.kept fun b _ hb=>hset b (fun e=>hb (by rw[e];exact f2)),hc,?_,?_,f1,f2,h.ne,h.s0,h.h0,fun i hi b hb=>by simpa using Nat.lt_of_lt_of_le (h.lx i hi b hb) hsz,fun ν hν x hx=>?_⟩
 ·rw[hset S h.ne,hk S hS (h.fs 19 (by omega)),h.bs,eV 0 (by omega),eV 1 (by omega),eV 2 (by omega),eV 3 (by omega),eV 4 (by omega)]
 ·have hb1:=(hk Hb hH (h.fh 19 (by omega))).trans h.bh;rw[zA1];simp[World.setCell,Array.getElem?_modify,hb1]
 ·exact((h.old (ν:=ν) (κ:=19) (by omega) hν hk hsz hv hx).kept fun b hb=>hset b hb.2.2.2).weak fun b hb=>⟨by simpa using hb.1,hb.2⟩
theorem CyM.letPut {w : World} {base S Hb : Nat} {L : Nat → Value} {st : Cy} {ev : List Ev} {V : Nat → Value} {N : Nat → Nat} {C : Nat → List Value} {D : Nat → List TJV} (h : CyM w base S Hb L st ev V N C D) {s : Nat} (hs : s < 4) (u : Value) :
  CyM (w.setCell ⟨Hb,1+s,none⟩ u) base S Hb (upd L s u) st ev V N C D:=by
 have hset:∀b,b≠Hb→(w.setCell ⟨Hb,1+s,none⟩ u).heap[b]? = w.heap[b]?:=fun b hb=>Below.heap_setCell _ _ _ _ hb
 refine⟨h.raw.kept fun b _ hb=>hset b (fun e=>hb (by rw[e];exact h.fh)),h.con,(hset S h.ne).trans h.bs,?_,h.fs,h.fh,h.ne,h.s0,h.h0,fun i hi b hb=>by rw[zA0 _ _ (by omega)]at hb;simpa using h.lx i hi b hb,fun ν hν x hx=>?_⟩
 ·have hb1:=h.bh;rcases(show s=0∨s=1∨s=2∨s=3 by omega)with rfl|rfl|rfl|rfl <;> simp[World.setCell,Array.getElem?_modify,hb1,upd]
 ·exact(((h.dat ν hν x hx).kept fun b hb=>hset b hb.2.2.2).weak fun b hb=>⟨by simpa using hb.1,hb.2⟩).put hs u
theorem CyM.atm {w w1 : World} {base S Hb : Nat} {L : Nat → Value} {st : Cy} {ev : List Ev} {V : Nat → Value} {N : Nat → Nat} {C : Nat → List Value} {D : Nat → List TJV} (h : CyM w base S Hb L st ev V N C D) {ws hs : List Int}
  (hk:∀b,b<w.heap.size→(V 0).ownBlock≠some b→(V 1).ownBlock≠some b→w1.heap[b]? = w.heap[b]?) (hsz:w.heap.size≤w1.heap.size) (h0:Owns w1 base 3 1 rowI (V 0) ws) (h1:Owns w1 base 3 1 rowI (V 1) hs) :
  CyM w1 base S Hb L { st with ws:=ws,hs:=hs } ev V (upd (upd N 0 ws.length) 1 hs.length) (upd (upd C 0 (ws.flatMap rowI)) 1 (hs.flatMap rowI)) D:=by
 have hS:=zA2 h.bs;have hH:=zA2 h.bh;refine⟨⟨fun κ hκ=>?_,h.raw.ap⟩,?_,(hk S hS (h.fs 0 (by omega)) (h.fs 1 (by omega))).trans h.bs,(hk Hb hH (h.fh 0 (by omega)) (h.fh 1 (by omega))).trans h.bh,h.fs,h.fh,h.ne,h.s0,h.h0,fun i hi b hb=>Nat.lt_of_lt_of_le (h.lx i hi b hb) hsz,fun ν hν x hx=>?_⟩
 ·by_cases e1:κ=1
  ·subst e1;simp only[zA1];exact h1
  ·by_cases e0:κ=0
   ·subst e0;simp only[zA1,zA0 _ _ (show(0:Nat)≠1 by omega)];exact h0
   ·simp only[zA0 _ _ e1,zA0 _ _ e0];exact(h.raw.own κ hκ).kept fun k hk2=>hk k (h.raw.lt hκ hk2).2 (fun hk3=>h.raw.ap κ 0 hκ (by omega) e0 k hk2 hk3) (fun hk3=>h.raw.ap κ 1 hκ (by omega) e1 k hk2 hk3)
 ·have c:=h.con;have u:∀{α:Type} {f:Nat→α} {a b:α} {i:Nat},2≤i→upd (upd f 0 a) 1 b i=f i:=fun hi=>by rw[zA0 _ _ (by omega),zA0 _ _ (by omega)]
  refine⟨by simp[upd],by simp[upd],by simp[upd],by simp[upd],by rw[u (by omega)];exact c.n2,by rw[u (by omega)];exact c.c2,by rw[u (by omega)];exact c.n3,by rw[u (by omega)];exact c.c3,by rw[u (by omega)];exact c.n4,by rw[u (by omega)];exact c.c4,c.t4,?_,?_,?_,?_,?_,?_,?_,?_,c.td,by rw[u (by omega)];exact c.ne,by rw[u (by omega)];exact c.ce⟩
  ·intro i hi;rw[u (by omega)];exact c.nq i hi
  ·intro i hi;rw[u (by omega)];exact c.cq i hi
  ·intro i hi;rw[u (by omega)];exact c.no i hi
  ·intro i hi;rw[u (by omega)];exact c.co i hi
  ·intro i hi;rw[u (by omega)];exact c.np i hi
  ·intro i hi;rw[u (by omega)];exact c.cp i hi
  ·intro i hi;rw[u (by omega)];exact c.nd i hi
  ·intro i hi;rw[u (by omega)];exact c.cd i hi
 ·exact((h.dat ν hν x hx).kept fun b hb=>hk b hb.1 (hb.2.1 0 (by omega)) (hb.2.1 1 (by omega))).weak fun b hb=>⟨Nat.lt_of_lt_of_le hb.1 hsz,hb.2⟩
theorem Cont.queue {st : Cy} {ev : List Ev} {V : Nat → Value} {N : Nat → Nat} {C : Nat → List Value} {D : Nat → List TJV} (h : Cont st ev V N C D) {w : Nat} (hw : w < 3) (v : Value) (x : List Nat)  :
    Cont { st with ports:=upd st.ports w { st.ports w with queue:=x } } ev (upd V (5+w) v) (upd N (5+w) x.length) (upd (upd C (5+w) (x.flatMap rowN)) 2 ((C 2).set (w * 4+1) v)) D:=by
  have uV:∀i,i≠5+w→(upd V (5+w) v) i=V i:=fun i hi=>zA0 _ _ hi
  have uN:∀i,i≠5+w→(upd N (5+w) x.length) i=N i:=fun i hi=>zA0 _ _ hi
  have uC:∀i,i≠5+w→i≠2→(upd (upd C (5+w) (x.flatMap rowN)) 2 ((C 2).set (w * 4+1) v)) i=C i:=fun i hi hj=>by rw[zA0 _ _ hj,zA0 _ _ hi]
  exact {
    n0:=by rw[uN (0) (by omega)];exact h.n0
    c0:=by rw[uC (0) (by omega) (by omega)];exact h.c0
    n1:=by rw[uN (1) (by omega)];exact h.n1
    c1:=by rw[uC (1) (by omega) (by omega)];exact h.c1
    n2:=by rw[uN (2) (by omega)];exact h.n2
    c2:=by
      rw[zA1,h.c2];rcases(show w=0∨w=1∨w=2 by omega)with rfl|rfl|rfl <;> simp[upd,ptRow,svRow]
    n3:=by rw[uN (3) (by omega)];exact h.n3
    c3:=by rw[uC (3) (by omega) (by omega)];rw[h.c3];exact(by simp only[ptRow,svRow];repeat rw[uV _ (by omega)])
    n4:=by rw[uN (4) (by omega)];exact h.n4
    c4:=by rw[uC (4) (by omega) (by omega)];exact h.c4
    t4:=by exact h.t4
    nq:=fun i hi=>by
      by_cases e:i=w
      · subst e;simp[upd]
      · rw[uN _ (by omega)];show _=(upd st.ports w { st.ports w with queue:=x } i).queue.length;rw[zA0 _ _ e];exact h.nq i hi
    cq:=fun i hi=>by
      by_cases e:i=w
      · subst e;rw[zA0 _ _ (show 5+i≠2 by omega),zA1];simp[upd]
      · rw[uC _ (by omega) (by omega)];show _=(upd st.ports w { st.ports w with queue:=x } i).queue.flatMap rowN;rw[zA0 _ _ e];exact h.cq i hi
    no:=fun i hi=>by show _=(upd st.ports w { st.ports w with queue:=x } i).out.length;rw[show(upd st.ports w { st.ports w with queue:=x } i).out=(st.ports i).out from by unfold upd;split <;> simp[*]];rw[uN (8+i) (by omega)];exact h.no i hi
    co:=fun i hi=>by show _=(upd st.ports w { st.ports w with queue:=x } i).out.flatMap jbRow;rw[show(upd st.ports w { st.ports w with queue:=x } i).out=(st.ports i).out from by unfold upd;split <;> simp[*]];rw[uC (8+i) (by omega) (by omega)];exact h.co i hi
    np:=fun i hi=>by rw[uN (11+i) (by omega)];exact h.np i hi
    cp:=fun i hi=>by rw[uC (11+i) (by omega) (by omega)];exact h.cp i hi
    nd:=fun i hi=>by rw[uN (15+i) (by omega)];exact h.nd i hi
    cd:=fun i hi=>by rw[uC (15+i) (by omega) (by omega)];exact h.cd i hi
    td:=fun i hi=>by exact h.td i hi
    ne:=by rw[uN (19) (by omega)];exact h.ne
    ce:=by rw[uC (19) (by omega) (by omega)];exact h.ce }
theorem Cont.out {st : Cy} {ev : List Ev} {V : Nat → Value} {N : Nat → Nat} {C : Nat → List Value} {D : Nat → List TJV} (h : Cont st ev V N C D) {w : Nat} (hw : w < 3) (v : Value) (x : List Jb)  :
    Cont { st with ports:=upd st.ports w { st.ports w with out:=x } } ev (upd V (8+w) v) (upd N (8+w) x.length) (upd (upd C (8+w) (x.flatMap jbRow)) 2 ((C 2).set (w * 4+2) v)) D:=by
  have uV:∀i,i≠8+w→(upd V (8+w) v) i=V i:=fun i hi=>zA0 _ _ hi
  have uN:∀i,i≠8+w→(upd N (8+w) x.length) i=N i:=fun i hi=>zA0 _ _ hi
  have uC:∀i,i≠8+w→i≠2→(upd (upd C (8+w) (x.flatMap jbRow)) 2 ((C 2).set (w * 4+2) v)) i=C i:=fun i hi hj=>by rw[zA0 _ _ hj,zA0 _ _ hi]
  exact {
    n0:=by rw[uN (0) (by omega)];exact h.n0
    c0:=by rw[uC (0) (by omega) (by omega)];exact h.c0
    n1:=by rw[uN (1) (by omega)];exact h.n1
    c1:=by rw[uC (1) (by omega) (by omega)];exact h.c1
    n2:=by rw[uN (2) (by omega)];exact h.n2
    c2:=by
      rw[zA1,h.c2];rcases(show w=0∨w=1∨w=2 by omega)with rfl|rfl|rfl <;> simp[upd,ptRow,svRow]
    n3:=by rw[uN (3) (by omega)];exact h.n3
    c3:=by rw[uC (3) (by omega) (by omega)];rw[h.c3];exact(by simp only[ptRow,svRow];repeat rw[uV _ (by omega)])
    n4:=by rw[uN (4) (by omega)];exact h.n4
    c4:=by rw[uC (4) (by omega) (by omega)];exact h.c4
    t4:=by exact h.t4
    nq:=fun i hi=>by show _=(upd st.ports w { st.ports w with out:=x } i).queue.length;rw[show(upd st.ports w { st.ports w with out:=x } i).queue=(st.ports i).queue from by unfold upd;split <;> simp[*]];rw[uN (5+i) (by omega)];exact h.nq i hi
    cq:=fun i hi=>by show _=(upd st.ports w { st.ports w with out:=x } i).queue.flatMap rowN;rw[show(upd st.ports w { st.ports w with out:=x } i).queue=(st.ports i).queue from by unfold upd;split <;> simp[*]];rw[uC (5+i) (by omega) (by omega)];exact h.cq i hi
    no:=fun i hi=>by
      by_cases e:i=w
      · subst e;simp[upd]
      · rw[uN _ (by omega)];show _=(upd st.ports w { st.ports w with out:=x } i).out.length;rw[zA0 _ _ e];exact h.no i hi
    co:=fun i hi=>by
      by_cases e:i=w
      · subst e;rw[zA0 _ _ (show 8+i≠2 by omega),zA1];simp[upd]
      · rw[uC _ (by omega) (by omega)];show _=(upd st.ports w { st.ports w with out:=x } i).out.flatMap jbRow;rw[zA0 _ _ e];exact h.co i hi
    np:=fun i hi=>by rw[uN (11+i) (by omega)];exact h.np i hi
    cp:=fun i hi=>by rw[uC (11+i) (by omega) (by omega)];exact h.cp i hi
    nd:=fun i hi=>by rw[uN (15+i) (by omega)];exact h.nd i hi
    cd:=fun i hi=>by rw[uC (15+i) (by omega) (by omega)];exact h.cd i hi
    td:=fun i hi=>by exact h.td i hi
    ne:=by rw[uN (19) (by omega)];exact h.ne
    ce:=by rw[uC (19) (by omega) (by omega)];exact h.ce }
theorem Cont.pipe {st : Cy} {ev : List Ev} {V : Nat → Value} {N : Nat → Nat} {C : Nat → List Value} {D : Nat → List TJV} (h : Cont st ev V N C D) {s : Nat} (hs : s < 4) (v : Value) (x : List Jb)  :
    Cont { st with slaves:=upd st.slaves s { st.slaves s with pipe:=x } } ev (upd V (11+s) v) (upd N (11+s) x.length) (upd (upd C (11+s) (x.flatMap jbRow)) 3 ((C 3).set (s * 3+0) v)) D:=by
  have uV:∀i,i≠11+s→(upd V (11+s) v) i=V i:=fun i hi=>zA0 _ _ hi
  have uN:∀i,i≠11+s→(upd N (11+s) x.length) i=N i:=fun i hi=>zA0 _ _ hi
  have uC:∀i,i≠11+s→i≠3→(upd (upd C (11+s) (x.flatMap jbRow)) 3 ((C 3).set (s * 3+0) v)) i=C i:=fun i hi hj=>by rw[zA0 _ _ hj,zA0 _ _ hi]
  exact {
    n0:=by rw[uN (0) (by omega)];exact h.n0
    c0:=by rw[uC (0) (by omega) (by omega)];exact h.c0
    n1:=by rw[uN (1) (by omega)];exact h.n1
    c1:=by rw[uC (1) (by omega) (by omega)];exact h.c1
    n2:=by rw[uN (2) (by omega)];exact h.n2
    c2:=by rw[uC (2) (by omega) (by omega)];rw[h.c2];exact(by simp only[ptRow,svRow];repeat rw[uV _ (by omega)])
    n3:=by rw[uN (3) (by omega)];exact h.n3
    c3:=by
      rw[zA1,h.c3];rcases(show s=0∨s=1∨s=2∨s=3 by omega)with rfl|rfl|rfl|rfl <;> simp[upd,ptRow,svRow]
    n4:=by rw[uN (4) (by omega)];exact h.n4
    c4:=by rw[uC (4) (by omega) (by omega)];exact h.c4
    t4:=by exact h.t4
    nq:=fun i hi=>by rw[uN (5+i) (by omega)];exact h.nq i hi
    cq:=fun i hi=>by rw[uC (5+i) (by omega) (by omega)];exact h.cq i hi
    no:=fun i hi=>by rw[uN (8+i) (by omega)];exact h.no i hi
    co:=fun i hi=>by rw[uC (8+i) (by omega) (by omega)];exact h.co i hi
    np:=fun i hi=>by
      by_cases e:i=s
      · subst e;simp[upd]
      · rw[uN _ (by omega)];show _=(upd st.slaves s { st.slaves s with pipe:=x } i).pipe.length;rw[zA0 _ _ e];exact h.np i hi
    cp:=fun i hi=>by
      by_cases e:i=s
      · subst e;rw[zA0 _ _ (show 11+i≠3 by omega),zA1];simp[upd]
      · rw[uC _ (by omega) (by omega)];show _=(upd st.slaves s { st.slaves s with pipe:=x } i).pipe.flatMap jbRow;rw[zA0 _ _ e];exact h.cp i hi
    nd:=fun i hi=>by show _=(upd st.slaves s { st.slaves s with pipe:=x } i).done.length;rw[show(upd st.slaves s { st.slaves s with pipe:=x } i).done=(st.slaves i).done from by unfold upd;split <;> simp[*]];rw[uN (15+i) (by omega)];exact h.nd i hi
    cd:=fun i hi=>by rw[uC (15+i) (by omega) (by omega)];exact h.cd i hi
    td:=fun i hi=>by show _=(upd st.slaves s { st.slaves s with pipe:=x } i).done;rw[show(upd st.slaves s { st.slaves s with pipe:=x } i).done=(st.slaves i).done from by unfold upd;split <;> simp[*]];exact h.td i hi
    ne:=by rw[uN (19) (by omega)];exact h.ne
    ce:=by rw[uC (19) (by omega) (by omega)];exact h.ce }
theorem Cont.done {st : Cy} {ev : List Ev} {V : Nat → Value} {N : Nat → Nat} {C : Nat → List Value} {D : Nat → List TJV} (h : Cont st ev V N C D) {s : Nat} (hs : s < 4) (v : Value) (X : List TJV)  :
    Cont { st with slaves:=upd st.slaves s { st.slaves s with done:=X.map (·.1) } } ev (upd V (15+s) v) (upd N (15+s) X.length) (upd (upd C (15+s) (X.flatMap tjRow)) 3 ((C 3).set (s * 3+1) v)) (upd D (15+s) X):=by
  have uV:∀i,i≠15+s→(upd V (15+s) v) i=V i:=fun i hi=>zA0 _ _ hi
  have uN:∀i,i≠15+s→(upd N (15+s) X.length) i=N i:=fun i hi=>zA0 _ _ hi
  have uC:∀i,i≠15+s→i≠3→(upd (upd C (15+s) (X.flatMap tjRow)) 3 ((C 3).set (s * 3+1) v)) i=C i:=fun i hi hj=>by rw[zA0 _ _ hj,zA0 _ _ hi]
  have uD:∀i,i≠15+s→(upd D (15+s) X) i=D i:=fun i hi=>zA0 _ _ hi
  exact {
    n0:=by rw[uN (0) (by omega)];exact h.n0
    c0:=by rw[uC (0) (by omega) (by omega)];exact h.c0
    n1:=by rw[uN (1) (by omega)];exact h.n1
    c1:=by rw[uC (1) (by omega) (by omega)];exact h.c1
    n2:=by rw[uN (2) (by omega)];exact h.n2
    c2:=by rw[uC (2) (by omega) (by omega)];rw[h.c2];exact(by simp only[ptRow,svRow];repeat rw[uV _ (by omega)])
    n3:=by rw[uN (3) (by omega)];exact h.n3
    c3:=by
      rw[zA1,h.c3];rcases(show s=0∨s=1∨s=2∨s=3 by omega)with rfl|rfl|rfl|rfl <;> simp[upd,ptRow,svRow]
    n4:=by rw[uN (4) (by omega)];exact h.n4
    c4:=by rw[uD (4) (by omega)];rw[uC (4) (by omega) (by omega)];exact h.c4
    t4:=by rw[uD (4) (by omega)];exact h.t4
    nq:=fun i hi=>by rw[uN (5+i) (by omega)];exact h.nq i hi
    cq:=fun i hi=>by rw[uC (5+i) (by omega) (by omega)];exact h.cq i hi
    no:=fun i hi=>by rw[uN (8+i) (by omega)];exact h.no i hi
    co:=fun i hi=>by rw[uC (8+i) (by omega) (by omega)];exact h.co i hi
    np:=fun i hi=>by show _=(upd st.slaves s { st.slaves s with done:=X.map (·.1) } i).pipe.length;rw[show(upd st.slaves s { st.slaves s with done:=X.map (·.1) } i).pipe=(st.slaves i).pipe from by unfold upd;split <;> simp[*]];rw[uN (11+i) (by omega)];exact h.np i hi
    cp:=fun i hi=>by show _=(upd st.slaves s { st.slaves s with done:=X.map (·.1) } i).pipe.flatMap jbRow;rw[show(upd st.slaves s { st.slaves s with done:=X.map (·.1) } i).pipe=(st.slaves i).pipe from by unfold upd;split <;> simp[*]];rw[uC (11+i) (by omega) (by omega)];exact h.cp i hi
    nd:=fun i hi=>by
      by_cases e:i=s
      · subst e;simp[upd]
      · rw[uN _ (by omega)];show _=(upd st.slaves s { st.slaves s with done:=X.map (·.1) } i).done.length;rw[zA0 _ _ e];exact h.nd i hi
    cd:=fun i hi=>by
      by_cases e:i=s
      · subst e;rw[zA0 _ _ (show 15+i≠3 by omega),zA1,zA1]
      · rw[uC _ (by omega) (by omega),uD _ (by omega)];exact h.cd i hi
    td:=fun i hi=>by
      by_cases e:i=s
      · subst e;simp[upd]
      · rw[uD _ (by omega)];show _=(upd st.slaves s { st.slaves s with done:=X.map (·.1) } i).done;rw[zA0 _ _ e];exact h.td i hi
    ne:=by rw[uN (19) (by omega)];exact h.ne
    ce:=by rw[uC (19) (by omega) (by omega)];exact h.ce }
theorem Cont.told {st : Cy} {ev : List Ev} {V : Nat → Value} {N : Nat → Nat} {C : Nat → List Value} {D : Nat → List TJV} (h : Cont st ev V N C D) (v : Value) (X : List TJV)  :
    Cont { st with told:=X.map (·.1) } ev (upd V (4) v) (upd N (4) X.length) (upd C (4) (X.flatMap tjRow)) (upd D 4 X):=by
  have uV:∀i,i≠4→(upd V (4) v) i=V i:=fun i hi=>zA0 _ _ hi
  have uN:∀i,i≠4→(upd N (4) X.length) i=N i:=fun i hi=>zA0 _ _ hi
  have uC:∀i,i≠4→(upd C (4) (X.flatMap tjRow)) i=C i:=fun i hi=>zA0 _ _ hi
  have uD:∀i,i≠4→(upd D 4 X) i=D i:=fun i hi=>zA0 _ _ hi
  exact {
    n0:=by rw[uN (0) (by omega)];exact h.n0
    c0:=by rw[uC (0) (by omega)];exact h.c0
    n1:=by rw[uN (1) (by omega)];exact h.n1
    c1:=by rw[uC (1) (by omega)];exact h.c1
    n2:=by rw[uN (2) (by omega)];exact h.n2
    c2:=by rw[uC (2) (by omega)];rw[h.c2];exact(by simp only[ptRow,svRow];repeat rw[uV _ (by omega)])
    n3:=by rw[uN (3) (by omega)];exact h.n3
    c3:=by rw[uC (3) (by omega)];rw[h.c3];exact(by simp only[ptRow,svRow];repeat rw[uV _ (by omega)])
    n4:=by simp[upd]
    c4:=by rw[zA1,zA1]
    t4:=by rw[zA1]
    nq:=fun i hi=>by rw[uN (5+i) (by omega)];exact h.nq i hi
    cq:=fun i hi=>by rw[uC (5+i) (by omega)];exact h.cq i hi
    no:=fun i hi=>by rw[uN (8+i) (by omega)];exact h.no i hi
    co:=fun i hi=>by rw[uC (8+i) (by omega)];exact h.co i hi
    np:=fun i hi=>by rw[uN (11+i) (by omega)];exact h.np i hi
    cp:=fun i hi=>by rw[uC (11+i) (by omega)];exact h.cp i hi
    nd:=fun i hi=>by rw[uN (15+i) (by omega)];exact h.nd i hi
    cd:=fun i hi=>by rw[uD (15+i) (by omega)];rw[uC (15+i) (by omega)];exact h.cd i hi
    td:=fun i hi=>by rw[uD (15+i) (by omega)];exact h.td i hi
    ne:=by rw[uN (19) (by omega)];exact h.ne
    ce:=by rw[uC (19) (by omega)];exact h.ce }
theorem Cont.evts {st : Cy} {ev : List Ev} {V : Nat → Value} {N : Nat → Nat} {C : Nat → List Value} {D : Nat → List TJV} (h : Cont st ev V N C D) (v : Value) (e : List Ev)  :
    Cont st e (upd V (19) v) (upd N (19) e.length) (upd C (19) (e.flatMap evRow)) D:=by
  have uV:∀i,i≠19→(upd V (19) v) i=V i:=fun i hi=>zA0 _ _ hi
  have uN:∀i,i≠19→(upd N (19) e.length) i=N i:=fun i hi=>zA0 _ _ hi
  have uC:∀i,i≠19→(upd C (19) (e.flatMap evRow)) i=C i:=fun i hi=>zA0 _ _ hi
  exact {
    n0:=by rw[uN (0) (by omega)];exact h.n0
    c0:=by rw[uC (0) (by omega)];exact h.c0
    n1:=by rw[uN (1) (by omega)];exact h.n1
    c1:=by rw[uC (1) (by omega)];exact h.c1
    n2:=by rw[uN (2) (by omega)];exact h.n2
    c2:=by rw[uC (2) (by omega)];rw[h.c2];exact(by simp only[ptRow,svRow];repeat rw[uV _ (by omega)])
    n3:=by rw[uN (3) (by omega)];exact h.n3
    c3:=by rw[uC (3) (by omega)];rw[h.c3];exact(by simp only[ptRow,svRow];repeat rw[uV _ (by omega)])
    n4:=by rw[uN (4) (by omega)];exact h.n4
    c4:=by rw[uC (4) (by omega)];exact h.c4
    t4:=by exact h.t4
    nq:=fun i hi=>by rw[uN (5+i) (by omega)];exact h.nq i hi
    cq:=fun i hi=>by rw[uC (5+i) (by omega)];exact h.cq i hi
    no:=fun i hi=>by rw[uN (8+i) (by omega)];exact h.no i hi
    co:=fun i hi=>by rw[uC (8+i) (by omega)];exact h.co i hi
    np:=fun i hi=>by rw[uN (11+i) (by omega)];exact h.np i hi
    cp:=fun i hi=>by rw[uC (11+i) (by omega)];exact h.cp i hi
    nd:=fun i hi=>by rw[uN (15+i) (by omega)];exact h.nd i hi
    cd:=fun i hi=>by rw[uC (15+i) (by omega)];exact h.cd i hi
    td:=fun i hi=>by exact h.td i hi
    ne:=by rw[zA1]
    ce:=by rw[zA1] }
theorem Cont.next {st : Cy} {ev : List Ev} {V : Nat → Value} {N : Nat → Nat} {C : Nat → List Value} {D : Nat → List TJV} (h : Cont st ev V N C D) {w : Nat} (hw : w < 3) (x : Nat)  :
    Cont { st with ports:=upd st.ports w { st.ports w with next:=x } } ev V N (upd C 2 ((C 2).set (w * 4+0) (.int .i64 (x:Nat)))) D:=by
  have uC:∀i,i≠2→(upd C 2 ((C 2).set (w * 4+0) (.int .i64 (x:Nat)))) i=C i:=fun i hi=>zA0 _ _ hi
  exact {
    n0:=by exact h.n0
    c0:=by rw[uC (0) (by omega)];exact h.c0
    n1:=by exact h.n1
    c1:=by rw[uC (1) (by omega)];exact h.c1
    n2:=by exact h.n2
    c2:=by
      rw[zA1,h.c2];rcases(show w=0∨w=1∨w=2 by omega)with rfl|rfl|rfl <;> simp[upd,ptRow,svRow]
    n3:=by exact h.n3
    c3:=by rw[uC (3) (by omega)];rw[h.c3]
    n4:=by exact h.n4
    c4:=by rw[uC (4) (by omega)];exact h.c4
    t4:=by exact h.t4
    nq:=fun i hi=>by show _=(upd st.ports w { st.ports w with next:=x } i).queue.length;rw[show(upd st.ports w { st.ports w with next:=x } i).queue=(st.ports i).queue from by unfold upd;split <;> simp[*]];exact h.nq i hi
    cq:=fun i hi=>by show _=(upd st.ports w { st.ports w with next:=x } i).queue.flatMap rowN;rw[show(upd st.ports w { st.ports w with next:=x } i).queue=(st.ports i).queue from by unfold upd;split <;> simp[*]];rw[uC (5+i) (by omega)];exact h.cq i hi
    no:=fun i hi=>by show _=(upd st.ports w { st.ports w with next:=x } i).out.length;rw[show(upd st.ports w { st.ports w with next:=x } i).out=(st.ports i).out from by unfold upd;split <;> simp[*]];exact h.no i hi
    co:=fun i hi=>by show _=(upd st.ports w { st.ports w with next:=x } i).out.flatMap jbRow;rw[show(upd st.ports w { st.ports w with next:=x } i).out=(st.ports i).out from by unfold upd;split <;> simp[*]];rw[uC (8+i) (by omega)];exact h.co i hi
    np:=fun i hi=>by exact h.np i hi
    cp:=fun i hi=>by rw[uC (11+i) (by omega)];exact h.cp i hi
    nd:=fun i hi=>by exact h.nd i hi
    cd:=fun i hi=>by rw[uC (15+i) (by omega)];exact h.cd i hi
    td:=fun i hi=>by exact h.td i hi
    ne:=by exact h.ne
    ce:=by rw[uC (19) (by omega)];exact h.ce }
theorem Cont.plast {st : Cy} {ev : List Ev} {V : Nat → Value} {N : Nat → Nat} {C : Nat → List Value} {D : Nat → List TJV} (h : Cont st ev V N C D) {w : Nat} (hw : w < 3) (x : Nat)  :
    Cont { st with ports:=upd st.ports w { st.ports w with last:=x } } ev V N (upd C 2 ((C 2).set (w * 4+3) (.int .i64 (x:Nat)))) D:=by
  have uC:∀i,i≠2→(upd C 2 ((C 2).set (w * 4+3) (.int .i64 (x:Nat)))) i=C i:=fun i hi=>zA0 _ _ hi
  exact {
    n0:=by exact h.n0
    c0:=by rw[uC (0) (by omega)];exact h.c0
    n1:=by exact h.n1
    c1:=by rw[uC (1) (by omega)];exact h.c1
    n2:=by exact h.n2
    c2:=by
      rw[zA1,h.c2];rcases(show w=0∨w=1∨w=2 by omega)with rfl|rfl|rfl <;> simp[upd,ptRow,svRow]
    n3:=by exact h.n3
    c3:=by rw[uC (3) (by omega)];rw[h.c3]
    n4:=by exact h.n4
    c4:=by rw[uC (4) (by omega)];exact h.c4
    t4:=by exact h.t4
    nq:=fun i hi=>by show _=(upd st.ports w { st.ports w with last:=x } i).queue.length;rw[show(upd st.ports w { st.ports w with last:=x } i).queue=(st.ports i).queue from by unfold upd;split <;> simp[*]];exact h.nq i hi
    cq:=fun i hi=>by show _=(upd st.ports w { st.ports w with last:=x } i).queue.flatMap rowN;rw[show(upd st.ports w { st.ports w with last:=x } i).queue=(st.ports i).queue from by unfold upd;split <;> simp[*]];rw[uC (5+i) (by omega)];exact h.cq i hi
    no:=fun i hi=>by show _=(upd st.ports w { st.ports w with last:=x } i).out.length;rw[show(upd st.ports w { st.ports w with last:=x } i).out=(st.ports i).out from by unfold upd;split <;> simp[*]];exact h.no i hi
    co:=fun i hi=>by show _=(upd st.ports w { st.ports w with last:=x } i).out.flatMap jbRow;rw[show(upd st.ports w { st.ports w with last:=x } i).out=(st.ports i).out from by unfold upd;split <;> simp[*]];rw[uC (8+i) (by omega)];exact h.co i hi
    np:=fun i hi=>by exact h.np i hi
    cp:=fun i hi=>by rw[uC (11+i) (by omega)];exact h.cp i hi
    nd:=fun i hi=>by exact h.nd i hi
    cd:=fun i hi=>by rw[uC (15+i) (by omega)];exact h.cd i hi
    td:=fun i hi=>by exact h.td i hi
    ne:=by exact h.ne
    ce:=by rw[uC (19) (by omega)];exact h.ce }
theorem Cont.slast {st : Cy} {ev : List Ev} {V : Nat → Value} {N : Nat → Nat} {C : Nat → List Value} {D : Nat → List TJV} (h : Cont st ev V N C D) {s : Nat} (hs : s < 4) (x : Nat)  :
    Cont { st with slaves:=upd st.slaves s { st.slaves s with last:=x } } ev V N (upd C 3 ((C 3).set (s * 3+2) (.int .i64 (x:Nat)))) D:=by
  have uC:∀i,i≠3→(upd C 3 ((C 3).set (s * 3+2) (.int .i64 (x:Nat)))) i=C i:=fun i hi=>zA0 _ _ hi
  exact {
    n0:=by exact h.n0
    c0:=by rw[uC (0) (by omega)];exact h.c0
    n1:=by exact h.n1
    c1:=by rw[uC (1) (by omega)];exact h.c1
    n2:=by exact h.n2
    c2:=by rw[uC (2) (by omega)];rw[h.c2]
    n3:=by exact h.n3
    c3:=by
      rw[zA1,h.c3];rcases(show s=0∨s=1∨s=2∨s=3 by omega)with rfl|rfl|rfl|rfl <;> simp[upd,ptRow,svRow]
    n4:=by exact h.n4
    c4:=by rw[uC (4) (by omega)];exact h.c4
    t4:=by exact h.t4
    nq:=fun i hi=>by exact h.nq i hi
    cq:=fun i hi=>by rw[uC (5+i) (by omega)];exact h.cq i hi
    no:=fun i hi=>by exact h.no i hi
    co:=fun i hi=>by rw[uC (8+i) (by omega)];exact h.co i hi
    np:=fun i hi=>by show _=(upd st.slaves s { st.slaves s with last:=x } i).pipe.length;rw[show(upd st.slaves s { st.slaves s with last:=x } i).pipe=(st.slaves i).pipe from by unfold upd;split <;> simp[*]];exact h.np i hi
    cp:=fun i hi=>by show _=(upd st.slaves s { st.slaves s with last:=x } i).pipe.flatMap jbRow;rw[show(upd st.slaves s { st.slaves s with last:=x } i).pipe=(st.slaves i).pipe from by unfold upd;split <;> simp[*]];rw[uC (11+i) (by omega)];exact h.cp i hi
    nd:=fun i hi=>by show _=(upd st.slaves s { st.slaves s with last:=x } i).done.length;rw[show(upd st.slaves s { st.slaves s with last:=x } i).done=(st.slaves i).done from by unfold upd;split <;> simp[*]];exact h.nd i hi
    cd:=fun i hi=>by rw[uC (15+i) (by omega)];exact h.cd i hi
    td:=fun i hi=>by show _=(upd st.slaves s { st.slaves s with last:=x } i).done;rw[show(upd st.slaves s { st.slaves s with last:=x } i).done=(st.slaves i).done from by unfold upd;split <;> simp[*]];exact h.td i hi
    ne:=by exact h.ne
    ce:=by rw[uC (19) (by omega)];exact h.ce }
theorem Cont.pleft {st : Cy} {ev : List Ev} {V : Nat → Value} {N : Nat → Nat} {C : Nat → List Value} {D : Nat → List TJV} (h : Cont st ev V N C D) {s : Nat} (hs : s < 4) {j : Jb} {rest : List Jb} (hp : (st.slaves s).pipe = j :: rest) (x : Nat)  :
    Cont { st with slaves:=upd st.slaves s { st.slaves s with pipe:=⟨j.who,j.n,x⟩::rest } } ev V N (upd C (11+s) ((C (11+s)).set 2 (.int .i64 (x:Nat)))) D:=by
  have uC:∀i,i≠(11+s)→(upd C (11+s) ((C (11+s)).set 2 (.int .i64 (x:Nat)))) i=C i:=fun i hi=>zA0 _ _ hi
  exact {
    n0:=by exact h.n0
    c0:=by rw[uC (0) (by omega)];exact h.c0
    n1:=by exact h.n1
    c1:=by rw[uC (1) (by omega)];exact h.c1
    n2:=by exact h.n2
    c2:=by rw[uC (2) (by omega)];rw[h.c2]
    n3:=by exact h.n3
    c3:=by rw[uC (3) (by omega)];rw[h.c3];rcases(show s=0∨s=1∨s=2∨s=3 by omega)with rfl|rfl|rfl|rfl <;> simp[upd,svRow]
    n4:=by exact h.n4
    c4:=by rw[uC (4) (by omega)];exact h.c4
    t4:=by exact h.t4
    nq:=fun i hi=>by exact h.nq i hi
    cq:=fun i hi=>by rw[uC (5+i) (by omega)];exact h.cq i hi
    no:=fun i hi=>by exact h.no i hi
    co:=fun i hi=>by rw[uC (8+i) (by omega)];exact h.co i hi
    np:=fun i hi=>by
      show _=(upd st.slaves s { st.slaves s with pipe:=⟨j.who,j.n,x⟩::rest } i).pipe.length;by_cases e:i=s
      · subst e;rw[zA1,h.np i hi,hp];rfl
      · rw[zA0 _ _ e];exact h.np i hi
    cp:=fun i hi=>by
      show _=(upd st.slaves s { st.slaves s with pipe:=⟨j.who,j.n,x⟩::rest } i).pipe.flatMap jbRow;by_cases e:i=s
      · subst e;rw[zA1,zA1,h.cp i hi,hp];simp[jbRow]
      · rw[uC _ (by omega),zA0 _ _ e];exact h.cp i hi
    nd:=fun i hi=>by show _=(upd st.slaves s { st.slaves s with pipe:=⟨j.who,j.n,x⟩::rest } i).done.length;rw[show(upd st.slaves s { st.slaves s with pipe:=⟨j.who,j.n,x⟩::rest } i).done=(st.slaves i).done from by unfold upd;split <;> simp[*]];exact h.nd i hi
    cd:=fun i hi=>by rw[uC (15+i) (by omega)];exact h.cd i hi
    td:=fun i hi=>by show _=(upd st.slaves s { st.slaves s with pipe:=⟨j.who,j.n,x⟩::rest } i).done;rw[show(upd st.slaves s { st.slaves s with pipe:=⟨j.who,j.n,x⟩::rest } i).done=(st.slaves i).done from by unfold upd;split <;> simp[*]];exact h.td i hi
    ne:=by exact h.ne
    ce:=by rw[uC (19) (by omega)];exact h.ce }
end Go.Proofs.YthnlalffjepdaaaGreat
