/- A region that draws its order, by an invariant: what each step keeps, whatever was done before it. -/
import Derived.Test.YtgkdoehkmbhfiaaGreatPE1
import Derived.Test.YtgkdoehkmbhfiaaGreatPCloneP
import Derived.Test.YtgkdoehkmbhfiaaGreatPLib
import Derived.Test.YtgkdoehkmbhfiaaGreatPDo4
import Derived.Deep.AppendLies
import Derived.Deep.RegionHeld3
import Derived.Deep.DrawnRows
import Derived.Deep.RegionWith
import Derived.Deep.Cut
import Derived.Deep.CutRange
import Derived.Deep.CutBlock
import Derived.Orders
import Derived.StillTail
set_option linter.unusedVariables false
set_option linter.unusedSimpArgs false
set_option maxHeartbeats 16000000
namespace Go.Proofs.YtgkdoehkmbhfiaaGreat
open Go.RowKit
def Keeps (P:Nat→Prop) (w w':World):Prop:=∀b,P b→w'.heap[b]? = w.heap[b]?
theorem Keeps.weak {P Q:Nat→Prop} {w w':World} (h:Keeps Q w w') (hs:∀b,P b→Q b):Keeps P w w':=fun b hb=>h b (hs b hb)
theorem Keeps.trans {P:Nat→Prop} {u v w:World} (h:Keeps P u v) (k:Keeps P v w):Keeps P u w:=fun b hb=>(k b hb).trans (h b hb)
theorem Keeps.cell {P:Nat→Prop} {w w':World} (h:Keeps P w w') {a:Addr} (ha:P a.block):w'.cell? a=w.cell? a:=by simp only[World.cell?,h _ ha]
theorem Keeps.frozen {P:Nat→Prop} {w w':World} (h:Keeps P w w') {a:Addr} (ha:P a.block):w'.frozen? a=w.frozen? a:=by simp only[World.frozen?,h _ ha]
def ArrD (w:World) (P:Nat→Prop) (sz:Nat) (v:Value) (rows:List (List Value)):Prop :=
 ∃ ao cap, v = .slice ao rows.length cap ∧ rows.length ≤ cap ∧ cap ≤ 9223372036854775807 ∧ rows.length ≤ 140737488351232 ∧ (ao = none → cap = 0) ∧
  (rows.length≠0→∃b off,ao=some ⟨b,off,none⟩∧P b∧∀t,t<rows.length→∀j,j<sz→w.cell? ⟨b,off+t * sz+j,none⟩=(rows.getD t [])[j]?)
theorem ArrD.of {w:World} {B sz:Nat} {v:Value} {rows:List (List Value)} (h:Arr w B sz v rows):ArrD w (·<B) sz v rows:=h
theorem ArrD.to {w:World} {P:Nat→Prop} {B sz:Nat} {v:Value} {rows:List (List Value)} (h:ArrD w P sz v rows) (hP:∀b,P b→b<B):Arr w B sz v rows:=by
 obtain⟨ao,cap,hv,h1,h2,h0,h9,h3⟩:=h;refine⟨ao,cap,hv,h1,h2,h0,h9,fun hn=>?_⟩;obtain⟨b,off,ha,hlt,hc⟩:=h3 hn;exact⟨b,off,ha,hP b hlt,hc⟩
theorem ArrD.kept {w w':World} {P:Nat→Prop} {sz:Nat} {v:Value} {rows:List (List Value)} (h:ArrD w P sz v rows) (hk:Keeps P w w'):ArrD w' P sz v rows:=by
 obtain⟨ao,cap,hv,h1,h2,h0,h9,h3⟩:=h;refine⟨ao,cap,hv,h1,h2,h0,h9,fun hn=>?_⟩;obtain⟨b,off,ha,hlt,hc⟩:=h3 hn;exact⟨b,off,ha,hlt,fun t ht j hj=>by rw[←hc t ht j hj];exact hk.cell (a:=⟨b,_,none⟩) hlt⟩
theorem ArrD.weak {w:World} {P Q:Nat→Prop} {sz:Nat} {v:Value} {rows:List (List Value)} (h:ArrD w P sz v rows) (hs:∀b,P b→Q b):ArrD w Q sz v rows:=by
 obtain⟨ao,cap,hv,h1,h2,h0,h9,h3⟩:=h;refine⟨ao,cap,hv,h1,h2,h0,h9,fun hn=>?_⟩;obtain⟨b,off,ha,hlt,hc⟩:=h3 hn;exact⟨b,off,ha,hs b hlt,hc⟩
theorem OwnR.arrD {w : World} {base e sz : Nat} {v : Value} {n : Nat} {cells : List Value} {rows : List (List Value)} {P : Nat → Prop} (h : OwnR w base e sz v n cells) (hP : ∀ k, v.ownBlock = some k → P k)
  (hrows:rows.length=n) (hn:n≤140737488351232) (hc:∀t,t<n→∀j,j<sz→cells[t * sz+j]? = (rows.getD t [])[j]?):ArrD w P sz v rows:=by
 obtain⟨ao,cap,hv,h1,h2,h0,h9,h3⟩:=h.arr hrows hn hc;refine⟨ao,cap,hv,h1,h2,h0,h9,fun hnz=>?_⟩;obtain⟨b,off,ha,hlt,hc⟩:=h3 hnz;exact⟨b,off,ha,hP b (by rw[hv,ha];rfl),hc⟩
theorem Owns.arrD {α:Type} {w:World} {base e sz:Nat} {f:α→List Value} {v:Value} {xs:List α} {P:Nat→Prop} (h:Owns w base e sz f v xs) (hP:∀k,v.ownBlock=some k→P k) (hf:∀x,(f x).length=sz) (hn:xs.length≤140737488351232):ArrD w P sz v (xs.map f) :=
 OwnR.arrD h hP (by simp) hn (fun t ht j hj=>zH6 hf xs t j ht hj)
def IntsD (w:World) (P:Nat→Prop) (v:Value) (xs:List Int):Prop:=ArrD w P 1 v (xs.map rowI)∧∀x∈xs,I64 x
theorem IntsD.of {w:World} {B:Nat} {v:Value} {xs:List Int} (h:Ints w B v xs):IntsD w (·<B) v xs:=h
theorem IntsD.to {w:World} {P:Nat→Prop} {B:Nat} {v:Value} {xs:List Int} (h:IntsD w P v xs) (hP:∀b,P b→b<B):Ints w B v xs:=⟨h.1.to hP,h.2⟩
theorem IntsD.kept {w w':World} {P:Nat→Prop} {v:Value} {xs:List Int} (h:IntsD w P v xs) (hk:Keeps P w w'):IntsD w' P v xs:=⟨h.1.kept hk,h.2⟩
theorem IntsD.weak {w:World} {P Q:Nat→Prop} {v:Value} {xs:List Int} (h:IntsD w P v xs) (hs:∀b,P b→Q b):IntsD w Q v xs:=⟨h.1.weak hs,h.2⟩
theorem Owns.intsD {w:World} {base e:Nat} {v:Value} {xs:List Int} {P:Nat→Prop} (h:Owns w base e 1 rowI v xs) (hP:∀k,v.ownBlock=some k→P k) (hn:xs.length≤140737488351232) (hx:∀x∈xs,I64 x):IntsD w P v xs:=⟨h.arrD hP zG7 hn,hx⟩
theorem IntsD.nil (w:World) (P:Nat→Prop):IntsD w P (.slice none 0 0) []:=⟨⟨none,0,rfl,by simp,by omega,by simp,fun _=>rfl,fun h=>absurd rfl h⟩,by simp⟩
abbrev RqV:=Rq×Value×Value
def rowQ (y:RqV):List Value:=[.int .i64 y.1.id,.int .i64 y.1.kind,.int .i64 y.1.addr,.int .i64 y.1.many,.bool y.1.wrap,y.2.1,y.2.2]
theorem zI4 (y:RqV):(rowQ y).length=7:=rfl
def RqD (w:World) (P:Nat→Prop) (y:RqV):Prop:=IntsD w P y.2.1 y.1.data∧IntsD w P y.2.2 y.1.lanes∧I64 y.1.id∧I64 y.1.kind∧I64 y.1.addr∧I64 y.1.many
theorem RqD.kept {w w':World} {P:Nat→Prop} {y:RqV} (h:RqD w P y) (hk:Keeps P w w'):RqD w' P y:=⟨h.1.kept hk,h.2.1.kept hk,h.2.2⟩
theorem RqD.weak {w:World} {P Q:Nat→Prop} {y:RqV} (h:RqD w P y) (hs:∀b,P b→Q b):RqD w Q y:=⟨h.1.weak hs,h.2.1.weak hs,h.2.2⟩
theorem RqD.val {w:World} {P:Nat→Prop} {B:Nat} {y:RqV} (h:RqD w P y) (hP:∀b,P b→b<B):ReqV w B (.agg #[.int .i64 y.1.id,.int .i64 y.1.kind,.int .i64 y.1.addr,.int .i64 y.1.many,.bool y.1.wrap,y.2.1,y.2.2]) y.1 :=
 ⟨_,_,rfl,h.1.to hP,h.2.1.to hP,h.2.2⟩
theorem reqs_of {w:World} {P:Nat→Prop} {B:Nat} {v:Value} {ys:List RqV} (ha:ArrD w P 7 v (ys.map rowQ)) (hy:∀y∈ys,RqD w P y) (hP:∀b,P b→b<B):Reqs w B v (ys.map (·.1)):=by
 refine⟨ys.map fun y=>.agg #[.int .i64 y.1.id,.int .i64 y.1.kind,.int .i64 y.1.addr,.int .i64 y.1.many,.bool y.1.wrap,y.2.1,y.2.2],?_,by simp,fun k hk d=>?_⟩
 ·rw[List.map_map];exact ha.to hP
 ·simp only[List.length_map]at hk;have e:(ys.map fun y:RqV=>Value.agg #[.int .i64 y.1.id,.int .i64 y.1.kind,.int .i64 y.1.addr,.int .i64 y.1.many,.bool y.1.wrap,y.2.1,y.2.2]).getD k undef=.agg #[.int .i64 ys[k].1.id,.int .i64 ys[k].1.kind,.int .i64 ys[k].1.addr,.int .i64 ys[k].1.many,.bool ys[k].1.wrap,ys[k].2.1,ys[k].2.2]:=by simp[List.getD,hk]
  have e2:(ys.map (·.1)).getD k d=ys[k].1:=by simp[List.getD,hk]
  rw[e,e2];exact(hy _ (List.getElem_mem hk)).val hP
theorem zB6 {α : Type} {ops : Array Oper} {rest : List Oper} {o : Oper} {a : Act} {Q : Exit → Act → World → Prop} {T e sz by_ : Nat} (E : Elem T e sz by_) (f : α → List Value) (hf : ∀ x, (f x).length = sz) (y : α) (h1 : ∀ u ∈ f y, u.oneCell' = true)
  (w:World) (hgd:o.guard=none) (s x:Operand) (ho:o.op=.call { callee:=.builtin .append,args:=#[s,x],argTypes:=#[T,T] })
  (base:Nat) (v:Value) (xs:List α) (hs:a.eval s=v) (hown:Owns w base e sz f v xs) (cs:Array Value) (hcs:cs.toList=f y) (hx:a.eval x=.slice (some ⟨w.heap.size,0,none⟩) 1 1)
  (hlen:(xs.length+1) * by_≤140737488355328) (hlen2:xs.length+1≤9223372036854775807) (hbase:base≤w.heap.size)
  (h:∀v' w', Owns w' base e sz f v' (xs++[y])→w.heap.size≤w'.heap.size→(∀b,b<w.heap.size→v.ownBlock≠some b→w'.heap[b]? = w.heap[b]?)→(v'.ownBlock=v.ownBlock∨∃k,w.heap.size≤k∧v'.ownBlock=some k)→Below base w w' → wpList Tryz.prog ops Q rest (a.put o.dst v') w') :
  wpList Tryz.prog ops Q (o::rest) a (w.alloc (.cells cs e)):=by
 obtain⟨ht,i,z,hi,hz,hsize,hby,hzs,hsz⟩:=E;have hown':OwnR (w.alloc (.cells cs e)) base e sz v xs.length (xs.flatMap f):=OwnR.alloc hown _;refine zD4 hgd s x T ho base e i z sz by_ ht hi hz hsize hby hzs v xs.length (xs.flatMap f) hs hown' ⟨w.heap.size,0,none⟩ 1 1 (f y) hx (by rw[hf];omega) ?_ h1 (by unfold maxLen;omega) hlen (by simp;omega) ?_
 ·intro j u hj;rw[Addr.add_lit,Nat.zero_add,World.cell?_alloc_at _ _ _ _ rfl,←hj,←hcs];simp
 ·intro v' w' ho' hg _ hb;have hsz:=hg.size;simp only[World.size_alloc]at hsz;refine h v' w' (by unfold Owns;simpa using ho') (by omega) (fun b hb hne=>?_) ?_ (((Below.refl _ _).alloc hbase _).grown hg (by simp;omega) (fun k hk=>(OwnR.lt hown k hk).1))
  ·rw[hg.block b (by simp;omega) (by intro e;exact hne e.symm)];exact((Below.refl w.heap.size w).alloc (Nat.le_refl _) _).block b hb
  ·rcases hb with hb|hb
   ·exact .inl hb
   ·exact .inr ⟨_,by simp,hb⟩
def ety (κ:Nat):TypeId:=if κ<2 then 3 else if κ=2 then 48 else if κ=3 then 94 else if κ=4 then 65 else if κ<8 then 3 else if κ<15 then 101 else if κ<19 then 65 else 173
def esz (κ:Nat):Nat:=if κ<2 then 1 else if κ=2 then 4 else if κ=3 then 3 else if κ=4 then 5 else if κ<8 then 1 else if κ<15 then 3 else if κ<19 then 5 else 3
structure Raw (w:World) (base:Nat) (V:Nat→Value) (N:Nat→Nat) (C:Nat→List Value):Prop where
 own:∀κ,κ<20→OwnR w base (ety κ) (esz κ) (V κ) (N κ) (C κ)
 ap:∀κ μ,κ<20→μ<20→κ≠μ→Apart (V κ) (V μ)
def Free (V:Nat→Value) (b:Nat):Prop:=∀κ,κ<20→(V κ).ownBlock≠some b
theorem Raw.lt {w:World} {base:Nat} {V:Nat→Value} {N:Nat→Nat} {C:Nat→List Value} (h:Raw w base V N C) {κ k:Nat} (hκ:κ<20) (hk:(V κ).ownBlock=some k):base≤k∧k<w.heap.size:=OwnR.lt (h.own κ hκ) k hk
theorem Raw.kept {w w':World} {base:Nat} {V:Nat→Value} {N:Nat→Nat} {C:Nat→List Value} (h:Raw w base V N C) (hk:∀b,b<w.heap.size→¬Free V b→w'.heap[b]? = w.heap[b]?):Raw w' base V N C :=
 ⟨fun κ hκ=>(h.own κ hκ).kept fun k hk2=>hk k (h.lt hκ hk2).2 fun hf=>hf κ hκ hk2,h.ap⟩
theorem Raw.below {w w':World} {base:Nat} {V:Nat→Value} {N:Nat→Nat} {C:Nat→List Value} (h:Raw w base V N C) (hb:Below w.heap.size w w'):Raw w' base V N C:=h.kept fun b hlt _=>hb.block b hlt
theorem Raw.chg {w w' : World} {base : Nat} {V : Nat → Value} {N : Nat → Nat} {C : Nat → List Value} (h : Raw w base V N C) {κ n : Nat} {v : Value} {c : List Value} (hκ : κ < 20) (hk : ∀ b, b < w.heap.size → (V κ).ownBlock ≠ some b → w'.heap[b]? = w.heap[b]?)
  (ho:OwnR w' base (ety κ) (esz κ) v n c) (hv:∀k,v.ownBlock=some k→(V κ).ownBlock=some k∨w.heap.size≤k):Raw w' base (upd V κ v) (upd N κ n) (upd C κ c):=by
 refine⟨fun μ hμ=>?_,fun μ ν hμ hν hne=>?_⟩
 ·by_cases e:μ=κ
  ·subst e;simp only[zA1];exact ho
  ·simp only[zA0 _ _ e];exact(h.own μ hμ).kept fun k hk2=>hk k (h.lt hμ hk2).2 (fun hk3=>h.ap μ κ hμ hκ e k hk2 hk3)
 ·have key:∀{ρ:Nat},ρ<20→ρ≠κ→Apart (V ρ) v:=fun {ρ} hρ e k hk1 hk2=>by
   rcases hv k hk2 with h1|h1
   ·exact h.ap ρ κ hρ hκ e k hk1 h1
   ·have:=(h.lt hρ hk1).2;omega
  by_cases e1:μ=κ
  ·subst e1;simp only[zA1,zA0 _ _ (Ne.symm hne)];exact(key hν (Ne.symm hne)).symm
  ·by_cases e2:ν=κ
   ·subst e2;simp only[zA1,zA0 _ _ e1];exact key hμ e1
   ·simp only[zA0 _ _ e1,zA0 _ _ e2];exact h.ap μ ν hμ hν hne
theorem Free.chg {V:Nat→Value} {b κ:Nat} {v:Value} {w:World} (h:Free V b) (hb:b<w.heap.size) (hv:∀k,v.ownBlock=some k→(V κ).ownBlock=some k∨w.heap.size≤k) (hκ:κ<20):Free (upd V κ v) b:=by
 intro μ hμ e;by_cases e1:μ=κ
 ·subst e1;rw[zA1]at e;rcases hv b e with h1|h1
  ·exact h μ hμ h1
  ·omega
 ·rw[zA0 _ _ e1]at e;exact h μ hμ e
theorem OwnR.get {w:World} {base e sz g off n cap:Nat} {xs:List Value} (h:OwnR w base e sz (.slice (some ⟨g,off,none⟩) n cap) n xs) (j:Nat) (hj:j<n * sz):w.cell? ⟨g,off+j,none⟩=xs[j]?:=by
 obtain⟨hl,h2⟩:=h;rcases h2 with⟨h2,_⟩|⟨g', off', cap', cur,hv,hg,hh,hle,hmax,hsz,hc⟩
 ·cases h2
 ·simp only[Value.slice.injEq,Option.some.injEq,Addr.mk.injEq,and_true]at hv;obtain⟨⟨rfl,rfl⟩,_,rfl⟩:=hv;simp only[World.cell?,hh];rw[hc j hj];have:j<xs.length:=by rw[hl];exact hj
  simp[this]
theorem OwnR.unfrozen {w:World} {base e sz g off n cap:Nat} {xs:List Value} (h:OwnR w base e sz (.slice (some ⟨g,off,none⟩) n cap) n xs) (o:Nat):w.frozen? ⟨g,o,none⟩=false:=by
 obtain⟨hl,h2⟩:=h;rcases h2 with⟨h2,_⟩|⟨g', off', cap', cur,hv,hg,hh,_⟩
 ·cases h2
 ·simp only[Value.slice.injEq,Option.some.injEq,Addr.mk.injEq,and_true]at hv;obtain⟨⟨rfl,rfl⟩,_,rfl⟩:=hv;simp[World.frozen?,hh]
theorem OwnR.put {w:World} {base e sz g off n cap:Nat} {xs:List Value} (h:OwnR w base e sz (.slice (some ⟨g,off,none⟩) n cap) n xs) (j:Nat) (hj:j<n * sz) (u:Value):OwnR (w.setCell ⟨g,off+j,none⟩ u) base e sz (.slice (some ⟨g,off,none⟩) n cap) n (xs.set j u):=by
 obtain⟨hl,h2⟩:=h;rcases h2 with⟨h2,_⟩|⟨g', off', cap', cur,hv,hg,hh,hle,hmax,hsz,hc⟩
 ·cases h2
 ·simp only[Value.slice.injEq,Option.some.injEq,Addr.mk.injEq,and_true]at hv;obtain⟨⟨rfl,rfl⟩,_,rfl⟩:=hv;refine⟨by simpa using hl,.inr ⟨g,off,cap,cur.set! (off+j) u,rfl,hg,?_,hle,hmax,by simpa using hsz,fun i hi=>?_⟩⟩
  ·simp[World.setCell,Array.getElem?_modify,hh]
  ·have hjl:j<xs.length:=by rw[hl];exact hj
   have hjc:off+j<cur.size:=by
    have:n * sz≤cap * sz:=Nat.mul_le_mul_right _ hle;omega
   by_cases e:i=j
   ·subst e;simp[Array.set!_eq_setIfInBounds,Array.getElem?_setIfInBounds,hjc,hjl]
   ·rw[List.getElem?_set_ne (Ne.symm e),←hc i hi];simp only[Array.set!_eq_setIfInBounds,Array.getElem?_setIfInBounds];rw[if_neg (by omega)]
theorem Raw.set {w:World} {base:Nat} {V:Nat→Value} {N:Nat→Nat} {C:Nat→List Value} (h:Raw w base V N C) {κ g off cap j:Nat} (hκ:κ<20) (hV:V κ=.slice (some ⟨g,off,none⟩) (N κ) cap) (hj:j<N κ * esz κ) (u:Value):Raw (w.setCell ⟨g,off+j,none⟩ u) base V N (upd C κ ((C κ).set j u)):=by
 have ho:=h.own κ hκ;rw[hV]at ho
 have := h.chg (w' := w.setCell ⟨g, off + j, none⟩ u) (κ := κ) (n := N κ) (v := V κ) (c := (C κ).set j u) hκ (fun b _ hb => by
   rw[Below.heap_setCell _ _ _ _ (by show b≠g;intro e;subst e;exact hb (by rw[hV];rfl))]) (by rw[hV];exact ho.put j hj u) (fun k hk=>.inl hk)
 have e1:upd V κ (V κ)=V:=by funext i;by_cases e:i=κ <;> simp[upd,e]
 have e2:upd N κ (N κ)=N:=by funext i;by_cases e:i=κ <;> simp[upd,e]
 rw[e1,e2]at this;exact this
theorem OwnR.addr {w:World} {base e sz n:Nat} {v:Value} {xs:List Value} (h:OwnR w base e sz v n xs) (hn:n≠0):∃g off cap,v=.slice (some ⟨g,off,none⟩) n cap∧n≤cap∧cap≤9223372036854775807∧base≤g∧g<w.heap.size:=by
 have hlt:=h.lt;obtain⟨hl,h2⟩:=h;rcases h2 with⟨_,h2⟩|⟨g,off,cap,cur,rfl,hg,hh,hle,hmax,_⟩
 ·exact absurd h2 hn
 ·exact⟨g,off,cap,rfl,hle,by unfold maxLen at hmax;omega,hg,(hlt g rfl).2⟩
theorem OwnR.form {w:World} {base e sz n:Nat} {v:Value} {xs:List Value} (h:OwnR w base e sz v n xs):∃a cap,v=.slice a n cap∧n≤cap∧cap≤9223372036854775807:=by
 obtain⟨hl,h2⟩:=h;rcases h2 with⟨rfl,rfl⟩|⟨g,off,cap,cur,rfl,hg,hh,hle,hmax,_⟩
 ·exact⟨none,0,rfl,by omega,by omega⟩
 ·exact⟨_,cap,rfl,hle,by unfold maxLen at hmax;omega⟩
theorem OwnR.tail1 {w : World} {base e sz g off n cap : Nat} {xs : List Value} (h : OwnR w base e sz (.slice (some ⟨g, off, none⟩) n cap) n xs) (hn : n ≠ 0) :
  OwnR w base e sz (.slice (if cap=1 then some ⟨g,off,none⟩ else some ⟨g,off+sz,none⟩) (n - 1) (cap - 1)) (n - 1) (xs.drop sz):=by
 obtain⟨hl,h2⟩:=h;rcases h2 with⟨h2,_⟩|⟨g', off', cap', cur,hv,hg,hh,hle,hmax,hsz,hc⟩
 ·cases h2
 ·simp only[Value.slice.injEq,Option.some.injEq,Addr.mk.injEq,and_true]at hv;obtain⟨⟨rfl,rfl⟩,_,rfl⟩:=hv;have hm:(n - 1) * sz+sz=n * sz:=by rw[←Nat.succ_mul];congr 1;omega
  have hm2:(cap - 1) * sz+sz=cap * sz:=by rw[←Nat.succ_mul];congr 1;omega
  refine⟨by rw[List.length_drop,hl];omega,.inr ?_⟩;by_cases e1:cap=1
  ·rw[if_pos e1]
   exact ⟨g, off, cap - 1, cur, rfl, hg, hh, by omega, by omega, by omega, fun j hj => by
    have:n - 1=0:=by omega
    rw[this]at hj;omega⟩
  ·rw[if_neg e1];refine⟨g,off+sz,cap - 1,cur,rfl,hg,hh,by omega,by omega,by omega,fun j hj=>?_⟩;rw[show off+sz+j=off+(sz+j) by omega,hc (sz+j) (by omega),List.getElem?_drop]
def rowN (n:Nat):List Value:=[.int .i64 n]
def jbRow (j:Jb):List Value:=[.int .i64 j.who,.int .i64 j.n,.int .i64 j.left]
abbrev TJV:=TJ×Value
def tjRow (x:TJV):List Value:=[.int .i64 x.1.who,.int .i64 x.1.n,.int .i64 x.1.rsp.id,.int .i64 x.1.rsp.code,x.2]
def evRow (e:Ev):List Value:=[.int .i64 e.kind,.int .i64 e.who,.int .i64 e.n]
def ptRow (V:Nat→Value) (p:Pt) (i:Nat):List Value:=[.int .i64 p.next,V (5+i),V (8+i),.int .i64 p.last]
def svRow (V:Nat→Value) (v:Sv) (s:Nat):List Value:=[V (11+s),V (15+s),.int .i64 v.last]
structure Cont (st:Cy) (ev:List Ev) (V:Nat→Value) (N:Nat→Nat) (C:Nat→List Value) (D:Nat→List TJV):Prop where
 n0:N 0=st.ws.length
 c0:C 0=st.ws.flatMap rowI
 n1:N 1=st.hs.length
 c1:C 1=st.hs.flatMap rowI
 n2:N 2=3
 c2:C 2=ptRow V (st.ports 0) 0++ptRow V (st.ports 1) 1++ptRow V (st.ports 2) 2
 n3:N 3=4
 c3:C 3=svRow V (st.slaves 0) 0++svRow V (st.slaves 1) 1++svRow V (st.slaves 2) 2++svRow V (st.slaves 3) 3
 n4:N 4=st.told.length
 c4:C 4=(D 4).flatMap tjRow
 t4:(D 4).map (·.1)=st.told
 nq:∀i,i<3→N (5+i)=(st.ports i).queue.length
 cq:∀i,i<3→C (5+i)=(st.ports i).queue.flatMap rowN
 no:∀i,i<3→N (8+i)=(st.ports i).out.length
 co:∀i,i<3→C (8+i)=(st.ports i).out.flatMap jbRow
 np:∀s,s<4→N (11+s)=(st.slaves s).pipe.length
 cp:∀s,s<4→C (11+s)=(st.slaves s).pipe.flatMap jbRow
 nd:∀s,s<4→N (15+s)=(st.slaves s).done.length
 cd:∀s,s<4→C (15+s)=(D (15+s)).flatMap tjRow
 td:∀s,s<4→(D (15+s)).map (·.1)=(st.slaves s).done
 ne:N 19=ev.length
 ce:C 19=ev.flatMap evRow
def DFree (V:Nat→Value) (S Hb:Nat) (w:World) (b:Nat):Prop:=b<w.heap.size∧Free V b∧b≠S∧b≠Hb
def Clr (L:Nat→Value) (v:Value):Prop:=∀i,4≤i→∀b,(L i).ownBlock=some b→v.ownBlock≠some b
def DatP (L:Nat→Value) (w:World) (P:Nat→Prop) (x:TJV):Prop:=IntsD w P x.2 x.1.rsp.data∧(x.1.rsp.data≠[]→Clr L x.2)
theorem DatP.kept {L:Nat→Value} {w w':World} {P:Nat→Prop} {x:TJV} (h:DatP L w P x) (hk:Keeps P w w'):DatP L w' P x:=⟨h.1.kept hk,h.2⟩
theorem DatP.weak {L:Nat→Value} {w:World} {P Q:Nat→Prop} {x:TJV} (h:DatP L w P x) (hs:∀b,P b→Q b):DatP L w Q x:=⟨h.1.weak hs,h.2⟩
theorem DatP.put {L:Nat→Value} {w:World} {P:Nat→Prop} {x:TJV} (h:DatP L w P x) {s:Nat} (hs:s<4) (u:Value):DatP (upd L s u) w P x:=⟨h.1,fun hn i hi b hb=>h.2 hn i hi b (by rwa [zA0 _ _ (by omega)]at hb)⟩
structure CyM (w:World) (base S Hb:Nat) (L:Nat→Value) (st:Cy) (ev:List Ev) (V:Nat→Value) (N:Nat→Nat) (C:Nat→List Value) (D:Nat→List TJV):Prop where
 raw:Raw w base V N C
 con:Cont st ev V N C D
 bs:w.heap[S]? = some (.cells #[V 0,V 1,V 2,V 3,V 4] 39 (0,0))
 bh:w.heap[Hb]? = some (.cells #[V 19,L 0,L 1,L 2,L 3] 98 (0,0))
 fs:Free V S
 fh:Free V Hb
 ne:S≠Hb
 s0:base≤S
 h0:base≤Hb
 lx:∀i,4≤i→∀b,(L i).ownBlock=some b→b<w.heap.size
 dat:∀κ,κ<20→∀x∈D κ,DatP L w (DFree V S Hb w) x
theorem zA2 {w:World} {b:Nat} {o:Obj} (h:w.heap[b]? = some o):b<w.heap.size:=(Array.getElem?_eq_some_iff.1 h).1
theorem CyM.below {w w':World} {base S Hb:Nat} {L:Nat→Value} {st:Cy} {ev:List Ev} {V:Nat→Value} {N:Nat→Nat} {C:Nat→List Value} {D:Nat→List TJV} (h:CyM w base S Hb L st ev V N C D) (hb:Below w.heap.size w w'):CyM w' base S Hb L st ev V N C D :=
 ⟨h.raw.below hb,h.con,(hb.block S (zA2 h.bs)).trans h.bs,(hb.block Hb (zA2 h.bh)).trans h.bh,h.fs,h.fh,h.ne,h.s0,h.h0,fun i hi b hb2=>Nat.lt_of_lt_of_le (h.lx i hi b hb2) hb.size,fun κ hκ x hx=>((h.dat κ hκ x hx).kept fun b hb2=>hb.block b hb2.1).weak fun b hb2=>⟨Nat.lt_of_lt_of_le hb2.1 hb.size,hb2.2⟩⟩
theorem CyM.put {w w1 : World} {base S Hb : Nat} {L : Nat → Value} {st st' : Cy} {ev : List Ev} {V : Nat → Value} {N : Nat → Nat} {C : Nat → List Value} {D D' : Nat → List TJV} (h : CyM w base S Hb L st ev V N C D)
  {κ μ g off cap j n:Nat} {v:Value} {c:List Value} (hκ:5≤κ∧κ<19) (hμ:μ=2∨μ=3) (hV:V μ=.slice (some ⟨g,off,none⟩) (N μ) cap) (hj:j<N μ * esz μ)
  (hk:∀b,b<w.heap.size→(V κ).ownBlock≠some b→w1.heap[b]? = w.heap[b]?) (hsz:w.heap.size≤w1.heap.size) (ho:OwnR w1 base (ety κ) (esz κ) v n c) (hv:∀k,v.ownBlock=some k→(V κ).ownBlock=some k∨w.heap.size≤k)
  (hD:∀i,i≠κ→D' i=D i) (hd:∀x∈D' κ,DatP L w1 (DFree (upd V κ v) S Hb w1) x)
  (hc:Cont st' ev (upd V κ v) (upd N κ n) (upd (upd C κ c) μ ((C μ).set j v)) D') :
  CyM (w1.setCell ⟨g,off+j,none⟩ v) base S Hb L st' ev (upd V κ v) (upd N κ n) (upd (upd C κ c) μ ((C μ).set j v)) D':=by
 have hκ2:κ<20:=by omega
 have hμ2:μ<20:=by omega
 have hne:μ≠κ:=by omega
 have hgo:(V μ).ownBlock=some g:=by rw[hV];rfl
 have r1:=h.raw.chg hκ2 hk ho hv;have r2:=r1.set (κ:=μ) (g:=g) (off:=off) (cap:=cap) (j:=j) hμ2 (by rw[zA0 _ _ hne,zA0 _ _ hne];exact hV) (by rw[zA0 _ _ hne];exact hj) v;rw[zA0 C _ hne]at r2;have hgS:S≠g:=fun e=>h.fs μ hμ2 (by rw[hgo,e])
 have hgH:Hb≠g:=fun e=>h.fh μ hμ2 (by rw[hgo,e])
 have hset:∀b,b≠g→(w1.setCell ⟨g,off+j,none⟩ v).heap[b]? = w1.heap[b]?:=fun b hb=>Below.heap_setCell _ _ _ _ hb
 have hz:(w1.setCell ⟨g,off+j,none⟩ v).heap.size=w1.heap.size:=by simp
 have hS:=zA2 h.bs;have hH:=zA2 h.bh;have eV:∀i,i≠κ→upd V κ v i=V i:=fun i hi=>zA0 _ _ hi
 refine⟨r2,hc,?_,?_,h.fs.chg (w:=w) hS hv hκ2,h.fh.chg (w:=w) hH hv hκ2,h.ne,h.s0,h.h0,fun i hi b hb=>by rw[hz];exact Nat.lt_of_lt_of_le (h.lx i hi b hb) hsz,fun ν hν x hx=>?_⟩
 ·rw[hset S hgS,hk S hS (h.fs κ hκ2),h.bs,eV 0 (by omega),eV 1 (by omega),eV 2 (by omega),eV 3 (by omega),eV 4 (by omega)]
 ·rw[hset Hb hgH,hk Hb hH (h.fh κ hκ2),h.bh,eV 19 (by omega)]
 ·have hgn:∀b,DFree (upd V κ v) S Hb w1 b→b≠g:=fun b hb e=>hb.2.1 μ hμ2 (by rw[eV μ hne,hgo,e])
  have step:∀{x:TJV},DatP L w1 (DFree (upd V κ v) S Hb w1) x→DatP L (w1.setCell ⟨g,off+j,none⟩ v) (DFree (upd V κ v) S Hb (w1.setCell ⟨g,off+j,none⟩ v)) x:=fun hi=>
   (hi.kept fun b hb=>hset b (hgn b hb)).weak fun b hb=>⟨by rw[hz];exact hb.1,hb.2⟩
  by_cases e:ν=κ
  ·subst e;exact step (hd x hx)
  ·rw[hD ν e]at hx;exact step (((h.dat ν hν x hx).kept fun b hb=>hk b hb.1 (hb.2.1 κ hκ2)).weak fun b hb=>⟨Nat.lt_of_lt_of_le hb.1 hsz,hb.2.1.chg (w:=w) hb.1 hv hκ2,hb.2.2⟩)
theorem CyM.old {w w1 : World} {base S Hb : Nat} {L : Nat → Value} {st : Cy} {ev : List Ev} {V : Nat → Value} {N : Nat → Nat} {C : Nat → List Value} {D : Nat → List TJV} (h : CyM w base S Hb L st ev V N C D) {κ ν : Nat} {v : Value} {x : TJV} (hκ : κ < 20) (hν : ν < 20)
  (hk:∀b,b<w.heap.size→(V κ).ownBlock≠some b→w1.heap[b]? = w.heap[b]?) (hsz:w.heap.size≤w1.heap.size) (hv:∀k,v.ownBlock=some k→(V κ).ownBlock=some k∨w.heap.size≤k) (hx:x∈D ν):DatP L w1 (DFree (upd V κ v) S Hb w1) x :=
 ((h.dat ν hν x hx).kept fun b hb=>hk b hb.1 (hb.2.1 κ hκ)).weak fun b hb=>⟨Nat.lt_of_lt_of_le hb.1 hsz,hb.2.1.chg (w:=w) hb.1 hv hκ,hb.2.2⟩
theorem CyM.cell {w : World} {base S Hb : Nat} {L : Nat → Value} {st st' : Cy} {ev : List Ev} {V : Nat → Value} {N : Nat → Nat} {C : Nat → List Value} {D : Nat → List TJV} (h : CyM w base S Hb L st ev V N C D)
  {κ g off cap j:Nat} {u:Value} (hκ:κ<20) (hV:V κ=.slice (some ⟨g,off,none⟩) (N κ) cap) (hj:j<N κ * esz κ) (hc:Cont st' ev V N (upd C κ ((C κ).set j u)) D) :
  CyM (w.setCell ⟨g,off+j,none⟩ u) base S Hb L st' ev V N (upd C κ ((C κ).set j u)) D:=by
 have hgo:(V κ).ownBlock=some g:=by rw[hV];rfl
 have hset:∀b,b≠g→(w.setCell ⟨g,off+j,none⟩ u).heap[b]? = w.heap[b]?:=fun b hb=>Below.heap_setCell _ _ _ _ hb
 have hgS:S≠g:=fun e=>h.fs κ hκ (by rw[hgo,e])
 have hgH:Hb≠g:=fun e=>h.fh κ hκ (by rw[hgo,e])
 refine⟨h.raw.set hκ hV hj u,hc,(hset S hgS).trans h.bs,(hset Hb hgH).trans h.bh,h.fs,h.fh,h.ne,h.s0,h.h0,fun i hi b hb=>by simpa using h.lx i hi b hb,fun ν hν x hx=>?_⟩;exact((h.dat ν hν x hx).kept fun b hb=>hset b (fun e=>hb.2.1 κ hκ (by rw[hgo,e]))).weak fun b hb=>⟨by simpa using hb.1,hb.2⟩
theorem CyM.toldPut {w w1 : World} {base S Hb : Nat} {L : Nat → Value} {st st' : Cy} {ev : List Ev} {V : Nat → Value} {N : Nat → Nat} {C : Nat → List Value} {D D' : Nat → List TJV} (h : CyM w base S Hb L st ev V N C D)
  {n:Nat} {v:Value} {c:List Value} (hk:∀b,b<w.heap.size→(V 4).ownBlock≠some b→w1.heap[b]? = w.heap[b]?) (hsz:w.heap.size≤w1.heap.size) (ho:OwnR w1 base (ety 4) (esz 4) v n c) (hv:∀k,v.ownBlock=some k→(V 4).ownBlock=some k∨w.heap.size≤k)
  (hD:∀i,i≠4→D' i=D i) (hd:∀x∈D' 4,DatP L w1 (DFree (upd V 4 v) S Hb w1) x)
  (hc:Cont st' ev (upd V 4 v) (upd N 4 n) (upd C 4 c) D') :
  CyM (w1.setCell ⟨S,4,none⟩ v) base S Hb L st' ev (upd V 4 v) (upd N 4 n) (upd C 4 c) D':=by
 have r1:=h.raw.chg (κ:=4) (by omega) hk ho hv;have hset:∀b,b≠S→(w1.setCell ⟨S,4,none⟩ v).heap[b]? = w1.heap[b]?:=fun b hb=>Below.heap_setCell _ _ _ _ hb
 have hS:=zA2 h.bs;have hH:=zA2 h.bh;have f1:=h.fs.chg (w:=w) hS hv (κ:=4) (by omega);have f2:=h.fh.chg (w:=w) hH hv (κ:=4) (by omega);have eV:∀i,i≠4→upd V 4 v i=V i:=fun i hi=>zA0 _ _ hi
 refine⟨r1.kept fun b _ hb=>hset b (fun e=>hb (by rw[e];exact f1)),hc,?_,?_,f1,f2,h.ne,h.s0,h.h0,fun i hi b hb=>by simpa using Nat.lt_of_lt_of_le (h.lx i hi b hb) hsz,fun ν hν x hx=>?_⟩
 ·have hb1:=(hk S hS (h.fs 4 (by omega))).trans h.bs;rw[eV 0 (by omega),eV 1 (by omega),eV 2 (by omega),eV 3 (by omega),zA1];simp[World.setCell,Array.getElem?_modify,hb1]
 ·rw[hset Hb (Ne.symm h.ne),hk Hb hH (h.fh 4 (by omega)),h.bh,eV 19 (by omega)]
 ·have step:∀{x:TJV},DatP L w1 (DFree (upd V 4 v) S Hb w1) x→DatP L (w1.setCell ⟨S,4,none⟩ v) (DFree (upd V 4 v) S Hb (w1.setCell ⟨S,4,none⟩ v)) x:=fun hi=>
   (hi.kept fun b hb=>hset b hb.2.2.1).weak fun b hb=>⟨by simpa using hb.1,hb.2⟩
  by_cases e:ν=4
  ·subst e;exact step (hd x hx)
  ·rw[hD ν e]at hx;exact step (h.old (by omega) hν hk hsz hv hx)
theorem CyM.evPut {w w1 : World} {base S Hb : Nat} {L : Nat → Value} {st : Cy} {ev ev' : List Ev} {V : Nat → Value} {N : Nat → Nat} {C : Nat → List Value} {D : Nat → List TJV} (h : CyM w base S Hb L st ev V N C D)
  {n:Nat} {v:Value} {c:List Value} (hk:∀b,b<w.heap.size→(V 19).ownBlock≠some b→w1.heap[b]? = w.heap[b]?) (hsz:w.heap.size≤w1.heap.size) (ho:OwnR w1 base (ety 19) (esz 19) v n c) (hv:∀k,v.ownBlock=some k→(V 19).ownBlock=some k∨w.heap.size≤k)
  (hc:Cont st ev' (upd V 19 v) (upd N 19 n) (upd C 19 c) D) :
  CyM (w1.setCell ⟨Hb,0,none⟩ v) base S Hb L st ev' (upd V 19 v) (upd N 19 n) (upd C 19 c) D:=by
 have r1:=h.raw.chg (κ:=19) (by omega) hk ho hv;have hset:∀b,b≠Hb→(w1.setCell ⟨Hb,0,none⟩ v).heap[b]? = w1.heap[b]?:=fun b hb=>Below.heap_setCell _ _ _ _ hb
 have hS:=zA2 h.bs;have hH:=zA2 h.bh;have f1:=h.fs.chg (w:=w) hS hv (κ:=19) (by omega);have f2:=h.fh.chg (w:=w) hH hv (κ:=19) (by omega);have eV:∀i,i≠19→upd V 19 v i=V i:=fun i hi=>zA0 _ _ hi
 refine⟨r1.kept fun b _ hb=>hset b (fun e=>hb (by rw[e];exact f2)),hc,?_,?_,f1,f2,h.ne,h.s0,h.h0,fun i hi b hb=>by simpa using Nat.lt_of_lt_of_le (h.lx i hi b hb) hsz,fun ν hν x hx=>?_⟩
 ·rw[hset S h.ne,hk S hS (h.fs 19 (by omega)),h.bs,eV 0 (by omega),eV 1 (by omega),eV 2 (by omega),eV 3 (by omega),eV 4 (by omega)]
 ·have hb1:=(hk Hb hH (h.fh 19 (by omega))).trans h.bh;rw[zA1];simp[World.setCell,Array.getElem?_modify,hb1]
 ·exact((h.old (ν:=ν) (κ:=19) (by omega) hν hk hsz hv hx).kept fun b hb=>hset b hb.2.2.2).weak fun b hb=>⟨by simpa using hb.1,hb.2⟩
theorem CyM.letPut {w : World} {base S Hb : Nat} {L : Nat → Value} {st : Cy} {ev : List Ev} {V : Nat → Value} {N : Nat → Nat} {C : Nat → List Value} {D : Nat → List TJV} (h : CyM w base S Hb L st ev V N C D) {s : Nat} (hs : s < 4) (u : Value) :
  CyM (w.setCell ⟨Hb,1+s,none⟩ u) base S Hb (upd L s u) st ev V N C D:=by
 have hset:∀b,b≠Hb→(w.setCell ⟨Hb,1+s,none⟩ u).heap[b]? = w.heap[b]?:=fun b hb=>Below.heap_setCell _ _ _ _ hb
 refine⟨h.raw.kept fun b _ hb=>hset b (fun e=>hb (by rw[e];exact h.fh)),h.con,(hset S h.ne).trans h.bs,?_,h.fs,h.fh,h.ne,h.s0,h.h0,fun i hi b hb=>by rw[zA0 _ _ (by omega)]at hb;simpa using h.lx i hi b hb,fun ν hν x hx=>?_⟩
 ·have hb1:=h.bh;rcases(show s=0∨s=1∨s=2∨s=3 by omega)with rfl|rfl|rfl|rfl <;> simp[World.setCell,Array.getElem?_modify,hb1,upd]
 ·exact(((h.dat ν hν x hx).kept fun b hb=>hset b hb.2.2.2).weak fun b hb=>⟨by simpa using hb.1,hb.2⟩).put hs u
theorem CyM.atm {w w1 : World} {base S Hb : Nat} {L : Nat → Value} {st : Cy} {ev : List Ev} {V : Nat → Value} {N : Nat → Nat} {C : Nat → List Value} {D : Nat → List TJV} (h : CyM w base S Hb L st ev V N C D) {ws hs : List Int}
  (hk:∀b,b<w.heap.size→(V 0).ownBlock≠some b→(V 1).ownBlock≠some b→w1.heap[b]? = w.heap[b]?) (hsz:w.heap.size≤w1.heap.size) (h0:Owns w1 base 3 1 rowI (V 0) ws) (h1:Owns w1 base 3 1 rowI (V 1) hs) :
  CyM w1 base S Hb L { st with ws:=ws,hs:=hs } ev V (upd (upd N 0 ws.length) 1 hs.length) (upd (upd C 0 (ws.flatMap rowI)) 1 (hs.flatMap rowI)) D:=by
 have hS:=zA2 h.bs;have hH:=zA2 h.bh;refine⟨⟨fun κ hκ=>?_,h.raw.ap⟩,?_,(hk S hS (h.fs 0 (by omega)) (h.fs 1 (by omega))).trans h.bs,(hk Hb hH (h.fh 0 (by omega)) (h.fh 1 (by omega))).trans h.bh,h.fs,h.fh,h.ne,h.s0,h.h0,fun i hi b hb=>Nat.lt_of_lt_of_le (h.lx i hi b hb) hsz,fun ν hν x hx=>?_⟩
 ·by_cases e1:κ=1
  ·subst e1;simp only[zA1];exact h1
  ·by_cases e0:κ=0
   ·subst e0;simp only[zA1,zA0 _ _ (show(0:Nat)≠1 by omega)];exact h0
   ·simp only[zA0 _ _ e1,zA0 _ _ e0];exact(h.raw.own κ hκ).kept fun k hk2=>hk k (h.raw.lt hκ hk2).2 (fun hk3=>h.raw.ap κ 0 hκ (by omega) e0 k hk2 hk3) (fun hk3=>h.raw.ap κ 1 hκ (by omega) e1 k hk2 hk3)
 ·have c:=h.con;have u:∀{α:Type} {f:Nat→α} {a b:α} {i:Nat},2≤i→upd (upd f 0 a) 1 b i=f i:=fun hi=>by rw[zA0 _ _ (by omega),zA0 _ _ (by omega)]
  refine⟨by simp[upd],by simp[upd],by simp[upd],by simp[upd],by rw[u (by omega)];exact c.n2,by rw[u (by omega)];exact c.c2,by rw[u (by omega)];exact c.n3,by rw[u (by omega)];exact c.c3,by rw[u (by omega)];exact c.n4,by rw[u (by omega)];exact c.c4,c.t4,?_,?_,?_,?_,?_,?_,?_,?_,c.td,by rw[u (by omega)];exact c.ne,by rw[u (by omega)];exact c.ce⟩
  ·intro i hi;rw[u (by omega)];exact c.nq i hi
  ·intro i hi;rw[u (by omega)];exact c.cq i hi
  ·intro i hi;rw[u (by omega)];exact c.no i hi
  ·intro i hi;rw[u (by omega)];exact c.co i hi
  ·intro i hi;rw[u (by omega)];exact c.np i hi
  ·intro i hi;rw[u (by omega)];exact c.cp i hi
  ·intro i hi;rw[u (by omega)];exact c.nd i hi
  ·intro i hi;rw[u (by omega)];exact c.cd i hi
 ·exact((h.dat ν hν x hx).kept fun b hb=>hk b hb.1 (hb.2.1 0 (by omega)) (hb.2.1 1 (by omega))).weak fun b hb=>⟨Nat.lt_of_lt_of_le hb.1 hsz,hb.2⟩
theorem elem_TlmJob:Elem 37 65 5 56:=zE9 Tryz.underlying37 (z:=.agg #[.int .i64 0,.int .i64 0,.int .i64 0,.int .i64 0,.slice none 0 0]) (by kernel_rfl) rfl (by omega)
theorem sClone_TlmJob {α : Type} (f : α → List Value) (hf : ∀ x, (f x).length = 5) (h1 : ∀ x, ∀ u ∈ f x, u.oneCell' = true) (v : Value) (ys : List α) (B : Nat) (w : World) (ha : Arr w B 5 v (ys.map f)) (hlen : ys.length * 56 ≤ 140737488355328) :
  Calls Tryz.prog 169 #[v] w (CloneP f 65 5 ys w):=by
 have ha0:=hid ha;obtain⟨ao,cap,rfl,g1,g2,g0,g9,g3⟩:=ha;simp only[List.length_map]at g1 g2 g0 ⊢;clear g3;cases ao with
 |none=>
  obtain rfl:=g9 rfl;have hy:ys=[]:=by
   rcases ys with _|⟨y,ys⟩
   ·rfl
   ·simp at g1
  subst hy;have he:=fun w=>Lib.run_eql_slice_nil (P:=Tryz.prog) w 37 65 none 0 0 0 0 Tryz.underlying37
  go_enter Tryz.func169,Tryz.ntmps169
  go_wp2_with fail
  go_ret
  exact⟨_,rfl,Owns.zero,Below.refl _ _⟩
 |some ad=>
  have he:=fun w=>Lib.run_eql_slice_nil (P:=Tryz.prog) w 37 65 (some ad) ys.length cap 0 0 Tryz.underlying37
  clear g9
  go_enter Tryz.func169,Tryz.ntmps169
  go_wp2_with (at_builtin;go_must (refine zH2 elem_TlmJob f hf h1 _ rfl _ _ rfl w.heap.size _ [] (by rfl) (Owns.lit (Nat.le_refl _)) _ ys (min B w.heap.size) (by rfl) (by have:=(ha0.out).fit (by omega) (by intro r hr;obtain⟨y,_,rfl⟩:=List.mem_map.1 hr;exact hf y);simp only[List.length_map]at this;exact this.below ((Below.refl _ _).alloc (Nat.min_le_right _ _) _)) (by simpa using hlen) (by simp;omega) (by simp) ?_);intro v' w1 hown1 hb1 _)
  go_ret
  exact⟨v', rfl,by simpa using hown1,((Below.refl _ _).alloc (Nat.le_refl _) _).trans hb1⟩
theorem sClip_TlmJob (a:Option Addr) (n c:Nat) (w:World) (hc:n≤c) (hm:c≤9223372036854775807):Calls Tryz.prog 168 #[.slice a n c] w fun e w' => e=.returned (.slice a n n)∧w=w':=by
 go_enter Tryz.func168,Tryz.ntmps168
 go_wp2_with fail
 go_ret
 exact⟨rfl,rfl⟩
theorem clone_TlmJob {α : Type} (f : α → List Value) (hf : ∀ x, (f x).length = 5) (h1 : ∀ x, ∀ u ∈ f x, u.oneCell' = true) (v : Value) (ys : List α) (B : Nat) (w : World) (ha : Arr w B 5 v (ys.map f)) (hlen : ys.length * 56 ≤ 140737488355328) :
  Calls Tryz.prog 138 #[v] w (CloneP f 65 5 ys w):=by
 go_enter Tryz.func138,Tryz.ntmps138
 go_wp2_with fail
 refine(sClone_TlmJob f hf h1 v ys B w ha hlen).mono ?_;rintro e w1 ⟨u,rfl,hown,hb⟩;obtain⟨a,c,rfl,hc1,hc2⟩:=hown.shape
 go_wp2_with fail
 refine(sClip_TlmJob a ys.length c _ hc1 hc2).mono ?_;rintro e w2 ⟨rfl,rfl⟩
 go_wp2_with fail
 go_ret
 exact⟨_,rfl,hown.clip,hb⟩
theorem zF7 {P : Program} {w : World} {o : Oper} {a : Act} {K : Act → World → Prop} {Q : Exit → Act → World → Prop} (s x : Operand) (t : TypeId)
  (ho:o.op=.call { callee:=.builtin .append,args:=#[s,x],argTypes:=#[t,t] })
  (base:Nat) (e:TypeId) (i:TypeInfo) (z:Value) (size bytes:Nat) (ht:P.underlying t=some (.slice e)) (hi:P.info? e=some i) (hz:i.zero=some z)
  (hsize:i.size=size) (hby:i.bytes=bytes) (hzs:z.cells.size=size)
  (v:Value) (n:Nat) (xs:List Value) (hs:a.eval s=v) (hown:OwnR w base e size v n xs)
  (ad:Addr) (m c:Nat) (news:List Value) (hx:a.eval x=.slice (some ad) m c) (hl:news.length=m * size) (hnews:∀j u,news[j]? = some u→w.cell? (ad.add j)=some u) (h1:∀u∈news,u.oneCell' = true)
  (h63:n+m≤maxLen) (hbytes:(n+m) * bytes≤140737488355328) (hbase:base≤w.heap.size)
  (h:∀v' w', OwnR w' base e size v' (n+m) (xs++news)→w.grownBy w' v.ownBlock→(v' = .slice none 0 0→v=.slice none 0 0∧m=0)→(v'.ownBlock=v.ownBlock∨v'.ownBlock=some w.heap.size)→K (a.put o.dst v') w'):Oper.wp P o a w K Q:=by
 obtain⟨v', w', hr,h2,h3,h4,h5⟩:=run_append_OwnR (P:=P) w base t o.type e i z size bytes ht hi hz hsize hby hzs v n xs hown ad m c news hl hnews h1 h63 hbytes hbase;unfold Oper.wp execOp;simp only[ho,resolve,invoke,builtin,Sem.run_bind,Sem.run_pure,Result.andThen_ok,List.map_toArray,List.map_cons,List.map_nil,hs,hx,hr];exact h v' w' h2 h3 h4 h5
theorem Owns.allocd {α:Type} {w:World} {base e sz:Nat} {f:α→List Value} {v:Value} {xs:List α} (h:Owns w base e sz f v xs) (o:Obj):Owns (w.alloc o) base e sz f v xs:=OwnR.alloc h o
theorem Owns.drewd {α:Type} {w:World} {base e sz:Nat} {f:α→List Value} {v:Value} {xs:List α} (h:Owns w base e sz f v xs):Owns w.drew base e sz f v xs:=OwnR.kept h fun _ _=>rfl
theorem news_alloc {w:World} {cs:Array Value} {T:TypeId} (l:List Value) (hl:cs.toList=l):∀j u,l[j]? = some u→(w.alloc (.cells cs T)).cell? ⟨w.heap.size,j,none⟩=some u:=by
 intro j u hj;rw[World.cell?_alloc_at _ _ _ _ rfl,←hj,←hl];simp
theorem Touch.setNew {r g o:Nat} {w w':World} (h:Touch r w w') (hg:w.heap.size≤g) (v:Value):Touch r w (w'.setCell ⟨g,o,none⟩ v) :=
 ⟨h.os,h.tape,h.output,by simpa[World.setCell]using h.size,fun k hk hr=>by rw[Below.heap_setCell _ _ _ _ (show k≠g by omega)];exact h.block k hk hr⟩
theorem Touch.drewd {r:Nat} {a w:World} (h:Touch r a w):Touch r a w.drew:=h.trans ⟨rfl,rfl,rfl,Nat.le_refl _,fun _ _ _=>rfl⟩
theorem Touch.frozen {r:Nat} {w w':World} (h:Touch r w w') {p:Addr} (ha:p.block≠r) (hlt:p.block<w.heap.size):w'.frozen? p=w.frozen? p:=by
 simp only[World.frozen?,h.block _ hlt ha]
def m0 (a:Bool):List MR:=[⟨0,15,0,false⟩,⟨16,31,1,false⟩,⟨32,47,2,a⟩]
def m1 (s:Int) (b:Bool):List MR:=[⟨0,7,0,false⟩,⟨8,15,1,false⟩,⟨20,40,s,false⟩,⟨41,63,2,b⟩]
theorem m0_ok (a:Bool) (k:Nat):mapOk ((m0 a).take k)=true∧∀x∈(m0 a).take k,MR64 x:=by
 have h3:∀k,k≤3→mapOk ((m0 a).take k)=true:=by
  intro k hk;have:k=0∨k=1∨k=2∨k=3:=by omega
  cases a <;> rcases this with rfl|rfl|rfl|rfl <;> decide
 refine⟨?_,fun x hx=>?_⟩
 ·by_cases hk:k≤3
  ·exact h3 k hk
  ·rw[List.take_of_length_le (by simp[m0];omega)];have:=h3 3 (by omega)
   rwa [List.take_of_length_le (by simp[m0])]at this
 ·have hx:=List.mem_of_mem_take hx;simp only[m0,List.mem_cons,List.not_mem_nil,or_false]at hx;rcases hx with rfl|rfl|rfl <;> simp[MR64,I64]
theorem m1_ok (s:Int) (b:Bool) (h0:0≤s) (h1:s<3):mapOk (m1 s b)=true∧∀x∈m1 s b,MR64 x:=by
 refine⟨?_,fun x hx=>?_⟩
 ·have:s=0∨s=1∨s=2:=by omega
  cases b <;> rcases this with rfl|rfl|rfl <;> decide
 ·simp only[m1,List.mem_cons,List.not_mem_nil,or_false]at hx;rcases hx with rfl|rfl|rfl|rfl <;> simp[MR64,I64] <;> omega
theorem zE2 (x:MR):(rowM x).length=4:=rfl
theorem RdAt.drewd {w:World} {r B:Nat} {bs:List Nat} {p:Nat} (h:RdAt w r B bs p):RdAt w.drew r B bs p:=h.draws 1
theorem Elem.map:Elem 23 144 4 32:=zE9 Tryz.underlying23 (z:=.agg #[.int .i64 0,.int .i64 0,.int .i64 0,.bool false]) (by kernel_rfl) rfl (by omega)
theorem rowM_one (x:MR):∀u∈rowM x,u.oneCell' = true:=by
 intro u hu;simp only[rowM,List.mem_cons,List.not_mem_nil,or_false]at hu;rcases hu with rfl|rfl|rfl|rfl <;> rfl
def MBd (x:MR):Prop:=0≤x.fr∧x.fr≤63∧0≤x.to∧x.to≤63∧0≤x.sl∧x.sl≤2
theorem m0_bd (a:Bool):∀x∈m0 a,MBd x:=by
 intro x hx;simp only[m0,List.mem_cons,List.not_mem_nil,or_false]at hx;rcases hx with rfl|rfl|rfl <;> simp[MBd]
theorem m1_bd (s:Int) (b:Bool) (h0:0≤s) (h1:s<3):∀x∈m1 s b,MBd x:=by
 intro x hx;simp only[m1,List.mem_cons,List.not_mem_nil,or_false]at hx;rcases hx with rfl|rfl|rfl|rfl <;> simp[MBd] <;> omega
theorem MBd.r64 {x:MR} (h:MBd x):MR64 x:=by unfold MBd at h;unfold MR64 I64;omega
theorem set64 {ms:List MR} {k:Nat} {y:MR} (h:∀x∈ms,MBd x) (hy:MR64 y):∀x∈ms.set k y,MR64 x:=by
 intro x hx;rcases List.mem_or_eq_of_mem_set hx with h1|h1
 ·exact(h x h1).r64
 ·rw[h1];exact hy
theorem Owns.someR {α:Type} {w:World} {base e sz:Nat} {f:α→List Value} {v:Value} {xs:List α} (h:Owns w base e sz f v xs) (hn:xs.length≠0):∃g off c,v=.slice (some ⟨g,off,none⟩) xs.length c∧xs.length≤c∧c≤9223372036854775807∧base≤g∧g<w.heap.size:=by
 have hlt:=OwnR.lt h;obtain⟨hl,h2⟩:=h;rcases h2 with⟨_,h2⟩|⟨g,off,cap,cur,rfl,hg,hh,hle,hmax,hsz,hc⟩
 ·exact absurd h2 hn
 ·exact⟨g,off,cap,rfl,hle,by unfold maxLen at hmax;omega,hg,(hlt g rfl).2⟩
def MapP (r B:Nat) (bs:List Nat) (p:Nat) (n:Int) (w:World) (e:Ending) (w':World):Prop :=
 ∃v ms q,e=.returned v∧Owns w' w.heap.size 144 4 rowM v ms∧(∀x∈ms,MR64 x)∧ms.length≤7∧(9000≤n→mapOk ms=true)∧q≤p+9∧RdAt w' r B bs q∧Touch r w w'
def MapC (r B:Nat) (bs:List Nat) (p:Nat) (w:World) (v:Value) (wc:World):Prop :=
 ∃ms q,Owns wc w.heap.size 144 4 rowM v ms∧(∀x∈ms,MBd x)∧1≤ms.length∧ms.length≤4∧mapOk ms=true∧q≤p+4∧RdAt wc r B bs q∧Touch r w wc
theorem Touch.bel {r C:Nat} {w w1 w2:World} (h:Touch r w w1) (hb:Below C w1 w2) (hC:w.heap.size≤C):Touch r w w2 :=
 ⟨hb.os.trans h.os,hb.tape.trans h.tape,hb.output.trans h.output,Nat.le_trans h.size hb.size,fun k hk hr=>by rw[hb.block k (by omega)];exact h.block k hk hr⟩
theorem Touch.ofDrew {r:Nat} {w w':World} (h:Touch r w.drew w'):Touch r w w':=(Touch.refl r w).drewd.trans h
theorem RdAt.setNew {w:World} {r B C:Nat} {bs:List Nat} {p:Nat} (h:RdAt w r B bs p) (hr:r<C) {g:Nat} (hg:C≤g) (o:Nat) (v:Value):RdAt (w.setCell ⟨g,o,none⟩ v) r B bs p :=
 h.kept ((Below.refl C w).setCell (by exact hg) v) hr
theorem putFr {w : World} {base g off n c b : Nat} {ms : List MR} (h : Owns w base 144 4 rowM (.slice (some ⟨g, off, none⟩) n c) ms) (k : Nat) (hk : k < ms.length) (x : Int) (hb : b = off + k * 4) :
  Owns (w.setCell ⟨g,b,none⟩ (.int .i64 x)) base 144 4 rowM (.slice (some ⟨g,off,none⟩) n c) (ms.set k ⟨x,(ms.getD k default).to,(ms.getD k default).sl,(ms.getD k default).only⟩):=by
 subst hb;exact h.putRow zE2 k 0 default _ _ hk (by omega) rfl
theorem putTo {w : World} {base g off n c b : Nat} {ms : List MR} (h : Owns w base 144 4 rowM (.slice (some ⟨g, off, none⟩) n c) ms) (k : Nat) (hk : k < ms.length) (x : Int) (hb : b = off + k * 4 + 1) :
  Owns (w.setCell ⟨g,b,none⟩ (.int .i64 x)) base 144 4 rowM (.slice (some ⟨g,off,none⟩) n c) (ms.set k ⟨(ms.getD k default).fr,x,(ms.getD k default).sl,(ms.getD k default).only⟩):=by
 subst hb;exact h.putRow zE2 k 1 default _ _ hk (by omega) rfl
theorem putSl {w : World} {base g off n c b : Nat} {ms : List MR} (h : Owns w base 144 4 rowM (.slice (some ⟨g, off, none⟩) n c) ms) (k : Nat) (hk : k < ms.length) (x : Int) (hb : b = off + k * 4 + 2) :
  Owns (w.setCell ⟨g,b,none⟩ (.int .i64 x)) base 144 4 rowM (.slice (some ⟨g,off,none⟩) n c) (ms.set k ⟨(ms.getD k default).fr,(ms.getD k default).to,x,(ms.getD k default).only⟩):=by
 subst hb;exact h.putRow zE2 k 2 default _ _ hk (by omega) rfl
theorem cellsM {w : World} {base g off n c : Nat} {ms : List MR} (h : Owns w base 144 4 rowM (.slice (some ⟨g, off, none⟩) n c) ms) (k : Nat) (hk : k < ms.length) :
  w.cell? ⟨g,off+k * 4,none⟩=some (.int .i64 (ms.getD k default).fr)∧w.cell? ⟨g,off+k * 4+1,none⟩=some (.int .i64 (ms.getD k default).to)∧w.cell? ⟨g,off+k * 4+2,none⟩=some (.int .i64 (ms.getD k default).sl)∧w.frozen? ⟨g,off+k * 4,none⟩=false∧w.frozen? ⟨g,off+k * 4+1,none⟩=false∧w.frozen? ⟨g,off+k * 4+2,none⟩=false :=
 ⟨h.cellAt zE2 k 0 default hk (by omega),h.cellAt zE2 k 1 default hk (by omega),h.cellAt zE2 k 2 default hk (by omega),h.frozenAt _,h.frozenAt _,h.frozenAt _⟩
theorem tab2 (a b:Int) {n:Nat} (h:n<2):∃y:Int,([Value.int .i64 a,.int .i64 b]:List Value)[n]? = some (.int .i64 y)∧(y=a∨y=b):=by
 rcases(show n=0∨n=1 by omega)with rfl|rfl
 ·exact⟨a,rfl,.inl rfl⟩
 ·exact⟨b,rfl,.inr rfl⟩
theorem tab3 (a b c:Int) {n:Nat} (h:n<3):∃y:Int,([Value.int .i64 a,.int .i64 b,.int .i64 c]:List Value)[n]? = some (.int .i64 y)∧(y=a∨y=b∨y=c):=by
 rcases(show n=0∨n=1∨n=2 by omega)with rfl|rfl|rfl
 ·exact⟨a,rfl,.inl rfl⟩
 ·exact⟨b,rfl,.inr (.inl rfl)⟩
 ·exact⟨c,rfl,.inr (.inr rfl)⟩
theorem zG5 {xs:List Value} {n:Nat} {v:Value} (h:xs[n]? = some v):xs.toArray[n]? = some v:=by simpa using h
theorem getD64 {ms:List MR} (h:∀x∈ms,MBd x) {k:Nat} (hk:k<ms.length):MBd (ms.getD k default):=by
 simp only[List.getD,List.getElem?_eq_getElem hk,Option.getD_some];exact h _ (List.getElem_mem hk)
theorem l20Map_any (r B : Nat) (bs : List Nat) (p : Nat) (n : Int) (w : World) (h0 : RdAt w r B bs p) (hp : p ≤ 1000000000) (h1 : 1 ≤ n) (hn : n ≤ 1099511627776) :
  Calls Tryz.prog 81 #[.pointer (some ⟨r,0,none⟩),.int .i64 n] w (MapP r B bs p n w):=by
 have hrw:=h0.lt
 go_enter Tryz.func81,Tryz.ntmps81
 go_upto_block 0 with (first
  |(go_at_call 82;(with_reducible refine(zC1 r B bs p 3 _ h0 (by omega) (by omega) (by omega)).mono ?_);rintro e wA ⟨x0,rfl,a0,a1,hA,htA⟩)
  |(go_at_call 82;(with_reducible refine(zC1 r B bs (p+1) 4 _ (hA.alloc _) (by omega) (by omega) (by omega)).mono ?_);rintro e wB ⟨x,rfl,b0,b1,h,htB⟩))
 have HO:=hid (show Owns wB w.heap.size 144 4 rowM (.slice (some ⟨wA.heap.size,0,none⟩) 3 3) (m0 (x0==0)) from(Owns.litOf (w:=wA) (base:=w.heap.size) (e:=144) (sz:=4) (f:=rowM) (m0 (x0==0)) _ htA.size zE2 (by rfl) (by simp[m0,maxLen])).touch htB hrw);have HT:=hid ((htA.alloc _).trans htB);clear a0 a1 hA htA htB h0
 go_cut [5] from 16 to 34 (fun v wc=>MapC r B bs p w v wc)
 case first=>
  have hlt:=h.lt;rcases(show x=0∨x=1∨x=2∨x=3 by omega)with rfl|rfl|rfl|rfl
  ·go_wp2_with (first
    |(go_at_call 82;(with_reducible refine(zC1 r B bs (p+1+1) 3 _ h (by omega) (by omega) (by omega)).mono ?_);rintro e wC ⟨s,rfl,c0,c1,hC,htC⟩)
    |(go_at_call 82;(with_reducible refine(zC1 r B bs (p+1+1+1) 2 _ hC (by omega) (by omega) (by omega)).mono ?_);rintro e wD ⟨t,rfl,d0,d1,hD,htD⟩))
   have HT2:=hid ((HT.out.trans htC).trans htD);go_meet
   case rel=>exact⟨m1 s (t==0),_,Owns.litOf (m1 s (t==0)) _ HT2.out.size zE2 (by rfl) (by simp[m1,maxLen]),m1_bd _ _ c0 c1,by simp[m1],by simp[m1],(m1_ok _ _ c0 c1).1,by omega,hD.alloc _,HT2.out.alloc _⟩
  ·go_wp2_with (first
    |(go_at_call 82;(with_reducible refine(zC1 r B bs (p+1+1) 3 _ h (by omega) (by omega) (by omega)).mono ?_);rintro e wC ⟨s,rfl,c0,c1,hC,htC⟩;obtain⟨k,rfl⟩:=Int.eq_ofNat_of_zero_le c0;have hk3:k≤2:=(by omega);have hkc:(0:Int)≤1+(k:Int):=(by omega);have hkd:1+(k:Int)≤3:=(by omega);have hkn:(1+(k:Int)).toNat=1+k:=(by omega)))
   have HT2:=hid (HT.out.trans htC);have HO2:=hid ((HO.out.touch htC hrw).take zE2 (1+k) (by simp[m0];omega));go_meet
   case rel=>exact⟨(m0 (x0==0)).take (1+k),_,by simpa[hkn]using HO2.out,fun x hx=>m0_bd _ x (List.mem_of_mem_take hx),by simp[m0];try omega,by simp[m0];try omega,(m0_ok _ _).1,by omega,hC,HT2.out⟩
  ·go_wp2_with fail
   go_meet
   case rel=>exact⟨m0 (x0==0),_,HO.out,m0_bd _,by simp[m0],by simp[m0],by have:=(m0_ok (x0==0) 3).1;simpa[m0]using this,by omega,h,HT.out⟩
  ·go_wp2_with fail
   go_meet
   case rel=>exact⟨m0 (x0==0),_,HO.out,m0_bd _,by simp[m0],by simp[m0],by have:=(m0_ok (x0==0) 3).1;simpa[m0]using this,by omega,h,HT.out⟩
 case rest=>
  clear h HO HT b0 b1;obtain⟨ms,q,hown,hbd,hl1,hl4,hok,hq,hR,hT⟩:=hcut;obtain⟨g,off,c,rfl,hc1,hc2,hg1,hg2⟩:=hown.someR (by omega);have HO:=hid hown;have HBD:=hid hbd;have HOK:=hid hok;have HT:=hid hT;clear hown hbd hok hT
  go_wp2_with (first
   |(go_at_call 122;refine(odd_any r B bs q n wc hR (by omega) h1 hn).mono ?_;rintro e w3 ⟨b,q2,rfl,hb9,hq2,h3,ht3⟩;have HO3:=hid (HO.out.touch ht3 hrw);have HT3:=hid (HT.out.trans ht3);have hs3:=ht3.size;have HB9:=hid hb9;clear hb9 ht3;cases b)
   |(go_at_call 82;(with_reducible refine(zC1 r B bs q2 (ms.length:Int) _ h3 (by omega) (by omega) (by omega)).mono ?_);rintro e w4 ⟨k', rfl,k0,k1,h4,ht4⟩;obtain⟨k,rfl⟩:=Int.eq_ofNat_of_zero_le k0;have hkl:k<ms.length:=(by omega);have HO4:=hid (HO3.out.touch ht4 hrw);have HT4:=hid (HT3.out.trans ht4);have hs4:=ht4.size;clear ht4)
   |(go_at_call 82;(with_reducible refine(zC1 r B bs (q2+1) 4 _ h4 (by omega) (by omega) (by omega)).mono ?_);rintro e w5 ⟨y,rfl,y0,y1,h5,ht5⟩;have HO5:=hid (HO4.out.touch ht5 hrw);have HT5:=hid (HT4.out.trans ht5);have hs5:=ht5.size;clear ht5;rcases(show y=0∨y=1∨y=2∨y=3 by omega)with rfl|rfl|rfl|rfl)
   |(go_at_call 82;have g5:g<w5.heap.size:=(by omega);(with_reducible refine(zC1 r B bs (q2+1+1) 2 (w5.alloc _) (h5.alloc _) (by omega) (by omega) (by omega)).mono ?_);rintro e w6 ⟨z', rfl,z0,z1,h6,ht6⟩;have HO6:=hid ((HO5.out.allocd _).touch ht6 hrw);have HT6:=hid ((HT5.out.alloc _).trans ht6);have hs6:w5.heap.size+1≤w6.heap.size:=(by have:=ht6.size;simpa using this);obtain⟨t0,t1,t2,f0,f1,f2⟩:=cellsM HO6.out k hkl;obtain⟨z,rfl⟩:=Int.eq_ofNat_of_zero_le z0;have hz:z<2:=(by omega);obtain⟨y,hl1,hy⟩:=tab2 (-1) 3 hz;have hl2:=zG5 hl1;clear hz;have hg6:g<w6.heap.size:=(by omega);have hzi:(z:Int)<2:=z1;clear z1;have tB:=Touch.tab ht6 h5.lt z _ hl2)
   |(at_builtin;have HO6:=hid ((Owns.litOf (w:=w5) (base:=w5.heap.size) (e:=144) (sz:=4) (f:=rowM) [⟨60,61,0,false⟩,⟨62,62,0,false⟩,⟨63,63,0,false⟩] #[.int .i64 60,.int .i64 61,.int .i64 0,.bool false,.int .i64 62,.int .i64 62,.int .i64 0,.bool false,.int .i64 63,.int .i64 63,.int .i64 0,.bool false] (Nat.le_refl _) zE2 (by rfl) (by simp[maxLen])).arr zE2 (by simp));have hl7:ms.length+3≤7:=(by omega);have hw5:w.heap.size≤w5.heap.size:=(by omega);go_must (refine zH2 Elem.map rowM zE2 rowM_one _ rfl _ _ rfl w.heap.size _ ms (by rfl) (HO5.out.allocd _) _ [⟨60,61,0,false⟩,⟨62,62,0,false⟩,⟨63,63,0,false⟩] _ (by rfl) HO6.out (by simp;omega) (by simp;omega) (by simp;omega) ?_);intro v' w6 ho6 hb6 _;have HB6:=hid hb6;clear hb6)
   |fail)
  ·go_ret
   exact⟨_,ms,q2,rfl,HO3.out,fun x hx=>(HBD.out x hx).r64,by omega,fun _=>HOK.out,by omega,h3,HT3.out⟩
  ·obtain⟨t0,t1,t2,f0,f1,f2⟩:=cellsM HO5.out k hkl;have hmb:=getD64 HBD.out hkl;obtain⟨m,hm⟩:∃m,m=ms.getD k default:=⟨_,rfl⟩
   rw[←hm]at t0 t1 t2 hmb;obtain⟨b1,b2,b3,b4,b5,b6⟩:=hmb;have HM:=hid hm;clear hm;have hgr:g≠r:=by omega
   have e1:IntKind.i64.wrap (m.to+1)=m.to+1:=by rw[IntKind.wrap_i64];omega
   have e2:IntKind.i64.wrap (m.fr - 1)=m.fr - 1:=by rw[IntKind.wrap_i64];omega
   have hg5:g<w5.heap.size:=by omega
   go_region_with (first
    |(go_at_call 82;(with_reducible refine(zC1 r B bs (q2+1+1) 3 w5.drew h5.drewd (by omega) (by omega) (by omega)).mono ?_);rintro e w6 ⟨z', rfl,z0,z1,h6,ht6⟩;have HO6:=hid (HO5.out.drewd.touch ht6 hrw);have HT6:=hid (HT5.out.drewd.trans ht6);have hs6:w5.heap.size≤w6.heap.size:=ht6.size;obtain⟨t0,t1,t2,f0,f1,f2⟩:=cellsM HO6.out k hkl;rw[←HM.out]at t0 t1 t2;obtain⟨z,rfl⟩:=Int.eq_ofNat_of_zero_le z0;have hz:z<3:=(by omega);obtain⟨y,hl1,hy⟩:=tab3 (-1) (m.to+1) 5 hz;have hl2:=zG5 hl1;clear hz;have hg6:g<w6.heap.size:=(by omega);have hzi:(z:Int)<3:=z1;clear z1)
    |(go_at_call 82;(with_reducible refine(zC1 r B bs (q2+1+1) 3 (w5.alloc _).drew (h5.alloc _).drewd (by omega) (by omega) (by omega)).mono ?_);rintro e w6 ⟨z', rfl,z0,z1,h6,ht6⟩;have HO6:=hid ((HO5.out.allocd _).drewd.touch ht6 hrw);have HT6:=hid ((HT5.out.alloc _).drewd.trans ht6);have hs6:w5.heap.size+1≤w6.heap.size:=(by have:=ht6.size;simpa using this);obtain⟨t0,t1,t2,f0,f1,f2⟩:=cellsM HO6.out k hkl;rw[←HM.out]at t0 t1 t2;obtain⟨z,rfl⟩:=Int.eq_ofNat_of_zero_le z0;have hz:z<3:=(by omega);obtain⟨y,hl1,hy⟩:=tab3 (-1) (m.to+1) 5 hz;have hl2:=zG5 hl1;clear hz;have hg6:g<w6.heap.size:=(by omega);have hzi:(z:Int)<3:=z1;clear z1;have tB:=Touch.tab ht6.ofDrew h5.lt z _ hl2))
   all_goals
    go_wp2_with fail
    go_ret
    refine⟨.slice (some ⟨g,off,none⟩) ms.length c,ms.set k ⟨y,(ms.getD k default).to,(ms.getD k default).sl,(ms.getD k default).only⟩,q2+1+1+1,rfl,?o,?m,by simp;omega,fun h9=>absurd (HB9.out h9) (by simp),by omega,?r,?t⟩
    case o=>repeat(first|with_reducible exact HO6.out|with_reducible refine Owns.drewd ?_|with_reducible refine Owns.allocd ?_ _|with_reducible refine putFr ?_ k hkl _ rfl)
    case m=>exact set64 HBD.out (by have:=HM.out;simp only[←this,MR64,I64];omega)
    case r=>repeat(first|with_reducible exact h6|with_reducible refine RdAt.drewd ?_|with_reducible refine RdAt.alloc ?_ _|with_reducible refine RdAt.setNew ?_ hrw hg1 _ _)
    case t=>repeat(first|with_reducible exact HT6.out|with_reducible refine Touch.drewd ?_|with_reducible refine Touch.alloc ?_ _|with_reducible refine Touch.setNew ?_ hg1 _)
  ·obtain⟨t0,t1,t2,f0,f1,f2⟩:=cellsM HO5.out k hkl;have hmb:=getD64 HBD.out hkl;obtain⟨m,hm⟩:∃m,m=ms.getD k default:=⟨_,rfl⟩
   rw[←hm]at t0 t1 t2 hmb;obtain⟨b1,b2,b3,b4,b5,b6⟩:=hmb;have HM:=hid hm;clear hm;have hgr:g≠r:=by omega
   have e1:IntKind.i64.wrap (m.to+1)=m.to+1:=by rw[IntKind.wrap_i64];omega
   have e2:IntKind.i64.wrap (m.fr - 1)=m.fr - 1:=by rw[IntKind.wrap_i64];omega
   have hg5:g<w5.heap.size:=by omega
   go_region_with (first
    |(go_at_call 82;(with_reducible refine(zC1 r B bs (q2+1+1) 3 w5.drew h5.drewd (by omega) (by omega) (by omega)).mono ?_);rintro e w6 ⟨z', rfl,z0,z1,h6,ht6⟩;have HO6:=hid (HO5.out.drewd.touch ht6 hrw);have HT6:=hid (HT5.out.drewd.trans ht6);have hs6:w5.heap.size≤w6.heap.size:=ht6.size;obtain⟨t0,t1,t2,f0,f1,f2⟩:=cellsM HO6.out k hkl;rw[←HM.out]at t0 t1 t2;obtain⟨z,rfl⟩:=Int.eq_ofNat_of_zero_le z0;have hz:z<3:=(by omega);obtain⟨y,hl1,hy⟩:=tab3 64 (m.fr - 1) 40 hz;have hl2:=zG5 hl1;clear hz;have hg6:g<w6.heap.size:=(by omega);have hzi:(z:Int)<3:=z1;clear z1)
    |(go_at_call 82;(with_reducible refine(zC1 r B bs (q2+1+1) 3 (w5.alloc _).drew (h5.alloc _).drewd (by omega) (by omega) (by omega)).mono ?_);rintro e w6 ⟨z', rfl,z0,z1,h6,ht6⟩;have HO6:=hid ((HO5.out.allocd _).drewd.touch ht6 hrw);have HT6:=hid ((HT5.out.alloc _).drewd.trans ht6);have hs6:w5.heap.size+1≤w6.heap.size:=(by have:=ht6.size;simpa using this);obtain⟨t0,t1,t2,f0,f1,f2⟩:=cellsM HO6.out k hkl;rw[←HM.out]at t0 t1 t2;obtain⟨z,rfl⟩:=Int.eq_ofNat_of_zero_le z0;have hz:z<3:=(by omega);obtain⟨y,hl1,hy⟩:=tab3 64 (m.fr - 1) 40 hz;have hl2:=zG5 hl1;clear hz;have hg6:g<w6.heap.size:=(by omega);have hzi:(z:Int)<3:=z1;clear z1;have tB:=Touch.tab ht6.ofDrew h5.lt z _ hl2))
   all_goals
    go_wp2_with fail
    go_ret
    refine⟨.slice (some ⟨g,off,none⟩) ms.length c,ms.set k ⟨(ms.getD k default).fr,y,(ms.getD k default).sl,(ms.getD k default).only⟩,q2+1+1+1,rfl,?o,?m,by simp;omega,fun h9=>absurd (HB9.out h9) (by simp),by omega,?r,?t⟩
    case o=>repeat(first|with_reducible exact HO6.out|with_reducible refine Owns.drewd ?_|with_reducible refine Owns.allocd ?_ _|with_reducible refine putTo ?_ k hkl _ rfl)
    case m=>exact set64 HBD.out (by have:=HM.out;simp only[←this,MR64,I64];omega)
    case r=>repeat(first|with_reducible exact h6|with_reducible refine RdAt.drewd ?_|with_reducible refine RdAt.alloc ?_ _|with_reducible refine RdAt.setNew ?_ hrw hg1 _ _)
    case t=>repeat(first|with_reducible exact HT6.out|with_reducible refine Touch.drewd ?_|with_reducible refine Touch.alloc ?_ _|with_reducible refine Touch.setNew ?_ hg1 _)
  ·go_ret
   refine⟨.slice (some ⟨g,off,none⟩) ms.length c,ms.set k ⟨(ms.getD k default).fr,(ms.getD k default).to,y,(ms.getD k default).only⟩,q2+1+1+1,rfl,?o,?m,by simp;omega,fun h9=>absurd (HB9.out h9) (by simp),by omega,?r,?t⟩
   case o=>repeat(first|with_reducible exact HO6.out|with_reducible refine Owns.drewd ?_|with_reducible refine Owns.allocd ?_ _|with_reducible refine putSl ?_ k hkl _ rfl)
   case m=>exact set64 HBD.out (by obtain⟨b1,b2,b3,b4,b5,b6⟩:=getD64 HBD.out hkl;simp only[MR64,I64];omega)
   case r=>repeat(first|with_reducible exact h6|with_reducible refine RdAt.drewd ?_|with_reducible refine RdAt.alloc ?_ _|with_reducible refine RdAt.setNew ?_ hrw hg1 _ _)
   case t=>repeat(first|with_reducible exact HT6.out|with_reducible refine Touch.drewd ?_|with_reducible refine Touch.alloc ?_ _|with_reducible refine Touch.setNew ?_ hg1 _)
  ·go_ret
   refine⟨_,_,q2+1+1,rfl,ho6,?_,by simp;omega,fun h9=>absurd (HB9.out h9) (by simp),by omega,(h5.alloc _).kept HB6.out hrw,Touch.bel (HT5.out.alloc _) HB6.out (Nat.le_refl _)⟩;intro x hx;rcases List.mem_append.1 hx with hx|hx
   ·exact(HBD.out x hx).r64
   ·simp only[List.mem_cons,List.not_mem_nil,or_false]at hx;rcases hx with rfl|rfl|rfl <;> simp[MR64,I64]
end Go.Proofs.YtgkdoehkmbhfiaaGreat
namespace Go.Proofs.YtgkdoehkmbhfiaaGreat
open Go.RowKit
attribute [local go_sem ↓] Go.wp_at_zero Go.wp_at_succ
theorem rep_rows (n:Nat):(List.replicate n (0:Int)).flatMap rowI=List.replicate n (Value.int .i64 0):=by rw[zG2,List.map_replicate]
theorem owns_made {w:World} {base n:Nat} {v:Value} (h:w.ownsRow base 3 1 v n (List.replicate n (Value.int .i64 0))):Owns w base 3 1 rowI v (List.replicate n (0:Int)):=by
 unfold Owns;rw[rep_rows,List.length_replicate];exact OwnR.of_row h
end Go.Proofs.YtgkdoehkmbhfiaaGreat
namespace Go.Proofs.YtgkdoehkmbhfiaaGreat
open Go
def restOf (listed:Array Bool):List Nat:=(List.range listed.size).filter fun j=>!listed.getD j true
theorem restOf_set {listed:Array Bool} {i:Nat} (hi:listed.getD i true=false):(restOf (listed.setIfInBounds i true)).length<(restOf listed).length:=by
 have hlt:i<listed.size:=by
  rcases Nat.lt_or_ge i listed.size with h|h
  ·exact h
  ·simp[Array.getElem?_eq_none h]at hi
 have e:restOf (listed.setIfInBounds i true)=(restOf listed).filter (fun j=>j != i):=by
  unfold restOf;rw[Array.size_setIfInBounds,List.filter_filter];apply List.filter_congr;intro j hj;by_cases hij:i=j
  ·subst hij;simp[hlt]
  ·have:(j != i)=true:=by simpa using Ne.symm hij
   rw[Go.getD_set_ne true hij,this];simp
 rw[e];apply List.length_filter_lt_length_iff_exists.2;exact⟨i,by simp[restOf,hlt];simpa[hlt]using hi,by simp⟩
theorem wpAny_inv {P : Program} {md : Region.Mode} {ops : Array Oper} {Q : Exit → Act → World → Prop} (I : Array Bool → Act → World → Prop)
  (step:∀listed a w i,I listed a w→i∈Region.ready md ops listed→wpOp P ops Q i (fun a' w' => I (listed.setIfInBounds i true) a' w') a w)
  (done:∀listed a w,I listed a w→Region.ready md ops listed=[]→Q .normal a w) :
  ∀(fuel:Nat) (listed:Array Bool) (a:Act) (w:World),(restOf listed).length≤fuel→I listed a w→wpAny P md ops Q fuel listed a w
 |0,listed,a,w,hf,h=>by
  have hr:Region.ready md ops listed=[]:=by
   rcases hr:Region.ready md ops listed with _|⟨i,l⟩
   ·rfl
   ·have hi:i∈Region.ready md ops listed:=by rw[hr];simp
    have hlt:=restOf_set (mem_ready.1 hi).1;omega
  exact⟨hr,done _ _ _ h hr⟩
 |fuel+1,listed,a,w,hf,h=>by
  refine⟨fun hr=>done _ _ _ h hr,fun i hi=>?_⟩;exact wpOp_mono (fun a' w' h' => wpAny_inv I step done fuel _ a' w' (by have:=restOf_set (mem_ready.1 hi).1;omega) h') (step listed a w i h hi)
def backB (md : Region.Mode) (ops : Array Oper) : Bool := (List.range ops.size).all fun i => match ops[i]? with
 |some o=>o.after.all fun e=>!Region.binds md e || decide (e.on<i)
 |none=>true
theorem zF4 {md:Region.Mode} {ops:Array Oper} (h:backB md ops=true) {i:Nat} {o:Oper} (ho:ops[i]? = some o):∀e∈o.after,Region.binds md e=true→e.on<i:=by
 intro e he hb;have h1:=List.all_eq_true.1 h i (List.mem_range.2 (Array.getElem?_eq_some_iff.1 ho).1);simp only[ho]at h1;have h2:=Array.all_eq_true'.1 h1 e he;simpa[hb]using h2
theorem all_done {md:Region.Mode} {ops:Array Oper} (hb:backB md ops=true) {listed:Array Bool} (hs:listed.size=ops.size) (hr:Region.ready md ops listed=[]):∀i,i<ops.size→listed.getD i false=true:=by
 intro i
 induction i using Nat.strongRecOn with
 |_ i ih=>
  intro hi;rcases hl:listed.getD i false with _|_
  ·exfalso
   have hm:i∈Region.ready md ops listed:=by
    refine mem_ready.2 ⟨getD_in (by omega) hl,ops[i],by simp[hi],fun e he hbd=>?_⟩;have hlt:=zF4 hb (i:=i) (o:=ops[i]) (by simp[hi]) e he hbd;exact ih e.on hlt (by omega)
   rw[hr]at hm;cases hm
  ·rfl
theorem zK2 {P : Program} {ops : Array Oper} {Q : Exit → Act → World → Prop} {id : Nat} {a : Act} {w : World} (I : Array Bool → Act → World → Prop) (hm : P.follows .mixedOrders = true) (hb : backB .any ops = true)
  (start:I (Array.replicate ops.size false) a { w with drawn:=w.drawn+1 })
  (step:∀listed a w i o,I listed a w→listed.size=ops.size→ops[i]? = some o→listed.getD i true=false→(∀e∈o.after,Region.binds .any e=true→listed.getD e.on false=true)→wpOp P ops Q i (fun a' w' => I (listed.setIfInBounds i true) a' w') a w)
  (done:∀listed a w,I listed a w→(∀i,i<ops.size→listed.getD i false=true)→Q .normal a w):(Code.region id ops true).wp P Q a w:=by
 refine wp_region_any hm (wpAny_inv (fun listed a w=>listed.size=ops.size∧I listed a w) ?_ ?_ _ _ _ _ ?_ ⟨by simp,start⟩)
 ·rintro listed a w i ⟨hs,h⟩ hi;obtain⟨h1,o,ho,h2⟩:=mem_ready.1 hi;exact wpOp_mono (fun a' w' h' => ⟨by simpa using hs,h'⟩) (step listed a w i o h hs ho h1 h2)
 ·rintro listed a w ⟨hs,h⟩ hr;exact done listed a w h (all_done hb hs hr)
 ·unfold restOf;refine Nat.le_trans (List.length_filter_le _ _) ?_;simp
theorem wpOp_wp {P:Program} {ops:Array Oper} {Q:Exit→Act→World→Prop} {i:Nat} {o:Oper} {K:Act→World→Prop} {a:Act} {w:World} (ho:ops[i]? = some o) (hg:o.guard=none) (h:o.wp P a w K Q):wpOp P ops Q i K a w:=by
 unfold wpOp;simp only[ho];rw[if_pos (by simp[Region.wanted,hg])];exact .inl h
end Go.Proofs.YtgkdoehkmbhfiaaGreat
