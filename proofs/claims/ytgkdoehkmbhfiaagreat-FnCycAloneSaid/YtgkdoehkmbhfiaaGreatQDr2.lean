/- AtmRun of the program, of what is ok: what it tells lies in blocks of its own, each by itself. -/
import Derived.Test.YtgkdoehkmbhfiaaGreatQDo4
import Derived.Test.YtgkdoehkmbhfiaaGreatQWrd
import Derived.OwnWalk
import Derived.Deep.MidRow
import Derived.Deep.AppendLies
import Derived.Deep.RegionHeld3
import Derived.Deep.DrawnRows
import Derived.StillTailTactics
import Derived.Outline
set_option linter.unusedVariables false
set_option linter.unusedSimpArgs false
set_option maxHeartbeats 16000000
namespace Go.Proofs.YtgkdoehkmbhfiaaGreat
open Go.RowKit
theorem Owns.touch {α:Type} {w w':World} {r base e sz:Nat} {f:α→List Value} {v:Value} {xs:List α} (h:Owns w base e sz f v xs) (ht:Touch r w w') (hr:r<base):Owns w' base e sz f v xs :=
 OwnR.kept h fun k hk=>ht.block k (OwnR.lt h k hk).2 (by have:=(OwnR.lt h k hk).1;omega)
theorem Owns.cellAt {α:Type} {w:World} {base e sz g off n c:Nat} {f:α→List Value} {xs:List α} (h:Owns w base e sz f (.slice (some ⟨g,off,none⟩) n c) xs) (hf:∀x,(f x).length=sz) (k j:Nat) (d:α) (hk:k<xs.length) (hj:j<sz):w.cell? ⟨g,off+k * sz+j,none⟩=(f (xs.getD k d))[j]?:=by
 obtain⟨hl,h2⟩:=h;rcases h2 with⟨h2,_⟩|⟨g', off', cap,cur,hv,hg,hh,hle,hmax,hsz,hc⟩
 ·cases h2
 ·simp only[Value.slice.injEq,Option.some.injEq,Addr.mk.injEq]at hv;obtain⟨⟨rfl,rfl,_⟩,rfl,rfl⟩:=hv;have hlt:k * sz+j<xs.length * sz:=by
   have:(k+1) * sz≤xs.length * sz:=Nat.mul_le_mul_right _ hk;rw[Nat.add_mul]at this;omega
  have h3:=hc (k * sz+j) hlt;rw[zJ7 hf xs k j hk hj]at h3;simp only[World.cell?,hh,Nat.add_assoc,h3];simp[List.getD,hk]
theorem Owns.frozenAt {α:Type} {w:World} {base e sz g off n c:Nat} {f:α→List Value} {xs:List α} (h:Owns w base e sz f (.slice (some ⟨g,off,none⟩) n c) xs) (o:Nat):w.frozen? ⟨g,o,none⟩=false:=by
 obtain⟨hl,h2⟩:=h;rcases h2 with⟨h2,_⟩|⟨g', off', cap,cur,hv,hg,hh,hle,hmax,hsz,hc⟩
 ·cases h2
 ·simp only[Value.slice.injEq,Option.some.injEq,Addr.mk.injEq]at hv;obtain⟨⟨rfl,rfl,_⟩,rfl,rfl⟩:=hv;simp[World.frozen?,hh]
theorem Owns.putRow {α : Type} {w : World} {base e sz g off n c : Nat} {f : α → List Value} {xs : List α} (h : Owns w base e sz f (.slice (some ⟨g, off, none⟩) n c) xs) (hf : ∀ x, (f x).length = sz) (k j : Nat) (d y : α) (u : Value) (hk : k < xs.length) (hj : j < sz)
  (hy:f y=(f (xs.getD k d)).set j u):Owns (w.setCell ⟨g,off+k * sz+j,none⟩ u) base e sz f (.slice (some ⟨g,off,none⟩) n c) (xs.set k y):=by
 obtain⟨hl,h2⟩:=h;rcases h2 with⟨h2,_⟩|⟨g', off', cap,cur,hv,hg,hh,hle,hmax,hsz,hc⟩
 ·cases h2
 ·simp only[Value.slice.injEq,Option.some.injEq,Addr.mk.injEq]at hv;obtain⟨⟨rfl,rfl,_⟩,rfl,rfl⟩:=hv;have hks:(k+1) * sz≤xs.length * sz:=Nat.mul_le_mul_right _ hk;have hcs:xs.length * sz≤c * sz:=Nat.mul_le_mul_right _ hle;rw[Nat.add_mul]at hks;refine⟨by rw[zC0 hf],.inr ⟨g,off,c,cur.set! (off+k * sz+j) u,by simp,hg,?_,by simpa using hle,hmax,by simpa using hsz,?_⟩⟩
  ·simp only[World.setCell,Array.getElem?_modify,hh];simp
  ·intro i hi;have hi':i<xs.length * sz:=by simpa using hi
   have hs0:0<sz:=by omega
   rw[zL6 hf (xs.set k y) i (by simpa using hi') hs0];have hq:i / sz<xs.length:=Nat.div_lt_of_lt_mul (by rw[Nat.mul_comm];exact hi');have hm:i % sz<sz:=Nat.mod_lt _ hs0;have hdm:sz * (i / sz)+i % sz=i:=Nat.div_add_mod i sz;by_cases hik:i=k * sz+j
   ·have hq2:i / sz=k:=by
     rw[hik,Nat.mul_comm,Nat.mul_add_div hs0,Nat.div_eq_of_lt hj,Nat.add_zero]
    have hm2:i % sz=j:=by rw[hik,Nat.mul_comm,Nat.mul_add_mod,Nat.mod_eq_of_lt hj]
    have hlt:off+k * sz+j<cur.size:=by omega
    rw[hq2,hm2,hik,←Nat.add_assoc];have e1:((xs.set k y).map f).getD k []=f y:=by simp[List.getD,hk]
    rw[e1,hy,List.getElem?_set_self (by rw[hf];exact hj)];simp[hlt]
   ·rw[Array.set!_eq_setIfInBounds,Array.getElem?_setIfInBounds_ne (by omega),hc i hi', zL6 hf xs i hi' hs0];by_cases hqk:i / sz=k
    ·have hne:i % sz≠j:=by
      intro e;apply hik;rw[←hdm,hqk,e,Nat.mul_comm]
     have e1:((xs.set k y).map f).getD (i / sz) []=f y:=by rw[hqk];simp[List.getD,hk]
     have e2:(xs.map f).getD (i / sz) []=f (xs.getD k d):=by rw[hqk];simp[List.getD,hk]
     rw[e1,e2,hy,List.getElem?_set_ne (Ne.symm hne)]
    ·congr 1
     simp[List.getD,List.getElem?_set,Ne.symm hqk]
theorem Owns.take {α:Type} {w:World} {base e sz n c:Nat} {a:Option Addr} {f:α→List Value} {xs:List α} (h:Owns w base e sz f (.slice a n c) xs) (hf:∀x,(f x).length=sz) (m:Nat) (hm:m≤xs.length):Owns w base e sz f (.slice a m c) (xs.take m):=by
 obtain⟨hl,h2⟩:=h;have hlm:(xs.take m).length=m:=by simp;omega
 refine⟨by rw[zC0 hf],?_⟩;rcases h2 with⟨h2,h3⟩|⟨g', off', cap,cur,hv,hg,hh,hle,hmax,hsz,hc⟩
 ·simp only[Value.slice.injEq]at h2;obtain⟨rfl,rfl,rfl⟩:=h2;have hm0:m=0:=by omega
  exact .inl ⟨by rw[hm0],by omega⟩
 ·simp only[Value.slice.injEq]at hv;obtain⟨rfl,rfl,rfl⟩:=hv;refine .inr ⟨g', off', c,cur,by rw[hlm],hg,hh,by omega,hmax,hsz,fun j hj=>?_⟩;rw[hlm]at hj;have hms:m * sz≤xs.length * sz:=Nat.mul_le_mul_right _ hm;rw[hc j (by omega)];rcases Nat.eq_zero_or_pos sz with h0|h0
  ·subst h0;omega
  ·rw[zL6 hf xs j (by omega) h0,zL6 hf (xs.take m) j (by rw[hlm];exact hj) h0];have hq:j / sz<m:=Nat.div_lt_of_lt_mul (by rw[Nat.mul_comm];exact hj)
   congr 1
   simp[List.getD,List.getElem?_take,hq]
theorem Owns.litOf {α : Type} {w : World} {base e sz : Nat} {f : α → List Value} (xs : List α) (cs : Array Value) (hb : base ≤ w.heap.size) (hf : ∀ x, (f x).length = sz) (hcs : cs.toList = xs.flatMap f) (hm : xs.length ≤ maxLen) :
  Owns (w.alloc (.cells cs e)) base e sz f (.slice (some ⟨w.heap.size,0,none⟩) xs.length xs.length) xs:=by
 have hlen:cs.size=xs.length * sz:=by rw[←Array.length_toList,hcs,zC0 hf]
 unfold Owns;rw[←hcs];exact OwnR.of_row (World.ownsRow_lit w cs xs.length hb hm hlen)
theorem madeCells_add (z:Array Value) (n:Nat) (hz:0<z.size):(madeCells z ((n+1) * z.size)).toList=z.toList++(madeCells z (n * z.size)).toList:=by
 apply List.ext_getElem?;intro i;unfold madeCells;simp only[Array.toList_map,Array.toList_range,List.getElem?_map,List.getElem?_append,Array.length_toList];by_cases h:i<z.size
 ·rw[if_pos h,List.getElem?_range (by rw[Nat.add_mul];omega)];simp[Nat.mod_eq_of_lt h,h]
 ·rw[if_neg h];by_cases h2:i<(n+1) * z.size
  ·rw[List.getElem?_range h2,List.getElem?_range (by rw[Nat.add_mul]at h2;omega)];simp only[Option.map_some];rw[show(i - z.size) % z.size=i % z.size from by rw[←Nat.mod_eq_sub_mod (by omega)]]
  ·rw[List.getElem?_eq_none (by simp;omega),List.getElem?_eq_none (by simp;rw[Nat.add_mul]at h2;omega)]
theorem zE8 {α : Type} (f : α → List Value) (x : α) (z : Array Value) (hz : 0 < z.size) (hf : f x = z.toList) : ∀ n : Nat, (madeCells z (n * z.size)).toList = (List.replicate n x).flatMap f
 |0=>by simp[madeCells]
 |n+1=>by rw[madeCells_add z n hz,zE8 f x z hz hf n,List.replicate_succ,List.flatMap_cons,hf]
theorem wpList_mk {α : Type} {ops : Array Oper} {rest : List Oper} {o : Oper} {a : Act} {Q : Exit → Act → World → Prop} {T e sz by_ : Nat} (f : α → List Value) (x : α) (z : Value) (hT : Tryz.prog.underlying T = some (.slice e)) (hi : (Tryz.prog.info? e).map (fun i => (i.zero, i.size, i.bytes)) = some (some z, sz, by_))
  (hz:z.cells.size=sz) (hs:0<sz) (hf:f x=z.cells.toList) (w:World) (hgd:o.guard=none) (l c:Operand) (hop:o.op=Op.makeSlice T l c) (kl kc:IntKind) (L C:Int) (n:Nat) (hl:a.eval l=.int kl L) (hc:a.eval c=.int kc C) (hL:L=(n:Int)) (hC:C=(n:Int))
  (b2:by_ * n≤281474976710656) (b3:n≤maxLen)
  (hK:∀w', Owns w' w.heap.size e sz f (.slice (some ⟨w.heap.size,0,none⟩) n n) (List.replicate n x)→Below w.heap.size w w' → w.heap.size<w'.heap.size→wpList Tryz.prog ops Q rest (a.put o.dst (.slice (some ⟨w.heap.size,0,none⟩) n n)) w') :
  wpList Tryz.prog ops Q (o::rest) a w:=by
 obtain⟨i,h1,h2,h3,h4⟩:=info_parts hi;refine wpList_make_full w hgd l c T hop w.heap.size e i z sz hT h1 h2 h3 kl kc L C n hl hc hL hC (by rw[h4];exact b2) b3 (Nat.le_refl _) fun w' hown hg=>?_
 have hr:(madeCells z.cells (n * sz)).toList=(List.replicate n x).flatMap f:=by rw[←hz];exact zE8 f x z.cells (by omega) hf n
 rw[hr]at hown;have hO:Owns w' w.heap.size e sz f (.slice (some ⟨w.heap.size,0,none⟩) n n) (List.replicate n x):=by
  unfold Owns;rw[List.length_replicate];exact OwnR.of_row hown
 exact hK w' hO ((Below.refl _ _).grown hg (Nat.le_refl _) (by simp)) hO.ltI.2
theorem Owns.kept {α:Type} {w w':World} {base e sz:Nat} {f:α→List Value} {v:Value} {xs:List α} (h:Owns w base e sz f v xs) (hk:∀k,v.ownBlock=some k→w'.heap[k]? = w.heap[k]?):Owns w' base e sz f v xs:=OwnR.kept h hk
theorem Apart.of_lt {v u:Value} {m:Nat} (h:∀k,v.ownBlock=some k→k<m) (h':∀k,u.ownBlock=some k→m≤k):Apart v u:=fun k hk hu=>by
 have:=h k hk;have:=h' k hu;omega
theorem Apart.symm {v u:Value} (h:Apart v u):Apart u v:=fun k hk hu=>h k hu hk
theorem setCells_alloc (w : World) (T : TypeId) : ∀ (cs : List Value) (z : Array Value) (k : Nat), k + cs.length ≤ z.size →
  (w.alloc (.cells z T)).setCells w.heap.size k cs=w.alloc (.cells ((z.toList.take k++cs++z.toList.drop (k+cs.length)).toArray) T)
 |[],z,k,_=>by simp[World.setCells]
 |c::cs,z,k,h=>by
  have h':k<z.size:=by simp at h;omega
  have e:(w.alloc (.cells z T)).setCell ⟨w.heap.size,k,none⟩ c=w.alloc (.cells (z.set! k c) T):=by
   rw[World.setCell_alloc_at _ _ _ _ _ rfl,Array.set!_eq_setIfInBounds]
  simp only[World.setCells];rw[e,setCells_alloc w T cs (z.set! k c) (k+1) (by simp at h ⊢;omega)]
  congr 3
  have ht:(z.toList.set k c).take (k+1)=z.toList.take k++[c]:=by
   rw[List.take_set,List.take_succ_eq_append_getElem (by simpa using h')];rw[List.set_append_right _ _ (by simp;exact Nat.min_le_left _ _)];simp[Nat.min_eq_left (Nat.le_of_lt h')]
  have hd:(z.toList.set k c).drop (k+1+cs.length)=z.toList.drop (k+(cs.length+1)):=by
   rw[List.drop_set_of_lt (by omega)];congr 1;omega
  simp only[Array.set!_eq_setIfInBounds,Array.toList_setIfInBounds,ht,hd,List.length_cons];simp
theorem wpList_store_new {ops : Array Oper} {rest : List Oper} {op : Oper} {a : Act} {Q : Exit → Act → World → Prop} (hgd : op.guard = none) (ty : TypeId) (x y : Operand) (ho : op.op = .store ty x y) (hdst : op.dst = none)
  (w:World) (z:Array Value) (T:TypeId) (cells:Array Value) (hx:a.eval x=.pointer (some ⟨w.heap.size,0,none⟩)) (hy:a.eval y=.agg cells) (hz:z.size=cells.size) (hi:(Tryz.prog.info? ty).map (·.size)=some cells.size) (h1:cells.all (·.oneCell')=true)
  (h:wpList Tryz.prog ops Q rest a (w.alloc (.cells cells T))):wpList Tryz.prog ops Q (op::rest) a (w.alloc (.cells z T)):=by
 refine wpList_store_mid hgd ty x y ho w.heap.size 0 cells hx hy (fun j hj=>?_) hi h1 ?_
 ·have hj':j<z.size:=by omega
  simp[hj']
 ·rw[setCells_alloc w T cells.toList z 0 (by simp[hz]),hdst];simpa[Act.put,List.drop_eq_nil_of_le (show z.toList.length≤cells.size by simp[hz])]using h
def Keeps (P:Nat→Prop) (w w':World):Prop:=∀b,P b→w'.heap[b]? = w.heap[b]?
theorem Keeps.weak {P Q:Nat→Prop} {w w':World} (h:Keeps Q w w') (hs:∀b,P b→Q b):Keeps P w w':=fun b hb=>h b (hs b hb)
theorem Keeps.trans {P:Nat→Prop} {u v w:World} (h:Keeps P u v) (k:Keeps P v w):Keeps P u w:=fun b hb=>(k b hb).trans (h b hb)
theorem Keeps.cell {P:Nat→Prop} {w w':World} (h:Keeps P w w') {a:Addr} (ha:P a.block):w'.cell? a=w.cell? a:=by simp only[World.cell?,h _ ha]
theorem Keeps.frozen {P:Nat→Prop} {w w':World} (h:Keeps P w w') {a:Addr} (ha:P a.block):w'.frozen? a=w.frozen? a:=by simp only[World.frozen?,h _ ha]
def ArrD (w:World) (P:Nat→Prop) (sz:Nat) (v:Value) (rows:List (List Value)):Prop :=
 ∃ ao cap, v = .slice ao rows.length cap ∧ rows.length ≤ cap ∧ cap ≤ 9223372036854775807 ∧ rows.length ≤ 140737488351232 ∧ (ao = none → cap = 0) ∧
  (rows.length≠0→∃b off,ao=some ⟨b,off,none⟩∧P b∧∀t,t<rows.length→∀j,j<sz→w.cell? ⟨b,off+t * sz+j,none⟩=(rows.getD t [])[j]?)
theorem ArrD.of {w:World} {B sz:Nat} {v:Value} {rows:List (List Value)} (h:Arr w B sz v rows):ArrD w (·<B) sz v rows:=h
theorem ArrD.to {w:World} {P:Nat→Prop} {B sz:Nat} {v:Value} {rows:List (List Value)} (h:ArrD w P sz v rows) (hP:∀b,P b→b<B):Arr w B sz v rows:=by
 obtain⟨ao,cap,hv,h1,h2,h0,h9,h3⟩:=h;refine⟨ao,cap,hv,h1,h2,h0,h9,fun hn=>?_⟩;obtain⟨b,off,ha,hlt,hc⟩:=h3 hn;exact⟨b,off,ha,hP b hlt,hc⟩
theorem ArrD.kept {w w':World} {P:Nat→Prop} {sz:Nat} {v:Value} {rows:List (List Value)} (h:ArrD w P sz v rows) (hk:Keeps P w w'):ArrD w' P sz v rows:=by
 obtain⟨ao,cap,hv,h1,h2,h0,h9,h3⟩:=h;refine⟨ao,cap,hv,h1,h2,h0,h9,fun hn=>?_⟩;obtain⟨b,off,ha,hlt,hc⟩:=h3 hn;exact⟨b,off,ha,hlt,fun t ht j hj=>by rw[←hc t ht j hj];exact hk.cell (a:=⟨b,_,none⟩) hlt⟩
theorem ArrD.weak {w:World} {P Q:Nat→Prop} {sz:Nat} {v:Value} {rows:List (List Value)} (h:ArrD w P sz v rows) (hs:∀b,P b→Q b):ArrD w Q sz v rows:=by
 obtain⟨ao,cap,hv,h1,h2,h0,h9,h3⟩:=h;refine⟨ao,cap,hv,h1,h2,h0,h9,fun hn=>?_⟩;obtain⟨b,off,ha,hlt,hc⟩:=h3 hn;exact⟨b,off,ha,hs b hlt,hc⟩
theorem OwnR.arrD {w : World} {base e sz : Nat} {v : Value} {n : Nat} {cells : List Value} {rows : List (List Value)} {P : Nat → Prop} (h : OwnR w base e sz v n cells) (hP : ∀ k, v.ownBlock = some k → P k)
  (hrows:rows.length=n) (hn:n≤140737488351232) (hc:∀t,t<n→∀j,j<sz→cells[t * sz+j]? = (rows.getD t [])[j]?):ArrD w P sz v rows:=by
 obtain⟨ao,cap,hv,h1,h2,h0,h9,h3⟩:=h.arr hrows hn hc;refine⟨ao,cap,hv,h1,h2,h0,h9,fun hnz=>?_⟩;obtain⟨b,off,ha,hlt,hc⟩:=h3 hnz;exact⟨b,off,ha,hP b (by rw[hv,ha];rfl),hc⟩
theorem Owns.arrD {α:Type} {w:World} {base e sz:Nat} {f:α→List Value} {v:Value} {xs:List α} {P:Nat→Prop} (h:Owns w base e sz f v xs) (hP:∀k,v.ownBlock=some k→P k) (hf:∀x,(f x).length=sz) (hn:xs.length≤140737488351232):ArrD w P sz v (xs.map f) :=
 OwnR.arrD h hP (by simp) hn (fun t ht j hj=>zJ7 hf xs t j ht hj)
def IntsD (w:World) (P:Nat→Prop) (v:Value) (xs:List Int):Prop:=ArrD w P 1 v (xs.map rowI)∧∀x∈xs,I64 x
theorem IntsD.of {w:World} {B:Nat} {v:Value} {xs:List Int} (h:Ints w B v xs):IntsD w (·<B) v xs:=h
theorem IntsD.to {w:World} {P:Nat→Prop} {B:Nat} {v:Value} {xs:List Int} (h:IntsD w P v xs) (hP:∀b,P b→b<B):Ints w B v xs:=⟨h.1.to hP,h.2⟩
theorem IntsD.kept {w w':World} {P:Nat→Prop} {v:Value} {xs:List Int} (h:IntsD w P v xs) (hk:Keeps P w w'):IntsD w' P v xs:=⟨h.1.kept hk,h.2⟩
theorem IntsD.weak {w:World} {P Q:Nat→Prop} {v:Value} {xs:List Int} (h:IntsD w P v xs) (hs:∀b,P b→Q b):IntsD w Q v xs:=⟨h.1.weak hs,h.2⟩
theorem Owns.intsD {w:World} {base e:Nat} {v:Value} {xs:List Int} {P:Nat→Prop} (h:Owns w base e 1 rowI v xs) (hP:∀k,v.ownBlock=some k→P k) (hn:xs.length≤140737488351232) (hx:∀x∈xs,I64 x):IntsD w P v xs:=⟨h.arrD hP zE9 hn,hx⟩
theorem IntsD.nil (w:World) (P:Nat→Prop):IntsD w P (.slice none 0 0) []:=⟨⟨none,0,rfl,by simp,by omega,by simp,fun _=>rfl,fun h=>absurd rfl h⟩,by simp⟩
abbrev RqV:=Rq×Value×Value
def rowQ (y:RqV):List Value:=[.int .i64 y.1.id,.int .i64 y.1.kind,.int .i64 y.1.addr,.int .i64 y.1.many,.bool y.1.wrap,y.2.1,y.2.2]
theorem zC8 (y:RqV):(rowQ y).length=7:=rfl
def RqD (w:World) (P:Nat→Prop) (y:RqV):Prop:=IntsD w P y.2.1 y.1.data∧IntsD w P y.2.2 y.1.lanes∧I64 y.1.id∧I64 y.1.kind∧I64 y.1.addr∧I64 y.1.many
theorem RqD.kept {w w':World} {P:Nat→Prop} {y:RqV} (h:RqD w P y) (hk:Keeps P w w'):RqD w' P y:=⟨h.1.kept hk,h.2.1.kept hk,h.2.2⟩
theorem RqD.weak {w:World} {P Q:Nat→Prop} {y:RqV} (h:RqD w P y) (hs:∀b,P b→Q b):RqD w Q y:=⟨h.1.weak hs,h.2.1.weak hs,h.2.2⟩
theorem RqD.val {w:World} {P:Nat→Prop} {B:Nat} {y:RqV} (h:RqD w P y) (hP:∀b,P b→b<B):ReqV w B (.agg #[.int .i64 y.1.id,.int .i64 y.1.kind,.int .i64 y.1.addr,.int .i64 y.1.many,.bool y.1.wrap,y.2.1,y.2.2]) y.1 :=
 ⟨_,_,rfl,h.1.to hP,h.2.1.to hP,h.2.2⟩
theorem reqs_of {w:World} {P:Nat→Prop} {B:Nat} {v:Value} {ys:List RqV} (ha:ArrD w P 7 v (ys.map rowQ)) (hy:∀y∈ys,RqD w P y) (hP:∀b,P b→b<B):Reqs w B v (ys.map (·.1)):=by
 refine⟨ys.map fun y=>.agg #[.int .i64 y.1.id,.int .i64 y.1.kind,.int .i64 y.1.addr,.int .i64 y.1.many,.bool y.1.wrap,y.2.1,y.2.2],?_,by simp,fun k hk d=>?_⟩
 ·rw[List.map_map];exact ha.to hP
 ·simp only[List.length_map]at hk;have e:(ys.map fun y:RqV=>Value.agg #[.int .i64 y.1.id,.int .i64 y.1.kind,.int .i64 y.1.addr,.int .i64 y.1.many,.bool y.1.wrap,y.2.1,y.2.2]).getD k undef=.agg #[.int .i64 ys[k].1.id,.int .i64 ys[k].1.kind,.int .i64 ys[k].1.addr,.int .i64 ys[k].1.many,.bool ys[k].1.wrap,ys[k].2.1,ys[k].2.2]:=by simp[List.getD,hk]
  have e2:(ys.map (·.1)).getD k d=ys[k].1:=by simp[List.getD,hk]
  rw[e,e2];exact(hy _ (List.getElem_mem hk)).val hP
theorem zC4 {α : Type} {ops : Array Oper} {rest : List Oper} {o : Oper} {a : Act} {Q : Exit → Act → World → Prop} {T e sz by_ : Nat} (E : Elem T e sz by_) (f : α → List Value) (hf : ∀ x, (f x).length = sz) (y : α) (h1 : ∀ u ∈ f y, u.oneCell' = true)
  (w:World) (hgd:o.guard=none) (s x:Operand) (ho:o.op=.call { callee:=.builtin .append,args:=#[s,x],argTypes:=#[T,T] })
  (base:Nat) (v:Value) (xs:List α) (hs:a.eval s=v) (hown:Owns w base e sz f v xs) (cs:Array Value) (hcs:cs.toList=f y) (hx:a.eval x=.slice (some ⟨w.heap.size,0,none⟩) 1 1)
  (hlen:(xs.length+1) * by_≤140737488355328) (hlen2:xs.length+1≤9223372036854775807) (hbase:base≤w.heap.size)
  (h:∀v' w', Owns w' base e sz f v' (xs++[y])→w.heap.size≤w'.heap.size→(∀b,b<w.heap.size→v.ownBlock≠some b→w'.heap[b]? = w.heap[b]?)→(v'.ownBlock=v.ownBlock∨∃k,w.heap.size≤k∧v'.ownBlock=some k)→Below base w w' → wpList Tryz.prog ops Q rest (a.put o.dst v') w') :
  wpList Tryz.prog ops Q (o::rest) a (w.alloc (.cells cs e)):=by
 obtain⟨ht,i,z,hi,hz,hsize,hby,hzs,hsz⟩:=E;have hown':OwnR (w.alloc (.cells cs e)) base e sz v xs.length (xs.flatMap f):=OwnR.alloc hown _;refine zD7 hgd s x T ho base e i z sz by_ ht hi hz hsize hby hzs v xs.length (xs.flatMap f) hs hown' ⟨w.heap.size,0,none⟩ 1 1 (f y) hx (by rw[hf];omega) ?_ h1 (by unfold maxLen;omega) hlen (by simp;omega) ?_
 ·intro j u hj;rw[Addr.add_lit,Nat.zero_add,World.cell?_alloc_at _ _ _ _ rfl,←hj,←hcs];simp
 ·intro v' w' ho' hg _ hb;have hsz:=hg.size;simp only[World.size_alloc]at hsz;refine h v' w' (by unfold Owns;simpa using ho') (by omega) (fun b hb hne=>?_) ?_ (((Below.refl _ _).alloc hbase _).grown hg (by simp;omega) (fun k hk=>(OwnR.lt hown k hk).1))
  ·rw[hg.block b (by simp;omega) (by intro e;exact hne e.symm)];exact((Below.refl w.heap.size w).alloc (Nat.le_refl _) _).block b hb
  ·rcases hb with hb|hb
   ·exact .inl hb
   ·exact .inr ⟨_,by simp,hb⟩
theorem at_world {P:Program} {f:FuncId} {args:Array Value} {w:World} {Q:Ending→World→Prop} (Z:World→Prop) (hZ:Z w) (h:∀W,Z W→Calls P f args W Q):Calls P f args w Q:=h w hZ
structure Bx (W:World) (H:Nat) (cs:List Value):Prop where
 c:∀j,j<cs.length→W.cell? ⟨H,j,none⟩=cs[j]?
 f:∀j,j<cs.length→W.frozen? ⟨H,j,none⟩=false
 n:0<cs.length
theorem Bx.lt {W:World} {H:Nat} {cs:List Value} (h:Bx W H cs):H<W.heap.size:=by
 have h0:=h.c 0 h.n;have hn:=h.n;rw[List.getElem?_eq_getElem hn]at h0;exact World.block_lt_of_cell? W _ h0
theorem Bx.kept {W W':World} {H:Nat} {cs:List Value} (h:Bx W H cs) (hk:W'.heap[H]? = W.heap[H]?):Bx W' H cs :=
 ⟨fun j hj=>by rw[←h.c j hj];simp only[World.cell?,hk],fun j hj=>by rw[←h.f j hj];simp only[World.frozen?,hk],h.n⟩
theorem Bx.below {W W':World} {H C:Nat} {cs:List Value} (h:Bx W H cs) (hb:Below C W W') (hH:H<C):Bx W' H cs:=h.kept (hb.block H hH)
theorem Bx.set {W:World} {H:Nat} {cs:List Value} (h:Bx W H cs) (j:Nat) (hj:j<cs.length) (u:Value):Bx (W.setCell ⟨H,j,none⟩ u) H (cs.set j u):=by
 refine⟨fun i hi=>?_,fun i hi=>?_,by simpa using h.n⟩
 ·have hi':i<cs.length:=by simpa using hi
  have hci:=h.c i hi';by_cases hij:i=j
  ·subst hij;rw[List.getElem?_set_self hj];have hs:(W.cell? ⟨H,i,none⟩).isSome:=by rw[hci];simp[hj]
   simp[go_sem,hs]
  ·rw[List.getElem?_set_ne (Ne.symm hij),←hci];simp[go_sem,hij,Ne.symm hij]
 ·have:=h.f i (by simpa using hi);simpa[go_sem]using this
theorem Bx.new (w:World) (cs:Array Value) (T:TypeId) (hn:0<cs.size):Bx (w.alloc (.cells cs T)) w.heap.size cs.toList :=
 ⟨fun j hj=>by rw[World.cell?_alloc_at _ _ _ _ rfl];simp,fun j hj=>by simp[go_sem],by simpa using hn⟩
theorem Bx.one {W:World} {H:Nat} {a:Value} (h:Bx W H [a]):W.cell? ⟨H,0,none⟩=some a∧W.frozen? ⟨H,0,none⟩=false:=⟨h.c 0 (by simp),h.f 0 (by simp)⟩
theorem Bx.two {W:World} {H:Nat} {a b:Value} (h:Bx W H [a,b]):(W.cell? ⟨H,0,none⟩=some a∧W.cell? ⟨H,1,none⟩=some b)∧W.frozen? ⟨H,0,none⟩=false∧W.frozen? ⟨H,1,none⟩=false :=
 ⟨⟨h.c 0 (by simp),h.c 1 (by simp)⟩,h.f 0 (by simp),h.f 1 (by simp)⟩
theorem Bx.three {W:World} {H:Nat} {a b c:Value} (h:Bx W H [a,b,c]):(W.cell? ⟨H,0,none⟩=some a∧W.cell? ⟨H,1,none⟩=some b∧W.cell? ⟨H,2,none⟩=some c)∧W.frozen? ⟨H,0,none⟩=false∧W.frozen? ⟨H,1,none⟩=false∧W.frozen? ⟨H,2,none⟩=false :=
 ⟨⟨h.c 0 (by simp),h.c 1 (by simp),h.c 2 (by simp)⟩,h.f 0 (by simp),h.f 1 (by simp),h.f 2 (by simp)⟩
theorem Bx.seven {W : World} {H : Nat} {a b c d e f g : Value} (h : Bx W H [a, b, c, d, e, f, g]) :
  (W.cell? ⟨H,0,none⟩=some a∧W.cell? ⟨H,1,none⟩=some b∧W.cell? ⟨H,2,none⟩=some c∧W.cell? ⟨H,3,none⟩=some d∧W.cell? ⟨H,4,none⟩=some e∧W.cell? ⟨H,5,none⟩=some f∧W.cell? ⟨H,6,none⟩=some g) ∧
  W.frozen? ⟨H,0,none⟩=false∧W.frozen? ⟨H,1,none⟩=false∧W.frozen? ⟨H,2,none⟩=false∧W.frozen? ⟨H,3,none⟩=false∧W.frozen? ⟨H,4,none⟩=false∧W.frozen? ⟨H,5,none⟩=false∧W.frozen? ⟨H,6,none⟩=false :=
 ⟨⟨h.c 0 (by simp),h.c 1 (by simp),h.c 2 (by simp),h.c 3 (by simp),h.c 4 (by simp),h.c 5 (by simp),h.c 6 (by simp)⟩,h.f 0 (by simp),h.f 1 (by simp),h.f 2 (by simp),h.f 3 (by simp),h.f 4 (by simp),h.f 5 (by simp),h.f 6 (by simp)⟩
theorem rowM4 (r:MR):(rowM r).length=4:=rfl
theorem Owns.maps {w:World} {base:Nat} {v:Value} {ms:List MR} (h:Owns w base 144 4 rowM v ms) (hn:ms.length≤1048576) (hx:∀r∈ms,MR64 r):Maps w w.heap.size v ms:=⟨h.arr rowM4 (by omega),hx⟩
theorem zG6 {P : Program} {w : World} {o : Oper} {a : Act} {K : Act → World → Prop} {Q : Exit → Act → World → Prop} (s x : Operand) (t : TypeId)
  (ho:o.op=.call { callee:=.builtin .append,args:=#[s,x],argTypes:=#[t,t] })
  (base:Nat) (e:TypeId) (i:TypeInfo) (z:Value) (size bytes:Nat) (ht:P.underlying t=some (.slice e)) (hi:P.info? e=some i) (hz:i.zero=some z)
  (hsize:i.size=size) (hby:i.bytes=bytes) (hzs:z.cells.size=size)
  (v:Value) (n:Nat) (xs:List Value) (hs:a.eval s=v) (hown:OwnR w base e size v n xs)
  (ad:Addr) (m c:Nat) (news:List Value) (hx:a.eval x=.slice (some ad) m c) (hl:news.length=m * size) (hnews:∀j u,news[j]? = some u→w.cell? (ad.add j)=some u) (h1:∀u∈news,u.oneCell' = true)
  (h63:n+m≤maxLen) (hbytes:(n+m) * bytes≤140737488355328) (hbase:base≤w.heap.size)
  (h:∀v' w', OwnR w' base e size v' (n+m) (xs++news)→w.grownBy w' v.ownBlock→(v' = .slice none 0 0→v=.slice none 0 0∧m=0)→(v'.ownBlock=v.ownBlock∨v'.ownBlock=some w.heap.size)→K (a.put o.dst v') w'):Oper.wp P o a w K Q:=by
 obtain⟨v', w', hr,h2,h3,h4,h5⟩:=run_append_OwnR (P:=P) w base t o.type e i z size bytes ht hi hz hsize hby hzs v n xs hown ad m c news hl hnews h1 h63 hbytes hbase;unfold Oper.wp execOp;simp only[ho,resolve,invoke,builtin,Sem.run_bind,Sem.run_pure,Result.andThen_ok,List.map_toArray,List.map_cons,List.map_nil,hs,hx,hr];exact h v' w' h2 h3 h4 h5
theorem Owns.allocd {α:Type} {w:World} {base e sz:Nat} {f:α→List Value} {v:Value} {xs:List α} (h:Owns w base e sz f v xs) (o:Obj):Owns (w.alloc o) base e sz f v xs:=OwnR.alloc h o
theorem Owns.drewd {α:Type} {w:World} {base e sz:Nat} {f:α→List Value} {v:Value} {xs:List α} (h:Owns w base e sz f v xs):Owns w.drew base e sz f v xs:=OwnR.kept h fun _ _=>rfl
theorem news_alloc {w:World} {cs:Array Value} {T:TypeId} (l:List Value) (hl:cs.toList=l):∀j u,l[j]? = some u→(w.alloc (.cells cs T)).cell? ⟨w.heap.size,j,none⟩=some u:=by
 intro j u hj;rw[World.cell?_alloc_at _ _ _ _ rfl,←hj,←hl];simp
theorem Touch.setNew {r g o:Nat} {w w':World} (h:Touch r w w') (hg:w.heap.size≤g) (v:Value):Touch r w (w'.setCell ⟨g,o,none⟩ v) :=
 ⟨h.os,h.tape,h.output,by simpa[World.setCell]using h.size,fun k hk hr=>by rw[Below.heap_setCell _ _ _ _ (show k≠g by omega)];exact h.block k hk hr⟩
theorem Touch.drewd {r:Nat} {a w:World} (h:Touch r a w):Touch r a w.drew:=h.trans ⟨rfl,rfl,rfl,Nat.le_refl _,fun _ _ _=>rfl⟩
theorem Touch.frozen {r:Nat} {w w':World} (h:Touch r w w') {p:Addr} (ha:p.block≠r) (hlt:p.block<w.heap.size):w'.frozen? p=w.frozen? p:=by
 simp only[World.frozen?,h.block _ hlt ha]
end Go.Proofs.YtgkdoehkmbhfiaaGreat
namespace Go.Proofs.YtgkdoehkmbhfiaaGreat
open Go.RowKit
attribute [local go_sem ↓] Go.wp_at_zero Go.wp_at_succ
theorem four {g n:Nat} (h:g+3<n):g<n∧g+1<n∧g+1+1<n∧g+1+1+1<n:=by omega
theorem Touch2.drewd {a b:Nat} {w w':World} (h:Touch2 a b w w'):Touch2 a b w w'.drew:=h.trans ⟨rfl,rfl,rfl,Nat.le_refl _,fun _ _ _ _=>rfl⟩
theorem Touch2.allocd {a b:Nat} {w w':World} (h:Touch2 a b w w') (o:Obj):Touch2 a b w (w'.alloc o):=h.trans (Touch2.of_below ((Below.refl _ _).alloc (Nat.le_refl _) o) (Nat.le_refl _))
theorem Touch2.bel {a b:Nat} {w w' w'':World} (h:Touch2 a b w w') (hb:Below w'.heap.size w' w''):Touch2 a b w w'':=h.trans (Touch2.of_below hb (Nat.le_refl _))
end Go.Proofs.YtgkdoehkmbhfiaaGreat
namespace Go.Proofs.YtgkdoehkmbhfiaaGreat
open Go.RowKit
attribute [local go_sem ↓] Go.wp_at_zero Go.wp_at_succ
theorem Ints.touch {w w':World} {r:Nat} {v:Value} {xs:List Int} (h:Ints w w.heap.size v xs) (ht:Touch r w w') (hr:∀k,v.ownBlock=some k→k≠r):Ints w' w'.heap.size v xs :=
 (h.heap fun k hk hlt=>ht.block k hlt (hr k hk)).mono ht.size
theorem Ints.setc {w:World} {B:Nat} {v:Value} {xs:List Int} (h:Ints w B v xs) (g o:Nat) (u:Value) (hr:∀k,v.ownBlock=some k→k≠g):Ints (w.setCell ⟨g,o,none⟩ u) B v xs :=
 h.heap fun k hk _=>Below.heap_setCell _ _ _ _ (hr k hk)
end Go.Proofs.YtgkdoehkmbhfiaaGreat
namespace Go.Proofs.YtgkdoehkmbhfiaaGreat
open Go.RowKit
theorem sgx {l:Array Bool} {i j:Nat} (h:i≠j):(l.setIfInBounds i true).getD j false=l.getD j false:=Go.getD_set_ne false h
theorem sgix {l:Array Bool} {i:Nat} (h:l.getD i true=false):(l.setIfInBounds i true).getD i false=true:=by
 have hlt:i<l.size:=by
  rcases Nat.lt_or_ge i l.size with h1|h1
  ·exact h1
  ·simp[Array.getElem?_eq_none h1]at h
 simp[hlt]
theorem zA2 {P : Program} {ops : Array Oper} {Q : Exit → Act → World → Prop} {i : Nat} {o : Oper} {I : Act → World → Prop} {a : Act} {w : World} (ho : ops[i]? = some o) (hg : o.guard = none)
  (h:∀K:Act→World→Prop,(∀a' w', I a' w' → K a' w')→o.wp P a w K Q):wpOp P ops Q i I a w:=wpOp_wp ho hg (h _ fun _ _ h=>h)
def Closed (ops:Array Oper) (listed:Array Bool):Prop:=∀i o,ops[i]? = some o→listed.getD i false=true→∀e∈o.after,Region.binds .any e=true→listed.getD e.on false=true
theorem zE7 {P : Program} {ops : Array Oper} {Q : Exit → Act → World → Prop} {id : Nat} {a : Act} {w : World} (I : Array Bool → Act → World → Prop) (hm : P.follows .mixedOrders = true) (hb : backB .any ops = true)
  (start:I (Array.replicate ops.size false) a { w with drawn:=w.drawn+1 })
  (step:∀listed a w i o,I listed a w→listed.size=ops.size→ops[i]? = some o→listed.getD i true=false→(∀e∈o.after,Region.binds .any e=true→listed.getD e.on false=true)→Closed ops listed→wpOp P ops Q i (fun a' w' => I (listed.setIfInBounds i true) a' w') a w)
  (done:∀listed a w,I listed a w→(∀i,i<ops.size→listed.getD i false=true)→Q .normal a w):(Code.region id ops true).wp P Q a w:=by
 refine zM2 (fun listed a w=>Closed ops listed∧I listed a w) hm hb ⟨fun i o _ hl=>?_,start⟩ ?_ (fun listed a w h hd=>done listed a w h.2 hd)
 ·rw[getD_replicate_false]at hl;cases hl
 ·rintro listed a w i o ⟨hc,hI⟩ hs ho hl he;refine wpOp_mono (fun a' w' h' => ⟨?_,h'⟩) (step listed a w i o hI hs ho hl he hc);intro j o' ho' hj e hem heb;have hset:∀k,listed.getD k false=true→(listed.setIfInBounds i true).getD k false=true:=fun k hk=>by
   by_cases hik:i=k
   ·subst hik;exact sgix hl
   ·rw[sgx hik];exact hk
  by_cases hij:i=j
  ·subst hij;rw[ho]at ho';obtain rfl:=Option.some.inj ho';exact hset _ (he e hem heb)
  ·rw[sgx hij]at hj;exact hset _ (hc j o' ho' hj e hem heb)
theorem heap_lt {w:World} {r:Nat} {o:Obj} (h:w.heap[r]? = some o):r<w.heap.size:=by
 rcases Nat.lt_or_ge r w.heap.size with h1|h1
 ·exact h1
 ·rw[Array.getElem?_eq_none h1]at h;simp at h
def BoxA (w:World) (s:Nat) (a b:Value):Prop:=w.heap[s]? = some (.cells #[a,b] 34 (0,0))
theorem BoxA.lt {w:World} {s:Nat} {a b:Value} (h:BoxA w s a b):s<w.heap.size:=heap_lt h
theorem BoxA.keep {w w':World} {s:Nat} {a b:Value} (h:BoxA w s a b) (e:w'.heap[s]? = w.heap[s]?):BoxA w' s a b:=by unfold BoxA at h ⊢;rw[e];exact h
theorem BoxA.touch {w w':World} {s x:Nat} {a b:Value} (h:BoxA w s a b) (ht:Touch x w w') (hx:s≠x):BoxA w' s a b:=h.keep (ht.block s h.lt hx)
theorem BoxA.below {w w':World} {s C:Nat} {a b:Value} (h:BoxA w s a b) (hb:Below C w w') (hx:s<C):BoxA w' s a b:=h.keep (hb.block s hx)
theorem BoxA.cells {w:World} {s:Nat} {a b:Value} (h:BoxA w s a b):w.cell? ⟨s,0,none⟩=some a∧w.cell? ⟨s,1,none⟩=some b∧w.frozen? ⟨s,0,none⟩=false∧w.frozen? ⟨s,1,none⟩=false:=by
 unfold BoxA at h;refine⟨?_,?_,?_,?_⟩ <;> simp[World.cell?,World.frozen?,h]
theorem BoxA.put {w:World} {s:Nat} {a b:Value} (h:BoxA w s a b) (c d:Value):BoxA ((w.setCell ⟨s,0,none⟩ c).setCell ⟨s,1,none⟩ d) s c d:=by
 unfold BoxA at h ⊢;simp[World.setCell,Array.getElem?_modify,h]
theorem BoxA.new (w:World) (a b:Value):BoxA (w.alloc (.cells #[a,b] 34)) w.heap.size a b:=by
 show(w.heap.push _)[w.heap.size]? = _;simp
def BoxR (w:World) (s:Nat) (i c:Int) (d:Value):Prop:=w.heap[s]? = some (.cells #[.int .i64 i,.int .i64 c,d] 63 (0,0))
theorem BoxR.lt {w:World} {s:Nat} {a b:Int} {d:Value} (h:BoxR w s a b d):s<w.heap.size:=heap_lt h
theorem BoxR.keep {w w':World} {s:Nat} {a b:Int} {d:Value} (h:BoxR w s a b d) (e:w'.heap[s]? = w.heap[s]?):BoxR w' s a b d:=by unfold BoxR at h ⊢;rw[e];exact h
theorem BoxR.touch {w w':World} {s x:Nat} {a b:Int} {d:Value} (h:BoxR w s a b d) (ht:Touch x w w') (hx:s≠x):BoxR w' s a b d:=h.keep (ht.block s h.lt hx)
theorem BoxR.below {w w':World} {s C:Nat} {a b:Int} {d:Value} (h:BoxR w s a b d) (hb:Below C w w') (hx:s<C):BoxR w' s a b d:=h.keep (hb.block s hx)
theorem BoxR.cells {w:World} {s:Nat} {a b:Int} {d:Value} (h:BoxR w s a b d):w.cell? ⟨s,0,none⟩=some (.int .i64 a)∧w.cell? ⟨s,1,none⟩=some (.int .i64 b)∧w.cell? ⟨s,2,none⟩=some d∧w.frozen? ⟨s,0,none⟩=false∧w.frozen? ⟨s,1,none⟩=false∧w.frozen? ⟨s,2,none⟩=false:=by
 unfold BoxR at h;refine⟨?_,?_,?_,?_,?_,?_⟩ <;> simp[World.cell?,World.frozen?,h]
theorem BoxR.put {w:World} {s:Nat} {a b:Int} {d:Value} (h:BoxR w s a b d) (i c:Int) (u:Value):BoxR (((w.setCell ⟨s,0,none⟩ (.int .i64 i)).setCell ⟨s,1,none⟩ (.int .i64 c)).setCell ⟨s,2,none⟩ u) s i c u:=by
 unfold BoxR at h ⊢;simp[World.setCell,Array.getElem?_modify,h]
theorem BoxR.new (w:World) (i c:Int) (d:Value):BoxR (w.alloc (.cells #[.int .i64 i,.int .i64 c,d] 63)) w.heap.size i c d:=by
 show(w.heap.push _)[w.heap.size]? = _;simp
theorem touchA (s:Nat) (w:World) (a b:Value):Touch s w ((w.setCell ⟨s,0,none⟩ a).setCell ⟨s,1,none⟩ b):=(Touch.setCell _ _ _ _).trans (Touch.setCell _ _ _ _)
theorem Owns.notBox {w:World} {base g T:Nat} {v:Value} {xs:List Int} {cs:Array Value} (h:Owns w base 3 1 rowI v xs) (hg:w.heap[g]? = some (.cells cs T (0,0))) (hT:T≠3):∀k,v.ownBlock=some k→k≠g:=by
 intro k hk e;subst e;obtain⟨_,h2⟩:=h;rcases h2 with⟨rfl,_⟩|⟨g', off,cap,cur,rfl,_,hh,_⟩
 ·simp[Value.ownBlock]at hk
 ·simp[Value.ownBlock]at hk;subst hk;rw[hh]at hg;simp only[Option.some.injEq,Obj.cells.injEq]at hg;exact hT hg.2.1.symm
theorem Owns.touchN {w w':World} {base g:Nat} {v:Value} {xs:List Int} (h:Owns w base 3 1 rowI v xs) (ht:Touch g w w') (hg:∀k,v.ownBlock=some k→k≠g):Owns w' base 3 1 rowI v xs :=
 OwnR.kept h fun k hk=>ht.block k (OwnR.lt h k hk).2 (hg k hk)
theorem Owns.boxA {w w':World} {base g:Nat} {v a b:Value} {xs:List Int} (h:Owns w base 3 1 rowI v xs) (hA:BoxA w g a b) (ht:Touch g w w'):Owns w' base 3 1 rowI v xs:=h.touchN ht (h.notBox hA (by decide))
theorem Below.touchN {B x:Nat} {a w w':World} (h:Below B a w) (ht:Touch x w w') (hx:B≤x) (hB:B≤a.heap.size):Below B a w':=h.trans (ht.below hx (Nat.le_trans hB h.size))
theorem BoxA.ne {w:World} {g g':Nat} {a b d:Value} {i c:Int} (h:BoxA w g a b) (h':BoxR w g' i c d):g' ≠ g:=by
 intro e;subst e;unfold BoxA at h;unfold BoxR at h';rw[h]at h';simp at h'
theorem BoxA.bx {w:World} {s:Nat} {a b:Value} (h:BoxA w s a b):Bx w s [a,b]:=by
 obtain⟨k0,k1,m0,m1⟩:=h.cells;refine⟨fun j hj=>?_,fun j hj=>?_,by simp⟩
 all_goals
  have:j=0∨j=1:=by simp at hj;omega
  rcases this with rfl|rfl
 ·simpa using k0
 ·simpa using k1
 ·exact m0
 ·exact m1
theorem BoxR.bx {w:World} {s:Nat} {i c:Int} {d:Value} (h:BoxR w s i c d):Bx w s [.int .i64 i,.int .i64 c,d]:=by
 obtain⟨k0,k1,k2,m0,m1,m2⟩:=h.cells;refine⟨fun j hj=>?_,fun j hj=>?_,by simp⟩
 all_goals
  have:j=0∨j=1∨j=2:=by simp at hj;omega
  rcases this with rfl|rfl|rfl
 ·simpa using k0
 ·simpa using k1
 ·simpa using k2
 ·exact m0
 ·exact m1
 ·exact m2
def zQ:RqV:=(⟨0,0,0,0,false,[],[]⟩,.slice none 0 0,.slice none 0 0)
def zipQ (qs:List Rq) (vs:List (Value×Value)):List RqV:=List.zipWith (fun q p=>(q,p)) qs vs
theorem zC3 {qs:List Rq} {vs:List (Value×Value)} (h:vs.length=qs.length):(zipQ qs vs).length=qs.length:=by simp[zipQ,h]
theorem zipQ_get {qs:List Rq} {vs:List (Value×Value)} (h:vs.length=qs.length) {k:Nat} (hk:k<qs.length) (d:RqV):(zipQ qs vs).getD k d=(qs.getD k default,vs.getD k default):=by
 have hk2:k<vs.length:=by omega
 simp[zipQ,List.getD,List.getElem?_zipWith,hk,hk2]
theorem zipQ_snoc {qs:List Rq} {vs:List (Value×Value)} (h:vs.length=qs.length) (q:Rq) (p:Value×Value):zipQ (qs++[q]) (vs++[p])=zipQ qs vs++[(q,p)]:=by
 unfold zipQ;rw[List.zipWith_append h.symm];rfl
theorem Owns.row7 {w : World} {base g off n c k : Nat} {ys : List RqV} (h : Owns w base 52 7 rowQ (.slice (some ⟨g, off, none⟩) n c) ys) (hk : k < ys.length) (y : RqV) :
  Owns (w.setCells g (off+k * 7) (rowQ y)) base 52 7 rowQ (.slice (some ⟨g,off,none⟩) n c) (ys.set k y):=by
 have hk1:∀y,k<(ys.set k y).length:=fun y=>by simpa using hk
 have hg1:∀y,(ys.set k y).getD k zQ=y:=fun y=>by simp[List.getD,List.getElem?_set_self hk]
 obtain⟨o,ho⟩:∃o,o=ys.getD k zQ:=⟨_,rfl⟩
 have r1:=h.putRow zC8 k 0 zQ (⟨y.1.id,o.1.kind,o.1.addr,o.1.many,o.1.wrap,[],[]⟩,o.2) (.int .i64 y.1.id) hk (by omega) (by rw[←ho];rfl);have r2:=r1.putRow zC8 k 1 zQ (⟨y.1.id,y.1.kind,o.1.addr,o.1.many,o.1.wrap,[],[]⟩,o.2) (.int .i64 y.1.kind) (hk1 _) (by omega) (by rw[hg1];rfl);rw[List.set_set]at r2;have r3:=r2.putRow zC8 k 2 zQ (⟨y.1.id,y.1.kind,y.1.addr,o.1.many,o.1.wrap,[],[]⟩,o.2) (.int .i64 y.1.addr) (hk1 _) (by omega) (by rw[hg1];rfl);rw[List.set_set]at r3;have r4:=r3.putRow zC8 k 3 zQ (⟨y.1.id,y.1.kind,y.1.addr,y.1.many,o.1.wrap,[],[]⟩,o.2) (.int .i64 y.1.many) (hk1 _) (by omega) (by rw[hg1];rfl);rw[List.set_set]at r4;have r5:=r4.putRow zC8 k 4 zQ (⟨y.1.id,y.1.kind,y.1.addr,y.1.many,y.1.wrap,[],[]⟩,o.2) (.bool y.1.wrap) (hk1 _) (by omega) (by rw[hg1];rfl);rw[List.set_set]at r5;have r6:=r5.putRow zC8 k 5 zQ (⟨y.1.id,y.1.kind,y.1.addr,y.1.many,y.1.wrap,[],[]⟩,y.2.1,o.2.2) y.2.1 (hk1 _) (by omega) (by rw[hg1];rfl);rw[List.set_set]at r6;have r7:=r6.putRow zC8 k 6 zQ y y.2.2 (hk1 _) (by omega) (by rw[hg1];rfl);rw[List.set_set]at r7;exact r7
theorem setCells_heap (g : Nat) : ∀ (cs : List Value) (w : World) (o b : Nat), b ≠ g → (w.setCells g o cs).heap[b]? = w.heap[b]?
 |[],_,_,_,_=>rfl
 |c::cs,w,o,b,h=>by
  show((w.setCell ⟨g,o,none⟩ c).setCells g (o+1) cs).heap[b]? = _;rw[setCells_heap g cs _ _ b h,Below.heap_setCell _ _ _ _ h]
theorem zB7 {α:Type} {xs:List α} {y d:α} {j:Nat} (h:j<xs.length):(xs++[y]).getD j d=xs.getD j d:=by
 simp only[List.getD];rw[List.getElem?_append_left h]
theorem zC5 {α:Type} {xs:List α} {y d:α}:(xs++[y]).getD xs.length d=y:=by simp[List.getD]
def IdxRP (p:Rq→Bool) (rs:List Rq) (w:World) (e:Ending) (w':World):Prop:=e=.returned (.int .i64 (idxP p rs))∧Below w.heap.size w w'
def HasRP (p:Rq→Bool) (rs:List Rq) (w:World) (e:Ending) (w':World):Prop:=e=.returned (.bool (rs.any p))∧Below w.heap.size w w'
theorem idxReq_any (K : FuncId) (cap : Array Value) (hK : zE4 K) (p : Rq → Bool) (v : Value) (rs : List Rq) (B : Nat) (w : World) (hv : Reqs w B v rs) (hB : B ≤ w.heap.size)
  (hf:∀(r:Rq) (u:Value) (w1:World),Below w.heap.size w w1→ReqV w1 B u r→Calls Tryz.prog K (#[u]++cap) w1 fun e w' => e=.returned (.bool (p r))∧Below w1.heap.size w1 w') :
  Calls Tryz.prog 128 #[v,.func (.func K) #[] cap] w (IdxRP p rs w):=by
 obtain⟨ao,cap', rfl,hlc,hcap,hln,hni,hr⟩:=hv.opened;have HF:=hid hf;clear hf hv;have hK2:=fun args w=>hK args w
 go_enter Tryz.func128,Tryz.ntmps128
 go_wp2_with fail
 go_loopw [8] (fun i wr=>∃k:Nat,k≤rs.length∧i=.int .i64 k∧Below w.heap.size w wr∧∀j,j<k→p (rs.getD j default)=false) (fun i _=>rs.length - (intOf i).toNat)
 case atStart=>exact⟨0,Nat.zero_le _,rfl,Below.refl _ _,by simp⟩
 case round=>
  obtain⟨k,hk,rfl,hbl,hno⟩:=hrel;have HN:=hid hno;clear hno;by_cases hlt:k<rs.length
  ·obtain⟨b,off,rfl,hb,hc⟩:=hr (by omega);obtain⟨da,dc,la,lc,hu,c0,c1,c2,c3,c4,c5,c6⟩:=hc k hlt;obtain⟨x,hx⟩:∃x,x=rs.getD k default:=⟨_,rfl⟩
   rw[←hx]at c0 c1 c2 c3 c4 c5 c6 hu;rw[←hbl.cell (p:=⟨b,_,none⟩) (Nat.lt_of_lt_of_le hb hB)]at c0 c1 c2 c3 c4 c5 c6;have HX:=hid hx;have HU:=hid (hu.below (hbl.mono hB));clear hx hc hr hu
   go_wp2_with fail
   refine(HF.out x _ _ hbl HU.out).mono ?_;rintro e w' ⟨rfl,hb'⟩;have hsz:=hbl.size;have HB:=hid (hbl.trans (hb'.mono hsz));clear hbl;rcases hp:p x with _|_
   ·have HQ:=hid (zK9 HN.out (show p (rs.getD k default)=false by rw[←HX.out];exact hp))
    go_wp2_with fail
    go_roundw
    case rel=>exact⟨k+1,by omega,by go_num,HB.out,HQ.out⟩
    case measure=>simp[intOf];omega
   ·have HQ:=hid (zM7 p rs k default hlt (by rw[←HX.out];exact hp) HN.out)
    go_wp2_with fail
    go_ret
    exact⟨by rw[HQ.out];rfl,HB.out⟩
  ·have HF2:=hid (zL8 p rs default (fun j hj=>HN.out j (by omega)))
   go_wp2_with fail
   go_ret
   exact⟨by rw[HF2.out];rfl,hbl⟩
theorem hasReq_any (K : FuncId) (cap : Array Value) (hK : zE4 K) (p : Rq → Bool) (v : Value) (rs : List Rq) (B : Nat) (w : World) (hv : Reqs w B v rs) (hB : B ≤ w.heap.size)
  (hf:∀(r:Rq) (u:Value) (w1:World),Below w.heap.size w w1→ReqV w1 B u r→Calls Tryz.prog K (#[u]++cap) w1 fun e w' => e=.returned (.bool (p r))∧Below w1.heap.size w1 w') :
  Calls Tryz.prog 77 #[v,.func (.func K) #[] cap] w (HasRP p rs w):=by
 have HA:=hid (idxP_any p rs)
 go_enter Tryz.func77,Tryz.ntmps77
 go_wp2_with fail
 refine(idxReq_any K cap hK p v rs B _ hv hB hf).mono ?_;rintro e w' ⟨rfl,hb⟩
 go_wp2_with fail
 go_ret
 exact⟨by rw[←HA.out];rfl,hb⟩
theorem runTest_any (r : Rq) (u : Value) (B : Nat) (w : World) (hu : ReqV w B u r) (hB : B ≤ w.heap.size) :
  Calls Tryz.prog 78 #[u] w fun e w' => e=.returned (.bool (!reqOk r))∧Below w.heap.size w w':=by
 have HU:=hid hu;obtain⟨dv,lv,rfl,k1,k2,_⟩:=hu;obtain⟨da,dc,rfl,_⟩:=k1.opened;obtain⟨la,lc,rfl,_⟩:=k2.opened;rcases h:reqOk r with _|_
 all_goals
  have HR:=hid h;clear h
  go_enter Tryz.func78,Tryz.ntmps78
  go_wp2_with (first|(go_at_call 48;go_loud ((with_reducible refine(implReqOk_any _ r B _ (HU.out.below ((Below.refl _ _).alloc hB _)) (by simp;omega)).mono ?_);rw[HR.out];rintro e w1 ⟨rfl,hb1⟩)))
  go_ret
  exact⟨rfl,((Below.refl _ _).alloc (Nat.le_refl _) _).trans (hb1.mono (by simp))⟩
def rowR (x:Int×Int×Value):List Value:=[.int .i64 x.1,.int .i64 x.2.1,x.2.2]
theorem zM4 (x:Int×Int×Value):(rowR x).length=3:=rfl
def zR:Int×Int×Value:=(0,0,.slice none 0 0)
def zD1 (out:List Rs) (ds:List Value):List (Int×Int×Value):=List.zipWith (fun x d=>(x.id,x.code,d)) out ds
theorem mkRows_len (out:List Rs) (ds:List Value) (h:ds.length=out.length):(zD1 out ds).length=out.length:=by simp[zD1,h]
structure RunI (w:World) (base S gw ow cw gh oh ch g n:Nat) (ws hs:List Int) (out:List Rs) (ds:List Value):Prop where
 at_:AtmAt w base S gw ow cw gh oh ch ws hs
 rows:Owns w base 63 3 rowR (.slice (some ⟨g,0,none⟩) n n) (zD1 out ds++List.replicate (n - out.length) zR)
 len:ds.length=out.length
 le:out.length≤n
 data:∀j,j<out.length→Owns w base 3 1 rowI (ds.getD j undef) (out.getD j default).data
 ng:g≠gw∧g≠gh∧g≠S
 ap:List.Pairwise Apart (.slice (some ⟨gw,ow,none⟩) 64 cw::.slice (some ⟨gh,oh,none⟩) 6 ch::.slice (some ⟨g,0,none⟩) n n::ds)
def AtmRunP (x:List Int×List Int×List Rs) (w:World) (e:Ending) (w':World):Prop :=
 ∃ wv hv dv ds, e = .returned (.tuple #[.agg #[wv, hv], dv]) ∧ Owns w' w.heap.size 3 1 rowI wv x.1 ∧ Owns w' w.heap.size 3 1 rowI hv x.2.1 ∧ Owns w' w.heap.size 63 3 rowR dv (zD1 x.2.2 ds) ∧ ds.length = x.2.2.length ∧
  (∀j,j<x.2.2.length→Owns w' w.heap.size 3 1 rowI (ds.getD j undef) (x.2.2.getD j default).data)∧List.Pairwise Apart (wv::hv::dv::ds)∧Below w.heap.size w w'
def RnBox (w:World) (g:Nat) (wv hv:Value):Prop :=
 (w.cell? ⟨g, 0, none⟩ = some wv ∧ w.cell? ⟨g, 1, none⟩ = some hv) ∧
  (w.cell? ⟨g+1,0,none⟩=some (.slice none 0 0)∧w.cell? ⟨g+1,1,none⟩=some (.slice none 0 0)∧w.frozen? ⟨g+1,0,none⟩=false∧w.frozen? ⟨g+1,1,none⟩=false)
theorem RnBox.below {w w':World} {g C:Nat} {wv hv:Value} (h:RnBox w g wv hv) (hb:Below C w w') (hg:g+1<C):RnBox w' g wv hv:=by
 obtain⟨⟨a,b⟩,⟨d,e,f,i⟩⟩:=h;refine⟨⟨?_,?_⟩,⟨?_,?_,?_,?_⟩⟩
 ·rw[hb.cell (by show g<C;omega)];exact a
 ·rw[hb.cell (by show g<C;omega)];exact b
 ·rw[hb.cell (by show g+1<C;omega)];exact d
 ·rw[hb.cell (by show g+1<C;omega)];exact e
 ·rw[hb.frozen (by show g+1<C;omega)];exact f
 ·rw[hb.frozen (by show g+1<C;omega)];exact i
theorem RnBox.lt {w:World} {g:Nat} {wv hv:Value} (h:RnBox w g wv hv):g+1<w.heap.size:=World.block_lt_of_cell? w _ h.2.1
theorem rn_open (w:World) (wv hv:Value) (T V:TypeId):RnBox ((w.alloc (.cells #[wv,hv] T)).alloc (.cells #[.slice none 0 0,.slice none 0 0] V)) w.heap.size wv hv:=by
 refine⟨⟨?_,?_⟩,⟨?_,?_,?_,?_⟩⟩ <;> simp[go_sem]
theorem run_take {ms : List MR} {who : Int} {rs : List Rq} {ws hs : List Int} {k : Nat} (hk : k < rs.length) :
  zB2 ms who ws hs (rs.take (k + 1)) = ((doReq ms (zB2 ms who ws hs (rs.take k)).1 (zB2 ms who ws hs (rs.take k)).2.1 who (rs.getD k default)).1, (doReq ms (zB2 ms who ws hs (rs.take k)).1 (zB2 ms who ws hs (rs.take k)).2.1 who (rs.getD k default)).2.1,
   (zB2 ms who ws hs (rs.take k)).2.2++[(doReq ms (zB2 ms who ws hs (rs.take k)).1 (zB2 ms who ws hs (rs.take k)).2.1 who (rs.getD k default)).2.2]):=by
 have:rs.take (k+1)=rs.take k++[rs.getD k default]:=by
  rw[List.take_succ_eq_append_getElem hk];simp[List.getD,hk]
 rw[this,run_app];simp[zB2]
theorem mkRows_snoc {out:List Rs} {ds:List Value} (h:ds.length=out.length) (x:Rs) (d:Value):zD1 (out++[x]) (ds++[d])=zD1 out ds++[(x.id,x.code,d)]:=by
 unfold zD1;rw[List.zipWith_append h.symm];rfl
theorem fill_next {α:Type} {xs:List α} {n:Nat} {z y:α} (h:xs.length<n):(xs++List.replicate (n - xs.length) z).set xs.length y=xs++[y]++List.replicate (n - (xs.length+1)) z:=by
 rw[List.set_append_right _ _ (Nat.le_refl _),Nat.sub_self,show n - xs.length=(n - (xs.length+1))+1 from by omega,List.replicate_succ,List.set_cons_zero,List.append_assoc]
 rfl
theorem pair_snoc {α:Type} {R:α→α→Prop} {xs:List α} {y:α} (h:xs.Pairwise R) (hy:∀x∈xs,R x y):(xs++[y]).Pairwise R:=by
 rw[List.pairwise_append];exact⟨h,List.pairwise_singleton _ _,fun a ha b hb=>by simp only[List.mem_singleton]at hb;subst hb;exact hy a ha⟩
theorem RunI.lts {w : World} {base S gw ow cw gh oh ch g n : Nat} {ws hs : List Int} {out : List Rs} {ds : List Value} (h : RunI w base S gw ow cw gh oh ch g n ws hs out ds) :
  ∀v∈((.slice (some ⟨gw,ow,none⟩) 64 cw::.slice (some ⟨gh,oh,none⟩) 6 ch::.slice (some ⟨g,0,none⟩) n n::ds):List Value),∀k,v.ownBlock=some k→k<w.heap.size:=by
 intro v hv k hk;simp only[List.mem_cons]at hv;rcases hv with rfl|rfl|rfl|hv
 ·exact(OwnR.lt h.at_.ww k hk).2
 ·exact(OwnR.lt h.at_.hh k hk).2
 ·exact(OwnR.lt h.rows k hk).2
 ·obtain⟨j,hj,rfl⟩:=List.mem_iff_getElem.1 hv;have:=h.data j (by rw[←h.len];exact hj);have e:ds.getD j undef=ds[j]:=by simp[List.getD,hj]
  rw[e]at this;exact(OwnR.lt this k hk).2
theorem RunI.dApart {w : World} {base S gw ow cw gh oh ch g n : Nat} {ws hs : List Int} {out : List Rs} {ds : List Value} (h : RunI w base S gw ow cw gh oh ch g n ws hs out ds) {j : Nat} (hj : j < out.length) :
  ∀k,(ds.getD j undef).ownBlock=some k→k≠gw∧k≠gh∧k≠g∧k<w.heap.size:=by
 intro k hk;have hjd:j<ds.length:=by rw[h.len];exact hj
 have hm:ds.getD j undef∈ds:=by simp[List.getD,hjd]
 have ap:=h.ap;simp only[List.pairwise_cons]at ap;obtain⟨a1,a2,a3,_⟩:=ap;have e1:=a1 _ (List.mem_cons_of_mem _ (List.mem_cons_of_mem _ hm)) gw rfl;have e2:=a2 _ (List.mem_cons_of_mem _ hm) gh rfl;have e3:=a3 _ hm g rfl;rw[hk]at e1 e2 e3;simp only[ne_eq,Option.some.injEq]at e1 e2 e3;exact⟨e1,e2,e3,(OwnR.lt (h.data j hj) k hk).2⟩
theorem RunI.below {w w':World} {base S gw ow cw gh oh ch g n:Nat} {ws hs:List Int} {out:List Rs} {ds:List Value} (h:RunI w base S gw ow cw gh oh ch g n ws hs out ds) (hb:Below w.heap.size w w'):RunI w' base S gw ow cw gh oh ch g n ws hs out ds :=
 ⟨h.at_.kept hb (Nat.le_refl _),h.rows.below hb,h.len,h.le,fun j hj=>(h.data j hj).below hb,h.ng,h.ap⟩
theorem RunI.step {w w' : World} {base S gw ow cw gh oh ch g n k : Nat} {ws hs : List Int} {out : List Rs} {ds : List Value} {ws' hs' : List Int} {x : Rs} {d : Value} (h : RunI w base S gw ow cw gh oh ch g n ws hs out ds) (hk0 : out.length = k) (hn : k < n)
    (ht:Touch2 gw gh w w') (ha:AtmAt w' base S gw ow cw gh oh ch ws' hs') (hd:Owns w' w.heap.size 3 1 rowI d x.data) :
    RunI (((w'.setCell ⟨g,k * 3,none⟩ (.int .i64 x.id)).setCell ⟨g,k * 3+1,none⟩ (.int .i64 x.code)).setCell ⟨g,k * 3+2,none⟩ d) base S gw ow cw gh oh ch g n ws' hs' (out++[x]) (ds++[d]):=by
  subst hk0;obtain⟨n1,n2,n3⟩:=h.ng;have hglt:=OwnR.lt h.rows g rfl;have hbw:base≤w.heap.size:=by omega
  have hdlt:∀k,d.ownBlock=some k→w.heap.size≤k:=fun k hk=>(OwnR.lt hd k hk).1
  have hrl:(zD1 out ds).length=out.length:=mkRows_len _ _ h.len;have hset:∀k,k≠g→(((w'.setCell ⟨g,out.length * 3,none⟩ (.int .i64 x.id)).setCell ⟨g,out.length * 3+1,none⟩ (.int .i64 x.code)).setCell ⟨g,out.length * 3+2,none⟩ d).heap[k]? = w'.heap[k]?:=by
    intro k hk;rw[Below.heap_setCell _ _ _ _ hk,Below.heap_setCell _ _ _ _ hk,Below.heap_setCell _ _ _ _ hk]
  have hr0:Owns w' base 63 3 rowR (.slice (some ⟨g,0,none⟩) n n) (zD1 out ds++List.replicate (n - out.length) zR) :=
    h.rows.kept fun k hk=>by
      simp only[Value.ownBlock,Option.some.injEq]at hk;subst hk;exact ht.block _ hglt.2 n1 n2
  have hk:out.length<(zD1 out ds++List.replicate (n - out.length) zR).length:=by simp[hrl];omega
  have hz:(zD1 out ds++List.replicate (n - out.length) zR).getD out.length zR=zR:=by
    simp only[List.getD];rw[List.getElem?_append_right (by omega),hrl,Nat.sub_self,List.getElem?_replicate,if_pos (by omega)];rfl
  have r1:=hr0.putRow zM4 out.length 0 zR (x.id,0,.slice none 0 0) (.int .i64 x.id) hk (by omega) (by rw[hz];rfl);have hk1:∀y,out.length<((zD1 out ds++List.replicate (n - out.length) zR).set out.length y).length:=fun y=>by simpa using hk
  have hg1:∀y,((zD1 out ds++List.replicate (n - out.length) zR).set out.length y).getD out.length zR=y:=fun y=>by simp[List.getD,List.getElem?_set_self hk]
  have r2:=r1.putRow zM4 out.length 1 zR (x.id,x.code,.slice none 0 0) (.int .i64 x.code) (hk1 _) (by omega) (by rw[hg1];rfl);rw[List.set_set]at r2;have r3:=r2.putRow zM4 out.length 2 zR (x.id,x.code,d) d (hk1 _) (by omega) (by rw[hg1];rfl);rw[List.set_set]at r3;simp only[Nat.zero_add,Nat.add_zero]at r3;refine⟨?_,?_,by simp[h.len],by simp;omega,?_,h.ng,?_⟩
  · have hs0 := ha.s0; have hs1 := ha.s1
    exact { ha with s0 := by simp only [World.cell?] at hs0 ⊢; rw [hset S (Ne.symm n3)]; exact hs0
                    s1:=by simp only[World.cell?]at hs1 ⊢;rw[hset S (Ne.symm n3)];exact hs1
                    ww:=ha.ww.kept fun k hk=>by simp only[Value.ownBlock,Option.some.injEq]at hk;exact hset k (by omega)
                    hh:=ha.hh.kept fun k hk=>by simp only[Value.ownBlock,Option.some.injEq]at hk;exact hset k (by omega) }
  · rw [mkRows_snoc h.len, show (out ++ [x]).length = (zD1 out ds).length + 1 from by simp [hrl], ← fill_next (by rw [hrl]; exact hn), hrl]
    exact r3
  · intro j hj
    simp only[List.length_append,List.length_singleton]at hj;by_cases hjo:j<out.length
    · have e1 : (ds ++ [d]).getD j undef = ds.getD j undef := by simp only [List.getD]; rw [List.getElem?_append_left (by rw [h.len]; exact hjo)]
      have e2:(out++[x]).getD j default=out.getD j default:=by simp only[List.getD];rw[List.getElem?_append_left hjo]
      rw[e1,e2];refine(h.data j hjo).kept fun k hk=>?_
      obtain⟨q1,q2,q3,q4⟩:=h.dApart hjo k hk;rw[hset k q3];exact ht.block _ q4 q1 q2
    · have hjo' : j = out.length := by omega
      subst hjo';have e1:(ds++[d]).getD out.length undef=d:=by simp only[List.getD];rw[List.getElem?_append_right (by rw[h.len];omega),h.len];simp
      have e2:(out++[x]).getD out.length default=x:=by simp[List.getD]
      rw[e1,e2];exact(hd.rebase hbw).kept fun k hk=>hset k (by have:=hdlt k hk;omega)
  · rw [show (Value.slice (some ⟨gw, ow, none⟩) 64 cw :: .slice (some ⟨gh, oh, none⟩) 6 ch :: .slice (some ⟨g, 0, none⟩) n n :: (ds ++ [d])) = ((.slice (some ⟨gw, ow, none⟩) 64 cw :: .slice (some ⟨gh, oh, none⟩) 6 ch :: .slice (some ⟨g, 0, none⟩) n n :: ds) ++ [d]) from rfl]
    exact pair_snoc h.ap fun v hv=>Apart.of_lt (h.lts v hv) hdlt
theorem RunI.room {w w' : World} {base S gw ow cw gh oh ch g n k : Nat} {ws hs : List Int} {out : List Rs} {ds : List Value} (h : RunI w base S gw ow cw gh oh ch g n ws hs out ds) (hk0 : out.length = k) (hn : k < n) (ht : Touch2 gw gh w w') :
  w'.cell? ⟨g, k * 3, none⟩ = some (.int .i64 0) ∧ w'.cell? ⟨g, k * 3 + 1, none⟩ = some (.int .i64 0) ∧ w'.cell? ⟨g, k * 3 + 2, none⟩ = some (.slice none 0 0) ∧
   w'.frozen? ⟨g,k * 3,none⟩=false∧w'.frozen? ⟨g,k * 3+1,none⟩=false∧w'.frozen? ⟨g,k * 3+2,none⟩=false∧g<w'.heap.size:=by
 subst hk0;obtain⟨n1,n2,n3⟩:=h.ng;have hglt:=OwnR.lt h.rows g rfl;have hrl:(zD1 out ds).length=out.length:=mkRows_len _ _ h.len;have hr0:Owns w' base 63 3 rowR (.slice (some ⟨g,0,none⟩) n n) (zD1 out ds++List.replicate (n - out.length) zR) :=
  h.rows.kept fun k hk=>by
   simp only[Value.ownBlock,Option.some.injEq]at hk;subst hk;exact ht.block _ hglt.2 n1 n2
 have hk:out.length<(zD1 out ds++List.replicate (n - out.length) zR).length:=by simp[hrl];omega
 have hz:(zD1 out ds++List.replicate (n - out.length) zR).getD out.length zR=zR:=by
  simp only[List.getD];rw[List.getElem?_append_right (by omega),hrl,Nat.sub_self,List.getElem?_replicate,if_pos (by omega)];rfl
 have c0:=hr0.cellAt zM4 out.length 0 zR hk (by omega);have c1:=hr0.cellAt zM4 out.length 1 zR hk (by omega);have c2:=hr0.cellAt zM4 out.length 2 zR hk (by omega);rw[hz]at c0 c1 c2;simp only[Nat.zero_add,Nat.add_zero]at c0 c1 c2;exact⟨c0,c1,c2,hr0.frozenAt _,hr0.frozenAt _,hr0.frozenAt _,(OwnR.lt hr0 g rfl).2⟩
theorem RnBox.kept {w w':World} {g:Nat} {wv hv:Value} (h:RnBox w g wv hv) (hk:∀k,k≤g+1→w'.heap[k]? = w.heap[k]?):RnBox w' g wv hv:=by
 simpa only[RnBox,World.cell?,World.frozen?,hk g (by omega),hk (g+1) (by omega)]using h
theorem RunI.done {w w' : World} {S gw ow cw gh oh ch g n H : Nat} {ws hs : List Int} {out : List Rs} {ds : List Value} (h : RunI w (H + 2) S gw ow cw gh oh ch g n ws hs out ds) (hn : out.length = n) (hk : ∀ k, H + 2 ≤ k → w'.heap[k]? = w.heap[k]?) :
  Owns w' H 3 1 rowI (.slice (some ⟨gw, ow, none⟩) 64 cw) ws ∧ Owns w' H 3 1 rowI (.slice (some ⟨gh, oh, none⟩) 6 ch) hs ∧ Owns w' H 63 3 rowR (.slice (some ⟨g, 0, none⟩) n n) (zD1 out ds) ∧ ds.length = out.length ∧
   (∀j,j<out.length→Owns w' H 3 1 rowI (ds.getD j undef) (out.getD j default).data)∧List.Pairwise Apart (.slice (some ⟨gw,ow,none⟩) 64 cw::.slice (some ⟨gh,oh,none⟩) 6 ch::.slice (some ⟨g,0,none⟩) n n::ds):=by
 have kp:∀{α:Type} {e sz:Nat} {f:α→List Value} {v:Value} {xs:List α},Owns w (H+2) e sz f v xs→Owns w' H e sz f v xs:=fun ho=>(ho.kept fun k hk2=>hk k (OwnR.lt ho k hk2).1).rebase (by omega)
 have hr:=h.rows;rw[hn,Nat.sub_self,List.replicate_zero,List.append_nil]at hr;exact⟨kp h.at_.ww,kp h.at_.hh,kp hr,h.len,fun j hj=>kp (h.data j hj),h.ap⟩
end Go.Proofs.YtgkdoehkmbhfiaaGreat
