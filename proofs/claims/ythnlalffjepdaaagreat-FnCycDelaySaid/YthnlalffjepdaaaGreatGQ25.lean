/- BusAlone of the reference. -/
import Derived.Test.YthnlalffjepdaaaGreatGDy
import Derived.Test.YthnlalffjepdaaaGreatGFv
import Derived.Test.YthnlalffjepdaaaGreatGSa0
import Derived.Test.YthnlalffjepdaaaGreatGTh
set_option linter.unusedVariables false
set_option linter.unusedSimpArgs false
namespace Go.Proofs.YthnlalffjepdaaaGreat
open Go.RowKit
structure RdO (w:World) (lo:Nat) (v:Value) (qs:List Rq) (vs:List (Value×Value)):Prop where
 len:vs.length=qs.length
 rows:Owns w lo 69 7 rowQ v (zipQ qs vs)
 d:∀j,j<qs.length→Owns w lo 3 1 rowI (vs.getD j default).1 (qs.getD j default).data
 l:∀j,j<qs.length→Owns w lo 3 1 rowI (vs.getD j default).2 (qs.getD j default).lanes
theorem RdO.kept {w w':World} {lo:Nat} {v:Value} {qs:List Rq} {vs:List (Value×Value)} (h:RdO w lo v qs vs) (hk:∀k,lo≤k→k<w.heap.size→w'.heap[k]? = w.heap[k]?):RdO w' lo v qs vs :=
  { h with rows := OwnR.kept h.rows fun k hk2 => hk k (OwnR.lt h.rows k hk2).1 (OwnR.lt h.rows k hk2).2
           d:=fun j hj=>OwnR.kept (h.d j hj) fun k hk2=>hk k (OwnR.lt (h.d j hj) k hk2).1 (OwnR.lt (h.d j hj) k hk2).2
           l:=fun j hj=>OwnR.kept (h.l j hj) fun k hk2=>hk k (OwnR.lt (h.l j hj) k hk2).1 (OwnR.lt (h.l j hj) k hk2).2 }
theorem RdO.below {w w':World} {lo:Nat} {v:Value} {qs:List Rq} {vs:List (Value×Value)} (h:RdO w lo v qs vs) (hb:Below w.heap.size w w'):RdO w' lo v qs vs:=h.kept fun k _ hk=>hb.block k hk
theorem RdO.rebase {w:World} {lo lo':Nat} {v:Value} {qs:List Rq} {vs:List (Value×Value)} (h:RdO w lo v qs vs) (hl:lo' ≤ lo):RdO w lo' v qs vs :=
 { h with rows:=OwnR.rebase h.rows hl,d:=fun j hj=>OwnR.rebase (h.d j hj) hl,l:=fun j hj=>OwnR.rebase (h.l j hj) hl }
theorem RdO.keptT {w w':World} {lo:Nat} {v:Value} {qs:List Rq} {vs:List (Value×Value)} (h:RdO w lo v qs vs) (hk:∀(k:Nat) (cs:Array Value) (T:TypeId),w.heap[k]? = some (Obj.cells cs T (0,0))→(T=69∨T=3)→w'.heap[k]? = w.heap[k]?):RdO w' lo v qs vs:=by
 have key:∀{α:Type} {f:α→List Value} {e sz:Nat} {u:Value} {xs:List α},Owns w lo e sz f u xs→(e=69∨e=3)→Owns w' lo e sz f u xs:=by
  intro α f e sz u xs ho he;refine OwnR.kept ho fun k hk2=>?_
  obtain⟨_,h2⟩:=ho;rcases h2 with⟨rfl,_⟩|⟨g,off,cap,cur,rfl,_,hh,_⟩
  ·simp[Value.ownBlock]at hk2
  ·simp only[Value.ownBlock,Option.some.injEq]at hk2;subst hk2;exact hk _ _ _ hh he
 exact { h with rows:=key h.rows (.inl rfl),d:=fun j hj=>key (h.d j hj) (.inr rfl),l:=fun j hj=>key (h.l j hj) (.inr rfl) }
theorem RdO.reqs {w:World} {lo:Nat} {v:Value} {qs:List Rq} {vs:List (Value×Value)} (h:RdO w lo v qs vs) (hn:qs.length≤1048576) (hq:∀q∈qs,RqFit q):Reqs w w.heap.size v qs:=by
 have hr:=h.rows;have hl1:(zipQ qs vs).length=qs.length:=zipQ_len h.len;have key:=reqs_of (B:=w.heap.size) (P:=(·<w.heap.size)) (hr.arrD (P:=(·<w.heap.size)) (fun k hk=>(OwnR.lt hr k hk).2) rowQ_len (by omega)) (fun y hy=>?_) (fun b hb=>hb)
 ·have e:(zipQ qs vs).map (·.1)=qs:=by
   unfold zipQ;rw[List.map_zipWith];apply List.ext_getElem
   ·simp[h.len]
   ·intro i h1 h2;simp
  rw[e]at key;exact key
 ·obtain⟨k,hk,rfl⟩:=List.mem_iff_getElem.1 hy;have hk':k<qs.length:=by omega
  have e:(zipQ qs vs)[k]=(qs.getD k default,vs.getD k default):=by
   rw[←zipQ_get h.len hk' zQ];simp[List.getD,hk]
  rw[e];obtain⟨⟨b1,b2⟩,i1,i2,i3⟩:=hq _ (getD_mem (d:=default) hk');exact⟨(h.d k hk').intsD (fun b hb=>(OwnR.lt (h.d k hk') b hb).2) (by omega) i1,(h.l k hk').intsD (fun b hb=>(OwnR.lt (h.l k hk') b hb).2) (by omega) i2,i3⟩
theorem RdO.snoc {w w':World} {lo:Nat} {v v' d l:Value} {qs:List Rq} {vs:List (Value×Value)} {r:Rq} (h:RdO w lo v qs vs) (hr:Owns w' lo 69 7 rowQ v' (zipQ qs vs++[(r,d,l)])) (hk:∀(k:Nat) (cs:Array Value) (T:TypeId),w.heap[k]? = some (Obj.cells cs T (0,0))→T=3→w'.heap[k]? = w.heap[k]?) (hd:Owns w' lo 3 1 rowI d r.data) (hl:Owns w' lo 3 1 rowI l r.lanes):RdO w' lo v' (qs++[r]) (vs++[(d,l)]):=by
 have key:∀{u:Value} {xs:List Int},Owns w lo 3 1 rowI u xs→Owns w' lo 3 1 rowI u xs:=by
  intro u xs ho;refine OwnR.kept ho fun k hk2=>?_
  obtain⟨_,h2⟩:=ho;rcases h2 with⟨rfl,_⟩|⟨g,off,cap,cur,rfl,_,hh,_⟩
  ·simp[Value.ownBlock]at hk2
  ·simp only[Value.ownBlock,Option.some.injEq]at hk2;subst hk2;exact hk _ _ _ hh rfl
 refine⟨by simp[h.len],?_,fun j hj=>?_,fun j hj=>?_⟩
 ·have e:zipQ (qs++[r]) (vs++[(d,l)])=zipQ qs vs++[(r,d,l)]:=by
   unfold zipQ;rw[List.zipWith_append h.len.symm];rfl
  rw[e];exact hr
 ·by_cases e:j<qs.length
  ·rw[getD_snoc_lt e,getD_snoc_lt (by rw[h.len];exact e)];exact key (h.d j e)
  ·obtain rfl:j=qs.length:=by simp at hj;omega
   rw[getD_snoc_eq,←h.len,getD_snoc_eq];exact hd
 ·by_cases e:j<qs.length
  ·rw[getD_snoc_lt e,getD_snoc_lt (by rw[h.len];exact e)];exact key (h.l j e)
  ·obtain rfl:j=qs.length:=by simp at hj;omega
   rw[getD_snoc_eq,←h.len,getD_snoc_eq];exact hl
end Go.Proofs.YthnlalffjepdaaaGreat
