/- Slices from k on; two lists of what came of things, one behind the other; what came of things, held side by side. -/
import Derived.Test.YtgkdoehkmbhfiaaGreatRCf
import Derived.Test.YtgkdoehkmbhfiaaGreatRLb
import Derived.Test.YtgkdoehkmbhfiaaGreatRDo4
import Derived.Test.YtgkdoehkmbhfiaaGreatRD1
import Derived.Deep.Cut
import Derived.Deep.CutRange
import Derived.Deep.CutBlock
import Derived.Outline
import Derived.Deep.RegionHeld3
set_option linter.unusedVariables false
set_option linter.unusedSimpArgs false
set_option maxHeartbeats 16000000
namespace Go.Proofs.YtgkdoehkmbhfiaaGreat
open Go.RowKit
def swapC (c:Cfg) (who other:Nat):Cfg:=⟨c.ms,c.lat,((zC7 c.progs who 3).set other (c.prog who)).set who []⟩
section
variable {c : Cfg} {who other : Nat}
theorem swapC_prog (hb:Bus c) (hw:who<3) (ho:other<3) {i:Nat} (hi:i<3):(swapC c who other).prog i=if i=who then[] else if i=other then c.prog who else[]:=by
 have hl:(zC7 c.progs who 3).length=3:=(zB3 _ _ _).trans hb.progs;show(((zC7 c.progs who 3).set other (c.prog who)).set who []).getD i []=_;by_cases e:i=who
 ·subst e;rw[if_pos rfl,zF2 (by rw[List.length_set];omega)]
 ·rw[if_neg e,zD0 e];by_cases e2:i=other
  ·subst e2;rw[if_pos rfl,zF2 (by omega)]
  ·rw[if_neg e2,zD0 e2];have:=zJ4 hb who hi;rw[if_neg e]at this;exact this
theorem swapC_len (hb:Bus c):(swapC c who other).progs.length=3:=by
 show(((zC7 c.progs who 3).set other (c.prog who)).set who []).length=3;rw[List.length_set,List.length_set];exact(zB3 _ _ _).trans hb.progs
theorem swapC_mem (hb:Bus c) (hw:who<3) (ho:other<3):∀p∈(swapC c who other).progs,p.length≤12∧∀r∈p,reqOk r=true:=by
 intro p hp;have hl:=swapC_len (who:=who) (other:=other) hb;obtain⟨i,hi,rfl⟩:=List.mem_iff_getElem.1 hp;have e:(swapC c who other).progs[i]=(swapC c who other).prog i:=by unfold Cfg.prog;simp[List.getD,hi]
 rw[e,swapC_prog hb hw ho (by omega)]
 split
 ·exact⟨by simp,fun r hr=>by simp at hr⟩
 ·split
  ·exact⟨hb.twelve hw,hb.reqs _ (hb.prog hw)⟩
  ·exact⟨by simp,fun r hr=>by simp at hr⟩
theorem Bus.swap (hb:Bus c) (hw:who<3) (ho:other<3):Bus (swapC c who other) :=
 ⟨hb.ms,hb.lat,hb.lat3,swapC_len hb,fun p hp=>(swapC_mem hb hw ho p hp).1,fun p hp=>(swapC_mem hb hw ho p hp).2⟩
theorem swap_twin (hb:Bus c) (hw:who<3) (ho:other<3) (hne:other≠who):Twin (aloneC c who) (swapC c who other) who other:=by
 refine⟨rfl,rfl,?_,aloneC_lone hb hw,ho,fun w hw2 hn=>?_⟩
 ·rw[zJ4 hb who hw,if_pos rfl,swapC_prog hb hw ho ho,if_neg hne,if_pos rfl]
 ·rw[swapC_prog hb hw ho hw2,if_neg hn]
  split <;> rfl
theorem tN_get {l l':List TJ} (h:l.map tN=l'.map tN) (t:Nat):(l.getD t default).n=(l'.getD t default).n∧(l.getD t default).rsp=(l'.getD t default).rsp:=by
 have e:∀l:List TJ,(l.map tN).getD t (tN default)=tN (l.getD t default):=fun l=>by
  simp only[List.getD,List.getElem?_map];cases l[t]? <;> rfl
 have h1:=e l;rw[h,e l']at h1;exact⟨(congrArg Prod.fst h1).symm,(congrArg Prod.snd h1).symm⟩
theorem tN_len {l l':List TJ} (h:l.map tN=l'.map tN):l.length=l'.length:=by have:=congrArg List.length h;simpa using this
theorem swap_bus (hb : Bus c) (hw : who < 3) (ho : other < 3) {w : World} {lo0 : Nat} {ma : Option Addr} {mk lb lo lc pb : Nat} {us : List Value} {L : Nat → Nat} (h1 : Maps w w.heap.size (.slice ma c.ms.length mk) c.ms) (ha : ∀ k, (Value.slice ma c.ms.length mk).ownBlock = some k → k ≠ pb) (h2 : Ints w w.heap.size (.slice (some ⟨lb, lo, none⟩) 4 lc) (c.lat.map fun (n : Nat) => (n : Int))) (hl : lb ≠ pb) (h3 : PsO w lo0 pb 3 us (zC7 c.progs who 3) L) :
  ∃ a cap x, w.cell? ⟨pb, who, none⟩ = some (.slice a (c.prog who).length cap) ∧ w.cell? ⟨pb, other, none⟩ = some x ∧ (∀ i, w.frozen? ⟨pb, i, none⟩ = false) ∧ ∀ W, W = ((w.setCell ⟨pb, other, none⟩ (.slice a (c.prog who).length cap)).drew.alloc (.cells #[] 52)).setCell ⟨pb, who, none⟩ (.slice (some ⟨w.heap.size, 0, none⟩) 0 0) →
   BusV W W.heap.size (.agg #[.slice ma c.ms.length mk,.slice (some ⟨lb,lo,none⟩) 4 lc,.slice (some ⟨pb,0,none⟩) 3 3]) (swapC c who other)∧Below lo0 w W∧(∀b,b≠pb→b<w.heap.size→W.heap[b]? = w.heap[b]?):=by
 have hlen:(zC7 c.progs who 3).length=3:=(zB3 _ _ _).trans hb.progs;have hget:∀i,i<3→(zC7 c.progs who 3).getD i []=if i=who then c.prog who else[]:=fun i hi=>zJ4 hb who hi
 have hpg:=fun(j:Nat) (hj:j<3)=>h3.pg j (by rw[hlen];exact hj)
 obtain⟨a,cap,hu,hcap,_⟩:=(hpg who hw).shape;rw[hget who hw,if_pos rfl]at hu hcap;have ho3:OwnR w lo0 53 1 (.slice (some ⟨pb,0,none⟩) 3 3) 3 (us.flatMap row1):=by
  have:=h3.outer;unfold Owns at this
  rwa [h3.len]at this
 have hcell:∀i,i<3→w.cell? ⟨pb,i,none⟩=some (us.getD i vnil):=fun i hi=>by
  have hwl:i<us.length:=by rw[h3.len];exact hi
  have:=OwnR.get ho3 i (by omega);rw[Nat.zero_add]at this
  rw [this, show (us.flatMap row1)[i]? = (row1 us[i])[0]? from by
   have:=zG7 zE4 us i 0 hwl (by omega);rw[Nat.mul_one,Nat.add_zero]at this;rw[this];simp[List.getD,hwl]]
  simp[row1,List.getD,hwl]
 have hpb:pb<w.heap.size:=(OwnR.lt ho3 pb rfl).2;have hplo:lo0≤pb:=(OwnR.lt ho3 pb rfl).1;refine⟨a,cap,us.getD other vnil,by rw[hcell who hw,hu],hcell other ho,fun i=>OwnR.unfrozen ho3 i,fun W hW=>?_⟩;have hk:∀b,b≠pb→b<w.heap.size→W.heap[b]? = w.heap[b]?:=fun b hne hlt=>by
  rw[hW,Below.heap_setCell _ _ _ _ (show b≠pb from hne)];exact(((Below.refl _ (w.setCell ⟨pb,other,none⟩ (.slice a (c.prog who).length cap)).drew).alloc (Nat.le_refl _) (.cells #[] 52)).block b (show b<(w.setCell ⟨pb,other,none⟩ (.slice a (c.prog who).length cap)).heap.size by simpa using hlt)).trans (Below.heap_setCell _ _ _ _ (show b≠pb from hne))
 have hz:W.heap.size=w.heap.size+1:=by rw[hW];simp[World.drew]
 have hbl:Below lo0 w W:=by
  rw[hW];exact((((Below.refl _ _).setCell (p:=⟨pb,_,none⟩) hplo _).drew).alloc (show lo0≤(w.setCell ⟨pb,other,none⟩ (.slice a (c.prog who).length cap)).heap.size by simp;omega) _).setCell (p:=⟨pb,_,none⟩) hplo _
 refine⟨?_,hbl,hk⟩
 have hpk : ∀ j, j < 3 → PgO W (L j) (L (j + 1)) (us.getD j vnil) ((zC7 c.progs who 3).getD j []) := fun j hj => (hpg j hj).kept fun k h1 _ hlt => hk k (by
  have:=h3.le0 j (by rw[hlen];omega);have:=h3.pbl;omega) hlt
 have hrq:∀j,j<3→Reqs W W.heap.size (us.getD j vnil) ((zC7 c.progs who 3).getD j []):=fun j hj=>by
  have hB:=hb.alone who;have hp:(zC7 c.progs who 3).getD j []∈(aloneC c who).progs:=zB8 (by rw[show(aloneC c who).progs.length=3 from hlen];exact hj);exact(hpk j hj).reqs (by have:=hB.most _ hp;omega) fun q hq=>rqFit_ok (hB.reqs _ hp q hq)
 have o1:=h3.outer.putRow zE4 other 0 vnil (.slice a (c.prog who).length cap) (.slice a (c.prog who).length cap) (by rw[h3.len];omega) (by omega) rfl;simp only[Nat.zero_add,Nat.mul_one,Nat.add_zero]at o1;have o1:Owns (w.setCell ⟨pb,other,none⟩ (.slice a (c.prog who).length cap)).drew lo0 53 1 row1 (.slice (some ⟨pb,0,none⟩) 3 3) (us.set other (.slice a (c.prog who).length cap)):=o1;have o2:=(o1.allocd (.cells #[] 52)).putRow zE4 who 0 vnil (.slice (some ⟨w.heap.size,0,none⟩) 0 0) (.slice (some ⟨w.heap.size,0,none⟩) 0 0) (by rw[List.length_set,h3.len];omega) (by omega) rfl;simp only[Nat.zero_add,Nat.mul_one,Nat.add_zero]at o2;rw[←hW]at o2;have keep:∀{v:Value} {sz:Nat} {rows:List (List Value)},Arr w w.heap.size sz v rows→(∀k,v.ownBlock=some k→k≠pb)→Arr W W.heap.size sz v rows:=fun {v sz rows} h hn=>by
  obtain⟨ao,cap', e,g1,g2,g3,g4,g5⟩:=h;subst e;refine⟨_,_,rfl,g1,g2,g3,g4,fun hn2=>?_⟩;obtain⟨b,off,rfl,hb2,hc⟩:=g5 hn2;have hne:=hn b rfl;refine⟨b,off,rfl,by omega,fun t ht j hj=>?_⟩;rw[←hc t ht j hj];simp only[World.cell?,hk b hne hb2]
 refine BusI.toV ⟨_,_,_,rfl,⟨keep h1.1 ha,h1.2⟩,⟨keep h2.1 (fun k hk2 e=>hl (by simp[Value.ownBlock]at hk2;omega)),h2.2⟩,?_⟩;refine⟨(us.set other (.slice a (c.prog who).length cap)).set who (.slice (some ⟨w.heap.size,0,none⟩) 0 0),?_,by rw[List.length_set,List.length_set,h3.len];exact(swapC_len hb).symm,fun k hk2 d=>?_⟩
 ·have:=o2.arr zE4 (by rw[List.length_set,List.length_set,h3.len];omega);have e:((us.set other (.slice a (c.prog who).length cap)).set who (.slice (some ⟨w.heap.size,0,none⟩) 0 0)).map (fun u=>u.cells.toList)=((us.set other (.slice a (c.prog who).length cap)).set who (.slice (some ⟨w.heap.size,0,none⟩) 0 0)).map row1:=by
   apply List.map_congr_left;intro u hu2;rcases List.mem_or_eq_of_mem_set hu2 with h|rfl
   ·rcases List.mem_or_eq_of_mem_set h with h|rfl
    ·obtain⟨i,hi,rfl⟩:=List.mem_iff_getElem.1 h;obtain⟨a', c', e,_⟩:=(hpg i (by have:=h3.len;omega)).shape;have e2:us.getD i vnil=us[i]:=by simp[List.getD,hi]
     rw[e2]at e;rw[e];rfl
    ·rfl
   ·rfl
  rw[e];exact this
 ·have hk3:k<3:=by rw[swapC_len hb]at hk2;exact hk2
  have hkl:k<us.length:=by rw[h3.len];exact hk3
  have e2:(swapC c who other).progs.getD k d=(swapC c who other).prog k:=by unfold Cfg.prog;simp[List.getD,hk2]
  rw[e2,swapC_prog hb hw ho hk3];by_cases e:k=who
  ·subst e;rw[if_pos rfl];have e3:((us.set other (.slice a (c.prog k).length cap)).set k (.slice (some ⟨w.heap.size,0,none⟩) 0 0)).getD k undef=.slice (some ⟨w.heap.size,0,none⟩) 0 0:=by simp[List.getD,hkl]
   rw[e3];exact⟨[],⟨some ⟨w.heap.size,0,none⟩,0,rfl,Nat.le_refl _,by omega,by simp,nofun,fun h=>absurd rfl h⟩,rfl,fun k hk=>absurd hk (Nat.not_lt_zero _)⟩
  ·rw[if_neg e];by_cases e4:k=other
   ·subst e4;rw[if_pos rfl];have hne:¬who=k:=fun h=>e h.symm
    have e3:((us.set k (.slice a (c.prog who).length cap)).set who (.slice (some ⟨w.heap.size,0,none⟩) 0 0)).getD k undef=.slice a (c.prog who).length cap:=by simp[List.getD,hkl,List.getElem?_set,hne]
    rw[e3];have:=hrq who hw;rw[hu,hget who hw,if_pos rfl]at this;exact this
   ·rw[if_neg e4];have hne:¬who=k:=fun h=>e h.symm
    have hne2:¬other=k:=fun h=>e4 h.symm
    have e3:((us.set other (.slice a (c.prog who).length cap)).set who (.slice (some ⟨w.heap.size,0,none⟩) 0 0)).getD k undef=us.getD k vnil:=by simp[List.getD,hkl,List.getElem?_set,hne,hne2]
    rw[e3];have:=hrq k hk3;rw[hget k hk3,if_neg e]at this;exact this
end
end Go.Proofs.YtgkdoehkmbhfiaaGreat
namespace Go.Proofs.YtgkdoehkmbhfiaaGreat
open Go.RowKit
theorem AtmV.shape {w:World} {B:Nat} {v:Value} {ws hs:List Int} (h:AtmV w B v ws hs):∃wa wc ha hc,v=.agg #[.slice wa ws.length wc,.slice ha hs.length hc]∧Ints w B (.slice wa ws.length wc) ws∧Ints w B (.slice ha hs.length hc) hs:=by
 obtain⟨wv,hv,rfl,h1,h2⟩:=h;obtain⟨a1,c1,e1,_⟩:=h1.1;obtain⟨a2,c2,e2,_⟩:=h2.1;simp only[List.length_map]at e1 e2;subst e1 e2;exact⟨_,_,_,_,rfl,h1,h2⟩
theorem ReqV.shape {w:World} {B:Nat} {v:Value} {r:Rq} (h:ReqV w B v r):∃da dc la lc,v=.agg #[.int .i64 r.id,.int .i64 r.kind,.int .i64 r.addr,.int .i64 r.many,.bool r.wrap,.slice da r.data.length dc,.slice la r.lanes.length lc]:=by
 obtain⟨dv,lv,rfl,h1,h2,_⟩:=h;obtain⟨a1,c1,e1,_⟩:=h1.1;obtain⟨a2,c2,e2,_⟩:=h2.1;simp only[List.length_map]at e1 e2;subst e1 e2;exact⟨_,_,_,_,rfl⟩
theorem Arr.drop {w:World} {B sz n cap m b off:Nat} {rows:List (List Value)} (h:Arr w B sz (.slice (some ⟨b,off,none⟩) n cap) rows) (hm:m≤n):Arr w B sz (.slice (some ⟨b,off+m * sz,none⟩) (n - m) (cap - m)) (rows.drop m):=by
 obtain⟨ao,cap', hv,h1,h2,h0,h9,h3⟩:=h;simp only[Value.slice.injEq]at hv;obtain⟨rfl,rfl,rfl⟩:=hv;refine⟨_,_,by rw[List.length_drop],by rw[List.length_drop];omega,by omega,by rw[List.length_drop];omega,(fun h=>by cases h),fun hn=>?_⟩;rw[List.length_drop]at hn ⊢;obtain⟨b', off', ha,hlt,hc⟩:=h3 (by omega);simp only[Option.some.injEq,Addr.mk.injEq,and_true]at ha;obtain⟨rfl,rfl⟩:=ha;refine⟨_,_,rfl,hlt,fun t ht j hj=>?_⟩;have:=hc (m+t) (by omega) j hj;rw[show off+m * sz+t * sz+j=off+(m+t) * sz+j by rw[Nat.add_mul];omega,this];simp[List.getD,List.getElem?_drop]
theorem ArrV.drop {α:Type} {R:World→Nat→Value→α→Prop} {w:World} {B sz n cap m b off:Nat} {xs:List α} (h:ArrV R w B sz (.slice (some ⟨b,off,none⟩) n cap) xs) (hm:m≤n):ArrV R w B sz (.slice (some ⟨b,off+m * sz,none⟩) (n - m) (cap - m)) (xs.drop m):=by
 obtain⟨vs,h1,h2,h3⟩:=h;refine⟨vs.drop m,by rw[List.map_drop];exact h1.drop hm,by simp[h2],fun k hk d=>?_⟩;simp only[List.length_drop]at hk;have e1:(vs.drop m).getD k undef=vs.getD (m+k) undef:=by simp[List.getD,List.getElem?_drop]
 have e2:(xs.drop m).getD k d=xs.getD (m+k) d:=by simp[List.getD,List.getElem?_drop]
 rw[e1,e2];exact h3 (m+k) (by omega) d
end Go.Proofs.YtgkdoehkmbhfiaaGreat
