/- Regions that draw: each operation a theorem of its own. -/
import Derived.Test.YtgkdoehkmbhfiaaGreatRWrd
import Derived.Test.YtgkdoehkmbhfiaaGreatRLib
import Derived.Test.YtgkdoehkmbhfiaaGreatRDo4
import Derived.OwnWalk
import Derived.Deep.MidRow
import Derived.Deep.AppendLies
import Derived.Deep.RegionHeld3
import Derived.Deep.DrawnRows
import Derived.StillTailTactics
import Derived.Outline
import Derived.Deep.RegionWith
import Derived.Deep.Cut
import Derived.Deep.CutRange
import Derived.Deep.CutBlock
import Derived.Laws.CopyOwn
import Derived.Deep.OwnRows
set_option linter.unusedVariables false
set_option linter.unusedSimpArgs false
set_option maxHeartbeats 16000000
namespace Go.Proofs.YtgkdoehkmbhfiaaGreat
open Go.RowKit
theorem RdAt.fresh {w:World} {B:Nat} {bv:Value} {bs:List Nat} (h:Bytes w B bv bs) (hB:B≤w.heap.size) (hl:bs.length≤2000):RdAt (w.alloc (.cells #[bv,.int .i64 0] 129)) w.heap.size B bs 0 :=
 ⟨bv,by show(w.heap.push _)[w.heap.size]? = _;simp,h.below ((Below.refl _ _).alloc (by omega) _),hB,hl⟩
def OpenP (w:World) (B:Nat) (e:Ending) (w':World):Prop:=∃cs,e=.returned (.pointer (some ⟨w.heap.size,0,none⟩))∧RdAt w' w.heap.size B cs 0∧Below w.heap.size w w'
theorem open_any (v : Value) (bs : List Nat) (B : Nat) (w : World) (h : Bytes w B v bs) (hB : B ≤ w.heap.size) :
  Calls Tryz.prog 42 #[v] w (OpenP w B):=by
 obtain⟨ao,cap,rfl,hlc,hcap,hln,hni,hr⟩:=h.opened;by_cases hl:(2000:Int)<(bs.length:Int)
 ·go_enter Tryz.func42,Tryz.ntmps42
  go_wp2
  go_ret
  exact⟨bs.take 2000,rfl,by exact RdAt.fresh (h.take (by omega)) hB (by simp;omega),(Below.refl _ _).alloc (Nat.le_refl _) _⟩
 ·go_enter Tryz.func42,Tryz.ntmps42
  go_wp2
  go_ret
  exact⟨bs,rfl,by exact RdAt.fresh h hB (by omega),(Below.refl _ _).alloc (Nat.le_refl _) _⟩
def PickP (r B:Nat) (bs:List Nat) (p:Nat) (n:Int) (w:World) (e:Ending) (w':World):Prop :=
 ∃x:Int,e=.returned (.int .i64 x)∧0≤x∧x<n∧RdAt w' r B bs (p+1)∧Touch r w w'
theorem zD4 (r B : Nat) (bs : List Nat) (p : Nat) (n : Int) (w : World) (h : RdAt w r B bs p) (hp : p ≤ 1099511627776) (h1 : 1 ≤ n) (hn : n ≤ 1099511627776) :
  Calls Tryz.prog 82 #[.pointer (some ⟨r,0,none⟩),.int .i64 n] w (PickP r B bs p n w):=by
 refine(pick_any r B bs p n w h hp hn).mono ?_;rintro e w' ⟨x,rfl,h0,h2,h3,h4⟩;exact⟨x,rfl,h0,by omega,h3,h4⟩
def OddP (r B:Nat) (bs:List Nat) (p:Nat) (n:Int) (w:World) (e:Ending) (w':World):Prop :=
 ∃(b:Bool) (q:Nat),e=.returned (.bool b)∧(9000≤n→b=false)∧q≤p+1∧RdAt w' r B bs q∧Touch r w w'
theorem odd_any (r B : Nat) (bs : List Nat) (p : Nat) (n : Int) (w : World) (h : RdAt w r B bs p) (hp : p ≤ 1099511627776) (h1 : 1 ≤ n) (hn : n ≤ 1099511627776) :
  Calls Tryz.prog 122 #[.pointer (some ⟨r,0,none⟩),.int .i64 n] w (OddP r B bs p n w):=by
 by_cases h9:n<9000
 ·go_enter Tryz.func122,Tryz.ntmps122
  go_wp2_with (first|(go_at_call 82;refine(zD4 r B bs p n _ h hp h1 hn).mono ?_;rintro e w1 ⟨x,rfl,hx0,hx1,hr1,ht1⟩))
  go_ret
  exact⟨_,p+1,rfl,fun h=>by omega,by omega,hr1,ht1⟩
 ·have h9':decide (n<9000)=false:=by simpa using h9
  go_enter Tryz.func122,Tryz.ntmps122
  go_wp2_with fail
  go_ret
  exact⟨false,p,rfl,fun _=>rfl,by omega,h,Touch.refl _ _⟩
theorem RdAt.alloc {w:World} {r B:Nat} {bs:List Nat} {p:Nat} (h:RdAt w r B bs p) (o:Obj):RdAt (w.alloc o) r B bs p:=h.kept ((Below.refl _ _).alloc (Nat.le_refl _) o) h.lt
theorem Touch.tab {r:Nat} {w w':World} {xs:Array Value} {T:TypeId} (ht:Touch r (w.alloc (.cells xs T)) w') (hr:r<w.heap.size):∀i v,xs[i]? = some v→w'.cell? ⟨w.heap.size,i,none⟩=some v:=by
 intro i v hv;rw[Touch.cell ht (by show w.heap.size≠r;omega) (by simp)];simp[go_sem,hv]
theorem Touch.tab2 {r : Nat} {w w' : World} {xs ys : Array Value} {T U : TypeId} (ht : Touch r ((w.alloc (.cells xs T)).alloc (.cells ys U)) w') (hr : r < w.heap.size) :
  (∀i v,xs[i]? = some v→w'.cell? ⟨w.heap.size,i,none⟩=some v)∧(∀i v,ys[i]? = some v→w'.cell? ⟨w.heap.size+1,i,none⟩=some v):=by
 refine⟨fun i v hv=>?_,fun i v hv=>?_⟩
 ·rw[Touch.cell ht (by show w.heap.size≠r;omega) (by simp;omega)];simp[go_sem,hv]
 ·rw[Touch.cell ht (by show w.heap.size+1≠r;omega) (by simp)];simp[go_sem,hv]
def AddrP (r B:Nat) (bs:List Nat) (p:Nat) (w:World) (e:Ending) (w':World):Prop :=
 ∃x:Int,e=.returned (.int .i64 x)∧0≤x∧x≤63∧RdAt w' r B bs (p+7)∧Touch r w w'
theorem l20Addr_any (r B : Nat) (bs : List Nat) (p : Nat) (w : World) (h : RdAt w r B bs p) (hp : p ≤ 1000000000) :
  Calls Tryz.prog 132 #[.pointer (some ⟨r,0,none⟩)] w (AddrP r B bs p w):=by
 have HT:=hid (Touch.refl r w)
 go_enter Tryz.func132,Tryz.ntmps132
 go_wp2_with (first
  |(go_at_call 82;(with_reducible refine(zD4 r B bs _ 8 _ ((h.alloc _).alloc _) ?_ (by omega) (by omega)).mono ?_);(omega);have hlt:=h.lt;rintro e w1 ⟨x,rfl,a0,a1,h,ht⟩;obtain⟨tA,tB⟩:=Touch.tab2 ht hlt;have u0:=tA 0 _ rfl;have u1:=tA 1 _ rfl;have u2:=tA 2 _ rfl;have u3:=tA 3 _ rfl;have u4:=tA 4 _ rfl;have u5:=tA 5 _ rfl;have v0:=tB 0 _ rfl;have v1:=tB 1 _ rfl;have v2:=tB 2 _ rfl;have v3:=tB 3 _ rfl;have v4:=tB 4 _ rfl;have v5:=tB 5 _ rfl;have v6:=tB 6 _ rfl;have v7:=tB 7 _ rfl;clear tA tB;have HT:=hid (show Touch r w w1 from((HT.out.alloc _).alloc _).trans ht);rcases(show x=0∨x=1∨x=2∨x=3∨x=4∨x=5∨x=6∨x=7 by omega)with rfl|rfl|rfl|rfl|rfl|rfl|rfl|rfl)
  |(go_at_call 82;go_must (refine(zD4 r B bs _ _ _ (by first|exact h|exact h.alloc _|exact(h.alloc _).alloc _) (by omega) (by omega) (by omega)).mono ?_);rintro e w1 ⟨x,rfl,a0,a1,h,ht⟩;have HT:=hid (show Touch r w w1 by first|exact HT.out.trans ht|exact(HT.out.alloc _).trans ht|exact((HT.out.alloc _).alloc _).trans ht)))
 all_goals
  go_ret
  exact⟨_,rfl,by omega,by omega,h,HT.out⟩
theorem Owns.touch {α:Type} {w w':World} {r base e sz:Nat} {f:α→List Value} {v:Value} {xs:List α} (h:Owns w base e sz f v xs) (ht:Touch r w w') (hr:r<base):Owns w' base e sz f v xs :=
 OwnR.kept h fun k hk=>ht.block k (OwnR.lt h k hk).2 (by have:=(OwnR.lt h k hk).1;omega)
theorem Owns.cellAt {α:Type} {w:World} {base e sz g off n c:Nat} {f:α→List Value} {xs:List α} (h:Owns w base e sz f (.slice (some ⟨g,off,none⟩) n c) xs) (hf:∀x,(f x).length=sz) (k j:Nat) (d:α) (hk:k<xs.length) (hj:j<sz):w.cell? ⟨g,off+k * sz+j,none⟩=(f (xs.getD k d))[j]?:=by
 obtain⟨hl,h2⟩:=h;rcases h2 with⟨h2,_⟩|⟨g', off', cap,cur,hv,hg,hh,hle,hmax,hsz,hc⟩
 ·cases h2
 ·simp only[Value.slice.injEq,Option.some.injEq,Addr.mk.injEq]at hv;obtain⟨⟨rfl,rfl,_⟩,rfl,rfl⟩:=hv;have hlt:k * sz+j<xs.length * sz:=by
   have:(k+1) * sz≤xs.length * sz:=Nat.mul_le_mul_right _ hk;rw[Nat.add_mul]at this;omega
  have h3:=hc (k * sz+j) hlt;rw[zG7 hf xs k j hk hj]at h3;simp only[World.cell?,hh,Nat.add_assoc,h3];simp[List.getD,hk]
theorem Owns.frozenAt {α:Type} {w:World} {base e sz g off n c:Nat} {f:α→List Value} {xs:List α} (h:Owns w base e sz f (.slice (some ⟨g,off,none⟩) n c) xs) (o:Nat):w.frozen? ⟨g,o,none⟩=false:=by
 obtain⟨hl,h2⟩:=h;rcases h2 with⟨h2,_⟩|⟨g', off', cap,cur,hv,hg,hh,hle,hmax,hsz,hc⟩
 ·cases h2
 ·simp only[Value.slice.injEq,Option.some.injEq,Addr.mk.injEq]at hv;obtain⟨⟨rfl,rfl,_⟩,rfl,rfl⟩:=hv;simp[World.frozen?,hh]
theorem Owns.putRow {α : Type} {w : World} {base e sz g off n c : Nat} {f : α → List Value} {xs : List α} (h : Owns w base e sz f (.slice (some ⟨g, off, none⟩) n c) xs) (hf : ∀ x, (f x).length = sz) (k j : Nat) (d y : α) (u : Value) (hk : k < xs.length) (hj : j < sz)
  (hy:f y=(f (xs.getD k d)).set j u):Owns (w.setCell ⟨g,off+k * sz+j,none⟩ u) base e sz f (.slice (some ⟨g,off,none⟩) n c) (xs.set k y):=by
 obtain⟨hl,h2⟩:=h;rcases h2 with⟨h2,_⟩|⟨g', off', cap,cur,hv,hg,hh,hle,hmax,hsz,hc⟩
 ·cases h2
 ·simp only[Value.slice.injEq,Option.some.injEq,Addr.mk.injEq]at hv;obtain⟨⟨rfl,rfl,_⟩,rfl,rfl⟩:=hv;have hks:(k+1) * sz≤xs.length * sz:=Nat.mul_le_mul_right _ hk;have hcs:xs.length * sz≤c * sz:=Nat.mul_le_mul_right _ hle;rw[Nat.add_mul]at hks;refine⟨by rw[zC2 hf],.inr ⟨g,off,c,cur.set! (off+k * sz+j) u,by simp,hg,?_,by simpa using hle,hmax,by simpa using hsz,?_⟩⟩
  ·simp only[World.setCell,Array.getElem?_modify,hh];simp
  ·intro i hi;have hi':i<xs.length * sz:=by simpa using hi
   have hs0:0<sz:=by omega
   rw[zL4 hf (xs.set k y) i (by simpa using hi') hs0];have hq:i / sz<xs.length:=Nat.div_lt_of_lt_mul (by rw[Nat.mul_comm];exact hi');have hm:i % sz<sz:=Nat.mod_lt _ hs0;have hdm:sz * (i / sz)+i % sz=i:=Nat.div_add_mod i sz;by_cases hik:i=k * sz+j
   ·have hq2:i / sz=k:=by
     rw[hik,Nat.mul_comm,Nat.mul_add_div hs0,Nat.div_eq_of_lt hj,Nat.add_zero]
    have hm2:i % sz=j:=by rw[hik,Nat.mul_comm,Nat.mul_add_mod,Nat.mod_eq_of_lt hj]
    have hlt:off+k * sz+j<cur.size:=by omega
    rw[hq2,hm2,hik,←Nat.add_assoc];have e1:((xs.set k y).map f).getD k []=f y:=by simp[List.getD,hk]
    rw[e1,hy,List.getElem?_set_self (by rw[hf];exact hj)];simp[hlt]
   ·rw[Array.set!_eq_setIfInBounds,Array.getElem?_setIfInBounds_ne (by omega),hc i hi', zL4 hf xs i hi' hs0];by_cases hqk:i / sz=k
    ·have hne:i % sz≠j:=by
      intro e;apply hik;rw[←hdm,hqk,e,Nat.mul_comm]
     have e1:((xs.set k y).map f).getD (i / sz) []=f y:=by rw[hqk];simp[List.getD,hk]
     have e2:(xs.map f).getD (i / sz) []=f (xs.getD k d):=by rw[hqk];simp[List.getD,hk]
     rw[e1,e2,hy,List.getElem?_set_ne (Ne.symm hne)]
    ·congr 1
     simp[List.getD,List.getElem?_set,Ne.symm hqk]
theorem Owns.take {α:Type} {w:World} {base e sz n c:Nat} {a:Option Addr} {f:α→List Value} {xs:List α} (h:Owns w base e sz f (.slice a n c) xs) (hf:∀x,(f x).length=sz) (m:Nat) (hm:m≤xs.length):Owns w base e sz f (.slice a m c) (xs.take m):=by
 obtain⟨hl,h2⟩:=h;have hlm:(xs.take m).length=m:=by simp;omega
 refine⟨by rw[zC2 hf],?_⟩;rcases h2 with⟨h2,h3⟩|⟨g', off', cap,cur,hv,hg,hh,hle,hmax,hsz,hc⟩
 ·simp only[Value.slice.injEq]at h2;obtain⟨rfl,rfl,rfl⟩:=h2;have hm0:m=0:=by omega
  exact .inl ⟨by rw[hm0],by omega⟩
 ·simp only[Value.slice.injEq]at hv;obtain⟨rfl,rfl,rfl⟩:=hv;refine .inr ⟨g', off', c,cur,by rw[hlm],hg,hh,by omega,hmax,hsz,fun j hj=>?_⟩;rw[hlm]at hj;have hms:m * sz≤xs.length * sz:=Nat.mul_le_mul_right _ hm;rw[hc j (by omega)];rcases Nat.eq_zero_or_pos sz with h0|h0
  ·subst h0;omega
  ·rw[zL4 hf xs j (by omega) h0,zL4 hf (xs.take m) j (by rw[hlm];exact hj) h0];have hq:j / sz<m:=Nat.div_lt_of_lt_mul (by rw[Nat.mul_comm];exact hj)
   congr 1
   simp[List.getD,List.getElem?_take,hq]
theorem Owns.litOf {α : Type} {w : World} {base e sz : Nat} {f : α → List Value} (xs : List α) (cs : Array Value) (hb : base ≤ w.heap.size) (hf : ∀ x, (f x).length = sz) (hcs : cs.toList = xs.flatMap f) (hm : xs.length ≤ maxLen) :
  Owns (w.alloc (.cells cs e)) base e sz f (.slice (some ⟨w.heap.size,0,none⟩) xs.length xs.length) xs:=by
 have hlen:cs.size=xs.length * sz:=by rw[←Array.length_toList,hcs,zC2 hf]
 unfold Owns;rw[←hcs];exact OwnR.of_row (World.ownsRow_lit w cs xs.length hb hm hlen)
theorem madeCells_add (z:Array Value) (n:Nat) (hz:0<z.size):(madeCells z ((n+1) * z.size)).toList=z.toList++(madeCells z (n * z.size)).toList:=by
 apply List.ext_getElem?;intro i;unfold madeCells;simp only[Array.toList_map,Array.toList_range,List.getElem?_map,List.getElem?_append,Array.length_toList];by_cases h:i<z.size
 ·rw[if_pos h,List.getElem?_range (by rw[Nat.add_mul];omega)];simp[Nat.mod_eq_of_lt h,h]
 ·rw[if_neg h];by_cases h2:i<(n+1) * z.size
  ·rw[List.getElem?_range h2,List.getElem?_range (by rw[Nat.add_mul]at h2;omega)];simp only[Option.map_some];rw[show(i - z.size) % z.size=i % z.size from by rw[←Nat.mod_eq_sub_mod (by omega)]]
  ·rw[List.getElem?_eq_none (by simp;omega),List.getElem?_eq_none (by simp;rw[Nat.add_mul]at h2;omega)]
theorem zH0 {α : Type} (f : α → List Value) (x : α) (z : Array Value) (hz : 0 < z.size) (hf : f x = z.toList) : ∀ n : Nat, (madeCells z (n * z.size)).toList = (List.replicate n x).flatMap f
 |0=>by simp[madeCells]
 |n+1=>by rw[madeCells_add z n hz,zH0 f x z hz hf n,List.replicate_succ,List.flatMap_cons,hf]
theorem Owns.kept {α:Type} {w w':World} {base e sz:Nat} {f:α→List Value} {v:Value} {xs:List α} (h:Owns w base e sz f v xs) (hk:∀k,v.ownBlock=some k→w'.heap[k]? = w.heap[k]?):Owns w' base e sz f v xs:=OwnR.kept h hk
theorem Apart.of_lt {v u:Value} {m:Nat} (h:∀k,v.ownBlock=some k→k<m) (h':∀k,u.ownBlock=some k→m≤k):Apart v u:=fun k hk hu=>by
 have:=h k hk;have:=h' k hu;omega
theorem Apart.symm {v u:Value} (h:Apart v u):Apart u v:=fun k hk hu=>h k hu hk
def Keeps (P:Nat→Prop) (w w':World):Prop:=∀b,P b→w'.heap[b]? = w.heap[b]?
theorem Keeps.weak {P Q:Nat→Prop} {w w':World} (h:Keeps Q w w') (hs:∀b,P b→Q b):Keeps P w w':=fun b hb=>h b (hs b hb)
theorem Keeps.trans {P:Nat→Prop} {u v w:World} (h:Keeps P u v) (k:Keeps P v w):Keeps P u w:=fun b hb=>(k b hb).trans (h b hb)
theorem Keeps.cell {P:Nat→Prop} {w w':World} (h:Keeps P w w') {a:Addr} (ha:P a.block):w'.cell? a=w.cell? a:=by simp only[World.cell?,h _ ha]
theorem Keeps.frozen {P:Nat→Prop} {w w':World} (h:Keeps P w w') {a:Addr} (ha:P a.block):w'.frozen? a=w.frozen? a:=by simp only[World.frozen?,h _ ha]
def ArrD (w:World) (P:Nat→Prop) (sz:Nat) (v:Value) (rows:List (List Value)):Prop :=
 ∃ ao cap, v = .slice ao rows.length cap ∧ rows.length ≤ cap ∧ cap ≤ 9223372036854775807 ∧ rows.length ≤ 140737488351232 ∧ (ao = none → cap = 0) ∧
  (rows.length≠0→∃b off,ao=some ⟨b,off,none⟩∧P b∧∀t,t<rows.length→∀j,j<sz→w.cell? ⟨b,off+t * sz+j,none⟩=(rows.getD t [])[j]?)
theorem ArrD.of {w:World} {B sz:Nat} {v:Value} {rows:List (List Value)} (h:Arr w B sz v rows):ArrD w (·<B) sz v rows:=h
theorem ArrD.to {w:World} {P:Nat→Prop} {B sz:Nat} {v:Value} {rows:List (List Value)} (h:ArrD w P sz v rows) (hP:∀b,P b→b<B):Arr w B sz v rows:=by
 obtain⟨ao,cap,hv,h1,h2,h0,h9,h3⟩:=h;refine⟨ao,cap,hv,h1,h2,h0,h9,fun hn=>?_⟩;obtain⟨b,off,ha,hlt,hc⟩:=h3 hn;exact⟨b,off,ha,hP b hlt,hc⟩
theorem ArrD.kept {w w':World} {P:Nat→Prop} {sz:Nat} {v:Value} {rows:List (List Value)} (h:ArrD w P sz v rows) (hk:Keeps P w w'):ArrD w' P sz v rows:=by
 obtain⟨ao,cap,hv,h1,h2,h0,h9,h3⟩:=h;refine⟨ao,cap,hv,h1,h2,h0,h9,fun hn=>?_⟩;obtain⟨b,off,ha,hlt,hc⟩:=h3 hn;exact⟨b,off,ha,hlt,fun t ht j hj=>by rw[←hc t ht j hj];exact hk.cell (a:=⟨b,_,none⟩) hlt⟩
theorem ArrD.weak {w:World} {P Q:Nat→Prop} {sz:Nat} {v:Value} {rows:List (List Value)} (h:ArrD w P sz v rows) (hs:∀b,P b→Q b):ArrD w Q sz v rows:=by
 obtain⟨ao,cap,hv,h1,h2,h0,h9,h3⟩:=h;refine⟨ao,cap,hv,h1,h2,h0,h9,fun hn=>?_⟩;obtain⟨b,off,ha,hlt,hc⟩:=h3 hn;exact⟨b,off,ha,hs b hlt,hc⟩
theorem OwnR.arrD {w : World} {base e sz : Nat} {v : Value} {n : Nat} {cells : List Value} {rows : List (List Value)} {P : Nat → Prop} (h : OwnR w base e sz v n cells) (hP : ∀ k, v.ownBlock = some k → P k)
  (hrows:rows.length=n) (hn:n≤140737488351232) (hc:∀t,t<n→∀j,j<sz→cells[t * sz+j]? = (rows.getD t [])[j]?):ArrD w P sz v rows:=by
 obtain⟨ao,cap,hv,h1,h2,h0,h9,h3⟩:=h.arr hrows hn hc;refine⟨ao,cap,hv,h1,h2,h0,h9,fun hnz=>?_⟩;obtain⟨b,off,ha,hlt,hc⟩:=h3 hnz;exact⟨b,off,ha,hP b (by rw[hv,ha];rfl),hc⟩
theorem Owns.arrD {α:Type} {w:World} {base e sz:Nat} {f:α→List Value} {v:Value} {xs:List α} {P:Nat→Prop} (h:Owns w base e sz f v xs) (hP:∀k,v.ownBlock=some k→P k) (hf:∀x,(f x).length=sz) (hn:xs.length≤140737488351232):ArrD w P sz v (xs.map f) :=
 OwnR.arrD h hP (by simp) hn (fun t ht j hj=>zG7 hf xs t j ht hj)
def IntsD (w:World) (P:Nat→Prop) (v:Value) (xs:List Int):Prop:=ArrD w P 1 v (xs.map rowI)∧∀x∈xs,I64 x
theorem IntsD.of {w:World} {B:Nat} {v:Value} {xs:List Int} (h:Ints w B v xs):IntsD w (·<B) v xs:=h
theorem IntsD.to {w:World} {P:Nat→Prop} {B:Nat} {v:Value} {xs:List Int} (h:IntsD w P v xs) (hP:∀b,P b→b<B):Ints w B v xs:=⟨h.1.to hP,h.2⟩
theorem IntsD.kept {w w':World} {P:Nat→Prop} {v:Value} {xs:List Int} (h:IntsD w P v xs) (hk:Keeps P w w'):IntsD w' P v xs:=⟨h.1.kept hk,h.2⟩
theorem IntsD.weak {w:World} {P Q:Nat→Prop} {v:Value} {xs:List Int} (h:IntsD w P v xs) (hs:∀b,P b→Q b):IntsD w Q v xs:=⟨h.1.weak hs,h.2⟩
theorem Owns.intsD {w:World} {base e:Nat} {v:Value} {xs:List Int} {P:Nat→Prop} (h:Owns w base e 1 rowI v xs) (hP:∀k,v.ownBlock=some k→P k) (hn:xs.length≤140737488351232) (hx:∀x∈xs,I64 x):IntsD w P v xs:=⟨h.arrD hP zE9 hn,hx⟩
theorem IntsD.nil (w:World) (P:Nat→Prop):IntsD w P (.slice none 0 0) []:=⟨⟨none,0,rfl,by simp,by omega,by simp,fun _=>rfl,fun h=>absurd rfl h⟩,by simp⟩
abbrev RqV:=Rq×Value×Value
def rowQ (y:RqV):List Value:=[.int .i64 y.1.id,.int .i64 y.1.kind,.int .i64 y.1.addr,.int .i64 y.1.many,.bool y.1.wrap,y.2.1,y.2.2]
theorem zC9 (y:RqV):(rowQ y).length=7:=rfl
def RqD (w:World) (P:Nat→Prop) (y:RqV):Prop:=IntsD w P y.2.1 y.1.data∧IntsD w P y.2.2 y.1.lanes∧I64 y.1.id∧I64 y.1.kind∧I64 y.1.addr∧I64 y.1.many
theorem RqD.kept {w w':World} {P:Nat→Prop} {y:RqV} (h:RqD w P y) (hk:Keeps P w w'):RqD w' P y:=⟨h.1.kept hk,h.2.1.kept hk,h.2.2⟩
theorem RqD.weak {w:World} {P Q:Nat→Prop} {y:RqV} (h:RqD w P y) (hs:∀b,P b→Q b):RqD w Q y:=⟨h.1.weak hs,h.2.1.weak hs,h.2.2⟩
theorem RqD.val {w:World} {P:Nat→Prop} {B:Nat} {y:RqV} (h:RqD w P y) (hP:∀b,P b→b<B):ReqV w B (.agg #[.int .i64 y.1.id,.int .i64 y.1.kind,.int .i64 y.1.addr,.int .i64 y.1.many,.bool y.1.wrap,y.2.1,y.2.2]) y.1 :=
 ⟨_,_,rfl,h.1.to hP,h.2.1.to hP,h.2.2⟩
theorem reqs_of {w:World} {P:Nat→Prop} {B:Nat} {v:Value} {ys:List RqV} (ha:ArrD w P 7 v (ys.map rowQ)) (hy:∀y∈ys,RqD w P y) (hP:∀b,P b→b<B):Reqs w B v (ys.map (·.1)):=by
 refine⟨ys.map fun y=>.agg #[.int .i64 y.1.id,.int .i64 y.1.kind,.int .i64 y.1.addr,.int .i64 y.1.many,.bool y.1.wrap,y.2.1,y.2.2],?_,by simp,fun k hk d=>?_⟩
 ·rw[List.map_map];exact ha.to hP
 ·simp only[List.length_map]at hk;have e:(ys.map fun y:RqV=>Value.agg #[.int .i64 y.1.id,.int .i64 y.1.kind,.int .i64 y.1.addr,.int .i64 y.1.many,.bool y.1.wrap,y.2.1,y.2.2]).getD k undef=.agg #[.int .i64 ys[k].1.id,.int .i64 ys[k].1.kind,.int .i64 ys[k].1.addr,.int .i64 ys[k].1.many,.bool ys[k].1.wrap,ys[k].2.1,ys[k].2.2]:=by simp[List.getD,hk]
  have e2:(ys.map (·.1)).getD k d=ys[k].1:=by simp[List.getD,hk]
  rw[e,e2];exact(hy _ (List.getElem_mem hk)).val hP
theorem zC0 {α : Type} {ops : Array Oper} {rest : List Oper} {o : Oper} {a : Act} {Q : Exit → Act → World → Prop} {T e sz by_ : Nat} (E : Elem T e sz by_) (f : α → List Value) (hf : ∀ x, (f x).length = sz) (y : α) (h1 : ∀ u ∈ f y, u.oneCell' = true)
  (w:World) (hgd:o.guard=none) (s x:Operand) (ho:o.op=.call { callee:=.builtin .append,args:=#[s,x],argTypes:=#[T,T] })
  (base:Nat) (v:Value) (xs:List α) (hs:a.eval s=v) (hown:Owns w base e sz f v xs) (cs:Array Value) (hcs:cs.toList=f y) (hx:a.eval x=.slice (some ⟨w.heap.size,0,none⟩) 1 1)
  (hlen:(xs.length+1) * by_≤140737488355328) (hlen2:xs.length+1≤9223372036854775807) (hbase:base≤w.heap.size)
  (h:∀v' w', Owns w' base e sz f v' (xs++[y])→w.heap.size≤w'.heap.size→(∀b,b<w.heap.size→v.ownBlock≠some b→w'.heap[b]? = w.heap[b]?)→(v'.ownBlock=v.ownBlock∨∃k,w.heap.size≤k∧v'.ownBlock=some k)→Below base w w' → wpList Tryz.prog ops Q rest (a.put o.dst v') w') :
  wpList Tryz.prog ops Q (o::rest) a (w.alloc (.cells cs e)):=by
 obtain⟨ht,i,z,hi,hz,hsize,hby,hzs,hsz⟩:=E;have hown':OwnR (w.alloc (.cells cs e)) base e sz v xs.length (xs.flatMap f):=OwnR.alloc hown _;refine zE2 hgd s x T ho base e i z sz by_ ht hi hz hsize hby hzs v xs.length (xs.flatMap f) hs hown' ⟨w.heap.size,0,none⟩ 1 1 (f y) hx (by rw[hf];omega) ?_ h1 (by unfold maxLen;omega) hlen (by simp;omega) ?_
 ·intro j u hj;rw[Addr.add_lit,Nat.zero_add,World.cell?_alloc_at _ _ _ _ rfl,←hj,←hcs];simp
 ·intro v' w' ho' hg _ hb;have hsz:=hg.size;simp only[World.size_alloc]at hsz;refine h v' w' (by unfold Owns;simpa using ho') (by omega) (fun b hb hne=>?_) ?_ (((Below.refl _ _).alloc hbase _).grown hg (by simp;omega) (fun k hk=>(OwnR.lt hown k hk).1))
  ·rw[hg.block b (by simp;omega) (by intro e;exact hne e.symm)];exact((Below.refl w.heap.size w).alloc (Nat.le_refl _) _).block b hb
  ·rcases hb with hb|hb
   ·exact .inl hb
   ·exact .inr ⟨_,by simp,hb⟩
theorem at_world {P:Program} {f:FuncId} {args:Array Value} {w:World} {Q:Ending→World→Prop} (Z:World→Prop) (hZ:Z w) (h:∀W,Z W→Calls P f args W Q):Calls P f args w Q:=h w hZ
structure Bx (W:World) (H:Nat) (cs:List Value):Prop where
 c:∀j,j<cs.length→W.cell? ⟨H,j,none⟩=cs[j]?
 f:∀j,j<cs.length→W.frozen? ⟨H,j,none⟩=false
 n:0<cs.length
theorem Bx.lt {W:World} {H:Nat} {cs:List Value} (h:Bx W H cs):H<W.heap.size:=by
 have h0:=h.c 0 h.n;have hn:=h.n;rw[List.getElem?_eq_getElem hn]at h0;exact World.block_lt_of_cell? W _ h0
theorem Bx.kept {W W':World} {H:Nat} {cs:List Value} (h:Bx W H cs) (hk:W'.heap[H]? = W.heap[H]?):Bx W' H cs :=
 ⟨fun j hj=>by rw[←h.c j hj];simp only[World.cell?,hk],fun j hj=>by rw[←h.f j hj];simp only[World.frozen?,hk],h.n⟩
theorem Bx.below {W W':World} {H C:Nat} {cs:List Value} (h:Bx W H cs) (hb:Below C W W') (hH:H<C):Bx W' H cs:=h.kept (hb.block H hH)
theorem Bx.set {W:World} {H:Nat} {cs:List Value} (h:Bx W H cs) (j:Nat) (hj:j<cs.length) (u:Value):Bx (W.setCell ⟨H,j,none⟩ u) H (cs.set j u):=by
 refine⟨fun i hi=>?_,fun i hi=>?_,by simpa using h.n⟩
 ·have hi':i<cs.length:=by simpa using hi
  have hci:=h.c i hi';by_cases hij:i=j
  ·subst hij;rw[List.getElem?_set_self hj];have hs:(W.cell? ⟨H,i,none⟩).isSome:=by rw[hci];simp[hj]
   simp[go_sem,hs]
  ·rw[List.getElem?_set_ne (Ne.symm hij),←hci];simp[go_sem,hij,Ne.symm hij]
 ·have:=h.f i (by simpa using hi);simpa[go_sem]using this
theorem Bx.new (w:World) (cs:Array Value) (T:TypeId) (hn:0<cs.size):Bx (w.alloc (.cells cs T)) w.heap.size cs.toList :=
 ⟨fun j hj=>by rw[World.cell?_alloc_at _ _ _ _ rfl];simp,fun j hj=>by simp[go_sem],by simpa using hn⟩
theorem Bx.one {W:World} {H:Nat} {a:Value} (h:Bx W H [a]):W.cell? ⟨H,0,none⟩=some a∧W.frozen? ⟨H,0,none⟩=false:=⟨h.c 0 (by simp),h.f 0 (by simp)⟩
theorem Bx.two {W:World} {H:Nat} {a b:Value} (h:Bx W H [a,b]):(W.cell? ⟨H,0,none⟩=some a∧W.cell? ⟨H,1,none⟩=some b)∧W.frozen? ⟨H,0,none⟩=false∧W.frozen? ⟨H,1,none⟩=false :=
 ⟨⟨h.c 0 (by simp),h.c 1 (by simp)⟩,h.f 0 (by simp),h.f 1 (by simp)⟩
theorem Bx.three {W:World} {H:Nat} {a b c:Value} (h:Bx W H [a,b,c]):(W.cell? ⟨H,0,none⟩=some a∧W.cell? ⟨H,1,none⟩=some b∧W.cell? ⟨H,2,none⟩=some c)∧W.frozen? ⟨H,0,none⟩=false∧W.frozen? ⟨H,1,none⟩=false∧W.frozen? ⟨H,2,none⟩=false :=
 ⟨⟨h.c 0 (by simp),h.c 1 (by simp),h.c 2 (by simp)⟩,h.f 0 (by simp),h.f 1 (by simp),h.f 2 (by simp)⟩
theorem Bx.seven {W : World} {H : Nat} {a b c d e f g : Value} (h : Bx W H [a, b, c, d, e, f, g]) :
  (W.cell? ⟨H,0,none⟩=some a∧W.cell? ⟨H,1,none⟩=some b∧W.cell? ⟨H,2,none⟩=some c∧W.cell? ⟨H,3,none⟩=some d∧W.cell? ⟨H,4,none⟩=some e∧W.cell? ⟨H,5,none⟩=some f∧W.cell? ⟨H,6,none⟩=some g) ∧
  W.frozen? ⟨H,0,none⟩=false∧W.frozen? ⟨H,1,none⟩=false∧W.frozen? ⟨H,2,none⟩=false∧W.frozen? ⟨H,3,none⟩=false∧W.frozen? ⟨H,4,none⟩=false∧W.frozen? ⟨H,5,none⟩=false∧W.frozen? ⟨H,6,none⟩=false :=
 ⟨⟨h.c 0 (by simp),h.c 1 (by simp),h.c 2 (by simp),h.c 3 (by simp),h.c 4 (by simp),h.c 5 (by simp),h.c 6 (by simp)⟩,h.f 0 (by simp),h.f 1 (by simp),h.f 2 (by simp),h.f 3 (by simp),h.f 4 (by simp),h.f 5 (by simp),h.f 6 (by simp)⟩
theorem rowM4 (r:MR):(rowM r).length=4:=rfl
theorem Owns.maps {w:World} {base:Nat} {v:Value} {ms:List MR} (h:Owns w base 144 4 rowM v ms) (hn:ms.length≤1048576) (hx:∀r∈ms,MR64 r):Maps w w.heap.size v ms:=⟨h.arr rowM4 (by omega),hx⟩
theorem zG9 {P : Program} {w : World} {o : Oper} {a : Act} {K : Act → World → Prop} {Q : Exit → Act → World → Prop} (s x : Operand) (t : TypeId)
  (ho:o.op=.call { callee:=.builtin .append,args:=#[s,x],argTypes:=#[t,t] })
  (base:Nat) (e:TypeId) (i:TypeInfo) (z:Value) (size bytes:Nat) (ht:P.underlying t=some (.slice e)) (hi:P.info? e=some i) (hz:i.zero=some z)
  (hsize:i.size=size) (hby:i.bytes=bytes) (hzs:z.cells.size=size)
  (v:Value) (n:Nat) (xs:List Value) (hs:a.eval s=v) (hown:OwnR w base e size v n xs)
  (ad:Addr) (m c:Nat) (news:List Value) (hx:a.eval x=.slice (some ad) m c) (hl:news.length=m * size) (hnews:∀j u,news[j]? = some u→w.cell? (ad.add j)=some u) (h1:∀u∈news,u.oneCell' = true)
  (h63:n+m≤maxLen) (hbytes:(n+m) * bytes≤140737488355328) (hbase:base≤w.heap.size)
  (h:∀v' w', OwnR w' base e size v' (n+m) (xs++news)→w.grownBy w' v.ownBlock→(v' = .slice none 0 0→v=.slice none 0 0∧m=0)→(v'.ownBlock=v.ownBlock∨v'.ownBlock=some w.heap.size)→K (a.put o.dst v') w'):Oper.wp P o a w K Q:=by
 obtain⟨v', w', hr,h2,h3,h4,h5⟩:=run_append_OwnR (P:=P) w base t o.type e i z size bytes ht hi hz hsize hby hzs v n xs hown ad m c news hl hnews h1 h63 hbytes hbase;unfold Oper.wp execOp;simp only[ho,resolve,invoke,builtin,Sem.run_bind,Sem.run_pure,Result.andThen_ok,List.map_toArray,List.map_cons,List.map_nil,hs,hx,hr];exact h v' w' h2 h3 h4 h5
theorem Owns.allocd {α:Type} {w:World} {base e sz:Nat} {f:α→List Value} {v:Value} {xs:List α} (h:Owns w base e sz f v xs) (o:Obj):Owns (w.alloc o) base e sz f v xs:=OwnR.alloc h o
theorem Owns.drewd {α:Type} {w:World} {base e sz:Nat} {f:α→List Value} {v:Value} {xs:List α} (h:Owns w base e sz f v xs):Owns w.drew base e sz f v xs:=OwnR.kept h fun _ _=>rfl
theorem news_alloc {w:World} {cs:Array Value} {T:TypeId} (l:List Value) (hl:cs.toList=l):∀j u,l[j]? = some u→(w.alloc (.cells cs T)).cell? ⟨w.heap.size,j,none⟩=some u:=by
 intro j u hj;rw[World.cell?_alloc_at _ _ _ _ rfl,←hj,←hl];simp
theorem Touch.setNew {r g o:Nat} {w w':World} (h:Touch r w w') (hg:w.heap.size≤g) (v:Value):Touch r w (w'.setCell ⟨g,o,none⟩ v) :=
 ⟨h.os,h.tape,h.output,by simpa[World.setCell]using h.size,fun k hk hr=>by rw[Below.heap_setCell _ _ _ _ (show k≠g by omega)];exact h.block k hk hr⟩
theorem Touch.drewd {r:Nat} {a w:World} (h:Touch r a w):Touch r a w.drew:=h.trans ⟨rfl,rfl,rfl,Nat.le_refl _,fun _ _ _=>rfl⟩
theorem Touch.frozen {r:Nat} {w w':World} (h:Touch r w w') {p:Addr} (ha:p.block≠r) (hlt:p.block<w.heap.size):w'.frozen? p=w.frozen? p:=by
 simp only[World.frozen?,h.block _ hlt ha]
end Go.Proofs.YtgkdoehkmbhfiaaGreat
namespace Go.Proofs.YtgkdoehkmbhfiaaGreat
open Go.RowKit
attribute [local go_sem ↓] Go.wp_at_zero Go.wp_at_succ
theorem four {g n:Nat} (h:g+3<n):g<n∧g+1<n∧g+1+1<n∧g+1+1+1<n:=by omega
theorem Touch2.drewd {a b:Nat} {w w':World} (h:Touch2 a b w w'):Touch2 a b w w'.drew:=h.trans ⟨rfl,rfl,rfl,Nat.le_refl _,fun _ _ _ _=>rfl⟩
theorem Touch2.allocd {a b:Nat} {w w':World} (h:Touch2 a b w w') (o:Obj):Touch2 a b w (w'.alloc o):=h.trans (Touch2.of_below ((Below.refl _ _).alloc (Nat.le_refl _) o) (Nat.le_refl _))
theorem Touch2.bel {a b:Nat} {w w' w'':World} (h:Touch2 a b w w') (hb:Below w'.heap.size w' w''):Touch2 a b w w'':=h.trans (Touch2.of_below hb (Nat.le_refl _))
end Go.Proofs.YtgkdoehkmbhfiaaGreat
namespace Go.Proofs.YtgkdoehkmbhfiaaGreat
open Go.RowKit
attribute [local go_sem ↓] Go.wp_at_zero Go.wp_at_succ
theorem Ints.touch {w w':World} {r:Nat} {v:Value} {xs:List Int} (h:Ints w w.heap.size v xs) (ht:Touch r w w') (hr:∀k,v.ownBlock=some k→k≠r):Ints w' w'.heap.size v xs :=
 (h.heap fun k hk hlt=>ht.block k hlt (hr k hk)).mono ht.size
theorem Ints.setc {w:World} {B:Nat} {v:Value} {xs:List Int} (h:Ints w B v xs) (g o:Nat) (u:Value) (hr:∀k,v.ownBlock=some k→k≠g):Ints (w.setCell ⟨g,o,none⟩ u) B v xs :=
 h.heap fun k hk _=>Below.heap_setCell _ _ _ _ (hr k hk)
end Go.Proofs.YtgkdoehkmbhfiaaGreat
namespace Go.Proofs.YtgkdoehkmbhfiaaGreat
open Go.RowKit
theorem sgx {l:Array Bool} {i j:Nat} (h:i≠j):(l.setIfInBounds i true).getD j false=l.getD j false:=Go.getD_set_ne false h
theorem sgix {l:Array Bool} {i:Nat} (h:l.getD i true=false):(l.setIfInBounds i true).getD i false=true:=by
 have hlt:i<l.size:=by
  rcases Nat.lt_or_ge i l.size with h1|h1
  ·exact h1
  ·simp[Array.getElem?_eq_none h1]at h
 simp[hlt]
theorem zA2 {P : Program} {ops : Array Oper} {Q : Exit → Act → World → Prop} {i : Nat} {o : Oper} {I : Act → World → Prop} {a : Act} {w : World} (ho : ops[i]? = some o) (hg : o.guard = none)
  (h:∀K:Act→World→Prop,(∀a' w', I a' w' → K a' w')→o.wp P a w K Q):wpOp P ops Q i I a w:=wpOp_wp ho hg (h _ fun _ _ h=>h)
def Closed (ops:Array Oper) (listed:Array Bool):Prop:=∀i o,ops[i]? = some o→listed.getD i false=true→∀e∈o.after,Region.binds .any e=true→listed.getD e.on false=true
theorem zE8 {P : Program} {ops : Array Oper} {Q : Exit → Act → World → Prop} {id : Nat} {a : Act} {w : World} (I : Array Bool → Act → World → Prop) (hm : P.follows .mixedOrders = true) (hb : backB .any ops = true)
  (start:I (Array.replicate ops.size false) a { w with drawn:=w.drawn+1 })
  (step:∀listed a w i o,I listed a w→listed.size=ops.size→ops[i]? = some o→listed.getD i true=false→(∀e∈o.after,Region.binds .any e=true→listed.getD e.on false=true)→Closed ops listed→wpOp P ops Q i (fun a' w' => I (listed.setIfInBounds i true) a' w') a w)
  (done:∀listed a w,I listed a w→(∀i,i<ops.size→listed.getD i false=true)→Q .normal a w):(Code.region id ops true).wp P Q a w:=by
 refine zL9 (fun listed a w=>Closed ops listed∧I listed a w) hm hb ⟨fun i o _ hl=>?_,start⟩ ?_ (fun listed a w h hd=>done listed a w h.2 hd)
 ·rw[getD_replicate_false]at hl;cases hl
 ·rintro listed a w i o ⟨hc,hI⟩ hs ho hl he;refine wpOp_mono (fun a' w' h' => ⟨?_,h'⟩) (step listed a w i o hI hs ho hl he hc);intro j o' ho' hj e hem heb;have hset:∀k,listed.getD k false=true→(listed.setIfInBounds i true).getD k false=true:=fun k hk=>by
   by_cases hik:i=k
   ·subst hik;exact sgix hl
   ·rw[sgx hik];exact hk
  by_cases hij:i=j
  ·subst hij;rw[ho]at ho';obtain rfl:=Option.some.inj ho';exact hset _ (he e hem heb)
  ·rw[sgx hij]at hj;exact hset _ (hc j o' ho' hj e hem heb)
theorem heap_lt {w:World} {r:Nat} {o:Obj} (h:w.heap[r]? = some o):r<w.heap.size:=by
 rcases Nat.lt_or_ge r w.heap.size with h1|h1
 ·exact h1
 ·rw[Array.getElem?_eq_none h1]at h;simp at h
theorem Owns.touchN {w w':World} {base g:Nat} {v:Value} {xs:List Int} (h:Owns w base 3 1 rowI v xs) (ht:Touch g w w') (hg:∀k,v.ownBlock=some k→k≠g):Owns w' base 3 1 rowI v xs :=
 OwnR.kept h fun k hk=>ht.block k (OwnR.lt h k hk).2 (hg k hk)
theorem Below.touchN {B x:Nat} {a w w':World} (h:Below B a w) (ht:Touch x w w') (hx:B≤x) (hB:B≤a.heap.size):Below B a w':=h.trans (ht.below hx (Nat.le_trans hB h.size))
def zQ:RqV:=(⟨0,0,0,0,false,[],[]⟩,.slice none 0 0,.slice none 0 0)
def zipQ (qs:List Rq) (vs:List (Value×Value)):List RqV:=List.zipWith (fun q p=>(q,p)) qs vs
theorem zC4 {qs:List Rq} {vs:List (Value×Value)} (h:vs.length=qs.length):(zipQ qs vs).length=qs.length:=by simp[zipQ,h]
theorem zipQ_get {qs:List Rq} {vs:List (Value×Value)} (h:vs.length=qs.length) {k:Nat} (hk:k<qs.length) (d:RqV):(zipQ qs vs).getD k d=(qs.getD k default,vs.getD k default):=by
 have hk2:k<vs.length:=by omega
 simp[zipQ,List.getD,List.getElem?_zipWith,hk,hk2]
theorem zipQ_snoc {qs:List Rq} {vs:List (Value×Value)} (h:vs.length=qs.length) (q:Rq) (p:Value×Value):zipQ (qs++[q]) (vs++[p])=zipQ qs vs++[(q,p)]:=by
 unfold zipQ;rw[List.zipWith_append h.symm];rfl
theorem Owns.row7 {w : World} {base g off n c k : Nat} {ys : List RqV} (h : Owns w base 52 7 rowQ (.slice (some ⟨g, off, none⟩) n c) ys) (hk : k < ys.length) (y : RqV) :
  Owns (w.setCells g (off+k * 7) (rowQ y)) base 52 7 rowQ (.slice (some ⟨g,off,none⟩) n c) (ys.set k y):=by
 have hk1:∀y,k<(ys.set k y).length:=fun y=>by simpa using hk
 have hg1:∀y,(ys.set k y).getD k zQ=y:=fun y=>by simp[List.getD,List.getElem?_set_self hk]
 obtain⟨o,ho⟩:∃o,o=ys.getD k zQ:=⟨_,rfl⟩
 have r1:=h.putRow zC9 k 0 zQ (⟨y.1.id,o.1.kind,o.1.addr,o.1.many,o.1.wrap,[],[]⟩,o.2) (.int .i64 y.1.id) hk (by omega) (by rw[←ho];rfl);have r2:=r1.putRow zC9 k 1 zQ (⟨y.1.id,y.1.kind,o.1.addr,o.1.many,o.1.wrap,[],[]⟩,o.2) (.int .i64 y.1.kind) (hk1 _) (by omega) (by rw[hg1];rfl);rw[List.set_set]at r2;have r3:=r2.putRow zC9 k 2 zQ (⟨y.1.id,y.1.kind,y.1.addr,o.1.many,o.1.wrap,[],[]⟩,o.2) (.int .i64 y.1.addr) (hk1 _) (by omega) (by rw[hg1];rfl);rw[List.set_set]at r3;have r4:=r3.putRow zC9 k 3 zQ (⟨y.1.id,y.1.kind,y.1.addr,y.1.many,o.1.wrap,[],[]⟩,o.2) (.int .i64 y.1.many) (hk1 _) (by omega) (by rw[hg1];rfl);rw[List.set_set]at r4;have r5:=r4.putRow zC9 k 4 zQ (⟨y.1.id,y.1.kind,y.1.addr,y.1.many,y.1.wrap,[],[]⟩,o.2) (.bool y.1.wrap) (hk1 _) (by omega) (by rw[hg1];rfl);rw[List.set_set]at r5;have r6:=r5.putRow zC9 k 5 zQ (⟨y.1.id,y.1.kind,y.1.addr,y.1.many,y.1.wrap,[],[]⟩,y.2.1,o.2.2) y.2.1 (hk1 _) (by omega) (by rw[hg1];rfl);rw[List.set_set]at r6;have r7:=r6.putRow zC9 k 6 zQ y y.2.2 (hk1 _) (by omega) (by rw[hg1];rfl);rw[List.set_set]at r7;exact r7
theorem setCells_heap (g : Nat) : ∀ (cs : List Value) (w : World) (o b : Nat), b ≠ g → (w.setCells g o cs).heap[b]? = w.heap[b]?
 |[],_,_,_,_=>rfl
 |c::cs,w,o,b,h=>by
  show((w.setCell ⟨g,o,none⟩ c).setCells g (o+1) cs).heap[b]? = _;rw[setCells_heap g cs _ _ b h,Below.heap_setCell _ _ _ _ h]
theorem zB6 {α:Type} {xs:List α} {y d:α} {j:Nat} (h:j<xs.length):(xs++[y]).getD j d=xs.getD j d:=by
 simp only[List.getD];rw[List.getElem?_append_left h]
theorem zC5 {α:Type} {xs:List α} {y d:α}:(xs++[y]).getD xs.length d=y:=by simp[List.getD]
def IdxRP (p:Rq→Bool) (rs:List Rq) (w:World) (e:Ending) (w':World):Prop:=e=.returned (.int .i64 (idxP p rs))∧Below w.heap.size w w'
def HasRP (p:Rq→Bool) (rs:List Rq) (w:World) (e:Ending) (w':World):Prop:=e=.returned (.bool (rs.any p))∧Below w.heap.size w w'
theorem idxReq_any (K : FuncId) (cap : Array Value) (hK : zE6 K) (p : Rq → Bool) (v : Value) (rs : List Rq) (B : Nat) (w : World) (hv : Reqs w B v rs) (hB : B ≤ w.heap.size)
  (hf:∀(r:Rq) (u:Value) (w1:World),Below w.heap.size w w1→ReqV w1 B u r→Calls Tryz.prog K (#[u]++cap) w1 fun e w' => e=.returned (.bool (p r))∧Below w1.heap.size w1 w') :
  Calls Tryz.prog 128 #[v,.func (.func K) #[] cap] w (IdxRP p rs w):=by
 obtain⟨ao,cap', rfl,hlc,hcap,hln,hni,hr⟩:=hv.opened;have HF:=hid hf;clear hf hv;have hK2:=fun args w=>hK args w
 go_enter Tryz.func128,Tryz.ntmps128
 go_wp2_with fail
 go_loopw [8] (fun i wr=>∃k:Nat,k≤rs.length∧i=.int .i64 k∧Below w.heap.size w wr∧∀j,j<k→p (rs.getD j default)=false) (fun i _=>rs.length - (intOf i).toNat)
 case atStart=>exact⟨0,Nat.zero_le _,rfl,Below.refl _ _,by simp⟩
 case round=>
  obtain⟨k,hk,rfl,hbl,hno⟩:=hrel;have HN:=hid hno;clear hno;by_cases hlt:k<rs.length
  ·obtain⟨b,off,rfl,hb,hc⟩:=hr (by omega);obtain⟨da,dc,la,lc,hu,c0,c1,c2,c3,c4,c5,c6⟩:=hc k hlt;obtain⟨x,hx⟩:∃x,x=rs.getD k default:=⟨_,rfl⟩
   rw[←hx]at c0 c1 c2 c3 c4 c5 c6 hu;rw[←hbl.cell (p:=⟨b,_,none⟩) (Nat.lt_of_lt_of_le hb hB)]at c0 c1 c2 c3 c4 c5 c6;have HX:=hid hx;have HU:=hid (hu.below (hbl.mono hB));clear hx hc hr hu
   go_wp2_with fail
   refine(HF.out x _ _ hbl HU.out).mono ?_;rintro e w' ⟨rfl,hb'⟩;have hsz:=hbl.size;have HB:=hid (hbl.trans (hb'.mono hsz));clear hbl;rcases hp:p x with _|_
   ·have HQ:=hid (zK4 HN.out (show p (rs.getD k default)=false by rw[←HX.out];exact hp))
    go_wp2_with fail
    go_roundw
    case rel=>exact⟨k+1,by omega,by go_num,HB.out,HQ.out⟩
    case measure=>simp[intOf];omega
   ·have HQ:=hid (zM6 p rs k default hlt (by rw[←HX.out];exact hp) HN.out)
    go_wp2_with fail
    go_ret
    exact⟨by rw[HQ.out];rfl,HB.out⟩
  ·have HF2:=hid (zL5 p rs default (fun j hj=>HN.out j (by omega)))
   go_wp2_with fail
   go_ret
   exact⟨by rw[HF2.out];rfl,hbl⟩
theorem hasReq_any (K : FuncId) (cap : Array Value) (hK : zE6 K) (p : Rq → Bool) (v : Value) (rs : List Rq) (B : Nat) (w : World) (hv : Reqs w B v rs) (hB : B ≤ w.heap.size)
  (hf:∀(r:Rq) (u:Value) (w1:World),Below w.heap.size w w1→ReqV w1 B u r→Calls Tryz.prog K (#[u]++cap) w1 fun e w' => e=.returned (.bool (p r))∧Below w1.heap.size w1 w') :
  Calls Tryz.prog 77 #[v,.func (.func K) #[] cap] w (HasRP p rs w):=by
 have HA:=hid (idxP_any p rs)
 go_enter Tryz.func77,Tryz.ntmps77
 go_wp2_with fail
 refine(idxReq_any K cap hK p v rs B _ hv hB hf).mono ?_;rintro e w' ⟨rfl,hb⟩
 go_wp2_with fail
 go_ret
 exact⟨by rw[←HA.out];rfl,hb⟩
theorem zF2 {α:Type} {xs:List α} {k:Nat} (h:k<xs.length) (y d:α):(xs.set k y).getD k d=y:=by simp[List.getD,List.getElem?_set_self h]
theorem zD0 {α:Type} {xs:List α} {k j:Nat} (h:j≠k) (y d:α):(xs.set k y).getD j d=xs.getD j d:=by simp[List.getD,List.getElem?_set_ne (Ne.symm h)]
structure QsB (hi g n:Nat) (vs:List (Value×Value)):Prop where
 g:g<hi
 d:∀j,j<n→∀k,(vs.getD j default).1.ownBlock=some k→k<hi
 l:∀j,j<n→∀k,(vs.getD j default).2.ownBlock=some k→k<hi
def m0 (a:Bool):List MR:=[⟨0,15,0,false⟩,⟨16,31,1,false⟩,⟨32,47,2,a⟩]
def m1 (s:Int) (b:Bool):List MR:=[⟨0,7,0,false⟩,⟨8,15,1,false⟩,⟨20,40,s,false⟩,⟨41,63,2,b⟩]
theorem m0_ok (a:Bool) (k:Nat):mapOk ((m0 a).take k)=true∧∀x∈(m0 a).take k,MR64 x:=by
 have h3:∀k,k≤3→mapOk ((m0 a).take k)=true:=by
  intro k hk;have:k=0∨k=1∨k=2∨k=3:=by omega
  cases a <;> rcases this with rfl|rfl|rfl|rfl <;> decide
 refine⟨?_,fun x hx=>?_⟩
 ·by_cases hk:k≤3
  ·exact h3 k hk
  ·rw[List.take_of_length_le (by simp[m0];omega)];have:=h3 3 (by omega)
   rwa [List.take_of_length_le (by simp[m0])]at this
 ·have hx:=List.mem_of_mem_take hx;simp only[m0,List.mem_cons,List.not_mem_nil,or_false]at hx;rcases hx with rfl|rfl|rfl <;> simp[MR64,I64]
theorem m1_ok (s:Int) (b:Bool) (h0:0≤s) (h1:s<3):mapOk (m1 s b)=true∧∀x∈m1 s b,MR64 x:=by
 refine⟨?_,fun x hx=>?_⟩
 ·have:s=0∨s=1∨s=2:=by omega
  cases b <;> rcases this with rfl|rfl|rfl <;> decide
 ·simp only[m1,List.mem_cons,List.not_mem_nil,or_false]at hx;rcases hx with rfl|rfl|rfl|rfl <;> simp[MR64,I64] <;> omega
theorem rowM_len (x:MR):(rowM x).length=4:=rfl
theorem RdAt.drewd {w:World} {r B:Nat} {bs:List Nat} {p:Nat} (h:RdAt w r B bs p):RdAt w.drew r B bs p:=h.draws 1
theorem Elem.map:Elem 23 144 4 32:=zF3 Tryz.underlying23 (z:=.agg #[.int .i64 0,.int .i64 0,.int .i64 0,.bool false]) (by kernel_rfl) rfl (by omega)
theorem rowM_one (x:MR):∀u∈rowM x,u.oneCell' = true:=by
 intro u hu;simp only[rowM,List.mem_cons,List.not_mem_nil,or_false]at hu;rcases hu with rfl|rfl|rfl|rfl <;> rfl
def MBd (x:MR):Prop:=0≤x.fr∧x.fr≤63∧0≤x.to∧x.to≤63∧0≤x.sl∧x.sl≤2
theorem m0_bd (a:Bool):∀x∈m0 a,MBd x:=by
 intro x hx;simp only[m0,List.mem_cons,List.not_mem_nil,or_false]at hx;rcases hx with rfl|rfl|rfl <;> simp[MBd]
theorem m1_bd (s:Int) (b:Bool) (h0:0≤s) (h1:s<3):∀x∈m1 s b,MBd x:=by
 intro x hx;simp only[m1,List.mem_cons,List.not_mem_nil,or_false]at hx;rcases hx with rfl|rfl|rfl|rfl <;> simp[MBd] <;> omega
theorem MBd.r64 {x:MR} (h:MBd x):MR64 x:=by unfold MBd at h;unfold MR64 I64;omega
theorem Owns.someR {α:Type} {w:World} {base e sz:Nat} {f:α→List Value} {v:Value} {xs:List α} (h:Owns w base e sz f v xs) (hn:xs.length≠0):∃g off c,v=.slice (some ⟨g,off,none⟩) xs.length c∧xs.length≤c∧c≤9223372036854775807∧base≤g∧g<w.heap.size:=by
 have hlt:=OwnR.lt h;obtain⟨hl,h2⟩:=h;rcases h2 with⟨_,h2⟩|⟨g,off,cap,cur,rfl,hg,hh,hle,hmax,hsz,hc⟩
 ·exact absurd h2 hn
 ·exact⟨g,off,cap,rfl,hle,by unfold maxLen at hmax;omega,hg,(hlt g rfl).2⟩
def MapP (r B:Nat) (bs:List Nat) (p:Nat) (n:Int) (w:World) (e:Ending) (w':World):Prop :=
 ∃v ms q,e=.returned v∧Owns w' w.heap.size 144 4 rowM v ms∧(∀x∈ms,MR64 x)∧ms.length≤7∧(9000≤n→mapOk ms=true)∧q≤p+9∧RdAt w' r B bs q∧Touch r w w'
def MapC (r B:Nat) (bs:List Nat) (p:Nat) (w:World) (v:Value) (wc:World):Prop :=
 ∃ms q,Owns wc w.heap.size 144 4 rowM v ms∧(∀x∈ms,MBd x)∧1≤ms.length∧ms.length≤4∧mapOk ms=true∧q≤p+4∧RdAt wc r B bs q∧Touch r w wc
theorem Touch.bel {r C:Nat} {w w1 w2:World} (h:Touch r w w1) (hb:Below C w1 w2) (hC:w.heap.size≤C):Touch r w w2 :=
 ⟨hb.os.trans h.os,hb.tape.trans h.tape,hb.output.trans h.output,Nat.le_trans h.size hb.size,fun k hk hr=>by rw[hb.block k (by omega)];exact h.block k hk hr⟩
theorem Touch.ofDrew {r:Nat} {w w':World} (h:Touch r w.drew w'):Touch r w w':=(Touch.refl r w).drewd.trans h
theorem RdAt.setNew {w:World} {r B C:Nat} {bs:List Nat} {p:Nat} (h:RdAt w r B bs p) (hr:r<C) {g:Nat} (hg:C≤g) (o:Nat) (v:Value):RdAt (w.setCell ⟨g,o,none⟩ v) r B bs p :=
 h.kept ((Below.refl C w).setCell (by exact hg) v) hr
theorem tab2 (a b:Int) {n:Nat} (h:n<2):∃y:Int,([Value.int .i64 a,.int .i64 b]:List Value)[n]? = some (.int .i64 y)∧(y=a∨y=b):=by
 rcases(show n=0∨n=1 by omega)with rfl|rfl
 ·exact⟨a,rfl,.inl rfl⟩
 ·exact⟨b,rfl,.inr rfl⟩
theorem tab_arr {xs:List Value} {n:Nat} {v:Value} (h:xs[n]? = some v):xs.toArray[n]? = some v:=by simpa using h
end Go.Proofs.YtgkdoehkmbhfiaaGreat
namespace Go.Proofs.YtgkdoehkmbhfiaaGreat
open Go.RowKit
attribute [local go_sem ↓] Go.wp_at_zero Go.wp_at_succ
theorem rep_rows (n:Nat):(List.replicate n (0:Int)).flatMap rowI=List.replicate n (Value.int .i64 0):=by rw[zH6,List.map_replicate]
theorem owns_made {w:World} {base n:Nat} {v:Value} (h:w.ownsRow base 3 1 v n (List.replicate n (Value.int .i64 0))):Owns w base 3 1 rowI v (List.replicate n (0:Int)):=by
 unfold Owns;rw[rep_rows,List.length_replicate];exact OwnR.of_row h
end Go.Proofs.YtgkdoehkmbhfiaaGreat
namespace Go.Proofs.YtgkdoehkmbhfiaaGreat
open Go.RowKit
theorem mul16 (w:World):Calls Tryz.prog 116 #[.int .u64 1,.int .u64 6] w fun e w' => e=.returned (.tuple #[.int .u64 0,.int .u64 6])∧w=w':=by
 go_enter Tryz.func116,Tryz.ntmps116
 go_wp2
 refine bodyPost_ret (v:=.tuple #[.int .u64 0,.int .u64 6]) (by simp[results,Tryz.results116];first|rfl|decide|exact⟨by rfl,by rfl⟩) rfl ⟨rfl,rfl⟩
def repC (x:Int) (n:Nat):List Value:=List.replicate n (.int .i64 x)++List.replicate (6 - n) (.int .i64 0)
theorem repC_len (x:Int) {n:Nat} (h:n≤6):(repC x n).length=6:=by simp[repC];omega
theorem one_of {cs:List Value} (h:∀v∈cs,∃k:Int,v=.int .i64 k):∀v∈cs,v.oneCell' = true:=fun v hv=>by obtain⟨k,rfl⟩:=h v hv;rfl
def RepP (x:Int) (w:World) (e:Ending) (w':World):Prop:=e=.returned (.slice (some ⟨w.heap.size,0,none⟩) 6 6)∧Owns w' w.heap.size 3 1 rowI (.slice (some ⟨w.heap.size,0,none⟩) 6 6) (List.replicate 6 x)∧Below w.heap.size w w'
theorem infoIs:(Tryz.prog.info? 3).map (·.size)=some 1:=by kernel_rfl
theorem rep_src {w:World} {g n:Nat} {x:Int} (hh:w.heap[g]? = some (.cells (repC x n).toArray 3 (0,0))) (cs:List Value) (hcs:∀(j:Nat) (v:Value),cs[j]? = some v→(repC x n)[j]? = some v):∀(j:Nat) (v:Value),cs[j]? = some v→w.cell? ((⟨g,0,none⟩:Addr).add j)=some v:=fun j v hv=>by
 rw[Addr.add_lit,Nat.zero_add];simp only[World.cell?,hh];simpa using hcs j v hv
def repM (n:Nat):Nat:=if n=1 then 1 else 2
theorem zF9 (g : Nat) : ∀ (cs : List Value) (w : World) (o : Nat), Touch g w (w.setCells g o cs)
 |[],w,_=>Touch.refl g w
 |c::cs,w,o=>(Touch.setCell g o w c).trans (zF9 g cs _ (o+1))
theorem rep_copy {w : World} {g n : Nat} {x : Int} (hn : n = 1 ∨ n = 2 ∨ n = 4) (hh : w.heap[g]? = some (.cells (repC x n).toArray 3 (0, 0))) :
  ∃w2,(∀ty,(Builtin.copy_ #[24,24] ty #[.slice (some ⟨g,n,none⟩) (6 - n) (6 - n),.slice (some ⟨g,0,none⟩) n 6]).run Tryz.prog w=.ok (goInt (repM n)) w2)∧w2.heap[g]? = some (.cells (repC x (n+repM n)).toArray 3 (0,0))∧Touch g w w2:=by
 have hc:∀j,j<6→(w.cell? ⟨g,j,none⟩).isSome=true:=fun j hj=>by
  simp only[World.cell?,hh];have:j<(repC x n).length:=by rw[repC_len x (by omega)];exact hj
  simp[this]
 have hf:∀j,w.frozen? ⟨g,j,none⟩=false:=fun j=>by simp only[World.frozen?,hh];simp
 have key:∀(m:Nat),m≤n→n+m≤6→m=Nat.min n (6 - n)→repM n=m→∃w2,(∀ty,(Builtin.copy_ #[24,24] ty #[.slice (some ⟨g,n,none⟩) (6 - n) (6 - n),.slice (some ⟨g,0,none⟩) n 6]).run Tryz.prog w=.ok (goInt (repM n)) w2)∧w2=w.setCells g n (List.replicate m (.int .i64 x)):=fun m h1 h2 h3 h4=>by
  refine⟨_,fun ty=>?_,rfl⟩
  have := run_copy_cells (P := Tryz.prog) w 24 24 ty 3 g n (6 - n) (6 - n) ⟨g, 0, none⟩ n 6 (List.replicate m (.int .i64 x)) Tryz.underlying24 infoIs (by simpa using h3) (rep_src hh _ (fun j v hv => by
   have hj:=(List.getElem?_eq_some_iff.1 hv).1;simp only[List.length_replicate]at hj;rw[←hv];simp only[repC];rw[List.getElem?_append_left (by simp;omega)];simp[List.getElem?_replicate,hj,show j<n by omega])) (fun j hj=>by simp only[List.length_replicate]at hj;exact hc _ (by omega)) (fun j _=>hf _) (one_of (by intro v hv;exact⟨x,(List.mem_replicate.1 hv).2⟩))
  rw[h4];simpa using this
 rcases hn with rfl|rfl|rfl
 ·obtain⟨w2,h1,h2⟩:=key 1 (by omega) (by omega) (by decide) rfl;refine⟨w2,h1,?_,by rw[h2];exact zF9 _ _ _ _⟩;rw[h2];show(w.setCell ⟨g,1,none⟩ _).heap[g]? = _;simp only[World.setCell,Array.getElem?_modify,hh]
  rfl
 ·obtain⟨w2,h1,h2⟩:=key 2 (by omega) (by omega) (by decide) rfl;refine⟨w2,h1,?_,by rw[h2];exact zF9 _ _ _ _⟩;rw[h2];show((w.setCell ⟨g,2,none⟩ _).setCell ⟨g,3,none⟩ _).heap[g]? = _;simp only[World.setCell,Array.getElem?_modify,hh]
  rfl
 ·obtain⟨w2,h1,h2⟩:=key 2 (by omega) (by omega) (by decide) rfl;refine⟨w2,h1,?_,by rw[h2];exact zF9 _ _ _ _⟩;rw[h2];show((w.setCell ⟨g,4,none⟩ _).setCell ⟨g,5,none⟩ _).heap[g]? = _;simp only[World.setCell,Array.getElem?_modify,hh]
  rfl
theorem sgy {l:Array Bool} {i j:Nat} (h:i≠j):(l.setIfInBounds i true).getD j false=l.getD j false:=Go.getD_set_ne false h
theorem sgiy {l:Array Bool} {i:Nat} (h:l.getD i true=false):(l.setIfInBounds i true).getD i false=true:=by
 have hlt:i<l.size:=by
  rcases Nat.lt_or_ge i l.size with h1|h1
  ·exact h1
  ·simp[Array.getElem?_eq_none h1]at h
 simp[hlt]
theorem zB2 {P : Program} {ops : Array Oper} {Q : Exit → Act → World → Prop} {i : Nat} {o : Oper} {I : Act → World → Prop} {a : Act} {w : World} (ho : ops[i]? = some o) (hg : o.guard = none)
  (h:∀K:Act→World→Prop,(∀a' w', I a' w' → K a' w')→o.wp P a w K Q):wpOp P ops Q i I a w:=wpOp_wp ho hg (h _ fun _ _ h=>h)
def ClosedY (ops:Array Oper) (listed:Array Bool):Prop:=∀i o,ops[i]? = some o→listed.getD i false=true→∀e∈o.after,Region.binds .any e=true→listed.getD e.on false=true
theorem zK7 {P : Program} {ops : Array Oper} {Q : Exit → Act → World → Prop} {id : Nat} {a : Act} {w : World} (I : Array Bool → Act → World → Prop) (hm : P.follows .mixedOrders = true) (hb : backB .any ops = true)
  (start:I (Array.replicate ops.size false) a { w with drawn:=w.drawn+1 })
  (step:∀listed a w i o,I listed a w→listed.size=ops.size→ops[i]? = some o→listed.getD i true=false→(∀e∈o.after,Region.binds .any e=true→listed.getD e.on false=true)→ClosedY ops listed→wpOp P ops Q i (fun a' w' => I (listed.setIfInBounds i true) a' w') a w)
  (done:∀listed a w,I listed a w→(∀i,i<ops.size→listed.getD i false=true)→Q .normal a w):(Code.region id ops true).wp P Q a w:=by
 refine zL9 (fun listed a w=>ClosedY ops listed∧I listed a w) hm hb ⟨fun i o _ hl=>?_,start⟩ ?_ (fun listed a w h hd=>done listed a w h.2 hd)
 ·rw[getD_replicate_false]at hl;cases hl
 ·rintro listed a w i o ⟨hc,hI⟩ hs ho hl he;refine wpOp_mono (fun a' w' h' => ⟨?_,h'⟩) (step listed a w i o hI hs ho hl he hc);intro j o' ho' hj e hem heb;have hset:∀k,listed.getD k false=true→(listed.setIfInBounds i true).getD k false=true:=fun k hk=>by
   by_cases hik:i=k
   ·subst hik;exact sgiy hl
   ·rw[sgy hik];exact hk
  by_cases hij:i=j
  ·subst hij;rw[ho]at ho';obtain rfl:=Option.some.inj ho';exact hset _ (he e hem heb)
  ·rw[sgy hij]at hj;exact hset _ (hc j o' ho' hj e hem heb)
theorem cy {l:Array Bool} {i j:Nat} {b:Bool} {P:Prop} (F:l.getD j false=b→P) (h:Nat.beq i j=false):(l.setIfInBounds i true).getD j false=b→P:=fun hj=>F (by rwa [sgy (Nat.ne_of_beq_eq_false h)]at hj)
theorem cyu {l:Array Bool} {i j k:Nat} {P:Prop} (F:l.getD j false=true→l.getD k false=false→P) (h:Nat.beq i j=false) (h2:Nat.beq i k=false):(l.setIfInBounds i true).getD j false=true→(l.setIfInBounds i true).getD k false=false→P :=
 fun hj hk=>F (by rwa [sgy (Nat.ne_of_beq_eq_false h)]at hj) (by rwa [sgy (Nat.ne_of_beq_eq_false h2)]at hk)
end Go.Proofs.YtgkdoehkmbhfiaaGreat
