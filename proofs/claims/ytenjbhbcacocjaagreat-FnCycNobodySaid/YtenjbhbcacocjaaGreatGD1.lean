/- Memory of a bus: twenty slices, each owns its block, all apart (Raw): one of them changed, a cell of one of them stored. -/
import Derived.Test.YtenjbhbcacocjaaGreatGFind
import Derived.Test.YtenjbhbcacocjaaGreatGPure
import Derived.Test.YtenjbhbcacocjaaGreatGDo5
import Derived.Test.YtenjbhbcacocjaaGreatGAb0
import Derived.Test.YtenjbhbcacocjaaGreatGClInt
import Derived.OwnWalk
import Derived.Deep.MidRow
set_option linter.unusedVariables false
set_option linter.unusedSimpArgs false
namespace Go.Proofs.YtenjbhbcacocjaaGreat
open Go.RowKit
theorem RdAt.fresh {w:World} {B:Nat} {bv:Value} {bs:List Nat} (h:Bytes w B bv bs) (hB:B ≤ w.heap.size) (hl:bs.length ≤ 2000):RdAt (w.alloc (.cells #[bv,.int .i64 0] 129)) w.heap.size B bs 0 :=
 ⟨bv,by show (w.heap.push _)[w.heap.size]? = _;simp,h.below ((Below.refl _ _).alloc (by omega) _),hB,hl⟩
def OpenP (w:World) (B:Nat) (e:Ending) (w':World):Prop:=∃ cs,e = .returned (.pointer (some ⟨w.heap.size,0,none⟩)) ∧ RdAt w' w.heap.size B cs 0 ∧ Below w.heap.size w w'
set_option maxHeartbeats 400000 in
theorem open_any (v:Value) (bs:List Nat) (B:Nat) (w:World) (h:Bytes w B v bs) (hB:B ≤ w.heap.size) :
  Calls Tryz.prog 42 #[v] w (OpenP w B):=by
 obtain ⟨ao,cap,rfl,hlc,hcap,hln,hni,hr⟩:=h.opened
 by_cases hl:(2000:Int) < (bs.length:Int)
 ·go_enter Tryz.func42,Tryz.ntmps42
  go_wp2
  go_ret
  exact ⟨bs.take 2000,rfl,by exact RdAt.fresh (h.take (by omega)) hB (by simp;omega),(Below.refl _ _).alloc (Nat.le_refl _) _⟩
 ·go_enter Tryz.func42,Tryz.ntmps42
  go_wp2
  go_ret
  exact ⟨bs,rfl,by exact RdAt.fresh h hB (by omega),(Below.refl _ _).alloc (Nat.le_refl _) _⟩
def PickP (r B:Nat) (bs:List Nat) (p:Nat) (n:Int) (w:World) (e:Ending) (w':World):Prop :=
 ∃ x:Int,e = .returned (.int .i64 x) ∧ 0 ≤ x ∧ x < n ∧ RdAt w' r B bs (p + 1) ∧ Touch r w w'
theorem pick_p (r B:Nat) (bs:List Nat) (p:Nat) (n:Int) (w:World) (h:RdAt w r B bs p) (hp:p ≤ 1099511627776) (h1:1 ≤ n) (hn:n ≤ 1099511627776) :
  Calls Tryz.prog 80 #[.pointer (some ⟨r,0,none⟩),.int .i64 n] w (PickP r B bs p n w):=by
 refine (pick_any r B bs p n w h hp hn).mono ?_
 rintro e w' ⟨x,rfl,h0,h2,h3,h4⟩
 exact ⟨x,rfl,h0,by omega,h3,h4⟩
def OddP (r B:Nat) (bs:List Nat) (p:Nat) (n:Int) (w:World) (e:Ending) (w':World):Prop :=
 ∃ (b:Bool) (q:Nat),e = .returned (.bool b) ∧ (9000 ≤ n → b = false) ∧ q ≤ p + 1 ∧ RdAt w' r B bs q ∧ Touch r w w'
set_option maxHeartbeats 1000000 in
theorem odd_any (r B:Nat) (bs:List Nat) (p:Nat) (n:Int) (w:World) (h:RdAt w r B bs p) (hp:p ≤ 1099511627776) (h1:1 ≤ n) (hn:n ≤ 1099511627776) :
  Calls Tryz.prog 124 #[.pointer (some ⟨r,0,none⟩),.int .i64 n] w (OddP r B bs p n w):=by
 by_cases h9:n < 9000
 ·go_enter Tryz.func124,Tryz.ntmps124
  go_wp2_with (first | (go_at_call 80;refine (pick_p r B bs p n _ h hp h1 hn).mono ?_;rintro e w1 ⟨x,rfl,hx0,hx1,hr1,ht1⟩))
  go_ret
  exact ⟨_,p + 1,rfl,fun h => by omega,by omega,hr1,ht1⟩
 ·have h9':decide (n < 9000) = false:=by simpa using h9
  go_enter Tryz.func124,Tryz.ntmps124
  go_wp2_with fail
  go_ret
  exact ⟨false,p,rfl,fun _ => rfl,by omega,h,Touch.refl _ _⟩
theorem RdAt.alloc {w:World} {r B:Nat} {bs:List Nat} {p:Nat} (h:RdAt w r B bs p) (o:Obj):RdAt (w.alloc o) r B bs p:=h.kept ((Below.refl _ _).alloc (Nat.le_refl _) o) h.lt
theorem Touch.tab {r:Nat} {w w':World} {xs:Array Value} {T:TypeId} (ht:Touch r (w.alloc (.cells xs T)) w') (hr:r < w.heap.size):∀ i v,xs[i]? = some v → w'.cell? ⟨w.heap.size,i,none⟩ = some v:=by
 intro i v hv
 rw [Touch.cell ht (by show w.heap.size ≠ r;omega) (by simp)]
 simp [go_sem,hv]
theorem Touch.tab2 {r:Nat} {w w':World} {xs ys:Array Value} {T U:TypeId} (ht:Touch r ((w.alloc (.cells xs T)).alloc (.cells ys U)) w') (hr:r < w.heap.size) :
  (∀ i v,xs[i]? = some v → w'.cell? ⟨w.heap.size,i,none⟩ = some v) ∧ (∀ i v,ys[i]? = some v → w'.cell? ⟨w.heap.size + 1,i,none⟩ = some v):=by
 refine ⟨fun i v hv => ?_,fun i v hv => ?_⟩
 ·rw [Touch.cell ht (by show w.heap.size ≠ r;omega) (by simp;omega)]
  simp [go_sem,hv]
 ·rw [Touch.cell ht (by show w.heap.size + 1 ≠ r;omega) (by simp)]
  simp [go_sem,hv]
def AddrP (r B:Nat) (bs:List Nat) (p:Nat) (w:World) (e:Ending) (w':World):Prop :=
 ∃ x:Int,e = .returned (.int .i64 x) ∧ 0 ≤ x ∧ x ≤ 63 ∧ RdAt w' r B bs (p + 7) ∧ Touch r w w'
set_option maxHeartbeats 4000000 in
theorem l20Addr_any (r B:Nat) (bs:List Nat) (p:Nat) (w:World) (h:RdAt w r B bs p) (hp:p ≤ 1000000000) :
  Calls Tryz.prog 125 #[.pointer (some ⟨r,0,none⟩)] w (AddrP r B bs p w):=by
 have HT:=hid (Touch.refl r w)
 go_enter Tryz.func125,Tryz.ntmps125
 go_wp2_with (first
  | (go_at_call 80;(with_reducible refine (pick_p r B bs _ 8 _ ((h.alloc _).alloc _) ?_ (by omega) (by omega)).mono ?_);(omega);have hlt:=h.lt;rintro e w1 ⟨x,rfl,a0,a1,h,ht⟩;obtain ⟨tA,tB⟩:=Touch.tab2 ht hlt;have u0:=tA 0 _ rfl;have u1:=tA 1 _ rfl;have u2:=tA 2 _ rfl;have u3:=tA 3 _ rfl;have u4:=tA 4 _ rfl;have u5:=tA 5 _ rfl;have v0:=tB 0 _ rfl;have v1:=tB 1 _ rfl;have v2:=tB 2 _ rfl;have v3:=tB 3 _ rfl;have v4:=tB 4 _ rfl;have v5:=tB 5 _ rfl;have v6:=tB 6 _ rfl;have v7:=tB 7 _ rfl;clear tA tB;have HT:=hid (show Touch r w w1 from ((HT.out.alloc _).alloc _).trans ht);rcases (show x = 0 ∨ x = 1 ∨ x = 2 ∨ x = 3 ∨ x = 4 ∨ x = 5 ∨ x = 6 ∨ x = 7 by omega) with rfl | rfl | rfl | rfl | rfl | rfl | rfl | rfl)
  | (go_at_call 80;go_must (refine (pick_p r B bs _ _ _ (by first | exact h | exact h.alloc _ | exact (h.alloc _).alloc _) (by omega) (by omega) (by omega)).mono ?_);rintro e w1 ⟨x,rfl,a0,a1,h,ht⟩;have HT:=hid (show Touch r w w1 by first | exact HT.out.trans ht | exact (HT.out.alloc _).trans ht | exact ((HT.out.alloc _).alloc _).trans ht)))
 all_goals
  go_ret
  exact ⟨_,rfl,by omega,by omega,h,HT.out⟩
theorem Owns.touch {α:Type} {w w':World} {r base e sz:Nat} {f:α → List Value} {v:Value} {xs:List α} (h:Owns w base e sz f v xs) (ht:Touch r w w') (hr:r < base):Owns w' base e sz f v xs :=
 OwnR.kept h fun k hk => ht.block k (OwnR.lt h k hk).2 (by have:=(OwnR.lt h k hk).1;omega)
theorem Owns.cellAt {α:Type} {w:World} {base e sz g off n c:Nat} {f:α → List Value} {xs:List α} (h:Owns w base e sz f (.slice (some ⟨g,off,none⟩) n c) xs) (hf:∀ x,(f x).length = sz) (k j:Nat) (d:α) (hk:k < xs.length) (hj:j < sz):w.cell? ⟨g,off + k * sz + j,none⟩ = (f (xs.getD k d))[j]?:=by
 obtain ⟨hl,h2⟩:=h
 rcases h2 with ⟨h2,_⟩ | ⟨g', off', cap,cur,hv,hg,hh,hle,hmax,hsz,hc⟩
 ·cases h2
 ·simp only [Value.slice.injEq,Option.some.injEq,Addr.mk.injEq] at hv
  obtain ⟨⟨rfl,rfl,_⟩,rfl,rfl⟩:=hv
  have hlt:k * sz + j < xs.length * sz:=by
   have:(k + 1) * sz ≤ xs.length * sz:=Nat.mul_le_mul_right _ hk
   rw [Nat.add_mul] at this;omega
  have h3:=hc (k * sz + j) hlt
  rw [flatMap_get hf xs k j hk hj] at h3
  simp only [World.cell?,hh,Nat.add_assoc,h3]
  simp [List.getD,hk]
theorem Owns.frozenAt {α:Type} {w:World} {base e sz g off n c:Nat} {f:α → List Value} {xs:List α} (h:Owns w base e sz f (.slice (some ⟨g,off,none⟩) n c) xs) (o:Nat):w.frozen? ⟨g,o,none⟩ = false:=by
 obtain ⟨hl,h2⟩:=h
 rcases h2 with ⟨h2,_⟩ | ⟨g', off', cap,cur,hv,hg,hh,hle,hmax,hsz,hc⟩
 ·cases h2
 ·simp only [Value.slice.injEq,Option.some.injEq,Addr.mk.injEq] at hv
  obtain ⟨⟨rfl,rfl,_⟩,rfl,rfl⟩:=hv
  simp [World.frozen?,hh]
theorem Owns.putRow {α:Type} {w:World} {base e sz g off n c:Nat} {f:α → List Value} {xs:List α} (h:Owns w base e sz f (.slice (some ⟨g,off,none⟩) n c) xs) (hf:∀ x,(f x).length = sz) (k j:Nat) (d y:α) (u:Value) (hk:k < xs.length) (hj:j < sz)
  (hy:f y = (f (xs.getD k d)).set j u):Owns (w.setCell ⟨g,off + k * sz + j,none⟩ u) base e sz f (.slice (some ⟨g,off,none⟩) n c) (xs.set k y):=by
 obtain ⟨hl,h2⟩:=h
 rcases h2 with ⟨h2,_⟩ | ⟨g', off', cap,cur,hv,hg,hh,hle,hmax,hsz,hc⟩
 ·cases h2
 ·simp only [Value.slice.injEq,Option.some.injEq,Addr.mk.injEq] at hv
  obtain ⟨⟨rfl,rfl,_⟩,rfl,rfl⟩:=hv
  have hks:(k + 1) * sz ≤ xs.length * sz:=Nat.mul_le_mul_right _ hk
  have hcs:xs.length * sz ≤ c * sz:=Nat.mul_le_mul_right _ hle
  rw [Nat.add_mul] at hks
  refine ⟨by rw [flatMap_len hf],.inr ⟨g,off,c,cur.set! (off + k * sz + j) u,by simp,hg,?_,by simpa using hle,hmax,by simpa using hsz,?_⟩⟩
  ·simp only [World.setCell,Array.getElem?_modify,hh]
   simp
  ·intro i hi
   have hi':i < xs.length * sz:=by simpa using hi
   have hs0:0 < sz:=by omega
   rw [rows_flat hf (xs.set k y) i (by simpa using hi') hs0]
   have hq:i / sz < xs.length:=Nat.div_lt_of_lt_mul (by rw [Nat.mul_comm];exact hi')
   have hm:i % sz < sz:=Nat.mod_lt _ hs0
   have hdm:sz * (i / sz) + i % sz = i:=Nat.div_add_mod i sz
   by_cases hik:i = k * sz + j
   ·have hq2:i / sz = k:=by
     rw [hik,Nat.mul_comm,Nat.mul_add_div hs0,Nat.div_eq_of_lt hj,Nat.add_zero]
    have hm2:i % sz = j:=by rw [hik,Nat.mul_comm,Nat.mul_add_mod,Nat.mod_eq_of_lt hj]
    have hlt:off + k * sz + j < cur.size:=by omega
    rw [hq2,hm2,hik,← Nat.add_assoc]
    have e1:((xs.set k y).map f).getD k [] = f y:=by simp [List.getD,hk]
    rw [e1,hy,List.getElem?_set_self (by rw [hf];exact hj)]
    simp [hlt]
   ·rw [Array.set!_eq_setIfInBounds,Array.getElem?_setIfInBounds_ne (by omega),hc i hi', rows_flat hf xs i hi' hs0]
    by_cases hqk:i / sz = k
    ·have hne:i % sz ≠ j:=by
      intro e;apply hik;rw [← hdm,hqk,e,Nat.mul_comm]
     have e1:((xs.set k y).map f).getD (i / sz) [] = f y:=by rw [hqk];simp [List.getD,hk]
     have e2:(xs.map f).getD (i / sz) [] = f (xs.getD k d):=by rw [hqk];simp [List.getD,hk]
     rw [e1,e2,hy,List.getElem?_set_ne (Ne.symm hne)]
    ·congr 1
     simp [List.getD,List.getElem?_set,Ne.symm hqk]
theorem Owns.take {α:Type} {w:World} {base e sz n c:Nat} {a:Option Addr} {f:α → List Value} {xs:List α} (h:Owns w base e sz f (.slice a n c) xs) (hf:∀ x,(f x).length = sz) (m:Nat) (hm:m ≤ xs.length):Owns w base e sz f (.slice a m c) (xs.take m):=by
 obtain ⟨hl,h2⟩:=h
 have hlm:(xs.take m).length = m:=by simp;omega
 refine ⟨by rw [flatMap_len hf],?_⟩
 rcases h2 with ⟨h2,h3⟩ | ⟨g', off', cap,cur,hv,hg,hh,hle,hmax,hsz,hc⟩
 ·simp only [Value.slice.injEq] at h2
  obtain ⟨rfl,rfl,rfl⟩:=h2
  have hm0:m = 0:=by omega
  exact .inl ⟨by rw [hm0],by omega⟩
 ·simp only [Value.slice.injEq] at hv
  obtain ⟨rfl,rfl,rfl⟩:=hv
  refine .inr ⟨g', off', c,cur,by rw [hlm],hg,hh,by omega,hmax,hsz,fun j hj => ?_⟩
  rw [hlm] at hj
  have hms:m * sz ≤ xs.length * sz:=Nat.mul_le_mul_right _ hm
  rw [hc j (by omega)]
  rcases Nat.eq_zero_or_pos sz with h0 | h0
  ·subst h0;omega
  ·rw [rows_flat hf xs j (by omega) h0,rows_flat hf (xs.take m) j (by rw [hlm];exact hj) h0]
   have hq:j / sz < m:=Nat.div_lt_of_lt_mul (by rw [Nat.mul_comm];exact hj)
   congr 1
   simp [List.getD,List.getElem?_take,hq]
theorem Owns.litOf {α:Type} {w:World} {base e sz:Nat} {f:α → List Value} (xs:List α) (cs:Array Value) (hb:base ≤ w.heap.size) (hf:∀ x,(f x).length = sz) (hcs:cs.toList = xs.flatMap f) (hm:xs.length ≤ maxLen) :
  Owns (w.alloc (.cells cs e)) base e sz f (.slice (some ⟨w.heap.size,0,none⟩) xs.length xs.length) xs:=by
 have hlen:cs.size = xs.length * sz:=by rw [← Array.length_toList,hcs,flatMap_len hf]
 unfold Owns
 rw [← hcs]
 exact OwnR.of_row (World.ownsRow_lit w cs xs.length hb hm hlen)
theorem Owns.kept {α:Type} {w w':World} {base e sz:Nat} {f:α → List Value} {v:Value} {xs:List α} (h:Owns w base e sz f v xs) (hk:∀ k,v.ownBlock = some k → w'.heap[k]? = w.heap[k]?):Owns w' base e sz f v xs:=OwnR.kept h hk
theorem Apart.of_lt {v u:Value} {m:Nat} (h:∀ k,v.ownBlock = some k → k < m) (h':∀ k,u.ownBlock = some k → m ≤ k):Apart v u:=fun k hk hu => by
 have:=h k hk;have:=h' k hu;omega
theorem Apart.symm {v u:Value} (h:Apart v u):Apart u v:=fun k hk hu => h k hu hk
def Keeps (P:Nat → Prop) (w w':World):Prop:=∀ b,P b → w'.heap[b]? = w.heap[b]?
theorem Keeps.weak {P Q:Nat → Prop} {w w':World} (h:Keeps Q w w') (hs:∀ b,P b → Q b):Keeps P w w':=fun b hb => h b (hs b hb)
theorem Keeps.trans {P:Nat → Prop} {u v w:World} (h:Keeps P u v) (k:Keeps P v w):Keeps P u w:=fun b hb => (k b hb).trans (h b hb)
theorem Keeps.cell {P:Nat → Prop} {w w':World} (h:Keeps P w w') {a:Addr} (ha:P a.block):w'.cell? a = w.cell? a:=by simp only [World.cell?,h _ ha]
theorem Keeps.frozen {P:Nat → Prop} {w w':World} (h:Keeps P w w') {a:Addr} (ha:P a.block):w'.frozen? a = w.frozen? a:=by simp only [World.frozen?,h _ ha]
def ArrD (w:World) (P:Nat → Prop) (sz:Nat) (v:Value) (rows:List (List Value)):Prop :=
 ∃ ao cap,v = .slice ao rows.length cap ∧ rows.length ≤ cap ∧ cap ≤ 9223372036854775807 ∧ rows.length ≤ 140737488351232 ∧ (ao = none → cap = 0) ∧
  (rows.length ≠ 0 → ∃ b off,ao = some ⟨b,off,none⟩ ∧ P b ∧ ∀ t,t < rows.length → ∀ j,j < sz → w.cell? ⟨b,off + t * sz + j,none⟩ = (rows.getD t [])[j]?)
theorem ArrD.of {w:World} {B sz:Nat} {v:Value} {rows:List (List Value)} (h:Arr w B sz v rows):ArrD w (· < B) sz v rows:=h
theorem ArrD.to {w:World} {P:Nat → Prop} {B sz:Nat} {v:Value} {rows:List (List Value)} (h:ArrD w P sz v rows) (hP:∀ b,P b → b < B):Arr w B sz v rows:=by
 obtain ⟨ao,cap,hv,h1,h2,h0,h9,h3⟩:=h
 refine ⟨ao,cap,hv,h1,h2,h0,h9,fun hn => ?_⟩
 obtain ⟨b,off,ha,hlt,hc⟩:=h3 hn
 exact ⟨b,off,ha,hP b hlt,hc⟩
theorem ArrD.kept {w w':World} {P:Nat → Prop} {sz:Nat} {v:Value} {rows:List (List Value)} (h:ArrD w P sz v rows) (hk:Keeps P w w'):ArrD w' P sz v rows:=by
 obtain ⟨ao,cap,hv,h1,h2,h0,h9,h3⟩:=h
 refine ⟨ao,cap,hv,h1,h2,h0,h9,fun hn => ?_⟩
 obtain ⟨b,off,ha,hlt,hc⟩:=h3 hn
 exact ⟨b,off,ha,hlt,fun t ht j hj => by rw [← hc t ht j hj];exact hk.cell (a:=⟨b,_,none⟩) hlt⟩
theorem ArrD.weak {w:World} {P Q:Nat → Prop} {sz:Nat} {v:Value} {rows:List (List Value)} (h:ArrD w P sz v rows) (hs:∀ b,P b → Q b):ArrD w Q sz v rows:=by
 obtain ⟨ao,cap,hv,h1,h2,h0,h9,h3⟩:=h
 refine ⟨ao,cap,hv,h1,h2,h0,h9,fun hn => ?_⟩
 obtain ⟨b,off,ha,hlt,hc⟩:=h3 hn
 exact ⟨b,off,ha,hs b hlt,hc⟩
theorem OwnR.arrD {w:World} {base e sz:Nat} {v:Value} {n:Nat} {cells:List Value} {rows:List (List Value)} {P:Nat → Prop} (h:OwnR w base e sz v n cells) (hP:∀ k,v.ownBlock = some k → P k)
  (hrows:rows.length = n) (hn:n ≤ 140737488351232) (hc:∀ t,t < n → ∀ j,j < sz → cells[t * sz + j]? = (rows.getD t [])[j]?):ArrD w P sz v rows:=by
 obtain ⟨ao,cap,hv,h1,h2,h0,h9,h3⟩:=h.arr hrows hn hc
 refine ⟨ao,cap,hv,h1,h2,h0,h9,fun hnz => ?_⟩
 obtain ⟨b,off,ha,hlt,hc⟩:=h3 hnz
 exact ⟨b,off,ha,hP b (by rw [hv,ha];rfl),hc⟩
theorem Owns.arrD {α:Type} {w:World} {base e sz:Nat} {f:α → List Value} {v:Value} {xs:List α} {P:Nat → Prop} (h:Owns w base e sz f v xs) (hP:∀ k,v.ownBlock = some k → P k) (hf:∀ x,(f x).length = sz) (hn:xs.length ≤ 140737488351232):ArrD w P sz v (xs.map f) :=
 OwnR.arrD h hP (by simp) hn (fun t ht j hj => flatMap_get hf xs t j ht hj)
def IntsD (w:World) (P:Nat → Prop) (v:Value) (xs:List Int):Prop:=ArrD w P 1 v (xs.map rowI) ∧ ∀ x ∈ xs,I64 x
theorem IntsD.of {w:World} {B:Nat} {v:Value} {xs:List Int} (h:Ints w B v xs):IntsD w (· < B) v xs:=h
theorem IntsD.to {w:World} {P:Nat → Prop} {B:Nat} {v:Value} {xs:List Int} (h:IntsD w P v xs) (hP:∀ b,P b → b < B):Ints w B v xs:=⟨h.1.to hP,h.2⟩
theorem IntsD.kept {w w':World} {P:Nat → Prop} {v:Value} {xs:List Int} (h:IntsD w P v xs) (hk:Keeps P w w'):IntsD w' P v xs:=⟨h.1.kept hk,h.2⟩
theorem IntsD.weak {w:World} {P Q:Nat → Prop} {v:Value} {xs:List Int} (h:IntsD w P v xs) (hs:∀ b,P b → Q b):IntsD w Q v xs:=⟨h.1.weak hs,h.2⟩
theorem Owns.intsD {w:World} {base e:Nat} {v:Value} {xs:List Int} {P:Nat → Prop} (h:Owns w base e 1 rowI v xs) (hP:∀ k,v.ownBlock = some k → P k) (hn:xs.length ≤ 140737488351232) (hx:∀ x ∈ xs,I64 x):IntsD w P v xs:=⟨h.arrD hP rowI_len hn,hx⟩
theorem IntsD.nil (w:World) (P:Nat → Prop):IntsD w P (.slice none 0 0) []:=⟨⟨none,0,rfl,by simp,by omega,by simp,fun _ => rfl,fun h => absurd rfl h⟩,by simp⟩
abbrev RqV:=Rq × Value × Value
def rowQ (y:RqV):List Value:=[.int .i64 y.1.id,.int .i64 y.1.kind,.int .i64 y.1.addr,.int .i64 y.1.many,.bool y.1.wrap,y.2.1,y.2.2]
theorem rowQ_len (y:RqV):(rowQ y).length = 7:=rfl
def RqD (w:World) (P:Nat → Prop) (y:RqV):Prop:=IntsD w P y.2.1 y.1.data ∧ IntsD w P y.2.2 y.1.lanes ∧ I64 y.1.id ∧ I64 y.1.kind ∧ I64 y.1.addr ∧ I64 y.1.many
theorem RqD.kept {w w':World} {P:Nat → Prop} {y:RqV} (h:RqD w P y) (hk:Keeps P w w'):RqD w' P y:=⟨h.1.kept hk,h.2.1.kept hk,h.2.2⟩
theorem RqD.weak {w:World} {P Q:Nat → Prop} {y:RqV} (h:RqD w P y) (hs:∀ b,P b → Q b):RqD w Q y:=⟨h.1.weak hs,h.2.1.weak hs,h.2.2⟩
theorem RqD.val {w:World} {P:Nat → Prop} {B:Nat} {y:RqV} (h:RqD w P y) (hP:∀ b,P b → b < B):ReqV w B (.agg #[.int .i64 y.1.id,.int .i64 y.1.kind,.int .i64 y.1.addr,.int .i64 y.1.many,.bool y.1.wrap,y.2.1,y.2.2]) y.1 :=
 ⟨_,_,rfl,h.1.to hP,h.2.1.to hP,h.2.2⟩
theorem reqs_of {w:World} {P:Nat → Prop} {B:Nat} {v:Value} {ys:List RqV} (ha:ArrD w P 7 v (ys.map rowQ)) (hy:∀ y ∈ ys,RqD w P y) (hP:∀ b,P b → b < B):Reqs w B v (ys.map (·.1)):=by
 refine ⟨ys.map fun y => .agg #[.int .i64 y.1.id,.int .i64 y.1.kind,.int .i64 y.1.addr,.int .i64 y.1.many,.bool y.1.wrap,y.2.1,y.2.2],?_,by simp,fun k hk d => ?_⟩
 ·rw [List.map_map];exact ha.to hP
 ·simp only [List.length_map] at hk
  have e:(ys.map fun y:RqV => Value.agg #[.int .i64 y.1.id,.int .i64 y.1.kind,.int .i64 y.1.addr,.int .i64 y.1.many,.bool y.1.wrap,y.2.1,y.2.2]).getD k undef = .agg #[.int .i64 ys[k].1.id,.int .i64 ys[k].1.kind,.int .i64 ys[k].1.addr,.int .i64 ys[k].1.many,.bool ys[k].1.wrap,ys[k].2.1,ys[k].2.2]:=by simp [List.getD,hk]
  have e2:(ys.map (·.1)).getD k d = ys[k].1:=by simp [List.getD,hk]
  rw [e,e2]
  exact (hy _ (List.getElem_mem hk)).val hP
theorem wpList_push2 {α:Type} {ops:Array Oper} {rest:List Oper} {o:Oper} {a:Act} {Q:Exit → Act → World → Prop} {T e sz by_:Nat} (E:Elem T e sz by_) (f:α → List Value) (hf:∀ x,(f x).length = sz) (y:α) (h1:∀ u ∈ f y,u.oneCell' = true)
  (w:World) (hgd:o.guard = none) (s x:Operand) (ho:o.op = .call { callee:=.builtin .append,args:=#[s,x],argTypes:=#[T,T] })
  (base:Nat) (v:Value) (xs:List α) (hs:a.eval s = v) (hown:Owns w base e sz f v xs) (cs:Array Value) (hcs:cs.toList = f y) (hx:a.eval x = .slice (some ⟨w.heap.size,0,none⟩) 1 1)
  (hlen:(xs.length + 1) * by_ ≤ 140737488355328) (hlen2:xs.length + 1 ≤ 9223372036854775807) (hbase:base ≤ w.heap.size)
  (h:∀ v' w', Owns w' base e sz f v' (xs ++ [y]) → w.heap.size ≤ w'.heap.size → (∀ b,b < w.heap.size → v.ownBlock ≠ some b → w'.heap[b]? = w.heap[b]?) → (v'.ownBlock = v.ownBlock ∨ ∃ k,w.heap.size ≤ k ∧ v'.ownBlock = some k) → Below base w w' → wpList Tryz.prog ops Q rest (a.put o.dst v') w') :
  wpList Tryz.prog ops Q (o :: rest) a (w.alloc (.cells cs e)):=by
 obtain ⟨ht,i,z,hi,hz,hsize,hby,hzs,hsz⟩:=E
 have hown':OwnR (w.alloc (.cells cs e)) base e sz v xs.length (xs.flatMap f):=OwnR.alloc hown _
 refine wpList_append_OwnR hgd s x T ho base e i z sz by_ ht hi hz hsize hby hzs v xs.length (xs.flatMap f) hs hown' ⟨w.heap.size,0,none⟩ 1 1 (f y) hx (by rw [hf];omega) ?_ h1 (by unfold maxLen;omega) hlen (by simp;omega) ?_
 ·intro j u hj
  rw [Addr.add_lit,Nat.zero_add,World.cell?_alloc_at _ _ _ _ rfl,← hj,← hcs]
  simp
 ·intro v' w' ho' hg _ hb
  have hsz:=hg.size
  simp only [World.size_alloc] at hsz
  refine h v' w' (by unfold Owns;simpa using ho') (by omega) (fun b hb hne => ?_) ?_ (((Below.refl _ _).alloc hbase _).grown hg (by simp;omega) (fun k hk => (OwnR.lt hown k hk).1))
  ·rw [hg.block b (by simp;omega) (by intro e;exact hne e.symm)]
   exact ((Below.refl w.heap.size w).alloc (Nat.le_refl _) _).block b hb
  ·rcases hb with hb | hb
   ·exact .inl hb
   ·exact .inr ⟨_,by simp,hb⟩
def ety (κ:Nat):TypeId:=if κ < 2 then 3 else if κ = 2 then 49 else if κ = 3 then 62 else if κ = 4 then 88 else if κ < 8 then 3 else if κ < 15 then 64 else if κ < 19 then 88 else 56
def esz (κ:Nat):Nat:=if κ < 2 then 1 else if κ = 2 then 4 else if κ = 3 then 3 else if κ = 4 then 5 else if κ < 8 then 1 else if κ < 15 then 3 else if κ < 19 then 5 else 3
structure Raw (w:World) (base:Nat) (V:Nat → Value) (N:Nat → Nat) (C:Nat → List Value):Prop where
 own:∀ κ,κ < 20 → OwnR w base (ety κ) (esz κ) (V κ) (N κ) (C κ)
 ap:∀ κ μ,κ < 20 → μ < 20 → κ ≠ μ → Apart (V κ) (V μ)
def Free (V:Nat → Value) (b:Nat):Prop:=∀ κ,κ < 20 → (V κ).ownBlock ≠ some b
theorem Raw.lt {w:World} {base:Nat} {V:Nat → Value} {N:Nat → Nat} {C:Nat → List Value} (h:Raw w base V N C) {κ k:Nat} (hκ:κ < 20) (hk:(V κ).ownBlock = some k):base ≤ k ∧ k < w.heap.size:=OwnR.lt (h.own κ hκ) k hk
theorem Raw.kept {w w':World} {base:Nat} {V:Nat → Value} {N:Nat → Nat} {C:Nat → List Value} (h:Raw w base V N C) (hk:∀ b,b < w.heap.size → ¬ Free V b → w'.heap[b]? = w.heap[b]?):Raw w' base V N C :=
 ⟨fun κ hκ => (h.own κ hκ).kept fun k hk2 => hk k (h.lt hκ hk2).2 fun hf => hf κ hκ hk2,h.ap⟩
theorem Raw.below {w w':World} {base:Nat} {V:Nat → Value} {N:Nat → Nat} {C:Nat → List Value} (h:Raw w base V N C) (hb:Below w.heap.size w w'):Raw w' base V N C:=h.kept fun b hlt _ => hb.block b hlt
theorem Raw.chg {w w':World} {base:Nat} {V:Nat → Value} {N:Nat → Nat} {C:Nat → List Value} (h:Raw w base V N C) {κ n:Nat} {v:Value} {c:List Value} (hκ:κ < 20) (hk:∀ b,b < w.heap.size → (V κ).ownBlock ≠ some b → w'.heap[b]? = w.heap[b]?)
  (ho:OwnR w' base (ety κ) (esz κ) v n c) (hv:∀ k,v.ownBlock = some k → (V κ).ownBlock = some k ∨ w.heap.size ≤ k):Raw w' base (upd V κ v) (upd N κ n) (upd C κ c):=by
 refine ⟨fun μ hμ => ?_,fun μ ν hμ hν hne => ?_⟩
 ·by_cases e:μ = κ
  ·subst e;simp only [upd_same];exact ho
  ·simp only [upd_other _ _ e]
   exact (h.own μ hμ).kept fun k hk2 => hk k (h.lt hμ hk2).2 (fun hk3 => h.ap μ κ hμ hκ e k hk2 hk3)
 ·have key:∀ {ρ:Nat},ρ < 20 → ρ ≠ κ → Apart (V ρ) v:=fun {ρ} hρ e k hk1 hk2 => by
   rcases hv k hk2 with h1 | h1
   ·exact h.ap ρ κ hρ hκ e k hk1 h1
   ·have:=(h.lt hρ hk1).2;omega
  by_cases e1:μ = κ
  ·subst e1
   simp only [upd_same,upd_other _ _ (Ne.symm hne)]
   exact (key hν (Ne.symm hne)).symm
  ·by_cases e2:ν = κ
   ·subst e2
    simp only [upd_same,upd_other _ _ e1]
    exact key hμ e1
   ·simp only [upd_other _ _ e1,upd_other _ _ e2]
    exact h.ap μ ν hμ hν hne
theorem Free.chg {V:Nat → Value} {b κ:Nat} {v:Value} {w:World} (h:Free V b) (hb:b < w.heap.size) (hv:∀ k,v.ownBlock = some k → (V κ).ownBlock = some k ∨ w.heap.size ≤ k) (hκ:κ < 20):Free (upd V κ v) b:=by
 intro μ hμ e
 by_cases e1:μ = κ
 ·subst e1
  rw [upd_same] at e
  rcases hv b e with h1 | h1
  ·exact h μ hμ h1
  ·omega
 ·rw [upd_other _ _ e1] at e;exact h μ hμ e
theorem OwnR.get {w:World} {base e sz g off n cap:Nat} {xs:List Value} (h:OwnR w base e sz (.slice (some ⟨g,off,none⟩) n cap) n xs) (j:Nat) (hj:j < n * sz):w.cell? ⟨g,off + j,none⟩ = xs[j]?:=by
 obtain ⟨hl,h2⟩:=h
 rcases h2 with ⟨h2,_⟩ | ⟨g', off', cap', cur,hv,hg,hh,hle,hmax,hsz,hc⟩
 ·cases h2
 ·simp only [Value.slice.injEq,Option.some.injEq,Addr.mk.injEq,and_true] at hv
  obtain ⟨⟨rfl,rfl⟩,_,rfl⟩:=hv
  simp only [World.cell?,hh]
  rw [hc j hj]
  have:j < xs.length:=by rw [hl];exact hj
  simp [this]
theorem OwnR.unfrozen {w:World} {base e sz g off n cap:Nat} {xs:List Value} (h:OwnR w base e sz (.slice (some ⟨g,off,none⟩) n cap) n xs) (o:Nat):w.frozen? ⟨g,o,none⟩ = false:=by
 obtain ⟨hl,h2⟩:=h
 rcases h2 with ⟨h2,_⟩ | ⟨g', off', cap', cur,hv,hg,hh,_⟩
 ·cases h2
 ·simp only [Value.slice.injEq,Option.some.injEq,Addr.mk.injEq,and_true] at hv
  obtain ⟨⟨rfl,rfl⟩,_,rfl⟩:=hv
  simp [World.frozen?,hh]
theorem OwnR.put {w:World} {base e sz g off n cap:Nat} {xs:List Value} (h:OwnR w base e sz (.slice (some ⟨g,off,none⟩) n cap) n xs) (j:Nat) (hj:j < n * sz) (u:Value):OwnR (w.setCell ⟨g,off + j,none⟩ u) base e sz (.slice (some ⟨g,off,none⟩) n cap) n (xs.set j u):=by
 obtain ⟨hl,h2⟩:=h
 rcases h2 with ⟨h2,_⟩ | ⟨g', off', cap', cur,hv,hg,hh,hle,hmax,hsz,hc⟩
 ·cases h2
 ·simp only [Value.slice.injEq,Option.some.injEq,Addr.mk.injEq,and_true] at hv
  obtain ⟨⟨rfl,rfl⟩,_,rfl⟩:=hv
  refine ⟨by simpa using hl,.inr ⟨g,off,cap,cur.set! (off + j) u,rfl,hg,?_,hle,hmax,by simpa using hsz,fun i hi => ?_⟩⟩
  ·simp [World.setCell,Array.getElem?_modify,hh]
  ·have hjl:j < xs.length:=by rw [hl];exact hj
   have hjc:off + j < cur.size:=by
    have:n * sz ≤ cap * sz:=Nat.mul_le_mul_right _ hle
    omega
   by_cases e:i = j
   ·subst e
    simp [Array.set!_eq_setIfInBounds,Array.getElem?_setIfInBounds,hjc,hjl]
   ·rw [List.getElem?_set_ne (Ne.symm e),← hc i hi]
    simp only [Array.set!_eq_setIfInBounds,Array.getElem?_setIfInBounds]
    rw [if_neg (by omega)]
theorem Raw.set {w:World} {base:Nat} {V:Nat → Value} {N:Nat → Nat} {C:Nat → List Value} (h:Raw w base V N C) {κ g off cap j:Nat} (hκ:κ < 20) (hV:V κ = .slice (some ⟨g,off,none⟩) (N κ) cap) (hj:j < N κ * esz κ) (u:Value):Raw (w.setCell ⟨g,off + j,none⟩ u) base V N (upd C κ ((C κ).set j u)):=by
 have ho:=h.own κ hκ
 rw [hV] at ho
 have:=h.chg (w':=w.setCell ⟨g,off + j,none⟩ u) (κ:=κ) (n:=N κ) (v:=V κ) (c:=(C κ).set j u) hκ (fun b _ hb => by
   rw [Below.heap_setCell _ _ _ _ (by show b ≠ g;intro e;subst e;exact hb (by rw [hV];rfl))]) (by rw [hV];exact ho.put j hj u) (fun k hk => .inl hk)
 have e1:upd V κ (V κ) = V:=by funext i;by_cases e:i = κ <;> simp [upd,e]
 have e2:upd N κ (N κ) = N:=by funext i;by_cases e:i = κ <;> simp [upd,e]
 rw [e1,e2] at this
 exact this
theorem OwnR.addr {w:World} {base e sz n:Nat} {v:Value} {xs:List Value} (h:OwnR w base e sz v n xs) (hn:n ≠ 0):∃ g off cap,v = .slice (some ⟨g,off,none⟩) n cap ∧ n ≤ cap ∧ cap ≤ 9223372036854775807 ∧ base ≤ g ∧ g < w.heap.size:=by
 have hlt:=h.lt
 obtain ⟨hl,h2⟩:=h
 rcases h2 with ⟨_,h2⟩ | ⟨g,off,cap,cur,rfl,hg,hh,hle,hmax,_⟩
 ·exact absurd h2 hn
 ·exact ⟨g,off,cap,rfl,hle,by unfold maxLen at hmax;omega,hg,(hlt g rfl).2⟩
theorem OwnR.form {w:World} {base e sz n:Nat} {v:Value} {xs:List Value} (h:OwnR w base e sz v n xs):∃ a cap,v = .slice a n cap ∧ n ≤ cap ∧ cap ≤ 9223372036854775807:=by
 obtain ⟨hl,h2⟩:=h
 rcases h2 with ⟨rfl,rfl⟩ | ⟨g,off,cap,cur,rfl,hg,hh,hle,hmax,_⟩
 ·exact ⟨none,0,rfl,by omega,by omega⟩
 ·exact ⟨_,cap,rfl,hle,by unfold maxLen at hmax;omega⟩
theorem OwnR.tail1 {w:World} {base e sz g off n cap:Nat} {xs:List Value} (h:OwnR w base e sz (.slice (some ⟨g,off,none⟩) n cap) n xs) (hn:n ≠ 0) :
  OwnR w base e sz (.slice (if cap = 1 then some ⟨g,off,none⟩ else some ⟨g,off + sz,none⟩) (n - 1) (cap - 1)) (n - 1) (xs.drop sz):=by
 obtain ⟨hl,h2⟩:=h
 rcases h2 with ⟨h2,_⟩ | ⟨g', off', cap', cur,hv,hg,hh,hle,hmax,hsz,hc⟩
 ·cases h2
 ·simp only [Value.slice.injEq,Option.some.injEq,Addr.mk.injEq,and_true] at hv
  obtain ⟨⟨rfl,rfl⟩,_,rfl⟩:=hv
  have hm:(n - 1) * sz + sz = n * sz:=by rw [← Nat.succ_mul];congr 1;omega
  have hm2:(cap - 1) * sz + sz = cap * sz:=by rw [← Nat.succ_mul];congr 1;omega
  refine ⟨by rw [List.length_drop,hl];omega,.inr ?_⟩
  by_cases e1:cap = 1
  ·rw [if_pos e1]
   exact ⟨g,off,cap - 1,cur,rfl,hg,hh,by omega,by omega,by omega,fun j hj => by
    have:n - 1 = 0:=by omega
    rw [this] at hj;omega⟩
  ·rw [if_neg e1]
   refine ⟨g,off + sz,cap - 1,cur,rfl,hg,hh,by omega,by omega,by omega,fun j hj => ?_⟩
   rw [show off + sz + j = off + (sz + j) by omega,hc (sz + j) (by omega),List.getElem?_drop]
end Go.Proofs.YtenjbhbcacocjaaGreat
