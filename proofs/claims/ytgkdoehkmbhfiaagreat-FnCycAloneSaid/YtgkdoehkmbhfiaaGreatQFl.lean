/- Draws: a store, and what is held: l20Atm. -/
import Derived.Test.YtgkdoehkmbhfiaaGreatQRu2
import Derived.Test.YtgkdoehkmbhfiaaGreatQDr2
import Derived.Test.YtgkdoehkmbhfiaaGreatQLib
import Derived.Deep.QuietTactic
import Derived.Deep.Cut
import Derived.Deep.CutRange
set_option linter.unusedVariables false
set_option linter.unusedSimpArgs false
set_option maxHeartbeats 16000000
namespace Go.Proofs.YtgkdoehkmbhfiaaGreat
open Go.RowKit
section
variable {P : Program} {ops : Array Oper} {C : List Value → World → Prop} {fl : List (Nat × Bool)} {bd : List (Nat × Nat)}
def Ph (C:List Value→World→Prop):Type:={x:List Value×World // C x.1 x.2}
def zC2 (fl:List (Nat×Bool)) (i:Nat):Option Bool:=(fl.find? fun x=>x.1==i).map (·.2)
def bdOf (bd:List (Nat×Nat)) (i:Nat):Option Nat:=(bd.find? fun x=>x.1==i).map (·.2)
def lims (C : List Value → World → Prop) : Option Nat → List Value → World → Prop
 |none=>C
 |some b=>fun us W=>C us W∧us.length≤b
def quietF (P:Program) (C:List Value→World→Prop) (b:Option Nat) (o:Oper) (a:Act) (v:Value):Prop:=∀x:Ph (lims C b),o.quietAt P a (C x.1.1) x.1.2 v
def wq1 (P : Program) (ops : Array Oper) (C : List Value → World → Prop) (fl : List (Nat × Bool)) (bd : List (Nat × Nat)) (K : Act → Prop) : Nat → List Oper → Act → Prop
 |_,[],a=>K a
 | i, o :: rest, a => match zC2 fl i with
  |none=>if Region.wanted o (yielded ops a.tmps) then ∃v,quietF P C (bdOf bd i) o a v∧wq1 P ops C fl bd K (i+1) rest (a.put o.dst v) else wq1 P ops C fl bd K (i+1) rest (a.put o.dst undef)
  |some true=>∃v,wq1 P ops C fl bd K (i+1) rest (a.put o.dst v)
  |some false=>wq1 P ops C fl bd K (i+1) rest a
def wq2 (P : Program) (ops : Array Oper) (C : List Value → World → Prop) (K : List Value → Act → Prop) : List (Nat × Bool) → List Value → Act → Prop
 |[],us,a=>K us a
 | (i, fx) :: rest, us, a => ∃ o, ops[i]? = some o ∧ Region.wanted o (yielded ops a.tmps) = true ∧
   (∀W,C us W→∀K':Act→World→Prop,(∀v a' W', C (us++[v]) W' → a' = a.put o.dst v→(fx=true→a' = a)→K' a' W')→o.wp P a W K' (fun _ _ _=>False)) ∧
   ∀v,wq2 P ops C K rest (us++[v]) (if fx then a else a.put o.dst v)
theorem zF4 {K:Act→Prop} {i:Nat} {a:Act} (h:K a):wq1 P ops C fl bd K i [] a:=h
theorem wq1_q {K : Act → Prop} {i : Nat} {a : Act} {o : Oper} {rest : List Oper} (hk : zC2 fl i = none ∧ bdOf bd i = none)
  (h:∀K':Act→Prop,(∀a,wq1 P ops C fl bd K (i+1) rest a→K' a)→if Region.wanted o (yielded ops a.tmps) then ∃v,(∀x:Ph C,o.quietAt P a (C x.1.1) x.1.2 v)∧K' (a.put o.dst v) else K' (a.put o.dst undef)):wq1 P ops C fl bd K i (o::rest) a:=by
 unfold wq1;rw[hk.1];simp only[hk.2];exact h _ fun _ h=>h
theorem wq1_b {K : Act → Prop} {i b : Nat} {a : Act} {o : Oper} {rest : List Oper} (hk : zC2 fl i = none ∧ bdOf bd i = some b)
  (h:∀K':Act→Prop,(∀a,wq1 P ops C fl bd K (i+1) rest a→K' a)→if Region.wanted o (yielded ops a.tmps) then ∃v,(∀x:Ph (lims C (some b)),o.quietAt P a (C x.1.1) x.1.2 v)∧K' (a.put o.dst v) else K' (a.put o.dst undef)):wq1 P ops C fl bd K i (o::rest) a:=by
 unfold wq1;rw[hk.1];simp only[hk.2];exact h _ fun _ h=>h
theorem callsF {f:FuncId} {args:Array Value} {x:Ph C} {v:Value} (h:Calls P f args x.1.2 fun e w' => e=.returned v∧x.1.2=w'):Calls P f args x.1.2 fun e w'' => e=.returned v∧C x.1.1 w'' :=
 h.mono fun _ _ ⟨he,hm⟩=>⟨he,hm▸x.2⟩
theorem wq1_x {K:Act→Prop} {i:Nat} {a:Act} {o:Oper} {rest:List Oper} (hk:zC2 fl i=some true) (v:Value) (h:∀K':Act→Prop,(∀a,wq1 P ops C fl bd K (i+1) rest a→K' a)→K' (a.put o.dst v)):wq1 P ops C fl bd K i (o::rest) a:=by
 unfold wq1;rw[hk];exact⟨v,h _ fun _ h=>h⟩
theorem wq1_v {K:Act→Prop} {i:Nat} {a:Act} {o:Oper} {rest:List Oper} (hk:zC2 fl i=some false) (h:wq1 P ops C fl bd K (i+1) rest a):wq1 P ops C fl bd K i (o::rest) a:=by
 unfold wq1;rw[hk];exact h
theorem zF3 {K:List Value→Act→Prop} {us:List Value} {a:Act} (h:K us a):wq2 P ops C K [] us a:=h
theorem wq2_x {K : List Value → Act → Prop} {us : List Value} {a : Act} {i : Nat} {rest : List (Nat × Bool)} (o : Oper) (ho : ops[i]? = some o) (hw : Region.wanted o (yielded ops a.tmps) = true)
  (hf:∀W,C us W→∀K':Act→World→Prop,(∀v a' W', C (us++[v]) W' → a' = a→a' = a.put o.dst v→K' a' W')→o.wp P a W K' (fun _ _ _=>False))
  (h:∀v,wq2 P ops C K rest (us++[v]) a):wq2 P ops C K ((i,true)::rest) us a :=
 ⟨o,ho,hw,fun W hW K' hK=>hf W hW K' fun v a' W' hC e1 e2=>hK v a' W' hC e2 fun _=>e1,fun v=>by rw[if_pos rfl];exact h v⟩
theorem wq2_v {K : List Value → Act → Prop} {us : List Value} {a : Act} {i : Nat} {rest : List (Nat × Bool)} (o : Oper) (ho : ops[i]? = some o) (hw : Region.wanted o (yielded ops a.tmps) = true)
  (hf:∀W,C us W→∀K':Act→World→Prop,(∀v a' W', C (us++[v]) W' → a' = a.put o.dst v→K' a' W')→o.wp P a W K' (fun _ _ _=>False))
  (h:∀v (K':Act→Prop),(∀a', wq2 P ops C K rest (us++[v]) a' → K' a')→K' (a.put o.dst v)):wq2 P ops C K ((i,false)::rest) us a :=
 ⟨o,ho,hw,fun W hW K' hK=>hf W hW K' fun v a' W' hC e=>hK v a' W' hC e (fun h=>by cases h),fun v=>by rw[if_neg (by simp)];exact h v _ fun _ h=>h⟩
def edgeB (o:Oper) (j:Nat):Bool:=o.after.any fun e=>e.on==j&&Region.binds .any e
def flowB (ops:Array Oper) (fl:List (Nat×Bool)) (bd:List (Nat×Nat)) (n:Nat):Bool :=
 (bd.all fun x=>match fl[x.2]? with|some (j,_)=>(match ops[j]? with|some o=>edgeB o x.1|none=>false)|none=>false) &&
 (  backB .any ops && Region.noSelect ops &&
 ((List.range ops.size).all fun i => (List.range ops.size).all fun j => match ops[i]?, ops[j]? with
  | some o, some oj => (match oj.dst with
    | some d => decide (d < n) && (decide (i = j) || decide (o.dst ≠ some d)) &&
      (!(o.looksAt ops).contains d || (edgeB o j&&!(zC2 fl i==none&&zC2 fl j==some false)) || (edgeB oj i&&zC2 fl i==none))
    |none=>true)
  |_,_=>true) &&
 ((List.range fl.length).all fun p => match fl[p]? with
  | some (i, fx) => decide (i < ops.size) && (zC2 fl i == some fx) && (match p with
    |0=>true
    |q+1=>(match fl[q]?,ops[i]? with|some (j,_),some o=>edgeB o j|_,_=>false))
  |none=>true))
theorem zJ8 {o:Oper} {j:Nat} (h:edgeB o j=true):∃e∈o.after,Region.binds .any e=true∧e.on=j:=by
 unfold edgeB at h;rw[Array.any_eq_true']at h;obtain⟨e,he,h⟩:=h;simp only[Bool.and_eq_true,beq_iff_eq]at h;exact⟨e,he,h.2,h.1⟩
structure FlowOk (ops:Array Oper) (fl:List (Nat×Bool)) (bd:List (Nat×Nat)) (n:Nat):Prop where
 bd:∀i b,bdOf bd i=some b→∃(j:Nat) (fx:Bool) (o:Oper),fl[b]? = some (j,fx)∧ops[j]? = some o∧edgeB o i=true
 back:backB .any ops=true
 sel:Region.noSelect ops=true
 inn:∀(j:Nat) oj d,ops[j]? = some oj→oj.dst=some d→d<n
 dis:∀(i j:Nat) oi oj d,ops[i]? = some oi→ops[j]? = some oj→oi.dst=some d→oj.dst=some d→i=j
 rd : ∀ (i j : Nat) o oj d, ops[i]? = some o → ops[j]? = some oj → oj.dst = some d → d ∈ o.looksAt ops →
  (edgeB o j=true∧(zC2 fl i=none→zC2 fl j≠some false))∨(edgeB oj i=true∧zC2 fl i=none)
 fk:∀(p i:Nat) fx,fl[p]? = some (i,fx)→zC2 fl i=some fx∧i<ops.size
 ch:∀(q j:Nat) fj (i:Nat) fx o,fl[q]? = some (j,fj)→fl[q+1]? = some (i,fx)→ops[i]? = some o→edgeB o j=true
theorem flowOk_of {n:Nat} (h:flowB ops fl bd n=true):FlowOk ops fl bd n:=by
 unfold flowB at h;rw[Bool.and_eq_true]at h;obtain⟨h0,h⟩:=h;have hb:∀i b,bdOf bd i=some b→∃(j:Nat) (fx:Bool) (o:Oper),fl[b]? = some (j,fx)∧ops[j]? = some o∧edgeB o i=true:=fun i b hi=>by
  unfold bdOf at hi;rw[Option.map_eq_some_iff]at hi;obtain⟨⟨j,b'⟩,g1,g2⟩:=hi;have g3:=List.find?_some g1;simp only[beq_iff_eq]at g3 g2;subst g3 g2;have h1:=List.all_eq_true.1 h0 _ (List.mem_of_find?_eq_some g1);simp only at h1
  split at h1
  ·rename_i k fx hk
   split at h1
   ·rename_i o ho;exact⟨k,fx,o,hk,ho,h1⟩
   ·cases h1
  ·cases h1
 simp only[Bool.and_eq_true,List.all_eq_true,List.mem_range]at h;obtain⟨⟨⟨h1,h2⟩,h3⟩,h4⟩:=h;have key:∀(i j:Nat) o oj d,ops[i]? = some o→ops[j]? = some oj→oj.dst=some d→d<n∧(i=j∨o.dst≠some d)∧(d ∉ o.looksAt ops∨(edgeB o j=true∧(zC2 fl i=none→zC2 fl j≠some false))∨(edgeB oj i=true∧zC2 fl i=none)):=by
  intro i j o oj d hi hj hd;have h:=h3 i (Array.getElem?_eq_some_iff.1 hi).1 j (Array.getElem?_eq_some_iff.1 hj).1;simp only[hi,hj,hd,Bool.and_eq_true,Bool.or_eq_true,decide_eq_true_eq,Bool.not_eq_true', beq_iff_eq,List.contains_eq_mem,decide_eq_false_iff_not,Bool.and_eq_false_imp]at h;refine⟨h.1.1,h.1.2,?_⟩;rcases h.2 with(h5|h5)|h5
  ·exact .inl h5
  ·exact .inr (.inl ⟨h5.1,fun hn hf=>by have:=h5.2 hn;simp[hf]at this⟩)
  ·exact .inr (.inr h5)
 refine⟨hb,h1,h2,fun j oj d hj hd=>(key j j oj oj d hj hj hd).1,fun i j oi oj d hi hj hdi hdj=>?_,fun i j o oj d hi hj hd hm=>?_,fun p i fx hp=>?_,fun q j fj i fx o hq hp ho=>?_⟩
 ·rcases(key i j oi oj d hi hj hdj).2.1 with e|e
  ·exact e
  ·exact absurd hdi e
 ·rcases(key i j o oj d hi hj hd).2.2 with h5|h5
  ·exact absurd hm h5
  ·exact h5
 ·have h:=h4 p (List.getElem?_eq_some_iff.1 hp).1;simp only[hp,Bool.and_eq_true,decide_eq_true_eq,beq_iff_eq]at h;exact⟨h.1.2,h.1.1⟩
 ·have h:=h4 (q+1) (List.getElem?_eq_some_iff.1 hp).1;simp only[hp,hq,ho,Bool.and_eq_true]at h;exact h.2
def sl' (a:Act) (d:Nat):Value:=a.tmps.getD d undef
theorem sl_put {a:Act} {d t:Nat} {v:Value}:sl' (a.put (some d) v) t=if d=t∧d<a.tmps.size then v else sl' a t:=by
 unfold sl' Act.put;by_cases h:d=t
 ·subst h;by_cases hd:d<a.tmps.size
  ·simp[hd]
  ·simp[hd]
 ·simp[h,Array.getElem?_setIfInBounds_ne h]
theorem zJ1 {a:Act} {x:Option Tmp} {t:Nat} {v:Value} (h:x≠some t):sl' (a.put x v) t=sl' a t:=by
 cases x with
 |none=>rfl
 |some d=>rw[sl_put,if_neg (fun e=>h (by rw[e.1]))]
theorem size_put {a:Act} {x:Option Tmp} {v:Value}:(a.put x v).tmps.size=a.tmps.size:=by cases x <;> simp[Act.put]
theorem defers_put' {a:Act} {x:Option Tmp} {v:Value}:(a.put x v).defers=a.defers:=by cases x <;> rfl
theorem exec_same {o:Oper} {a b:Act} (hs:∀cs b,o.op≠.select cs b) (h:∀t∈o.looksAt ops,sl' a t=sl' b t):execOp a.eval o=execOp b.eval o :=
 execOp_congr o hs fun x hx=>by
  cases x with
  |tmp t=>exact h t (List.mem_append_left _ (List.mem_filterMap.2 ⟨.tmp t,by simpa using hx,rfl⟩))
  |_=>rfl
theorem wanted_same {o:Oper} {a b:Act} (hz:a.tmps.size=b.tmps.size) (h:∀t∈o.looksAt ops,sl' a t=sl' b t):Region.wanted o (yielded ops a.tmps)=Region.wanted o (yielded ops b.tmps):=by
 unfold Region.wanted;cases hg:o.guard with
 |none=>rfl
 |some gw=>
  obtain⟨g,want⟩:=gw;have hy:yielded ops a.tmps g=yielded ops b.tmps g:=by
   unfold yielded;cases ht:(ops[g]?).bind (·.dst) with
   |none=>rfl
   |some t=>
    have:=h t (by simp[Oper.looksAt,hg,ht]);unfold sl' at this;simp only[Option.bind_some];by_cases hlt:t<a.tmps.size
    ·have hlt2:t<b.tmps.size:=hz▸hlt;simp[hlt,hlt2]at this ⊢;rw[this]
    ·have hlt2:¬t<b.tmps.size:=hz▸hlt;rw[Array.getElem?_eq_none (Nat.le_of_not_lt hlt),Array.getElem?_eq_none (Nat.le_of_not_lt hlt2)]
  simp only[hy]
def frV (ops : Array Oper) (fl : List (Nat × Bool)) (V : Nat → Value) (a : Act) : Nat → Act
 |0=>a
 | k + 1 => match ops[k]? with
  |some o=>if zC2 fl k=some false then frV ops fl V a k else(frV ops fl V a k).put o.dst (V k)
  |none=>frV ops fl V a k
theorem frV_size (V : Nat → Value) (a : Act) : ∀ k, (frV ops fl V a k).tmps.size = a.tmps.size
 |0=>rfl
 |k+1=>by unfold frV;split <;> (try split) <;> simp[size_put,frV_size V a k]
theorem frV_defers (V : Nat → Value) (a : Act) : ∀ k, (frV ops fl V a k).defers = a.defers
 |0=>rfl
 |k+1=>by unfold frV;split <;> (try split) <;> simp[defers_put', frV_defers V a k]
theorem frV_congr {V V' : Nat → Value} {a : Act} : ∀ k, (∀ j, j < k → V j = V' j) → frV ops fl V a k = frV ops fl V' a k
 |0,_=>rfl
 |k+1,h=>by unfold frV;rw[frV_congr k fun j hj=>h j (by omega),h k (by omega)]
theorem frV_at {V : Nat → Value} {a : Act} (H : FlowOk ops fl bd a.tmps.size) {j : Nat} {oj : Oper} {d : Nat} (hj : ops[j]? = some oj) (hd : oj.dst = some d) (hk : zC2 fl j ≠ some false) : ∀ k, j < k → sl' (frV ops fl V a k) d = V j
 |k+1,h=>by
  unfold frV;by_cases e:k=j
  ·subst e;simp only[hj,if_neg hk,hd];rw[sl_put,if_pos ⟨rfl,by rw[frV_size];exact H.inn _ _ _ hj hd⟩]
  ·have ih:=frV_at (V:=V) H hj hd hk k (by omega)
   split
   ·rename_i o ho
    split
    ·exact ih
    ·rw[zJ1 (fun e2=>e (H.dis k j o oj d ho hj e2 hd))];exact ih
   ·exact ih
theorem frV_no {V : Nat → Value} {a : Act} {d : Nat} : ∀ k, (∀ j, j < k → ∀ oj, ops[j]? = some oj → zC2 fl j ≠ some false → oj.dst ≠ some d) → sl' (frV ops fl V a k) d = sl' a d
 |0,_=>rfl
 |k+1,h=>by
  have ih:=frV_no (V:=V) (a:=a) (d:=d) k fun j hj=>h j (by omega)
  unfold frV
  split
  ·rename_i o ho
   split
   ·exact ih
   ·rename_i hk;rw[zJ1 (h k (by omega) o ho hk)];exact ih
  ·exact ih
def YieldF (P:Program) (ops:Array Oper) (C:List Value→World→Prop) (b:Option Nat) (o:Oper) (a:Act) (v:Value):Prop :=
 (Region.wanted o (yielded ops a.tmps)=true∧quietF P C b o a v)∨(Region.wanted o (yielded ops a.tmps)=false∧v=undef)
theorem wq1_vals {K : Act → Prop} {a0 : Act} : ∀ (l : List Oper) (i : Nat) (V0 : Nat → Value), (∀ j, l[j]? = ops[i + j]?) → wq1 P ops C fl bd K i l (frV ops fl V0 a0 i) →
  ∃V,(∀j,j<i→V j=V0 j)∧(∀j o,i≤j→ops[j]? = some o→zC2 fl j=none→YieldF P ops C (bdOf bd j) o (frV ops fl V a0 j) (V j))∧K (frV ops fl V a0 (i+l.length))
 | [], i, V0, hl, h => ⟨V0, fun _ _ => rfl, fun j o hj ho => by
   have:=hl (j - i);rw[show i+(j - i)=j by omega,ho]at this;simp at this,h⟩
 |o::l,i,V0,hl,h=>by
  have ho:ops[i]? = some o:=by simpa using(hl 0).symm
  have hl':∀j,l[j]? = ops[i+1+j]?:=fun j=>by have:=hl (j+1);simpa[Nat.add_assoc,Nat.add_comm 1 j]using this
  have go : ∀ v, (zC2 fl i ≠ some false) → wq1 P ops C fl bd K (i + 1) l ((frV ops fl V0 a0 i).put o.dst v) → (zC2 fl i = none → YieldF P ops C (bdOf bd i) o (frV ops fl V0 a0 i) v) →
    ∃V,(∀j,j<i→V j=V0 j)∧(∀j o,i≤j→ops[j]? = some o→zC2 fl j=none→YieldF P ops C (bdOf bd j) o (frV ops fl V a0 j) (V j))∧K (frV ops fl V a0 (i+(o::l).length)):=by
   intro v hk h hy;have e:frV ops fl (fun j=>if j=i then v else V0 j) a0 (i+1)=(frV ops fl V0 a0 i).put o.dst v:=by
    show(match ops[i]? with|some o=>if zC2 fl i=some false then frV ops fl _ a0 i else(frV ops fl _ a0 i).put o.dst (if i=i then v else V0 i)|none=>frV ops fl _ a0 i)=_;simp only[ho,if_neg hk,if_true];rw[frV_congr (V':=V0) i fun j hj=>by simp[show j≠i by omega]]
   obtain⟨V,g1,g2,g3⟩:=wq1_vals l (i+1) (fun j=>if j=i then v else V0 j) hl' (by rw[e];exact h);have gi:V i=v:=by rw[g1 i (by omega)];simp
   have gl:∀j,j<i→V j=V0 j:=fun j hj=>by rw[g1 j (by omega)];simp[show j≠i by omega]
   refine⟨V,gl,fun j o' hj ho' hkn=>?_,by rw[List.length_cons,show i+(l.length+1)=i+1+l.length by omega];exact g3⟩;by_cases e2:j=i
   ·subst e2;rw[ho]at ho';obtain rfl:=Option.some.inj ho';rw[frV_congr (V':=V0) j gl,gi];exact hy hkn
   ·exact g2 j o' (by omega) ho' hkn
  unfold wq1 at h;rcases hk:zC2 fl i with _|_|_
  ·rw[hk]at h;by_cases hw:Region.wanted o (yielded ops (frV ops fl V0 a0 i).tmps)=true
   ·rw[if_pos hw]at h;obtain⟨v,hv,h⟩:=h;exact go v (by rw[hk];simp) h fun _=>.inl ⟨hw,hv⟩
   ·rw[if_neg hw]at h;exact go undef (by rw[hk];simp) h fun _=>.inr ⟨by simpa using hw,rfl⟩
  ·rw[hk]at h;have e:frV ops fl V0 a0 (i+1)=frV ops fl V0 a0 i:=by
    show(match ops[i]? with|some o=>if zC2 fl i=some false then frV ops fl V0 a0 i else(frV ops fl V0 a0 i).put o.dst (V0 i)|none=>frV ops fl V0 a0 i)=_;simp only[ho,hk,if_true]
   obtain⟨V,g1,g2,g3⟩:=wq1_vals l (i+1) V0 hl' (by rw[e];exact h);refine⟨V,fun j hj=>g1 j (by omega),fun j o' hj ho' hkn=>?_,by rw[List.length_cons,show i+(l.length+1)=i+1+l.length by omega];exact g3⟩;by_cases e2:j=i
   ·subst e2;rw[hk]at hkn;cases hkn
   ·exact g2 j o' (by omega) ho' hkn
  ·rw[hk]at h;obtain⟨v,h⟩:=h;exact go v (by rw[hk];simp) h fun e=>by rw[hk]at e;cases e
theorem flip_wp {o : Oper} {a b : Act} {W : World} {R : Value → World → Prop} {Q : Exit → Act → World → Prop} (he : execOp a.eval o = execOp b.eval o) (hin : ∀ d, o.dst = some d → d < b.tmps.size)
  (h:o.wp P b W (fun b' W' => ∃v,b' = b.put o.dst v∧R v W') (fun _ _ _=>False)):o.wp P a W (fun a' W' => ∃v,a' = a.put o.dst v∧R v W') Q:=by
 have inj:∀u v,b.put o.dst u=b.put o.dst v→∀W', R v W' → ∃v', a.put o.dst u=a.put o.dst v' ∧ R v' W':=by
  intro u v e W' hR;cases hd:o.dst with
  |none=>exact⟨v,rfl,hR⟩
  |some d=>
   rw[hd]at e;have h1:sl' (b.put (some d) u) d=sl' (b.put (some d) v) d:=by rw[e]
   rw[sl_put,sl_put,if_pos ⟨rfl,hin d hd⟩,if_pos ⟨rfl,hin d hd⟩]at h1;exact⟨v,by rw[h1],hR⟩
 unfold Oper.wp at *;rw[he];generalize (execOp b.eval o).run P W=r at *;cases r with
 |ok n w' =>
  cases n <;> simp only[Oper.upon]at h ⊢
  case value u=>obtain⟨v,e,hR⟩:=h;exact inj u v e _ hR
  case skip=>obtain⟨v,e,hR⟩:=h;exact inj undef v e _ hR
  case defer d=>
   obtain⟨v,e,hR⟩:=h
   exfalso
   have:=congrArg Act.defers e;rw[defers_put', defers_put']at this;have:=congrArg List.length this;simp at this
  case enter f args=>
   refine h.mono fun e w'' he2=>?_
   cases e with
   |returned v=>obtain⟨v', e,hR⟩:=he2;exact inj v v' e _ hR
   |panicked ch=>exact absurd he2 id
   |outgrown=>obtain⟨_,_,hf⟩:=he2;exact absurd hf id
  case row row args=>exact h.mono fun v w'' ⟨v', e,hR⟩=>inj v v' e _ hR
 |halt x w' => cases x <;> simp only[Oper.upon]at h
def valF (fl:List (Nat×Bool)) (V:Nat→Value) (us:List Value) (j:Nat):Value:=if zC2 fl j=some false then us.getD (fl.findIdx fun x=>x.1==j) undef else V j
structure FlI (P:Program) (ops:Array Oper) (C:List Value→World→Prop) (fl:List (Nat×Bool)) (K:List Value→Act→Prop) (V:Nat→Value) (a0:Act) (listed:Array Bool) (a:Act) (W:World) (us:List Value) (b:Act):Prop where
 cw:C us W
 cnt:∀(p i:Nat) fx,fl[p]? = some (i,fx)→(listed.getD i false=true↔p<us.length)
 le:us.length≤fl.length
 da:a.defers=a0.defers
 za:a.tmps.size=a0.tmps.size
 on:∀(j:Nat) o d,ops[j]? = some o→o.dst=some d→listed.getD j false=true→sl' a d=valF fl V us j
 off:∀d,(∀(j:Nat) o,ops[j]? = some o→listed.getD j false=true→o.dst≠some d)→sl' a d=sl' a0 d
 w2:wq2 P ops C K (fl.drop us.length) us b
 db:b.defers=a0.defers
 zb:b.tmps.size=a0.tmps.size
 bon:∀(j:Nat) o d,ops[j]? = some o→o.dst=some d→(zC2 fl j≠some false∨listed.getD j false=true)→sl' b d=valF fl V us j
 boff:∀d,(∀(j:Nat) o,ops[j]? = some o→o.dst≠some d)→sl' b d=sl' a0 d
theorem zF9 {l:Array Bool} {i:Nat} (h:i<l.size):(l.setIfInBounds i true).getD i false=true:=by simp[h]
theorem findIdx_fl {p i:Nat} {fx:Bool} (H:∀(p i:Nat) fx,fl[p]? = some (i,fx)→zC2 fl i=some fx∧i<ops.size) (hu:∀(p q:Nat) i fx fy,fl[p]? = some (i,fx)→fl[q]? = some (i,fy)→p=q) (hp:fl[p]? = some (i,fx)):(fl.findIdx fun x=>x.1==i)=p:=by
 have hlt:=(List.getElem?_eq_some_iff.1 hp).1;have he:=(List.getElem?_eq_some_iff.1 hp).2;have hx:∃x∈fl,(fun x:Nat×Bool=>x.1==i) x=true:=⟨fl[p],List.getElem_mem hlt,by simp[he]⟩
 have hi:=List.findIdx_lt_length_of_exists hx;have hg:=List.findIdx_getElem (xs:=fl) (p:=fun x=>x.1==i) (w:=hi);obtain⟨⟨j,fy⟩,hj⟩:∃y,fl[fl.findIdx fun x=>x.1==i]? = some y:=⟨_,List.getElem?_eq_getElem hi⟩
 have e:j=i:=by
  rw[List.getElem?_eq_getElem hi]at hj;have e2:=Option.some.inj hj;rw[e2]at hg;simpa using hg
 subst e;exact hu _ _ _ _ _ hj hp
theorem FlowOk.mono {n : Nat} (H : FlowOk ops fl bd n) : ∀ (p k i j : Nat) fx fy, fl[p]? = some (i, fx) → fl[p + k + 1]? = some (j, fy) → i < j
 |p,0,i,j,fx,fy,hp,hq=>by
  have hj:=(H.fk _ _ _ hq).2;obtain⟨e,he,hb,hon⟩:=zJ8 (H.ch p i fx j fy ops[j] hp hq (Array.getElem?_eq_getElem hj));have:=zM0 H.back (Array.getElem?_eq_getElem hj) e he hb;omega
 |p,k+1,i,j,fx,fy,hp,hq=>by
  have hlt:=(List.getElem?_eq_some_iff.1 hq).1;obtain⟨⟨m,fm⟩,hm⟩:∃y,fl[p+k+1]? = some y:=⟨_,List.getElem?_eq_getElem (by omega)⟩
  have h1:=H.mono p k i m fx fm hp hm;have hj:=(H.fk _ _ _ hq).2;obtain⟨e,he,hb,hon⟩:=zJ8 (H.ch (p+k+1) m fm j fy ops[j] hm hq (Array.getElem?_eq_getElem hj));have:=zM0 H.back (Array.getElem?_eq_getElem hj) e he hb;omega
theorem FlowOk.uniq {n:Nat} (H:FlowOk ops fl bd n) (p q i:Nat) (fx fy:Bool) (hp:fl[p]? = some (i,fx)) (hq:fl[q]? = some (i,fy)):p=q:=by
 rcases Nat.lt_trichotomy p q with h|h|h
 ·have:=H.mono p (q - p - 1) i i fx fy hp (by rw[show p+(q - p - 1)+1=q by omega];exact hq);omega
 ·exact h
 ·have:=H.mono q (p - q - 1) i i fy fx hq (by rw[show q+(p - q - 1)+1=p by omega];exact hp);omega
theorem kind_some {i:Nat} {fx:Bool} (h:zC2 fl i=some fx):∃p:Nat,fl[p]? = some (i,fx):=by
 unfold zC2 at h;rw[Option.map_eq_some_iff]at h;obtain⟨⟨j,fy⟩,h1,h2⟩:=h;have h3:=List.find?_some h1;have h4:=List.mem_of_find?_eq_some h1;obtain⟨p,hp⟩:=List.mem_iff_getElem?.1 h4;simp only[beq_iff_eq]at h3 h2;subst h3 h2;exact⟨p,hp⟩
theorem FlI.quiet {K : List Value → Act → Prop} {V : Nat → Value} {a0 : Act} {listed : Array Bool} {a b : Act} {W W' : World} {us : List Value} (H : FlowOk ops fl bd a0.tmps.size) (h : FlI P ops C fl K V a0 listed a W us b) {i : Nat} {o : Oper} (ho : ops[i]? = some o) (hi : i < listed.size) (hk : zC2 fl i = none) (hW : C us W') :
  FlI P ops C fl K V a0 (listed.setIfInBounds i true) (a.put o.dst (V i)) W' us b:=by
 have hset:∀j,j≠i→(listed.setIfInBounds i true).getD j false=listed.getD j false:=fun j hj=>sgy (Ne.symm hj)
 refine⟨hW,fun p j fx hp=>?_,h.le,by rw[defers_put'];exact h.da,by rw[size_put];exact h.za,fun j oj d hj hd hl=>?_,fun d hd=>?_,h.w2,h.db,h.zb,fun j oj d hj hd hl=>?_,h.boff⟩
 ·have hne:j≠i:=fun e=>by have:=(H.fk _ _ _ hp).1;rw[e,hk]at this;cases this
  rw[hset j hne];exact h.cnt p j fx hp
 ·by_cases e:j=i
  ·subst e;rw[ho]at hj;obtain rfl:=Option.some.inj hj;rw[hd,sl_put,if_pos ⟨rfl,by rw[h.za];exact H.inn _ _ _ ho hd⟩];unfold valF;rw[hk];simp
  ·rw[hset j e]at hl;rw[zJ1 (fun e2=>e (H.dis j i oj o d hj ho hd e2))];exact h.on j oj d hj hd hl
 ·have hdi:o.dst≠some d:=hd i o ho (zF9 hi);rw[zJ1 hdi];refine h.off d fun j oj hj hl=>hd j oj hj ?_
  by_cases e:j=i
  ·subst e;exact zF9 hi
  ·rw[hset j e];exact hl
 ·refine h.bon j oj d hj hd ?_;by_cases e:j=i
  ·subst e;exact .inl (by rw[hk];simp)
  ·rw[hset j e]at hl;exact hl
theorem FlI.flip {K : List Value → Act → Prop} {V : Nat → Value} {a0 : Act} {listed : Array Bool} {a b : Act} {W W' : World} {us : List Value} (H : FlowOk ops fl bd a0.tmps.size) (h : FlI P ops C fl K V a0 listed a W us b) {i : Nat} {fx : Bool} {o : Oper} (ho : ops[i]? = some o) (hi : i < listed.size) (hp : fl[us.length]? = some (i, fx)) {v : Value} (hW : C (us ++ [v]) W') (hfx : fx = true → b.put o.dst v = b)
  (hw:wq2 P ops C K (fl.drop (us.length+1)) (us++[v]) (if fx then b else b.put o.dst v)) :
  FlI P ops C fl K V a0 (listed.setIfInBounds i true) (a.put o.dst v) W' (us++[v]) (if fx then b else b.put o.dst v):=by
 have hset:∀j,j≠i→(listed.setIfInBounds i true).getD j false=listed.getD j false:=fun j hj=>sgy (Ne.symm hj)
 have hk:=(H.fk _ _ _ hp).1;have fi:∀(p j:Nat) (fy:Bool),fl[p]? = some (j,fy)→(fl.findIdx fun x=>x.1==j)=p:=fun p j fy hq=>findIdx_fl (ops:=ops) H.fk (fun p q i fx fy=>H.uniq p q i fx fy) hq
 have vk:∀(j:Nat),j≠i→(zC2 fl j≠some false∨listed.getD j false=true)→valF fl V (us++[v]) j=valF fl V us j:=fun j hj hl=>by
  unfold valF
  split
  ·rename_i hkj;obtain⟨q,hq⟩:=kind_some hkj;have hlj:listed.getD j false=true:=hl.resolve_left fun hn=>hn hkj
   have hql:=(h.cnt q j false hq).1 hlj;rw[fi q j false hq];simp[List.getD,List.getElem?_append_left hql]
  ·rfl
 have vi:∀d,o.dst=some d→valF fl V (us++[v]) i=v:=fun d hd=>by
  unfold valF;cases fx with
  |false=>rw[if_pos hk,fi _ _ _ hp];simp[List.getD]
  |true=>
   rw[if_neg (by rw[hk];simp)];have e:=hfx rfl;have h1:=h.bon i o d ho hd (.inl (by rw[hk];simp));rw[←e,hd,sl_put,if_pos ⟨rfl,by rw[h.zb];exact H.inn _ _ _ ho hd⟩]at h1;unfold valF at h1;rw[if_neg (by rw[hk];simp)]at h1;exact h1.symm
 have bsl:∀d,o.dst≠some d→sl' (if fx then b else b.put o.dst v) d=sl' b d:=fun d hd=>by
  cases fx
  ·exact zJ1 hd
  ·rfl
 refine⟨hW,fun p j fy hq=>?_,?_,by rw[defers_put'];exact h.da,by rw[size_put];exact h.za,fun j oj d hj hd hl=>?_,fun d hd=>?_,by rw[List.length_append];exact hw,?_,?_,fun j oj d hj hd hl=>?_,fun d hd=>?_⟩
 ·rw[List.length_append,List.length_singleton];by_cases e:j=i
  ·subst e;have:=H.uniq _ _ _ _ _ hq hp
   constructor
   ·intro;omega
   ·intro;exact zF9 hi
  ·rw[hset j e];have h1:=h.cnt p j fy hq
   constructor
   ·intro hl;have:=h1.1 hl;omega
   ·intro hl;refine h1.2 ?_;rcases Nat.lt_or_ge p us.length with h2|h2
    ·exact h2
    ·have:p=us.length:=by omega
     subst this;rw[hp]at hq;simp only[Option.some.injEq,Prod.mk.injEq]at hq;exact absurd hq.1.symm e
 ·rw[List.length_append,List.length_singleton];exact(List.getElem?_eq_some_iff.1 hp).1
 ·by_cases e:j=i
  ·subst e;rw[ho]at hj;obtain rfl:=Option.some.inj hj;rw[vi d hd,hd,sl_put,if_pos ⟨rfl,by rw[h.za];exact H.inn _ _ _ ho hd⟩]
  ·rw[hset j e]at hl;rw[vk j e (.inr hl),zJ1 (fun e2=>e (H.dis j i oj o d hj ho hd e2))];exact h.on j oj d hj hd hl
 ·have hdi:o.dst≠some d:=hd i o ho (zF9 hi);rw[zJ1 hdi];refine h.off d fun j oj hj hl=>hd j oj hj ?_
  by_cases e:j=i
  ·subst e;exact zF9 hi
  ·rw[hset j e];exact hl
 ·cases fx
  ·exact defers_put'.trans h.db
  ·exact h.db
 ·cases fx
  ·exact size_put.trans h.zb
  ·exact h.zb
 ·by_cases e:j=i
  ·subst e;rw[ho]at hj;obtain rfl:=Option.some.inj hj;rw[vi d hd];cases fx with
   |false=>rw[if_neg (by simp),hd,sl_put,if_pos ⟨rfl,by rw[h.zb];exact H.inn _ _ _ ho hd⟩]
   |true=>
    rw[if_pos rfl,←hfx rfl,hd,sl_put,if_pos ⟨rfl,by rw[h.zb];exact H.inn _ _ _ ho hd⟩]
  ·have hl2:zC2 fl j≠some false∨listed.getD j false=true:=hl.imp id fun hl=>by rwa [hset j e]at hl
   rw[vk j e hl2,bsl d (fun e2=>e (H.dis j i oj o d hj ho hd e2))];exact h.bon j oj d hj hd hl2
 ·rw[bsl d (hd i o ho)];exact h.boff d hd
theorem zA9 {id : Nat} {Q : Exit → Act → World → Prop} {a : Act} {w : World} {l : List Oper} (C : List Value → World → Prop) (fl : List (Nat × Bool)) (bd : List (Nat × Nat)) (hm : P.follows .mixedOrders = true) (hB : flowB l.toArray fl bd a.tmps.size = true) (hC : C [] w.drew)
  (h:wq1 P l.toArray C fl bd (fun a' => wq2 P l.toArray C (fun us b=>∀W,C us W→Q .normal b W) fl [] a') 0 l a):(Code.region id l.toArray true).wp P Q a w:=by
 have H:=flowOk_of hB;obtain⟨V,_,hV,hK⟩:=wq1_vals (ops:=l.toArray) (a0:=a) l 0 (fun _=>undef) (by simp) h;rw[Nat.zero_add]at hK;refine zL1 (fun listed a' W=>∃us b,FlI P l.toArray C fl (fun us b=>∀W,C us W→Q .normal b W) V a listed a' W us b) hm H.back ?_ ?_ ?_
 ·refine⟨[],_,hC,fun p i fx _=>?_,Nat.zero_le _,rfl,rfl,fun j o d _ _ hl=>?_,fun _ _=>rfl,hK,frV_defers _ _ _,frV_size _ _ _,fun j o d hj hd hl=>?_,fun d hd=>?_⟩
  ·rw[getD_replicate_false];simp
  ·rw[getD_replicate_false]at hl;cases hl
  ·rw[getD_replicate_false]at hl;have hk:zC2 fl j≠some false:=hl.resolve_right (by simp);rw[frV_at H hj hd hk _ (by simpa using(Array.getElem?_eq_some_iff.1 hj).1)];unfold valF;rw[if_neg hk]
  ·exact frV_no _ fun j _ oj hj _=>hd j oj hj
 ·rintro listed a' W i o ⟨us,b,I⟩ hsz ho hl he hcl;have hi:i<listed.size:=by rw[hsz];exact(Array.getElem?_eq_some_iff.1 ho).1
  have hl':listed.getD i false=false:=by
   rw[Array.getD_eq_getD_getElem?,Array.getElem?_eq_getElem hi]at hl ⊢;simpa using hl
  have hsel:∀cs b,o.op≠.select cs b:=fun cs b=>Region.noSelect_spec H.sel i o cs b ho
  cases hk:zC2 fl i with
  |none=>
   have same:∀t∈o.looksAt l.toArray,sl' a' t=sl' (frV l.toArray fl V a i) t:=fun t ht=>by
    by_cases ex:∃(j:Nat) (oj:Oper),l.toArray[j]? = some oj∧oj.dst=some t
    ·obtain⟨j,oj,hj,hd⟩:=ex;rcases H.rd i j o oj t ho hj hd ht with⟨e1,hkj⟩|⟨e2,_⟩
     ·obtain⟨e,hem,hbd,rfl⟩:=zJ8 e1;have hb:=zM0 H.back ho e hem hbd;rw[I.on e.on oj t hj hd (he e hem hbd),frV_at H hj hd (hkj hk) i hb];unfold valF;rw[if_neg (hkj hk)]
     ·obtain⟨e,hem,hbd,hon⟩:=zJ8 e2;have hb:=zM0 H.back hj e hem hbd;rw[I.off t fun k ok hk2 hlk hdk=>?_,frV_no i fun k hki ok hk2 _ hdk=>?_]
      ·have:=H.dis k j ok oj t hk2 hj hdk hd;omega
      ·have e5:=H.dis k j ok oj t hk2 hj hdk hd;subst e5;have:=hcl k oj hj hlk e hem hbd;rw[hon,hl']at this;cases this
    ·rw[I.off t fun k ok hk2 _ hdk=>ex ⟨k,ok,hk2,hdk⟩,frV_no i fun k _ ok hk2 _ hdk=>ex ⟨k,ok,hk2,hdk⟩]
   have hwd:=wanted_same (ops:=l.toArray) (o:=o) (a:=a') (b:=frV l.toArray fl V a i) (by rw[I.za,frV_size]) same;unfold wpOp;simp only[ho];rcases hV i o (Nat.zero_le _) ho hk with⟨hw,hq⟩|⟨hw,hv⟩
   ·rw[if_pos (by rw[hwd];exact hw)];refine .inl (Oper.wp_of_quiet (C:=C us) (K:=fun a'' => a'' = a'.put o.dst (V i)) I.cw (fun a'' W' hW' e=>by subst e;exact⟨us,b,I.quiet H ho hi hk hW'⟩) ⟨V i,fun w hw=>?_,rfl⟩);have hlim:lims C (bdOf bd i) us w:=by
     cases hbd:bdOf bd i with
     |none=>exact hw
     |some b=>
      refine⟨hw,?_⟩;obtain⟨j,fx,oj,hfl,hj,hed⟩:=H.bd i b hbd;obtain⟨e,hem,hbnd,hon⟩:=zJ8 hed;rcases Nat.lt_or_ge b us.length with h9|h9
      ·exfalso
       have h8:=hcl j oj hj ((I.cnt b j fx hfl).2 h9) e hem hbnd;rw[hon,hl']at h8;cases h8
      ·exact h9
    have:=hq ⟨(us,w),hlim⟩;unfold Oper.quietAt at this ⊢;rw[exec_same hsel same];exact this
   ·rw[if_neg (by rw[hwd,hw];simp),←hv];exact⟨us,b,I.quiet H ho hi hk I.cw⟩
  |some fx=>
   obtain⟨p,hp⟩:=kind_some hk;have h1:¬p<us.length:=fun hc=>by have:=(I.cnt p i fx hp).2 hc;rw[hl']at this;cases this
   have h2:p=us.length:=by
    rcases p with _|p
    ·omega
    ·obtain⟨⟨j,fj⟩,hj⟩:∃y,fl[p]? = some y:=⟨_,List.getElem?_eq_getElem (by have:=(List.getElem?_eq_some_iff.1 hp).1;omega)⟩
     obtain⟨e,hem,hbd,hon⟩:=zJ8 (H.ch p j fj i fx o hj hp ho);have hlj:=he e hem hbd;rw[hon]at hlj;have:=(I.cnt p j fj hj).1 hlj;omega
   subst h2;have hlen:=(List.getElem?_eq_some_iff.1 hp).1;have hw2:=I.w2;rw[List.drop_eq_getElem_cons hlen,(List.getElem?_eq_some_iff.1 hp).2]at hw2;obtain⟨o', ho', hw,hflip,hrest⟩:=hw2;rw[ho]at ho';obtain rfl:=Option.some.inj ho';have same:∀t∈o.looksAt l.toArray,sl' a' t=sl' b t:=fun t ht=>by
    by_cases ex:∃(j:Nat) (oj:Oper),l.toArray[j]? = some oj∧oj.dst=some t
    ·obtain⟨j,oj,hj,hd⟩:=ex;rcases H.rd i j o oj t ho hj hd ht with⟨e1,_⟩|⟨_,hkn⟩
     ·obtain⟨e,hem,hbd,rfl⟩:=zJ8 e1;have hlj:=he e hem hbd;rw[I.on e.on oj t hj hd hlj,I.bon e.on oj t hj hd (.inr hlj)]
     ·rw[hk]at hkn;cases hkn
    ·rw[I.off t fun k ok hk2 _ hdk=>ex ⟨k,ok,hk2,hdk⟩,I.boff t fun k ok hk2 hdk=>ex ⟨k,ok,hk2,hdk⟩]
   have hwd:=wanted_same (ops:=l.toArray) (o:=o) (a:=a') (b:=b) (by rw[I.za,I.zb]) same;unfold wpOp;simp only[ho];rw[if_pos (by rw[hwd];exact hw)];refine .inl (Oper.wp_mono ?_ (flip_wp (R:=fun v W' => C (us++[v]) W' ∧ (fx=true→b.put o.dst v=b)) (exec_same hsel same) (fun d hd=>by rw[I.zb];exact H.inn _ _ _ ho hd) (hflip W I.cw _ fun v a' W' hC' e hfx=>⟨v,e,hC', fun h=>e▸hfx h⟩)));rintro a'' W' ⟨v,rfl,hC', hfx⟩;exact⟨us++[v],_,I.flip H ho hi hp hC' hfx (hrest v)⟩
 ·rintro listed a' W ⟨us,b,I⟩ hd;have hlen:us.length=fl.length:=by
   refine Nat.le_antisymm I.le ?_;rcases Nat.lt_or_ge us.length fl.length with h1|h1
   ·exfalso
    obtain⟨⟨j,fj⟩,hj⟩:∃y,fl[us.length]? = some y:=⟨_,List.getElem?_eq_getElem h1⟩
    have:=(I.cnt _ _ _ hj).1 (hd j (H.fk _ _ _ hj).2);omega
   ·exact h1
  have hw2:=I.w2;rw[List.drop_eq_nil_of_le (by omega)]at hw2;have e:a' = b:=by
   have e1:a'.tmps=b.tmps:=by
    apply Array.ext
    ·rw[I.za,I.zb]
    ·intro t h1 h2;have:sl' a' t=sl' b t:=by
      by_cases ex:∃(j:Nat) (oj:Oper),l.toArray[j]? = some oj∧oj.dst=some t
      ·obtain⟨j,oj,hj,hdj⟩:=ex;have hlj:=hd j (Array.getElem?_eq_some_iff.1 hj).1;rw[I.on j oj t hj hdj hlj,I.bon j oj t hj hdj (.inr hlj)]
      ·rw[I.off t fun k ok hk2 _ hdk=>ex ⟨k,ok,hk2,hdk⟩,I.boff t fun k ok hk2 hdk=>ex ⟨k,ok,hk2,hdk⟩]
     unfold sl' at this;simpa[h1,h2]using this
   have e2:a'.defers=b.defers:=by rw[I.da,I.db]
   cases a';cases b;simp only at e1 e2;subst e1 e2;rfl
  rw[e];exact hw2 W I.cw
end
end Go.Proofs.YtgkdoehkmbhfiaaGreat
namespace Go.Proofs.YtgkdoehkmbhfiaaGreat
open Go.RowKit
attribute [local go_sem ↓] Go.wp_at_zero Go.wp_at_succ
def zH0 (n : Nat) : Code → Option Code
 | .region id ops d=>if id=n then some (.region id ops d) else none
 | .seq a b => match zH0 n a with
  |some c=>some c
  |none=>zH0 n b
 | .loop c=>zH0 n c
 | .block _ c=>zH0 n c
 | .scope c=>zH0 n c
 | .cond _ a b => match zH0 n a with
  |some c=>some c
  |none=>zH0 n b
 |_=>none
set_option maxRecDepth 4000 in
theorem repeat6_any (x : Int) (b o : Nat) (w : World) (hc : w.cell? ⟨b, o, none⟩ = some (.int .i64 x)) :
    Calls Tryz.prog 69 #[.slice (some ⟨b,o,none⟩) 1 1,.int .i64 6] w (RepP x w):=by
  have hbl:b<w.heap.size:=World.block_lt_of_cell? w _ hc
  have HC := hid (show ∀ j v, ([.int .i64 x] : List Value)[j]? = some v → (w.alloc (.cells (madeCells #[.int .i64 0] 6) 3)).cell? ((⟨b, o, none⟩ : Addr).add j) = some v from fun j v hv => by
    have hj:j=0:=by have:=(List.getElem?_eq_some_iff.1 hv).1;simpa using this
    subst hj;simp only[List.getElem?_cons_zero,Option.some.injEq]at hv;subst hv;rw[Addr.add_lit,Nat.add_zero,(bx1 w _).cell (p:=⟨b,o,none⟩) hbl];exact hc)
  have hh := hid (show (w.alloc (.cells (madeCells #[.int .i64 0] 6) 3)).heap[w.heap.size]? = some (.cells (repC x 0).toArray 3 (0, 0)) by
    show(w.heap.push _)[w.heap.size]? = _;rw[Array.getElem?_push_size,show madeCells #[Value.int .i64 0] 6=(repC x 0).toArray by rw[←Array.toList_inj,toList_madeCells_one];rfl])
  have hbx:=hid (bx1 w (.cells (madeCells #[.int .i64 0] 6) 3));clear hc;obtain⟨W2,hW2⟩:∃W2,W2=(w.alloc (.cells (madeCells #[.int .i64 0] 6) 3)).setCells w.heap.size 0 [.int .i64 x]:=⟨_,rfl⟩
  have hcp:∀ty,(Builtin.copy_ #[24,24] ty #[.slice (some ⟨w.heap.size,0,none⟩) 6 6,.slice (some ⟨b,o,none⟩) 1 1]).run Tryz.prog (w.alloc (.cells (madeCells #[.int .i64 0] 6) 3))=.ok (goInt 1) W2:=fun ty=>by
    rw[hW2]
    exact run_copy_cells (P := Tryz.prog) _ 24 24 ty 3 w.heap.size 0 6 6 ⟨b, o, none⟩ 1 1 [.int .i64 x] Tryz.underlying24 infoIs rfl HC.out (fun j hj => by
      obtain rfl:j=0:=by simpa using hj
      simp only[World.cell?,hh.out];simp[repC]) (fun j hj=>by simp only[World.frozen?,hh.out];simp) (one_of (by simp))
  have HG2 := hid (show W2.heap[w.heap.size]? = some (.cells (repC x 1).toArray 3 (0, 0)) by
    rw[hW2];show((w.alloc _).setCell ⟨w.heap.size,0,none⟩ _).heap[w.heap.size]? = _;simp only[World.setCell,Array.getElem?_modify,hh.out]
    rfl)
  have HB2:=hid (show Below w.heap.size w W2 by rw[hW2];exact hbx.out.setCell (p:=⟨w.heap.size,0,none⟩) (Nat.le_refl _) _);clear hW2;obtain⟨i1,hj,jz0,jz1,jz2⟩:=info_parts infoI
  go_enter Tryz.func69,Tryz.ntmps69
  go_wp2_with (first
    |(go_at_call 116;refine(mul16 _).mono ?_;rintro e w' ⟨rfl,rfl⟩)
    |(at_make;go_must (refine wpList_make_row _ rfl _ _ 24 rfl 3 i1 (.int .i64 0) Tryz.underlying24 hj jz0 jz1 rfl _ _ 6 rfl rfl (by rw[jz2];omega) (by omega) ?_))
    |fail)
  clear hh hbx HC hcp
  go_loopw [8] (fun n' wr=>∃n:Nat,(n=1∨n=2∨n=4∨n=6)∧n' = .int .i64 n∧wr.heap[w.heap.size]? = some (.cells (repC x n).toArray 3 (0,0))∧Below w.heap.size w wr) (fun n' _=>6 - (intOf n').toNat)
  case atStart=>exact⟨1,.inl rfl,rfl,HG2.out,HB2.out⟩
  case round=>
    obtain⟨n,hn,rfl,hg,hb⟩:=hrel;have HG:=hid hg;have HB:=hid hb;clear hg hb HG2 HB2;by_cases h6:n=6
    · subst h6
      go_wp2_with fail
      go_ret
      refine⟨rfl,?_,HB.out⟩;have e:(repC x 6)=(List.replicate 6 x).flatMap rowI:=by simp[repC,rowI,List.replicate]
      have hg:=HG.out;rw[e]at hg;exact⟨by simp[rowI],.inr ⟨w.heap.size,0,6,_,rfl,Nat.le_refl _,hg,by simp,by unfold maxLen;omega,by simp[rowI],fun j hj=>by simp⟩⟩
    · have hn3 : n = 1 ∨ n = 2 ∨ n = 4 := by omega
      have HN:=hid hn3;have hlt:(n:Int)<6:=by omega
      clear hn h6 hn3
      go_upto_region 9 with fail
      obtain⟨m,hm⟩:∃m,m=repM n:=⟨_,rfl⟩
      have HM:=hid hm;obtain⟨CC,hCC⟩:∃CC:List Value→World→Prop,CC=fun us W=>Below w.heap.size w W∧W.heap[w.heap.size]? = some (.cells (repC x (n+us.length * m)).toArray 3 (0,0)):=⟨_,rfl⟩
      have hC0:CC [] wr.drew:=by rw[hCC];refine⟨HB.out.drew,?_⟩;rw[List.length_nil,Nat.zero_mul,Nat.add_zero];exact HG.out
      have HCC:=hid hCC;have hne:Nonempty (Ph CC):=⟨⟨([],wr.drew),hC0⟩⟩
      have hm6:n+m≤6∧n≤4:=by have:=HN.out;rw[hm];unfold repM;rcases this with rfl|rfl|rfl <;> simp
      have i5:IntKind.i64.wrap ((n:Int)+(m:Int))=((n+m:Nat):Int):=by rw[IntKind.wrap_i64];omega
      have h6n:¬(6:Nat)=n:=by omega
      have ho:(n:Int)≤6:=by omega
      clear hCC hm hlt hm6;refine zA9 CC [(7,true)] [] (by kernel_rfl) (by kernel_rfl) hC0 ?_
      repeat (
        (with_reducible refine wq1_q ⟨rfl,rfl⟩ (fun K hK=>?_))
        go_simp
        first
          |((with_reducible refine hK _ ?_);clear hK K)
          |((with_reducible refine zA7 (by simp[undef]) (hK _ ?_));clear hK K)
          | (apply Exists.intro
             (with_reducible refine⟨fun _=>?_,hK _ ?_⟩)
             (fail)
             clear hK K))
      refine wq1_x rfl (.int .i64 m) (fun KA hKA=>?_);go_simp;refine hKA _ ?_;clear hKA KA
      repeat (
        (with_reducible refine wq1_q ⟨rfl,rfl⟩ (fun K hK=>?_))
        go_simp
        first
          |((with_reducible refine hK _ ?_);clear hK K)
          |((with_reducible refine zA7 (by simp[undef]) (hK _ ?_));clear hK K)
          | (apply Exists.intro
             (with_reducible refine⟨fun _=>?_,hK _ ?_⟩)
             (fail)
             clear hK K))
      refine zF4 ?_;clear hne;refine wq2_x _ rfl rfl ?_ ?_
      · intro W hW KA hKA
        rw[HCC.out]at hW;have hg:=hW.2;rw[List.length_nil,Nat.zero_mul,Nat.add_zero]at hg;obtain⟨w2,hcp,hg2,ht2⟩:=rep_copy HN.out hg;rw[←HM.out]at hcp hg2;go_simp
        exact hKA (.int .i64 m) _ w2 (by
          rw[HCC.out];exact⟨hW.1.trans (ht2.below (Nat.le_refl _) (by have:=hW.1.size;omega)),by simpa using hg2⟩) rfl rfl
      intro _;refine zF3 ?_;intro wd hwd;rw[HCC.out]at hwd;have HD:=hid hwd;clear hwd hC0
      go_wp2_with fail
      go_roundw
      case rel=>exact⟨n+m,by have:=HN.out;rw[HM.out];unfold repM;rcases this with rfl|rfl|rfl <;> simp,by go_num,by simpa using HD.out.2,HD.out.1⟩
      case measure=>
        have:=HN.out;rw[HM.out];simp only[intOf];unfold repM;rcases this with rfl|rfl|rfl <;> simp
end Go.Proofs.YtgkdoehkmbhfiaaGreat
namespace Go.Proofs.YtgkdoehkmbhfiaaGreat
open Go.RowKit
theorem implMemNew_any (w:World):Calls Tryz.prog 68 #[] w fun e w' => ∃g off c,e=.returned (.agg #[.slice (some ⟨g,off,none⟩) 64 c])∧Owns w' w.heap.size 3 1 rowI (.slice (some ⟨g,off,none⟩) 64 c) (List.replicate 64 0)∧64≤c∧c≤9223372036854775807∧Below w.heap.size w w':=by
 obtain⟨i1,hj,jz0,jz1,jz2⟩:=info_parts infoI
 go_enter Tryz.func68,Tryz.ntmps68
 go_wp2_with (at_make;go_must (refine wpList_make_full _ rfl _ _ 24 rfl (w.heap.size+1) 3 i1 (.int .i64 0) 1 Tryz.underlying24 hj jz0 jz1 _ _ _ _ 64 rfl rfl rfl rfl (by rw[jz2];omega) (by unfold maxLen;omega) (by simp) ?_);intro w1 hown hgrow;have hbx:=(show Below (w.heap.size+1) (w.alloc (.cells #[.slice none 0 0] 32)) w1 from(Below.refl _ _).grown hgrow (by simp) (by simp));have d0:w1.cell? ⟨w.heap.size,0,none⟩=some (.slice none 0 0):=(by rw[hbx.cell (p:=⟨w.heap.size,0,none⟩) (by simp)];simp[go_sem]);have d1:w1.frozen? ⟨w.heap.size,0,none⟩=false:=(by rw[hbx.frozen (p:=⟨w.heap.size,0,none⟩) (by simp)];simp[go_sem]))
 rw[show madeCells (Value.int .i64 0).cells (64 * 1)=madeCells #[.int .i64 0] 64 by rfl,toList_madeCells_one]at hown;have HO:=hid (owns_made hown);simp only[World.size_alloc]at HO;have HB:=hid hbx;clear hown hgrow hbx
 go_wp2_with fail
 refine bodyPost_ret (v:=.agg #[.slice (some ⟨w.heap.size+1,0,none⟩) 64 64]) (by simp[results,Tryz.results68,go_sem,d0]) rfl ⟨_,_,_,rfl,?_,by omega,by omega,?_⟩
 ·exact(HO.out.rebase (by omega)).set' _ _ _ (fun k hk=>by have:=(OwnR.lt HO.out k hk).1;omega)
 ·exact(((Below.refl _ _).alloc (Nat.le_refl _) _).trans (HB.out.mono (by omega))).setCell (by simp) _
def AtmNewW (w:World) (e:Ending) (w':World):Prop :=
 ∃ wa wc g ga go gc, e = .returned (.agg #[.slice (some ⟨g, wa, none⟩) 64 wc, .slice (some ⟨ga, go, none⟩) 6 gc]) ∧ Owns w' w.heap.size 3 1 rowI (.slice (some ⟨g, wa, none⟩) 64 wc) (List.replicate 64 0) ∧ Owns w' w.heap.size 3 1 rowI (.slice (some ⟨ga, go, none⟩) 6 gc) (List.replicate 6 (-1)) ∧
  6≤gc∧gc≤9223372036854775807∧Apart (.slice (some ⟨g,wa,none⟩) 64 wc) (.slice (some ⟨ga,go,none⟩) 6 gc)∧Below w.heap.size w w'
theorem implAtmNewW_any (w:World):Calls Tryz.prog 33 #[] w (AtmNewW w):=by
 go_enter Tryz.func33,Tryz.ntmps33
 go_wp2_with fail
 refine(implMemNew_any _).mono ?_;rintro e w1 ⟨g,off,c,rfl,hown,hc1,hc2,hb⟩;have HB1:=hid ((bx1 w _).trans (hb.mono (by simp)));have HO:=hid hown;have d0:w1.cell? ⟨w.heap.size,0,none⟩=some (.slice none 0 0):=by rw[hb.cell (p:=⟨w.heap.size,0,none⟩) (by simp)];simp[go_sem]
 have d1:w1.cell? ⟨w.heap.size,1,none⟩=some (.slice none 0 0):=by rw[hb.cell (p:=⟨w.heap.size,1,none⟩) (by simp)];simp[go_sem]
 have f0:w1.frozen? ⟨w.heap.size,0,none⟩=false:=by rw[hb.frozen (p:=⟨w.heap.size,0,none⟩) (by simp)];simp[go_sem]
 have f1:w1.frozen? ⟨w.heap.size,1,none⟩=false:=by rw[hb.frozen (p:=⟨w.heap.size,1,none⟩) (by simp)];simp[go_sem]
 have hz1:w.heap.size<w1.heap.size:=World.block_lt_of_cell? w1 _ d0;clear hown hb
 go_wp2_with fail
 refine(repeat6_any (-1) w1.heap.size 0 _ (by simp[go_sem])).mono ?_;rintro e w2 ⟨rfl,ho2,hb2⟩;simp only[World.size_alloc]at ho2 hb2 ⊢;have HB2:=hid ((bx1 w1 _).trans (hb2.mono (by omega)));have HO2:=hid ho2;have e0:w2.cell? ⟨w.heap.size,0,none⟩=some (.slice none 0 0):=by rw[HB2.out.cell (p:=⟨w.heap.size,0,none⟩) hz1];exact d0
 have e1:w2.cell? ⟨w.heap.size,1,none⟩=some (.slice none 0 0):=by rw[HB2.out.cell (p:=⟨w.heap.size,1,none⟩) hz1];exact d1
 have g0:w2.frozen? ⟨w.heap.size,0,none⟩=false:=by rw[HB2.out.frozen (p:=⟨w.heap.size,0,none⟩) hz1];exact f0
 have g1:w2.frozen? ⟨w.heap.size,1,none⟩=false:=by rw[HB2.out.frozen (p:=⟨w.heap.size,1,none⟩) hz1];exact f1
 have hz2:w.heap.size<w2.heap.size:=World.block_lt_of_cell? w2 _ e0;clear ho2 hb2 d0 d1 f0 f1
 go_wp2_with fail
 refine bodyPost_ret (zB0 Tryz.results33 _ _ ⟨w.heap.size,0,none⟩ (.agg #[.slice (some ⟨g,off,none⟩) 64 c,.slice (some ⟨w1.heap.size+1,0,none⟩) 6 6]) rfl (loadVar_atm _ _ _ _ (by simp[go_sem, *]) (by simp[go_sem, *]))) rfl ⟨_,_,_,_,_,_,rfl,?_,?_,by omega,by omega,fun k hk hk2=>?_,?_⟩
 ·have X:=(HO.out.below HB2.out).rebase (show w.heap.size≤_ by simp);have hl:=fun k hk=>(OwnR.lt HO.out k hk).1
  repeat(first|with_reducible exact X|with_reducible refine Owns.set' ?_ _ _ _ (fun j hj=>by have:=hl j hj;simp at this;omega))
 ·have X:=HO2.out.rebase (show w.heap.size≤_ by omega)
  repeat(first|with_reducible exact X|with_reducible refine Owns.set' ?_ _ _ _ (fun j hj=>by simp[Value.ownBlock]at hj;omega))
 ·have h1:=(OwnR.lt HO.out k hk).2;simp only[Value.ownBlock,Option.some.injEq]at hk2;omega
 ·exact((HB1.out.trans (HB2.out.mono (by omega))).setCell (by exact Nat.le_refl _) _).setCell (by exact Nat.le_refl _) _
abbrev vnil:Value:=.slice none 0 0
def rowP (x:Int×Int):List Value:=[.int .i64 x.1,vnil,vnil,.int .i64 x.2]
def rowS (x:Int):List Value:=[vnil,vnil,.int .i64 x]
theorem rowP_len (x:Int×Int):(rowP x).length=4:=rfl
theorem rowS_len (x:Int):(rowS x).length=3:=rfl
theorem rowP_one (x:Int×Int):∀u∈rowP x,u.oneCell' = true:=by
 intro u hu;simp only[rowP,List.mem_cons,List.not_mem_nil,or_false]at hu;rcases hu with rfl|rfl|rfl|rfl <;> rfl
theorem rowS_one (x:Int):∀u∈rowS x,u.oneCell' = true:=by
 intro u hu;simp only[rowS,List.mem_cons,List.not_mem_nil,or_false]at hu;rcases hu with rfl|rfl|rfl <;> rfl
theorem elem_portY:Elem 35 48 4 64:=zF1 Tryz.underlying35 (z:=.agg #[.int .i64 0,.slice none 0 0,.slice none 0 0,.int .i64 0]) (by kernel_rfl) rfl (by omega)
theorem elem_slaveY:Elem 36 94 3 56:=zF1 Tryz.underlying36 (z:=.agg #[.slice none 0 0,.slice none 0 0,.int .i64 0]) (by kernel_rfl) rfl (by omega)
structure CyO (W:World) (lo:Nat) (a b p s:Value) (xs ys:List Int) (ps:List (Int×Int)) (ss:List Int):Prop where
 oa:Owns W lo 3 1 rowI a xs
 ob:Owns W lo 3 1 rowI b ys
 op:Owns W lo 48 4 rowP p ps
 os:Owns W lo 94 3 rowS s ss
 dab:Apart a b
 dap:Apart a p
 das:Apart a s
 dbp:Apart b p
 dbs:Apart b s
 dps:Apart p s
theorem CyO.kept {W W':World} {lo:Nat} {a b p s:Value} {xs ys:List Int} {ps:List (Int×Int)} {ss:List Int} (h:CyO W lo a b p s xs ys ps ss) (hk:∀k,lo≤k→k<W.heap.size→W'.heap[k]? = W.heap[k]?):CyO W' lo a b p s xs ys ps ss :=
  { h with oa := OwnR.kept h.oa fun k hk2 => hk k (OwnR.lt h.oa k hk2).1 (OwnR.lt h.oa k hk2).2
           ob:=OwnR.kept h.ob fun k hk2=>hk k (OwnR.lt h.ob k hk2).1 (OwnR.lt h.ob k hk2).2
           op:=OwnR.kept h.op fun k hk2=>hk k (OwnR.lt h.op k hk2).1 (OwnR.lt h.op k hk2).2
           os:=OwnR.kept h.os fun k hk2=>hk k (OwnR.lt h.os k hk2).1 (OwnR.lt h.os k hk2).2 }
theorem CyO.below {W W':World} {lo:Nat} {a b p s:Value} {xs ys:List Int} {ps:List (Int×Int)} {ss:List Int} (h:CyO W lo a b p s xs ys ps ss) (hb:Below W.heap.size W W'):CyO W' lo a b p s xs ys ps ss:=h.kept fun k _ hk=>hb.block k hk
theorem CyO.rebase {W:World} {lo lo':Nat} {a b p s:Value} {xs ys:List Int} {ps:List (Int×Int)} {ss:List Int} (h:CyO W lo a b p s xs ys ps ss) (hl:lo' ≤ lo):CyO W lo' a b p s xs ys ps ss :=
 { h with oa:=OwnR.rebase h.oa hl,ob:=OwnR.rebase h.ob hl,op:=OwnR.rebase h.op hl,os:=OwnR.rebase h.os hl }
abbrev z64:List Int:=List.replicate 64 0
abbrev z6:List Int:=List.replicate 6 (-1)
abbrev z3:List (Int×Int):=List.replicate 3 (0,3)
abbrev z4:List Int:=List.replicate 4 2
theorem Bx.five {W:World} {H:Nat} {a b c d e:Value} (h:Bx W H [a,b,c,d,e]):(W.cell? ⟨H,0,none⟩=some a∧W.cell? ⟨H,1,none⟩=some b∧W.cell? ⟨H,2,none⟩=some c∧W.cell? ⟨H,3,none⟩=some d∧W.cell? ⟨H,4,none⟩=some e)∧W.frozen? ⟨H,0,none⟩=false∧W.frozen? ⟨H,1,none⟩=false∧W.frozen? ⟨H,2,none⟩=false∧W.frozen? ⟨H,3,none⟩=false∧W.frozen? ⟨H,4,none⟩=false :=
 ⟨⟨h.c 0 (by simp),h.c 1 (by simp),h.c 2 (by simp),h.c 3 (by simp),h.c 4 (by simp)⟩,h.f 0 (by simp),h.f 1 (by simp),h.f 2 (by simp),h.f 3 (by simp),h.f 4 (by simp)⟩
theorem zJ2 (w:World) (g:Nat) (a b c d e:Value) (h0:w.cell? ⟨g,0,none⟩=some a) (h1:w.cell? ⟨g,1,none⟩=some b) (h2:w.cell? ⟨g,2,none⟩=some c) (h3:w.cell? ⟨g,3,none⟩=some d) (h4:w.cell? ⟨g,4,none⟩=some e):(loadVar 39 ⟨g,0,none⟩).run Tryz.prog w=.ok (.agg #[a,b,c,d,e]) w:=by
 simp[loadVar,go_sem,h0,h1,h2,h3,h4]
def BoxC (w:World) (s:Nat) (a b p d t:Value):Prop:=w.heap[s]? = some (.cells #[a,b,p,d,t] 39 (0,0))
theorem BoxC.lt {w:World} {s:Nat} {a b p d t:Value} (h:BoxC w s a b p d t):s<w.heap.size:=heap_lt h
theorem BoxC.keep {w w':World} {s:Nat} {a b p d t:Value} (h:BoxC w s a b p d t) (e:w'.heap[s]? = w.heap[s]?):BoxC w' s a b p d t:=by unfold BoxC at h ⊢;rw[e];exact h
theorem BoxC.touch {w w':World} {s x:Nat} {a b p d t:Value} (h:BoxC w s a b p d t) (ht:Touch x w w') (hx:s≠x):BoxC w' s a b p d t:=h.keep (ht.block s h.lt hx)
theorem BoxC.below {w w':World} {s C:Nat} {a b p d t:Value} (h:BoxC w s a b p d t) (hb:Below C w w') (hx:s<C):BoxC w' s a b p d t:=h.keep (hb.block s hx)
theorem BoxC.bx {w:World} {s:Nat} {a b p d t:Value} (h:BoxC w s a b p d t):Bx w s [a,b,p,d,t]:=by
 unfold BoxC at h;exact⟨fun j hj=>by simp[World.cell?,h],fun j hj=>by simp[World.frozen?,h],by simp⟩
theorem BoxC.put {w:World} {s:Nat} {a b p d t:Value} (h:BoxC w s a b p d t) (a' b' p' d' t':Value):BoxC (((((w.setCell ⟨s,0,none⟩ a').setCell ⟨s,1,none⟩ b').setCell ⟨s,2,none⟩ p').setCell ⟨s,3,none⟩ d').setCell ⟨s,4,none⟩ t') s a' b' p' d' t':=by
 unfold BoxC at h ⊢;simp[World.setCell,Array.getElem?_modify,h]
theorem BoxC.new (w:World) (a b p d t:Value):BoxC (w.alloc (.cells #[a,b,p,d,t] 39)) w.heap.size a b p d t:=by
 show(w.heap.push _)[w.heap.size]? = _;simp
theorem touchC (s:Nat) (w:World) (a b p d t:Value):Touch s w (((((w.setCell ⟨s,0,none⟩ a).setCell ⟨s,1,none⟩ b).setCell ⟨s,2,none⟩ p).setCell ⟨s,3,none⟩ d).setCell ⟨s,4,none⟩ t) :=
 ((((Touch.setCell _ _ _ _).trans (Touch.setCell _ _ _ _)).trans (Touch.setCell _ _ _ _)).trans (Touch.setCell _ _ _ _)).trans (Touch.setCell _ _ _ _)
theorem Owns.boxC {α:Type} {f:α→List Value} {w w':World} {base e sz g:Nat} {v a b p d t:Value} {xs:List α} (h:Owns w base e sz f v xs) (hB:BoxC w g a b p d t) (hT:39≠e) (ht:Touch g w w'):Owns w' base e sz f v xs :=
 OwnR.kept h fun k hk => ht.block k (OwnR.lt h k hk).2 (by
  intro e2;subst e2;obtain⟨_,h2⟩:=h;rcases h2 with⟨rfl,_⟩|⟨g', off,cap,cur,rfl,_,hh,_⟩
  ·simp[Value.ownBlock]at hk
  ·simp[Value.ownBlock]at hk;subst hk;unfold BoxC at hB;rw[hh]at hB;simp only[Option.some.injEq,Obj.cells.injEq]at hB;exact hT hB.2.1.symm)
theorem CyO.heap {W W':World} {lo:Nat} {a b p s:Value} {xs ys:List Int} {ps:List (Int×Int)} {ss:List Int} (h:CyO W lo a b p s xs ys ps ss) (hh:W'.heap=W.heap):CyO W' lo a b p s xs ys ps ss:=h.kept fun k _ _=>by rw[hh]
theorem ints_arr {w:World} {B:Nat} {v:Value} {xs:List Int} (h:Ints w B v xs):Arr w B 1 v (xs.map rowI):=h.1
def BoxQ (w:World) (s:Nat) (r:Rq) (d l:Value):Prop:=w.heap[s]? = some (.cells #[.int .i64 r.id,.int .i64 r.kind,.int .i64 r.addr,.int .i64 r.many,.bool r.wrap,d,l] 52 (0,0))
theorem BoxQ.lt {w:World} {s:Nat} {r:Rq} {d l:Value} (h:BoxQ w s r d l):s<w.heap.size:=heap_lt h
theorem BoxQ.keep {w w':World} {s:Nat} {r:Rq} {d l:Value} (h:BoxQ w s r d l) (e:w'.heap[s]? = w.heap[s]?):BoxQ w' s r d l:=by unfold BoxQ at h ⊢;rw[e];exact h
theorem BoxQ.below {w w':World} {s C:Nat} {r:Rq} {d l:Value} (h:BoxQ w s r d l) (hb:Below C w w') (hx:s<C):BoxQ w' s r d l:=h.keep (hb.block s hx)
theorem BoxQ.bx {w:World} {s:Nat} {r:Rq} {d l:Value} (h:BoxQ w s r d l):Bx w s [.int .i64 r.id,.int .i64 r.kind,.int .i64 r.addr,.int .i64 r.many,.bool r.wrap,d,l]:=by
 unfold BoxQ at h;exact⟨fun j hj=>by simp[World.cell?,h],fun j hj=>by simp[World.frozen?,h],by simp⟩
theorem BoxQ.put5 {w:World} {s:Nat} {r:Rq} {d l:Value} (h:BoxQ w s r d l) (u:Value):BoxQ (w.setCell ⟨s,5,none⟩ u) s r u l:=by
 unfold BoxQ at h ⊢;simp[World.setCell,Array.getElem?_modify,h]
theorem BoxQ.put6 {w:World} {s:Nat} {r:Rq} {d l:Value} (h:BoxQ w s r d l) (u:Value):BoxQ (w.setCell ⟨s,6,none⟩ u) s r d u:=by
 unfold BoxQ at h ⊢;simp[World.setCell,Array.getElem?_modify,h]
theorem BoxQ.new (w:World) (r:Rq) (d l:Value):BoxQ (w.alloc (.cells #[.int .i64 r.id,.int .i64 r.kind,.int .i64 r.addr,.int .i64 r.many,.bool r.wrap,d,l] 52)) w.heap.size r d l:=by
 show(w.heap.push _)[w.heap.size]? = _;simp
end Go.Proofs.YtgkdoehkmbhfiaaGreat
namespace Go.Proofs.YtgkdoehkmbhfiaaGreat
open Go.RowKit
attribute [local go_sem ↓] Go.wp_at_zero Go.wp_at_succ
def qrA (i0 i2 i11:Value) (gS:Nat) (u3 u4 u5 u6 u7 u8 u9 u10:Value):Act:={ tmps:=#[i0,.pointer (some ⟨gS,0,none⟩),i2,u3,u4,u5,u6,u7,u8,u9,u10,i11],defers:=[] }
noncomputable def qrCode:Code:=(Tryz.f115.body.bind (zH0 1)).getD .skip
def QrP (gS:Nat) (r:Rq) (wq w':World):Prop:=∃d l,BoxQ w' gS r d l∧Owns w' wq.heap.size 3 1 rowI d r.data∧Owns w' wq.heap.size 3 1 rowI l r.lanes∧Apart d l∧Touch gS wq w'
def qrC (gS : Nat) (dv lv : Value) (r : Rq) (wq : World) (vs : List Value) (W : World) : Prop := Touch gS wq W ∧ match vs with
 |[]=>BoxQ W gS r dv lv
 |[u]=>BoxQ W gS r dv lv∧Owns W wq.heap.size 3 1 rowI u r.data
 |[u,v]=>BoxQ W gS r dv lv∧Owns W wq.heap.size 3 1 rowI u r.data∧Owns W wq.heap.size 3 1 rowI v r.lanes∧Apart u v
 |[u,v,_]=>BoxQ W gS r u lv∧Owns W wq.heap.size 3 1 rowI u r.data∧Owns W wq.heap.size 3 1 rowI v r.lanes∧Apart u v
 |[_,_,_,_]=>QrP gS r wq W
 |_=>False
theorem qrC_cell {gS:Nat} {dv lv:Value} {r:Rq} {wq W:World} {vs:List Value} (h:qrC gS dv lv r wq vs W) (hl:vs.length≤2):W.cell? ⟨gS,5,none⟩=some dv∧W.cell? ⟨gS,6,none⟩=some lv:=by
 match vs,h,hl with
 |[],h,_=>exact⟨h.2.bx.seven.1.2.2.2.2.2.1,h.2.bx.seven.1.2.2.2.2.2.2⟩
 |[_],h,_=>exact⟨h.2.1.bx.seven.1.2.2.2.2.2.1,h.2.1.bx.seven.1.2.2.2.2.2.2⟩
 |[_,_],h,_=>exact⟨h.2.1.bx.seven.1.2.2.2.2.2.1,h.2.1.bx.seven.1.2.2.2.2.2.2⟩
 |_::_::_::_,_,hl=>exact absurd hl (by simp)
set_option maxRecDepth 100000 in
theorem qr_region (i0 i2 i11 j3 j4 j5 j6 j7 j8 j9 j10 : Value) (gS : Nat) (B : Nat) (dv : Value) (lv : Value) (r : Rq) (wq : World)
    (hgS:gS<wq.heap.size) (hB:B≤gS) (hBX:BoxQ wq gS r dv lv) (hD:Ints wq B dv r.data) (hL:Ints wq B lv r.lanes) (hl1:r.data.length≤1048576) (hl2:r.lanes.length≤1048576)
    {Q:Exit→Act→World→Prop}
    (hK:∀(u3 u4 u5 u6 u7 u8 u9 u10:Value) w', QrP gS r wq w' → Q .normal (qrA i0 i2 i11 gS u3 u4 u5 u6 u7 u8 u9 u10) w'):qrCode.wp Tryz.prog Q (qrA i0 i2 i11 gS j3 j4 j5 j6 j7 j8 j9 j10) wq:=by
  conv=>arg 2;whnf
  obtain⟨CC,hCC⟩:∃CC,CC=qrC gS dv lv r wq:=⟨_,rfl⟩
  have hC0:CC [] wq.drew:=by rw[hCC];exact⟨(Touch.refl _ _).drewd,hBX⟩
  have hTC:∀us W,CC us W→Touch gS wq W:=by rw[hCC];exact fun us W h=>h.1
  have HCC:=hid hCC;have hne:Nonempty (Ph CC):=⟨⟨([],wq.drew),hC0⟩⟩
  have pc9:∀{p:Addr} {v:Value},p.block≠gS→wq.cell? p=some v→∀x:Ph CC,x.1.2.cell? p=some v:=fun hp hc x=>by
    rw[←hc];simp only[World.cell?,(hTC _ _ x.2).block _ (World.block_lt_of_cell? wq _ hc) hp]
  have hne2:Nonempty (Ph (lims CC (some 2))):=⟨⟨([],wq.drew),hC0,by simp⟩⟩
  have hl5:∀x:Ph (lims CC (some 2)),x.1.2.cell? ⟨gS,5,none⟩=some dv:=by rw[hCC];exact fun x=>(qrC_cell x.2.1 x.2.2).1
  have hl6:∀x:Ph (lims CC (some 2)),x.1.2.cell? ⟨gS,6,none⟩=some lv:=by rw[hCC];exact fun x=>(qrC_cell x.2.1 x.2.2).2
  clear hCC pc9;unfold qrA;refine zA9 CC [(2,false),(5,false),(7,false),(9,false)] [(1,2),(4,2)] (by kernel_rfl) (by kernel_rfl) hC0 ?_
  repeat (
    (with_reducible refine wq1_q ⟨rfl,rfl⟩ (fun K hK=>?_))
    go_simp
    first
      |((with_reducible refine hK _ ?_);clear hK K)
      |((with_reducible refine zA7 (by simp[undef]) (hK _ ?_));clear hK K)
      | (apply Exists.intro
         (with_reducible refine⟨fun _=>?_,hK _ ?_⟩)
         (fail)
         clear hK K))
  refine wq1_b ⟨rfl,rfl⟩ (fun KA hKA=>?_);go_simp;refine hKA _ ?_;clear hKA KA
  repeat (
    (with_reducible refine wq1_q ⟨rfl,rfl⟩ (fun K hK=>?_))
    go_simp
    first
      |((with_reducible refine hK _ ?_);clear hK K)
      |((with_reducible refine zA7 (by simp[undef]) (hK _ ?_));clear hK K)
      | (apply Exists.intro
         (with_reducible refine⟨fun _=>?_,hK _ ?_⟩)
         (fail)
         clear hK K))
  refine wq1_v rfl ?_
  repeat (
    (with_reducible refine wq1_q ⟨rfl,rfl⟩ (fun K hK=>?_))
    go_simp
    first
      |((with_reducible refine hK _ ?_);clear hK K)
      |((with_reducible refine zA7 (by simp[undef]) (hK _ ?_));clear hK K)
      | (apply Exists.intro
         (with_reducible refine⟨fun _=>?_,hK _ ?_⟩)
         (fail)
         clear hK K))
  refine wq1_b ⟨rfl,rfl⟩ (fun KA hKA=>?_);go_simp;refine hKA _ ?_;clear hKA KA
  repeat (
    (with_reducible refine wq1_q ⟨rfl,rfl⟩ (fun K hK=>?_))
    go_simp
    first
      |((with_reducible refine hK _ ?_);clear hK K)
      |((with_reducible refine zA7 (by simp[undef]) (hK _ ?_));clear hK K)
      | (apply Exists.intro
         (with_reducible refine⟨fun _=>?_,hK _ ?_⟩)
         (fail)
         clear hK K))
  refine wq1_v rfl ?_
  repeat (
    (with_reducible refine wq1_q ⟨rfl,rfl⟩ (fun K hK=>?_))
    go_simp
    first
      |((with_reducible refine hK _ ?_);clear hK K)
      |((with_reducible refine zA7 (by simp[undef]) (hK _ ?_));clear hK K)
      | (apply Exists.intro
         (with_reducible refine⟨fun _=>?_,hK _ ?_⟩)
         (fail)
         clear hK K))
  refine wq1_v rfl ?_
  repeat (
    (with_reducible refine wq1_q ⟨rfl,rfl⟩ (fun K hK=>?_))
    go_simp
    first
      |((with_reducible refine hK _ ?_);clear hK K)
      |((with_reducible refine zA7 (by simp[undef]) (hK _ ?_));clear hK K)
      | (apply Exists.intro
         (with_reducible refine⟨fun _=>?_,hK _ ?_⟩)
         (fail)
         clear hK K))
  refine wq1_v rfl ?_;clear hne2 hl5 hl6;refine zF4 ?_;clear hne;refine wq2_v _ rfl rfl ?_ ?_
  · intro W hW KA hKA
    rw[HCC.out]at hW;obtain⟨hT,own⟩:=hW;have hgs:=Nat.lt_of_lt_of_le hgS hT.size;go_simp
    (with_reducible refine(zH4 rowI zE9 zH9 _ r.data B W (ints_arr (hD.below (hT.below hB (Nat.le_trans hB (Nat.le_of_lt hgS))))) (by omega)).mono ?_)
    rintro e w'' ⟨q,rfl,o1,hb1⟩;go_simp;exact hKA _ _ _ (by rw[HCC.out];exact⟨hT.trans (Touch.of_below hb1 (Nat.le_refl _)),own.below hb1 own.lt,o1.rebase hT.size⟩) rfl
  intro v0 KA hKA;go_simp;refine hKA _ ?_;clear hKA KA;refine wq2_v _ rfl rfl ?_ ?_
  · intro W hW KA hKA
    rw[HCC.out]at hW;obtain⟨hT,own,o2⟩:=hW;have hgs:=Nat.lt_of_lt_of_le hgS hT.size;go_simp
    (with_reducible refine(zH4 rowI zE9 zH9 _ r.lanes B W (ints_arr (hL.below (hT.below hB (Nat.le_trans hB (Nat.le_of_lt hgS))))) (by omega)).mono ?_)
    rintro e w'' ⟨q,rfl,o1,hb1⟩;go_simp;exact hKA _ _ _ (by rw[HCC.out];exact⟨hT.trans (Touch.of_below hb1 (Nat.le_refl _)),own.below hb1 own.lt,OwnR.below o2 hb1 (fun k hk=>(OwnR.lt o2 k hk).2),o1.rebase hT.size,zK8 o2 o1⟩) rfl
  intro v1 KA hKA;go_simp;refine hKA _ ?_;clear hKA KA;refine wq2_v _ rfl rfl ?_ ?_
  · intro W hW KA hKA
    rw[HCC.out]at hW;obtain⟨hT,hbx,o2,o3,ap⟩:=hW;obtain⟨y1,y2,e1,_,_⟩:=o2.shape;subst e1;obtain⟨⟨k0,k1,k2,k3,k4,k5,k6⟩,m0,m1,m2,m3,m4,m5,m6⟩:=hbx.bx.seven;go_simp;exact hKA undef _ _ (by rw[HCC.out];exact⟨hT.trans (Touch.setCell ..),hbx.put5 _,Owns.set' o2 _ _ _ (fun k hk=>by have:=(OwnR.lt o2 k hk).1;omega),Owns.set' o3 _ _ _ (fun k hk=>by have:=(OwnR.lt o3 k hk).1;omega),ap⟩) rfl
  intro v2 KA hKA;go_simp;refine hKA _ ?_;clear hKA KA;refine wq2_v _ rfl rfl ?_ ?_
  · intro W hW KA hKA
    rw[HCC.out]at hW;obtain⟨hT,hbx,o2,o3,ap⟩:=hW;obtain⟨y1,y2,e1,_,_⟩:=o3.shape;subst e1;obtain⟨⟨k0,k1,k2,k3,k4,k5,k6⟩,m0,m1,m2,m3,m4,m5,m6⟩:=hbx.bx.seven;go_simp;exact hKA undef _ _ (by rw[HCC.out];exact⟨hT.trans (Touch.setCell ..),_,_,hbx.put6 _,Owns.set' o2 _ _ _ (fun k hk=>by have:=(OwnR.lt o2 k hk).1;omega),Owns.set' o3 _ _ _ (fun k hk=>by have:=(OwnR.lt o3 k hk).1;omega),ap,hT.trans (Touch.setCell ..)⟩) rfl
  intro v3 KA hKA;go_simp;refine hKA _ ?_;clear hKA KA;refine zF3 ?_;intro wz hwz;rw[HCC.out]at hwz;exact hK _ _ _ _ _ _ _ _ wz hwz.2
end Go.Proofs.YtgkdoehkmbhfiaaGreat
namespace Go.Proofs.YtgkdoehkmbhfiaaGreat
open Go.RowKit
attribute [local go_sem ↓] Go.wp_at_zero Go.wp_at_succ
theorem tab5 (a b c d e:Int) {n:Nat} (h:n<5):∃y:Int,([Value.int .i64 a,.int .i64 b,.int .i64 c,.int .i64 d,.int .i64 e]:List Value)[n]? = some (.int .i64 y)∧(y=a∨y=b∨y=c∨y=d∨y=e):=by
 rcases(show n=0∨n=1∨n=2∨n=3∨n=4 by omega)with rfl|rfl|rfl|rfl|rfl
 ·exact⟨a,rfl,.inl rfl⟩
 ·exact⟨b,rfl,.inr (.inl rfl)⟩
 ·exact⟨c,rfl,.inr (.inr (.inl rfl))⟩
 ·exact⟨d,rfl,.inr (.inr (.inr (.inl rfl)))⟩
 ·exact⟨e,rfl,.inr (.inr (.inr (.inr rfl)))⟩
end Go.Proofs.YtgkdoehkmbhfiaaGreat
