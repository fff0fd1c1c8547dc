/- CycState.copyOf of any bus: the drawn region of its stores (printed by wip/gen_cq.py). -/
import Derived.Test.YtgkdoehkmbhfiaaGreatPCr1
import Derived.Test.YtgkdoehkmbhfiaaGreatPCloneP
import Derived.Test.YtgkdoehkmbhfiaaGreatPCv
import Derived.Deep.QuietTactic
set_option linter.unusedVariables false
set_option linter.unusedSimpArgs false
set_option maxHeartbeats 16000000
namespace Go.Proofs.YtgkdoehkmbhfiaaGreat
open Go.RowKit
section
variable {P : Program} {ops : Array Oper} {C : List Value → World → Prop} {fl : List (Nat × Bool)} {bd : List (Nat × Nat)}
def Ph (C:List Value→World→Prop):Type:={x:List Value×World // C x.1 x.2}
def zB0 (fl:List (Nat×Bool)) (i:Nat):Option Bool:=(fl.find? fun x=>x.1==i).map (·.2)
def bdOf (bd:List (Nat×Nat)) (i:Nat):Option Nat:=(bd.find? fun x=>x.1==i).map (·.2)
def lims (C : List Value → World → Prop) : Option Nat → List Value → World → Prop
 |none=>C
 |some b=>fun us W=>C us W∧us.length≤b
def quietF (P:Program) (C:List Value→World→Prop) (b:Option Nat) (o:Oper) (a:Act) (v:Value):Prop:=∀x:Ph (lims C b),o.quietAt P a (C x.1.1) x.1.2 v
def wq1 (P : Program) (ops : Array Oper) (C : List Value → World → Prop) (fl : List (Nat × Bool)) (bd : List (Nat × Nat)) (K : Act → Prop) : Nat → List Oper → Act → Prop
 |_,[],a=>K a
 | i, o :: rest, a => match zB0 fl i with
  |none=>if Region.wanted o (yielded ops a.tmps) then ∃v,quietF P C (bdOf bd i) o a v∧wq1 P ops C fl bd K (i+1) rest (a.put o.dst v) else wq1 P ops C fl bd K (i+1) rest (a.put o.dst undef)
  |some true=>∃v,wq1 P ops C fl bd K (i+1) rest (a.put o.dst v)
  |some false=>wq1 P ops C fl bd K (i+1) rest a
def wq2 (P : Program) (ops : Array Oper) (C : List Value → World → Prop) (K : List Value → Act → Prop) : List (Nat × Bool) → List Value → Act → Prop
 |[],us,a=>K us a
 | (i, fx) :: rest, us, a => ∃ o, ops[i]? = some o ∧ Region.wanted o (yielded ops a.tmps) = true ∧
   (∀W,C us W→∀K':Act→World→Prop,(∀v a' W', C (us++[v]) W' → a' = a.put o.dst v→(fx=true→a' = a)→K' a' W')→o.wp P a W K' (fun _ _ _=>False)) ∧
   ∀v,wq2 P ops C K rest (us++[v]) (if fx then a else a.put o.dst v)
theorem zC7 {K:Act→Prop} {i:Nat} {a:Act} (h:K a):wq1 P ops C fl bd K i [] a:=h
theorem wq1_q {K : Act → Prop} {i : Nat} {a : Act} {o : Oper} {rest : List Oper} (hk : zB0 fl i = none ∧ bdOf bd i = none)
  (h:∀K':Act→Prop,(∀a,wq1 P ops C fl bd K (i+1) rest a→K' a)→if Region.wanted o (yielded ops a.tmps) then ∃v,(∀x:Ph C,o.quietAt P a (C x.1.1) x.1.2 v)∧K' (a.put o.dst v) else K' (a.put o.dst undef)):wq1 P ops C fl bd K i (o::rest) a:=by
 unfold wq1;rw[hk.1];simp only[hk.2];exact h _ fun _ h=>h
theorem wq1_b {K : Act → Prop} {i b : Nat} {a : Act} {o : Oper} {rest : List Oper} (hk : zB0 fl i = none ∧ bdOf bd i = some b)
  (h:∀K':Act→Prop,(∀a,wq1 P ops C fl bd K (i+1) rest a→K' a)→if Region.wanted o (yielded ops a.tmps) then ∃v,(∀x:Ph (lims C (some b)),o.quietAt P a (C x.1.1) x.1.2 v)∧K' (a.put o.dst v) else K' (a.put o.dst undef)):wq1 P ops C fl bd K i (o::rest) a:=by
 unfold wq1;rw[hk.1];simp only[hk.2];exact h _ fun _ h=>h
theorem callsF {f:FuncId} {args:Array Value} {x:Ph C} {v:Value} (h:Calls P f args x.1.2 fun e w' => e=.returned v∧x.1.2=w'):Calls P f args x.1.2 fun e w'' => e=.returned v∧C x.1.1 w'' :=
 h.mono fun _ _ ⟨he,hm⟩=>⟨he,hm▸x.2⟩
theorem wq1_x {K:Act→Prop} {i:Nat} {a:Act} {o:Oper} {rest:List Oper} (hk:zB0 fl i=some true) (v:Value) (h:∀K':Act→Prop,(∀a,wq1 P ops C fl bd K (i+1) rest a→K' a)→K' (a.put o.dst v)):wq1 P ops C fl bd K i (o::rest) a:=by
 unfold wq1;rw[hk];exact⟨v,h _ fun _ h=>h⟩
theorem wq1_v {K:Act→Prop} {i:Nat} {a:Act} {o:Oper} {rest:List Oper} (hk:zB0 fl i=some false) (h:wq1 P ops C fl bd K (i+1) rest a):wq1 P ops C fl bd K i (o::rest) a:=by
 unfold wq1;rw[hk];exact h
theorem zD0 {K:List Value→Act→Prop} {us:List Value} {a:Act} (h:K us a):wq2 P ops C K [] us a:=h
theorem wq2_x {K : List Value → Act → Prop} {us : List Value} {a : Act} {i : Nat} {rest : List (Nat × Bool)} (o : Oper) (ho : ops[i]? = some o) (hw : Region.wanted o (yielded ops a.tmps) = true)
  (hf:∀W,C us W→∀K':Act→World→Prop,(∀v a' W', C (us++[v]) W' → a' = a→a' = a.put o.dst v→K' a' W')→o.wp P a W K' (fun _ _ _=>False))
  (h:∀v,wq2 P ops C K rest (us++[v]) a):wq2 P ops C K ((i,true)::rest) us a :=
 ⟨o,ho,hw,fun W hW K' hK=>hf W hW K' fun v a' W' hC e1 e2=>hK v a' W' hC e2 fun _=>e1,fun v=>by rw[if_pos rfl];exact h v⟩
theorem wq2_v {K : List Value → Act → Prop} {us : List Value} {a : Act} {i : Nat} {rest : List (Nat × Bool)} (o : Oper) (ho : ops[i]? = some o) (hw : Region.wanted o (yielded ops a.tmps) = true)
  (hf:∀W,C us W→∀K':Act→World→Prop,(∀v a' W', C (us++[v]) W' → a' = a.put o.dst v→K' a' W')→o.wp P a W K' (fun _ _ _=>False))
  (h:∀v (K':Act→Prop),(∀a', wq2 P ops C K rest (us++[v]) a' → K' a')→K' (a.put o.dst v)):wq2 P ops C K ((i,false)::rest) us a :=
 ⟨o,ho,hw,fun W hW K' hK=>hf W hW K' fun v a' W' hC e=>hK v a' W' hC e (fun h=>by cases h),fun v=>by rw[if_neg (by simp)];exact h v _ fun _ h=>h⟩
def edgeB (o:Oper) (j:Nat):Bool:=o.after.any fun e=>e.on==j&&Region.binds .any e
def flowB (ops:Array Oper) (fl:List (Nat×Bool)) (bd:List (Nat×Nat)) (n:Nat):Bool :=
 (bd.all fun x=>match fl[x.2]? with|some (j,_)=>(match ops[j]? with|some o=>edgeB o x.1|none=>false)|none=>false) &&
 (  backB .any ops && Region.noSelect ops &&
 ((List.range ops.size).all fun i => (List.range ops.size).all fun j => match ops[i]?, ops[j]? with
  | some o, some oj => (match oj.dst with
    | some d => decide (d < n) && (decide (i = j) || decide (o.dst ≠ some d)) &&
      (!(o.looksAt ops).contains d || (edgeB o j&&!(zB0 fl i==none&&zB0 fl j==some false)) || (edgeB oj i&&zB0 fl i==none))
    |none=>true)
  |_,_=>true) &&
 ((List.range fl.length).all fun p => match fl[p]? with
  | some (i, fx) => decide (i < ops.size) && (zB0 fl i == some fx) && (match p with
    |0=>true
    |q+1=>(match fl[q]?,ops[i]? with|some (j,_),some o=>edgeB o j|_,_=>false))
  |none=>true))
theorem zD2 {o:Oper} {j:Nat} (h:edgeB o j=true):∃e∈o.after,Region.binds .any e=true∧e.on=j:=by
 unfold edgeB at h;rw[Array.any_eq_true']at h;obtain⟨e,he,h⟩:=h;simp only[Bool.and_eq_true,beq_iff_eq]at h;exact⟨e,he,h.2,h.1⟩
structure FlowOk (ops:Array Oper) (fl:List (Nat×Bool)) (bd:List (Nat×Nat)) (n:Nat):Prop where
 bd:∀i b,bdOf bd i=some b→∃(j:Nat) (fx:Bool) (o:Oper),fl[b]? = some (j,fx)∧ops[j]? = some o∧edgeB o i=true
 back:backB .any ops=true
 sel:Region.noSelect ops=true
 inn:∀(j:Nat) oj d,ops[j]? = some oj→oj.dst=some d→d<n
 dis:∀(i j:Nat) oi oj d,ops[i]? = some oi→ops[j]? = some oj→oi.dst=some d→oj.dst=some d→i=j
 rd : ∀ (i j : Nat) o oj d, ops[i]? = some o → ops[j]? = some oj → oj.dst = some d → d ∈ o.looksAt ops →
  (edgeB o j=true∧(zB0 fl i=none→zB0 fl j≠some false))∨(edgeB oj i=true∧zB0 fl i=none)
 fk:∀(p i:Nat) fx,fl[p]? = some (i,fx)→zB0 fl i=some fx∧i<ops.size
 ch:∀(q j:Nat) fj (i:Nat) fx o,fl[q]? = some (j,fj)→fl[q+1]? = some (i,fx)→ops[i]? = some o→edgeB o j=true
theorem flowOk_of {n:Nat} (h:flowB ops fl bd n=true):FlowOk ops fl bd n:=by
 unfold flowB at h;rw[Bool.and_eq_true]at h;obtain⟨h0,h⟩:=h;have hb:∀i b,bdOf bd i=some b→∃(j:Nat) (fx:Bool) (o:Oper),fl[b]? = some (j,fx)∧ops[j]? = some o∧edgeB o i=true:=fun i b hi=>by
  unfold bdOf at hi;rw[Option.map_eq_some_iff]at hi;obtain⟨⟨j,b'⟩,g1,g2⟩:=hi;have g3:=List.find?_some g1;simp only[beq_iff_eq]at g3 g2;subst g3 g2;have h1:=List.all_eq_true.1 h0 _ (List.mem_of_find?_eq_some g1);simp only at h1
  split at h1
  ·rename_i k fx hk
   split at h1
   ·rename_i o ho;exact⟨k,fx,o,hk,ho,h1⟩
   ·cases h1
  ·cases h1
 simp only[Bool.and_eq_true,List.all_eq_true,List.mem_range]at h;obtain⟨⟨⟨h1,h2⟩,h3⟩,h4⟩:=h;have key:∀(i j:Nat) o oj d,ops[i]? = some o→ops[j]? = some oj→oj.dst=some d→d<n∧(i=j∨o.dst≠some d)∧(d ∉ o.looksAt ops∨(edgeB o j=true∧(zB0 fl i=none→zB0 fl j≠some false))∨(edgeB oj i=true∧zB0 fl i=none)):=by
  intro i j o oj d hi hj hd;have h:=h3 i (Array.getElem?_eq_some_iff.1 hi).1 j (Array.getElem?_eq_some_iff.1 hj).1;simp only[hi,hj,hd,Bool.and_eq_true,Bool.or_eq_true,decide_eq_true_eq,Bool.not_eq_true', beq_iff_eq,List.contains_eq_mem,decide_eq_false_iff_not,Bool.and_eq_false_imp]at h;refine⟨h.1.1,h.1.2,?_⟩;rcases h.2 with(h5|h5)|h5
  ·exact .inl h5
  ·exact .inr (.inl ⟨h5.1,fun hn hf=>by have:=h5.2 hn;simp[hf]at this⟩)
  ·exact .inr (.inr h5)
 refine⟨hb,h1,h2,fun j oj d hj hd=>(key j j oj oj d hj hj hd).1,fun i j oi oj d hi hj hdi hdj=>?_,fun i j o oj d hi hj hd hm=>?_,fun p i fx hp=>?_,fun q j fj i fx o hq hp ho=>?_⟩
 ·rcases(key i j oi oj d hi hj hdj).2.1 with e|e
  ·exact e
  ·exact absurd hdi e
 ·rcases(key i j o oj d hi hj hd).2.2 with h5|h5
  ·exact absurd hm h5
  ·exact h5
 ·have h:=h4 p (List.getElem?_eq_some_iff.1 hp).1;simp only[hp,Bool.and_eq_true,decide_eq_true_eq,beq_iff_eq]at h;exact⟨h.1.2,h.1.1⟩
 ·have h:=h4 (q+1) (List.getElem?_eq_some_iff.1 hp).1;simp only[hp,hq,ho,Bool.and_eq_true]at h;exact h.2
def sl' (a:Act) (d:Nat):Value:=a.tmps.getD d undef
theorem zH5 {a:Act} {d t:Nat} {v:Value}:sl' (a.put (some d) v) t=if d=t∧d<a.tmps.size then v else sl' a t:=by
 unfold sl' Act.put;by_cases h:d=t
 ·subst h;by_cases hd:d<a.tmps.size
  ·simp[hd]
  ·simp[hd]
 ·simp[h,Array.getElem?_setIfInBounds_ne h]
theorem zC8 {a:Act} {x:Option Tmp} {t:Nat} {v:Value} (h:x≠some t):sl' (a.put x v) t=sl' a t:=by
 cases x with
 |none=>rfl
 |some d=>rw[zH5,if_neg (fun e=>h (by rw[e.1]))]
theorem size_put {a:Act} {x:Option Tmp} {v:Value}:(a.put x v).tmps.size=a.tmps.size:=by cases x <;> simp[Act.put]
theorem defers_put' {a:Act} {x:Option Tmp} {v:Value}:(a.put x v).defers=a.defers:=by cases x <;> rfl
theorem exec_same {o:Oper} {a b:Act} (hs:∀cs b,o.op≠.select cs b) (h:∀t∈o.looksAt ops,sl' a t=sl' b t):execOp a.eval o=execOp b.eval o :=
 execOp_congr o hs fun x hx=>by
  cases x with
  |tmp t=>exact h t (List.mem_append_left _ (List.mem_filterMap.2 ⟨.tmp t,by simpa using hx,rfl⟩))
  |_=>rfl
theorem zK3 {o:Oper} {a b:Act} (hz:a.tmps.size=b.tmps.size) (h:∀t∈o.looksAt ops,sl' a t=sl' b t):Region.wanted o (yielded ops a.tmps)=Region.wanted o (yielded ops b.tmps):=by
 unfold Region.wanted;cases hg:o.guard with
 |none=>rfl
 |some gw=>
  obtain⟨g,want⟩:=gw;have hy:yielded ops a.tmps g=yielded ops b.tmps g:=by
   unfold yielded;cases ht:(ops[g]?).bind (·.dst) with
   |none=>rfl
   |some t=>
    have:=h t (by simp[Oper.looksAt,hg,ht]);unfold sl' at this;simp only[Option.bind_some];by_cases hlt:t<a.tmps.size
    ·have hlt2:t<b.tmps.size:=hz▸hlt;simp[hlt,hlt2]at this ⊢;rw[this]
    ·have hlt2:¬t<b.tmps.size:=hz▸hlt;rw[Array.getElem?_eq_none (Nat.le_of_not_lt hlt),Array.getElem?_eq_none (Nat.le_of_not_lt hlt2)]
  simp only[hy]
def frV (ops : Array Oper) (fl : List (Nat × Bool)) (V : Nat → Value) (a : Act) : Nat → Act
 |0=>a
 | k + 1 => match ops[k]? with
  |some o=>if zB0 fl k=some false then frV ops fl V a k else(frV ops fl V a k).put o.dst (V k)
  |none=>frV ops fl V a k
theorem zL2 (V : Nat → Value) (a : Act) : ∀ k, (frV ops fl V a k).tmps.size = a.tmps.size
 |0=>rfl
 |k+1=>by unfold frV;split <;> (try split) <;> simp[size_put,zL2 V a k]
theorem frV_defers (V : Nat → Value) (a : Act) : ∀ k, (frV ops fl V a k).defers = a.defers
 |0=>rfl
 |k+1=>by unfold frV;split <;> (try split) <;> simp[defers_put', frV_defers V a k]
theorem frV_congr {V V' : Nat → Value} {a : Act} : ∀ k, (∀ j, j < k → V j = V' j) → frV ops fl V a k = frV ops fl V' a k
 |0,_=>rfl
 |k+1,h=>by unfold frV;rw[frV_congr k fun j hj=>h j (by omega),h k (by omega)]
theorem frV_at {V : Nat → Value} {a : Act} (H : FlowOk ops fl bd a.tmps.size) {j : Nat} {oj : Oper} {d : Nat} (hj : ops[j]? = some oj) (hd : oj.dst = some d) (hk : zB0 fl j ≠ some false) : ∀ k, j < k → sl' (frV ops fl V a k) d = V j
 |k+1,h=>by
  unfold frV;by_cases e:k=j
  ·subst e;simp only[hj,if_neg hk,hd];rw[zH5,if_pos ⟨rfl,by rw[zL2];exact H.inn _ _ _ hj hd⟩]
  ·have ih:=frV_at (V:=V) H hj hd hk k (by omega)
   split
   ·rename_i o ho
    split
    ·exact ih
    ·rw[zC8 (fun e2=>e (H.dis k j o oj d ho hj e2 hd))];exact ih
   ·exact ih
theorem frV_no {V : Nat → Value} {a : Act} {d : Nat} : ∀ k, (∀ j, j < k → ∀ oj, ops[j]? = some oj → zB0 fl j ≠ some false → oj.dst ≠ some d) → sl' (frV ops fl V a k) d = sl' a d
 |0,_=>rfl
 |k+1,h=>by
  have ih:=frV_no (V:=V) (a:=a) (d:=d) k fun j hj=>h j (by omega)
  unfold frV
  split
  ·rename_i o ho
   split
   ·exact ih
   ·rename_i hk;rw[zC8 (h k (by omega) o ho hk)];exact ih
  ·exact ih
def YieldF (P:Program) (ops:Array Oper) (C:List Value→World→Prop) (b:Option Nat) (o:Oper) (a:Act) (v:Value):Prop :=
 (Region.wanted o (yielded ops a.tmps)=true∧quietF P C b o a v)∨(Region.wanted o (yielded ops a.tmps)=false∧v=undef)
theorem wq1_vals {K : Act → Prop} {a0 : Act} : ∀ (l : List Oper) (i : Nat) (V0 : Nat → Value), (∀ j, l[j]? = ops[i + j]?) → wq1 P ops C fl bd K i l (frV ops fl V0 a0 i) →
  ∃V,(∀j,j<i→V j=V0 j)∧(∀j o,i≤j→ops[j]? = some o→zB0 fl j=none→YieldF P ops C (bdOf bd j) o (frV ops fl V a0 j) (V j))∧K (frV ops fl V a0 (i+l.length))
 | [], i, V0, hl, h => ⟨V0, fun _ _ => rfl, fun j o hj ho => by
   have:=hl (j - i);rw[show i+(j - i)=j by omega,ho]at this;simp at this,h⟩
 |o::l,i,V0,hl,h=>by
  have ho:ops[i]? = some o:=by simpa using(hl 0).symm
  have hl':∀j,l[j]? = ops[i+1+j]?:=fun j=>by have:=hl (j+1);simpa[Nat.add_assoc,Nat.add_comm 1 j]using this
  have go : ∀ v, (zB0 fl i ≠ some false) → wq1 P ops C fl bd K (i + 1) l ((frV ops fl V0 a0 i).put o.dst v) → (zB0 fl i = none → YieldF P ops C (bdOf bd i) o (frV ops fl V0 a0 i) v) →
    ∃V,(∀j,j<i→V j=V0 j)∧(∀j o,i≤j→ops[j]? = some o→zB0 fl j=none→YieldF P ops C (bdOf bd j) o (frV ops fl V a0 j) (V j))∧K (frV ops fl V a0 (i+(o::l).length)):=by
   intro v hk h hy;have e:frV ops fl (fun j=>if j=i then v else V0 j) a0 (i+1)=(frV ops fl V0 a0 i).put o.dst v:=by
    show(match ops[i]? with|some o=>if zB0 fl i=some false then frV ops fl _ a0 i else(frV ops fl _ a0 i).put o.dst (if i=i then v else V0 i)|none=>frV ops fl _ a0 i)=_;simp only[ho,if_neg hk,if_true];rw[frV_congr (V':=V0) i fun j hj=>by simp[show j≠i by omega]]
   obtain⟨V,g1,g2,g3⟩:=wq1_vals l (i+1) (fun j=>if j=i then v else V0 j) hl' (by rw[e];exact h);have gi:V i=v:=by rw[g1 i (by omega)];simp
   have gl:∀j,j<i→V j=V0 j:=fun j hj=>by rw[g1 j (by omega)];simp[show j≠i by omega]
   refine⟨V,gl,fun j o' hj ho' hkn=>?_,by rw[List.length_cons,show i+(l.length+1)=i+1+l.length by omega];exact g3⟩;by_cases e2:j=i
   ·subst e2;rw[ho]at ho';obtain rfl:=Option.some.inj ho';rw[frV_congr (V':=V0) j gl,gi];exact hy hkn
   ·exact g2 j o' (by omega) ho' hkn
  unfold wq1 at h;rcases hk:zB0 fl i with _|_|_
  ·rw[hk]at h;by_cases hw:Region.wanted o (yielded ops (frV ops fl V0 a0 i).tmps)=true
   ·rw[if_pos hw]at h;obtain⟨v,hv,h⟩:=h;exact go v (by rw[hk];simp) h fun _=>.inl ⟨hw,hv⟩
   ·rw[if_neg hw]at h;exact go undef (by rw[hk];simp) h fun _=>.inr ⟨by simpa using hw,rfl⟩
  ·rw[hk]at h;have e:frV ops fl V0 a0 (i+1)=frV ops fl V0 a0 i:=by
    show(match ops[i]? with|some o=>if zB0 fl i=some false then frV ops fl V0 a0 i else(frV ops fl V0 a0 i).put o.dst (V0 i)|none=>frV ops fl V0 a0 i)=_;simp only[ho,hk,if_true]
   obtain⟨V,g1,g2,g3⟩:=wq1_vals l (i+1) V0 hl' (by rw[e];exact h);refine⟨V,fun j hj=>g1 j (by omega),fun j o' hj ho' hkn=>?_,by rw[List.length_cons,show i+(l.length+1)=i+1+l.length by omega];exact g3⟩;by_cases e2:j=i
   ·subst e2;rw[hk]at hkn;cases hkn
   ·exact g2 j o' (by omega) ho' hkn
  ·rw[hk]at h;obtain⟨v,h⟩:=h;exact go v (by rw[hk];simp) h fun e=>by rw[hk]at e;cases e
theorem flip_wp {o : Oper} {a b : Act} {W : World} {R : Value → World → Prop} {Q : Exit → Act → World → Prop} (he : execOp a.eval o = execOp b.eval o) (hin : ∀ d, o.dst = some d → d < b.tmps.size)
  (h:o.wp P b W (fun b' W' => ∃v,b' = b.put o.dst v∧R v W') (fun _ _ _=>False)):o.wp P a W (fun a' W' => ∃v,a' = a.put o.dst v∧R v W') Q:=by
 have inj:∀u v,b.put o.dst u=b.put o.dst v→∀W', R v W' → ∃v', a.put o.dst u=a.put o.dst v' ∧ R v' W':=by
  intro u v e W' hR;cases hd:o.dst with
  |none=>exact⟨v,rfl,hR⟩
  |some d=>
   rw[hd]at e;have h1:sl' (b.put (some d) u) d=sl' (b.put (some d) v) d:=by rw[e]
   rw[zH5,zH5,if_pos ⟨rfl,hin d hd⟩,if_pos ⟨rfl,hin d hd⟩]at h1;exact⟨v,by rw[h1],hR⟩
 unfold Oper.wp at *;rw[he];generalize (execOp b.eval o).run P W=r at *;cases r with
 |ok n w' =>
  cases n <;> simp only[Oper.upon]at h ⊢
  case value u=>obtain⟨v,e,hR⟩:=h;exact inj u v e _ hR
  case skip=>obtain⟨v,e,hR⟩:=h;exact inj undef v e _ hR
  case defer d=>
   obtain⟨v,e,hR⟩:=h
   exfalso
   have:=congrArg Act.defers e;rw[defers_put', defers_put']at this;have:=congrArg List.length this;simp at this
  case enter f args=>
   refine h.mono fun e w'' he2=>?_
   cases e with
   |returned v=>obtain⟨v', e,hR⟩:=he2;exact inj v v' e _ hR
   |panicked ch=>exact absurd he2 id
   |outgrown=>obtain⟨_,_,hf⟩:=he2;exact absurd hf id
  case row row args=>exact h.mono fun v w'' ⟨v', e,hR⟩=>inj v v' e _ hR
 |halt x w' => cases x <;> simp only[Oper.upon]at h
def valF (fl:List (Nat×Bool)) (V:Nat→Value) (us:List Value) (j:Nat):Value:=if zB0 fl j=some false then us.getD (fl.findIdx fun x=>x.1==j) undef else V j
structure FlI (P:Program) (ops:Array Oper) (C:List Value→World→Prop) (fl:List (Nat×Bool)) (K:List Value→Act→Prop) (V:Nat→Value) (a0:Act) (listed:Array Bool) (a:Act) (W:World) (us:List Value) (b:Act):Prop where
 cw:C us W
 cnt:∀(p i:Nat) fx,fl[p]? = some (i,fx)→(listed.getD i false=true↔p<us.length)
 le:us.length≤fl.length
 da:a.defers=a0.defers
 za:a.tmps.size=a0.tmps.size
 on:∀(j:Nat) o d,ops[j]? = some o→o.dst=some d→listed.getD j false=true→sl' a d=valF fl V us j
 off:∀d,(∀(j:Nat) o,ops[j]? = some o→listed.getD j false=true→o.dst≠some d)→sl' a d=sl' a0 d
 w2:wq2 P ops C K (fl.drop us.length) us b
 db:b.defers=a0.defers
 zb:b.tmps.size=a0.tmps.size
 bon:∀(j:Nat) o d,ops[j]? = some o→o.dst=some d→(zB0 fl j≠some false∨listed.getD j false=true)→sl' b d=valF fl V us j
 boff:∀d,(∀(j:Nat) o,ops[j]? = some o→o.dst≠some d)→sl' b d=sl' a0 d
theorem zB9 {l:Array Bool} {i:Nat} (h:i<l.size):(l.setIfInBounds i true).getD i false=true:=by simp[h]
theorem findIdx_fl {p i:Nat} {fx:Bool} (H:∀(p i:Nat) fx,fl[p]? = some (i,fx)→zB0 fl i=some fx∧i<ops.size) (hu:∀(p q:Nat) i fx fy,fl[p]? = some (i,fx)→fl[q]? = some (i,fy)→p=q) (hp:fl[p]? = some (i,fx)):(fl.findIdx fun x=>x.1==i)=p:=by
 have hlt:=(List.getElem?_eq_some_iff.1 hp).1;have he:=(List.getElem?_eq_some_iff.1 hp).2;have hx:∃x∈fl,(fun x:Nat×Bool=>x.1==i) x=true:=⟨fl[p],List.getElem_mem hlt,by simp[he]⟩
 have hi:=List.findIdx_lt_length_of_exists hx;have hg:=List.findIdx_getElem (xs:=fl) (p:=fun x=>x.1==i) (w:=hi);obtain⟨⟨j,fy⟩,hj⟩:∃y,fl[fl.findIdx fun x=>x.1==i]? = some y:=⟨_,List.getElem?_eq_getElem hi⟩
 have e:j=i:=by
  rw[List.getElem?_eq_getElem hi]at hj;have e2:=Option.some.inj hj;rw[e2]at hg;simpa using hg
 subst e;exact hu _ _ _ _ _ hj hp
theorem FlowOk.mono {n : Nat} (H : FlowOk ops fl bd n) : ∀ (p k i j : Nat) fx fy, fl[p]? = some (i, fx) → fl[p + k + 1]? = some (j, fy) → i < j
 |p,0,i,j,fx,fy,hp,hq=>by
  have hj:=(H.fk _ _ _ hq).2;obtain⟨e,he,hb,hon⟩:=zD2 (H.ch p i fx j fy ops[j] hp hq (Array.getElem?_eq_getElem hj));have:=zF4 H.back (Array.getElem?_eq_getElem hj) e he hb;omega
 |p,k+1,i,j,fx,fy,hp,hq=>by
  have hlt:=(List.getElem?_eq_some_iff.1 hq).1;obtain⟨⟨m,fm⟩,hm⟩:∃y,fl[p+k+1]? = some y:=⟨_,List.getElem?_eq_getElem (by omega)⟩
  have h1:=H.mono p k i m fx fm hp hm;have hj:=(H.fk _ _ _ hq).2;obtain⟨e,he,hb,hon⟩:=zD2 (H.ch (p+k+1) m fm j fy ops[j] hm hq (Array.getElem?_eq_getElem hj));have:=zF4 H.back (Array.getElem?_eq_getElem hj) e he hb;omega
theorem FlowOk.uniq {n:Nat} (H:FlowOk ops fl bd n) (p q i:Nat) (fx fy:Bool) (hp:fl[p]? = some (i,fx)) (hq:fl[q]? = some (i,fy)):p=q:=by
 rcases Nat.lt_trichotomy p q with h|h|h
 ·have:=H.mono p (q - p - 1) i i fx fy hp (by rw[show p+(q - p - 1)+1=q by omega];exact hq);omega
 ·exact h
 ·have:=H.mono q (p - q - 1) i i fy fx hq (by rw[show q+(p - q - 1)+1=p by omega];exact hp);omega
theorem kind_some {i:Nat} {fx:Bool} (h:zB0 fl i=some fx):∃p:Nat,fl[p]? = some (i,fx):=by
 unfold zB0 at h;rw[Option.map_eq_some_iff]at h;obtain⟨⟨j,fy⟩,h1,h2⟩:=h;have h3:=List.find?_some h1;have h4:=List.mem_of_find?_eq_some h1;obtain⟨p,hp⟩:=List.mem_iff_getElem?.1 h4;simp only[beq_iff_eq]at h3 h2;subst h3 h2;exact⟨p,hp⟩
theorem FlI.quiet {K : List Value → Act → Prop} {V : Nat → Value} {a0 : Act} {listed : Array Bool} {a b : Act} {W W' : World} {us : List Value} (H : FlowOk ops fl bd a0.tmps.size) (h : FlI P ops C fl K V a0 listed a W us b) {i : Nat} {o : Oper} (ho : ops[i]? = some o) (hi : i < listed.size) (hk : zB0 fl i = none) (hW : C us W') :
  FlI P ops C fl K V a0 (listed.setIfInBounds i true) (a.put o.dst (V i)) W' us b:=by
 have hset:∀j,j≠i→(listed.setIfInBounds i true).getD j false=listed.getD j false:=fun j hj=>sgy (Ne.symm hj)
 refine⟨hW,fun p j fx hp=>?_,h.le,by rw[defers_put'];exact h.da,by rw[size_put];exact h.za,fun j oj d hj hd hl=>?_,fun d hd=>?_,h.w2,h.db,h.zb,fun j oj d hj hd hl=>?_,h.boff⟩
 ·have hne:j≠i:=fun e=>by have:=(H.fk _ _ _ hp).1;rw[e,hk]at this;cases this
  rw[hset j hne];exact h.cnt p j fx hp
 ·by_cases e:j=i
  ·subst e;rw[ho]at hj;obtain rfl:=Option.some.inj hj;rw[hd,zH5,if_pos ⟨rfl,by rw[h.za];exact H.inn _ _ _ ho hd⟩];unfold valF;rw[hk];simp
  ·rw[hset j e]at hl;rw[zC8 (fun e2=>e (H.dis j i oj o d hj ho hd e2))];exact h.on j oj d hj hd hl
 ·have hdi:o.dst≠some d:=hd i o ho (zB9 hi);rw[zC8 hdi];refine h.off d fun j oj hj hl=>hd j oj hj ?_
  by_cases e:j=i
  ·subst e;exact zB9 hi
  ·rw[hset j e];exact hl
 ·refine h.bon j oj d hj hd ?_;by_cases e:j=i
  ·subst e;exact .inl (by rw[hk];simp)
  ·rw[hset j e]at hl;exact hl
theorem FlI.flip {K : List Value → Act → Prop} {V : Nat → Value} {a0 : Act} {listed : Array Bool} {a b : Act} {W W' : World} {us : List Value} (H : FlowOk ops fl bd a0.tmps.size) (h : FlI P ops C fl K V a0 listed a W us b) {i : Nat} {fx : Bool} {o : Oper} (ho : ops[i]? = some o) (hi : i < listed.size) (hp : fl[us.length]? = some (i, fx)) {v : Value} (hW : C (us ++ [v]) W') (hfx : fx = true → b.put o.dst v = b)
  (hw:wq2 P ops C K (fl.drop (us.length+1)) (us++[v]) (if fx then b else b.put o.dst v)) :
  FlI P ops C fl K V a0 (listed.setIfInBounds i true) (a.put o.dst v) W' (us++[v]) (if fx then b else b.put o.dst v):=by
 have hset:∀j,j≠i→(listed.setIfInBounds i true).getD j false=listed.getD j false:=fun j hj=>sgy (Ne.symm hj)
 have hk:=(H.fk _ _ _ hp).1;have fi:∀(p j:Nat) (fy:Bool),fl[p]? = some (j,fy)→(fl.findIdx fun x=>x.1==j)=p:=fun p j fy hq=>findIdx_fl (ops:=ops) H.fk (fun p q i fx fy=>H.uniq p q i fx fy) hq
 have vk:∀(j:Nat),j≠i→(zB0 fl j≠some false∨listed.getD j false=true)→valF fl V (us++[v]) j=valF fl V us j:=fun j hj hl=>by
  unfold valF
  split
  ·rename_i hkj;obtain⟨q,hq⟩:=kind_some hkj;have hlj:listed.getD j false=true:=hl.resolve_left fun hn=>hn hkj
   have hql:=(h.cnt q j false hq).1 hlj;rw[fi q j false hq];simp[List.getD,List.getElem?_append_left hql]
  ·rfl
 have vi:∀d,o.dst=some d→valF fl V (us++[v]) i=v:=fun d hd=>by
  unfold valF;cases fx with
  |false=>rw[if_pos hk,fi _ _ _ hp];simp[List.getD]
  |true=>
   rw[if_neg (by rw[hk];simp)];have e:=hfx rfl;have h1:=h.bon i o d ho hd (.inl (by rw[hk];simp));rw[←e,hd,zH5,if_pos ⟨rfl,by rw[h.zb];exact H.inn _ _ _ ho hd⟩]at h1;unfold valF at h1;rw[if_neg (by rw[hk];simp)]at h1;exact h1.symm
 have bsl:∀d,o.dst≠some d→sl' (if fx then b else b.put o.dst v) d=sl' b d:=fun d hd=>by
  cases fx
  ·exact zC8 hd
  ·rfl
 refine⟨hW,fun p j fy hq=>?_,?_,by rw[defers_put'];exact h.da,by rw[size_put];exact h.za,fun j oj d hj hd hl=>?_,fun d hd=>?_,by rw[List.length_append];exact hw,?_,?_,fun j oj d hj hd hl=>?_,fun d hd=>?_⟩
 ·rw[List.length_append,List.length_singleton];by_cases e:j=i
  ·subst e;have:=H.uniq _ _ _ _ _ hq hp
   constructor
   ·intro;omega
   ·intro;exact zB9 hi
  ·rw[hset j e];have h1:=h.cnt p j fy hq
   constructor
   ·intro hl;have:=h1.1 hl;omega
   ·intro hl;refine h1.2 ?_;rcases Nat.lt_or_ge p us.length with h2|h2
    ·exact h2
    ·have:p=us.length:=by omega
     subst this;rw[hp]at hq;simp only[Option.some.injEq,Prod.mk.injEq]at hq;exact absurd hq.1.symm e
 ·rw[List.length_append,List.length_singleton];exact(List.getElem?_eq_some_iff.1 hp).1
 ·by_cases e:j=i
  ·subst e;rw[ho]at hj;obtain rfl:=Option.some.inj hj;rw[vi d hd,hd,zH5,if_pos ⟨rfl,by rw[h.za];exact H.inn _ _ _ ho hd⟩]
  ·rw[hset j e]at hl;rw[vk j e (.inr hl),zC8 (fun e2=>e (H.dis j i oj o d hj ho hd e2))];exact h.on j oj d hj hd hl
 ·have hdi:o.dst≠some d:=hd i o ho (zB9 hi);rw[zC8 hdi];refine h.off d fun j oj hj hl=>hd j oj hj ?_
  by_cases e:j=i
  ·subst e;exact zB9 hi
  ·rw[hset j e];exact hl
 ·cases fx
  ·exact defers_put'.trans h.db
  ·exact h.db
 ·cases fx
  ·exact size_put.trans h.zb
  ·exact h.zb
 ·by_cases e:j=i
  ·subst e;rw[ho]at hj;obtain rfl:=Option.some.inj hj;rw[vi d hd];cases fx with
   |false=>rw[if_neg (by simp),hd,zH5,if_pos ⟨rfl,by rw[h.zb];exact H.inn _ _ _ ho hd⟩]
   |true=>
    rw[if_pos rfl,←hfx rfl,hd,zH5,if_pos ⟨rfl,by rw[h.zb];exact H.inn _ _ _ ho hd⟩]
  ·have hl2:zB0 fl j≠some false∨listed.getD j false=true:=hl.imp id fun hl=>by rwa [hset j e]at hl
   rw[vk j e hl2,bsl d (fun e2=>e (H.dis j i oj o d hj ho hd e2))];exact h.bon j oj d hj hd hl2
 ·rw[bsl d (hd i o ho)];exact h.boff d hd
theorem zA6 {id : Nat} {Q : Exit → Act → World → Prop} {a : Act} {w : World} {l : List Oper} (C : List Value → World → Prop) (fl : List (Nat × Bool)) (bd : List (Nat × Nat)) (hm : P.follows .mixedOrders = true) (hB : flowB l.toArray fl bd a.tmps.size = true) (hC : C [] w.drew)
  (h:wq1 P l.toArray C fl bd (fun a' => wq2 P l.toArray C (fun us b=>∀W,C us W→Q .normal b W) fl [] a') 0 l a):(Code.region id l.toArray true).wp P Q a w:=by
 have H:=flowOk_of hB;obtain⟨V,_,hV,hK⟩:=wq1_vals (ops:=l.toArray) (a0:=a) l 0 (fun _=>undef) (by simp) h;rw[Nat.zero_add]at hK;refine zF5 (fun listed a' W=>∃us b,FlI P l.toArray C fl (fun us b=>∀W,C us W→Q .normal b W) V a listed a' W us b) hm H.back ?_ ?_ ?_
 ·refine⟨[],_,hC,fun p i fx _=>?_,Nat.zero_le _,rfl,rfl,fun j o d _ _ hl=>?_,fun _ _=>rfl,hK,frV_defers _ _ _,zL2 _ _ _,fun j o d hj hd hl=>?_,fun d hd=>?_⟩
  ·rw[getD_replicate_false];simp
  ·rw[getD_replicate_false]at hl;cases hl
  ·rw[getD_replicate_false]at hl;have hk:zB0 fl j≠some false:=hl.resolve_right (by simp);rw[frV_at H hj hd hk _ (by simpa using(Array.getElem?_eq_some_iff.1 hj).1)];unfold valF;rw[if_neg hk]
  ·exact frV_no _ fun j _ oj hj _=>hd j oj hj
 ·rintro listed a' W i o ⟨us,b,I⟩ hsz ho hl he hcl;have hi:i<listed.size:=by rw[hsz];exact(Array.getElem?_eq_some_iff.1 ho).1
  have hl':listed.getD i false=false:=by
   rw[Array.getD_eq_getD_getElem?,Array.getElem?_eq_getElem hi]at hl ⊢;simpa using hl
  have hsel:∀cs b,o.op≠.select cs b:=fun cs b=>Region.noSelect_spec H.sel i o cs b ho
  cases hk:zB0 fl i with
  |none=>
   have same:∀t∈o.looksAt l.toArray,sl' a' t=sl' (frV l.toArray fl V a i) t:=fun t ht=>by
    by_cases ex:∃(j:Nat) (oj:Oper),l.toArray[j]? = some oj∧oj.dst=some t
    ·obtain⟨j,oj,hj,hd⟩:=ex;rcases H.rd i j o oj t ho hj hd ht with⟨e1,hkj⟩|⟨e2,_⟩
     ·obtain⟨e,hem,hbd,rfl⟩:=zD2 e1;have hb:=zF4 H.back ho e hem hbd;rw[I.on e.on oj t hj hd (he e hem hbd),frV_at H hj hd (hkj hk) i hb];unfold valF;rw[if_neg (hkj hk)]
     ·obtain⟨e,hem,hbd,hon⟩:=zD2 e2;have hb:=zF4 H.back hj e hem hbd;rw[I.off t fun k ok hk2 hlk hdk=>?_,frV_no i fun k hki ok hk2 _ hdk=>?_]
      ·have:=H.dis k j ok oj t hk2 hj hdk hd;omega
      ·have e5:=H.dis k j ok oj t hk2 hj hdk hd;subst e5;have:=hcl k oj hj hlk e hem hbd;rw[hon,hl']at this;cases this
    ·rw[I.off t fun k ok hk2 _ hdk=>ex ⟨k,ok,hk2,hdk⟩,frV_no i fun k _ ok hk2 _ hdk=>ex ⟨k,ok,hk2,hdk⟩]
   have hwd:=zK3 (ops:=l.toArray) (o:=o) (a:=a') (b:=frV l.toArray fl V a i) (by rw[I.za,zL2]) same;unfold wpOp;simp only[ho];rcases hV i o (Nat.zero_le _) ho hk with⟨hw,hq⟩|⟨hw,hv⟩
   ·rw[if_pos (by rw[hwd];exact hw)];refine .inl (Oper.wp_of_quiet (C:=C us) (K:=fun a'' => a'' = a'.put o.dst (V i)) I.cw (fun a'' W' hW' e=>by subst e;exact⟨us,b,I.quiet H ho hi hk hW'⟩) ⟨V i,fun w hw=>?_,rfl⟩);have hlim:lims C (bdOf bd i) us w:=by
     cases hbd:bdOf bd i with
     |none=>exact hw
     |some b=>
      refine⟨hw,?_⟩;obtain⟨j,fx,oj,hfl,hj,hed⟩:=H.bd i b hbd;obtain⟨e,hem,hbnd,hon⟩:=zD2 hed;rcases Nat.lt_or_ge b us.length with h9|h9
      ·exfalso
       have h8:=hcl j oj hj ((I.cnt b j fx hfl).2 h9) e hem hbnd;rw[hon,hl']at h8;cases h8
      ·exact h9
    have:=hq ⟨(us,w),hlim⟩;unfold Oper.quietAt at this ⊢;rw[exec_same hsel same];exact this
   ·rw[if_neg (by rw[hwd,hw];simp),←hv];exact⟨us,b,I.quiet H ho hi hk I.cw⟩
  |some fx=>
   obtain⟨p,hp⟩:=kind_some hk;have h1:¬p<us.length:=fun hc=>by have:=(I.cnt p i fx hp).2 hc;rw[hl']at this;cases this
   have h2:p=us.length:=by
    rcases p with _|p
    ·omega
    ·obtain⟨⟨j,fj⟩,hj⟩:∃y,fl[p]? = some y:=⟨_,List.getElem?_eq_getElem (by have:=(List.getElem?_eq_some_iff.1 hp).1;omega)⟩
     obtain⟨e,hem,hbd,hon⟩:=zD2 (H.ch p j fj i fx o hj hp ho);have hlj:=he e hem hbd;rw[hon]at hlj;have:=(I.cnt p j fj hj).1 hlj;omega
   subst h2;have hlen:=(List.getElem?_eq_some_iff.1 hp).1;have hw2:=I.w2;rw[List.drop_eq_getElem_cons hlen,(List.getElem?_eq_some_iff.1 hp).2]at hw2;obtain⟨o', ho', hw,hflip,hrest⟩:=hw2;rw[ho]at ho';obtain rfl:=Option.some.inj ho';have same:∀t∈o.looksAt l.toArray,sl' a' t=sl' b t:=fun t ht=>by
    by_cases ex:∃(j:Nat) (oj:Oper),l.toArray[j]? = some oj∧oj.dst=some t
    ·obtain⟨j,oj,hj,hd⟩:=ex;rcases H.rd i j o oj t ho hj hd ht with⟨e1,_⟩|⟨_,hkn⟩
     ·obtain⟨e,hem,hbd,rfl⟩:=zD2 e1;have hlj:=he e hem hbd;rw[I.on e.on oj t hj hd hlj,I.bon e.on oj t hj hd (.inr hlj)]
     ·rw[hk]at hkn;cases hkn
    ·rw[I.off t fun k ok hk2 _ hdk=>ex ⟨k,ok,hk2,hdk⟩,I.boff t fun k ok hk2 hdk=>ex ⟨k,ok,hk2,hdk⟩]
   have hwd:=zK3 (ops:=l.toArray) (o:=o) (a:=a') (b:=b) (by rw[I.za,I.zb]) same;unfold wpOp;simp only[ho];rw[if_pos (by rw[hwd];exact hw)];refine .inl (Oper.wp_mono ?_ (flip_wp (R:=fun v W' => C (us++[v]) W' ∧ (fx=true→b.put o.dst v=b)) (exec_same hsel same) (fun d hd=>by rw[I.zb];exact H.inn _ _ _ ho hd) (hflip W I.cw _ fun v a' W' hC' e hfx=>⟨v,e,hC', fun h=>e▸hfx h⟩)));rintro a'' W' ⟨v,rfl,hC', hfx⟩;exact⟨us++[v],_,I.flip H ho hi hp hC' hfx (hrest v)⟩
 ·rintro listed a' W ⟨us,b,I⟩ hd;have hlen:us.length=fl.length:=by
   refine Nat.le_antisymm I.le ?_;rcases Nat.lt_or_ge us.length fl.length with h1|h1
   ·exfalso
    obtain⟨⟨j,fj⟩,hj⟩:∃y,fl[us.length]? = some y:=⟨_,List.getElem?_eq_getElem h1⟩
    have:=(I.cnt _ _ _ hj).1 (hd j (H.fk _ _ _ hj).2);omega
   ·exact h1
  have hw2:=I.w2;rw[List.drop_eq_nil_of_le (by omega)]at hw2;have e:a' = b:=by
   have e1:a'.tmps=b.tmps:=by
    apply Array.ext
    ·rw[I.za,I.zb]
    ·intro t h1 h2;have:sl' a' t=sl' b t:=by
      by_cases ex:∃(j:Nat) (oj:Oper),l.toArray[j]? = some oj∧oj.dst=some t
      ·obtain⟨j,oj,hj,hdj⟩:=ex;have hlj:=hd j (Array.getElem?_eq_some_iff.1 hj).1;rw[I.on j oj t hj hdj hlj,I.bon j oj t hj hdj (.inr hlj)]
      ·rw[I.off t fun k ok hk2 _ hdk=>ex ⟨k,ok,hk2,hdk⟩,I.boff t fun k ok hk2 hdk=>ex ⟨k,ok,hk2,hdk⟩]
     unfold sl' at this;simpa[h1,h2]using this
   have e2:a'.defers=b.defers:=by rw[I.da,I.db]
   cases a';cases b;simp only at e1 e2;subst e1 e2;rfl
  rw[e];exact hw2 W I.cw
end
end Go.Proofs.YtgkdoehkmbhfiaaGreat
namespace Go.Proofs.YtgkdoehkmbhfiaaGreat
open Go.RowKit
attribute [local go_sem ↓] Go.wp_at_zero Go.wp_at_succ
theorem Owns.tchC {α:Type} {w w':World} {base e sz g:Nat} {f:α→List Value} {v:Value} {xs:List α} (h:Owns w base e sz f v xs) (ht:Touch g w w') (hg:v.ownBlock≠some g):Owns w' base e sz f v xs :=
 OwnR.kept h fun k hk=>ht.block k (OwnR.lt h k hk).2 (fun e=>hg (by rw[hk,e]))
theorem rowN_len (x:Nat):(rowN x).length=1:=rfl
theorem rowN_oneC (x:Nat):∀u∈rowN x,u.oneCell' = true:=by
 intro u hu;simp only[rowN,List.mem_singleton]at hu;subst hu;rfl
theorem Nats.below {w w':World} {B:Nat} {v:Value} {xs:List Nat} (h:Nats w B v xs) (hb:Below B w w'):Nats w' B v xs:=Arr.below h hb
theorem Nats.mono {w:World} {B B':Nat} {v:Value} {xs:List Nat} (h:Nats w B v xs) (hb:B≤B'):Nats w B' v xs:=Arr.mono h hb
def cp5A (i0 i1 i2 i6 i7 i8 i9 i10 i11 i12 i13 i14 i15 i16 i17 i18 i19 i20 i21 i22 i23 i24 i25 i26 i27 i28 i45 i46 i47 i48 i49 i50 i51 i52 i53 i54 i55 i56 i57 i58 i59 i60 i61 i62 i63 i64 i65 i66 i67 i68 i69 i70 i71:Value) (g:Nat) (k:Nat) (gE:Nat) (u29 u30 u31 u32 u33 u34 u35 u36 u37 u38 u39 u40 u41 u42 u43 u44:Value):Act:={ tmps:=#[i0,i1,i2,.pointer (some ⟨g,0,none⟩),.int .i64 (k:Nat),.pointer (some ⟨gE,0,none⟩),i6,i7,i8,i9,i10,i11,i12,i13,i14,i15,i16,i17,i18,i19,i20,i21,i22,i23,i24,i25,i26,i27,i28,u29,u30,u31,u32,u33,u34,u35,u36,u37,u38,u39,u40,u41,u42,u43,u44,i45,i46,i47,i48,i49,i50,i51,i52,i53,i54,i55,i56,i57,i58,i59,i60,i61,i62,i63,i64,i65,i66,i67,i68,i69,i70,i71],defers:=[] }
noncomputable def cp5Code:Code:=(Tryz.f45.body.bind (zI6 5)).getD .skip
def CqP (lo pb po pc k:Nat) (C:List Value) (qs:List Nat) (os:List Jb) (wq w':World):Prop:=∃u v,Owns w' wq.heap.size 3 1 rowN u qs∧Owns w' wq.heap.size 101 3 jbRow v os∧Apart u v∧OwnR w' lo 48 4 (.slice (some ⟨pb,po,none⟩) 3 pc) 3 ((C.set (k * 4+1) u).set (k * 4+2) v)∧Touch pb wq w'
def cp5C (lo pb po pc k : Nat) (C : List Value) (qs : List Nat) (os : List Jb) (wq : World) (us : List Value) (W : World) : Prop := Touch pb wq W ∧ match us with
 |[]=>OwnR W lo 48 4 (.slice (some ⟨pb,po,none⟩) 3 pc) 3 C
 |[u]=>OwnR W lo 48 4 (.slice (some ⟨pb,po,none⟩) 3 pc) 3 C∧Owns W wq.heap.size 3 1 rowN u qs
 |[u,v]=>OwnR W lo 48 4 (.slice (some ⟨pb,po,none⟩) 3 pc) 3 C∧Owns W wq.heap.size 3 1 rowN u qs∧Owns W wq.heap.size 101 3 jbRow v os∧Apart u v
 |[u,v,_]=>OwnR W lo 48 4 (.slice (some ⟨pb,po,none⟩) 3 pc) 3 (C.set (k * 4+1) u)∧Owns W wq.heap.size 3 1 rowN u qs∧Owns W wq.heap.size 101 3 jbRow v os∧Apart u v
 |[_,_,_,_]=>CqP lo pb po pc k C qs os wq W
 |_=>False
set_option maxRecDepth 100000 in
theorem cp5_region (i0 i1 i2 i6 i7 i8 i9 i10 i11 i12 i13 i14 i15 i16 i17 i18 i19 i20 i21 i22 i23 i24 i25 i26 i27 i28 i45 i46 i47 i48 i49 i50 i51 i52 i53 i54 i55 i56 i57 i58 i59 i60 i61 i62 i63 i64 i65 i66 i67 i68 i69 i70 i71 j29 j30 j31 j32 j33 j34 j35 j36 j37 j38 j39 j40 j41 j42 j43 j44 : Value) (g : Nat) (k : Nat) (gE : Nat) (lo : Nat) (pb : Nat) (po : Nat) (pc : Nat) (B : Nat) (C : List Value) (c1 : Value) (c2 : Value) (qa : Option Addr) (qn : Nat) (qc : Nat) (oa : Option Addr) (on : Nat) (oc : Nat) (qs : List Nat) (os : List Jb) (wq : World)
    (hgp:g≠pb) (hgl:g<wq.heap.size) (hG:wq.cell? ⟨g,2,none⟩=some (.slice (some ⟨pb,po,none⟩) 3 pc)) (hpl:pb<wq.heap.size) (hB:B≤pb) (hBs:B≤wq.heap.size) (hkn:k<3) (hep:gE≠pb) (hel:gE<wq.heap.size) (hO:OwnR wq lo 48 4 (.slice (some ⟨pb,po,none⟩) 3 pc) 3 C) (hC1:C[k * 4+1]? = some c1) (hC2:C[k * 4+2]? = some c2) (hE1:wq.cell? ⟨gE,1,none⟩=some (.slice qa qn qc)) (hE2:wq.cell? ⟨gE,2,none⟩=some (.slice oa on oc)) (hQ:Nats wq B (.slice qa qn qc) qs) (hJ:Jbs wq B (.slice oa on oc) os) (hl1:qs.length≤1048576) (hl2:os.length≤1048576)
    {Q:Exit→Act→World→Prop}
    (hK:∀(u29 u30 u31 u32 u33 u34 u35 u36 u37 u38 u39 u40 u41 u42 u43 u44:Value) w', CqP lo pb po pc k C qs os wq w' → Q .normal (cp5A i0 i1 i2 i6 i7 i8 i9 i10 i11 i12 i13 i14 i15 i16 i17 i18 i19 i20 i21 i22 i23 i24 i25 i26 i27 i28 i45 i46 i47 i48 i49 i50 i51 i52 i53 i54 i55 i56 i57 i58 i59 i60 i61 i62 i63 i64 i65 i66 i67 i68 i69 i70 i71 g k gE u29 u30 u31 u32 u33 u34 u35 u36 u37 u38 u39 u40 u41 u42 u43 u44) w'):cp5Code.wp Tryz.prog Q (cp5A i0 i1 i2 i6 i7 i8 i9 i10 i11 i12 i13 i14 i15 i16 i17 i18 i19 i20 i21 i22 i23 i24 i25 i26 i27 i28 i45 i46 i47 i48 i49 i50 i51 i52 i53 i54 i55 i56 i57 i58 i59 i60 i61 i62 i63 i64 i65 i66 i67 i68 i69 i70 i71 g k gE j29 j30 j31 j32 j33 j34 j35 j36 j37 j38 j39 j40 j41 j42 j43 j44) wq:=by
  conv=>arg 2;whnf
  obtain⟨CC,hCC⟩:∃CC,CC=cp5C lo pb po pc k C qs os wq:=⟨_,rfl⟩
  have hC0:CC [] wq.drew:=by rw[hCC];exact⟨(Touch.refl _ _).drewd,hO⟩
  have hTC:∀us W,CC us W→Touch pb wq W:=by rw[hCC];exact fun us W h=>h.1
  have HCC:=hid hCC;have hne:Nonempty (Ph CC):=⟨⟨([],wq.drew),hC0⟩⟩
  have pc9:∀{p:Addr} {v:Value},p.block≠pb→wq.cell? p=some v→∀x:Ph CC,x.1.2.cell? p=some v:=fun hp hc x=>by
    rw[←hc];simp only[World.cell?,(hTC _ _ x.2).block _ (World.block_lt_of_cell? wq _ hc) hp]
  replace hG:=pc9 hgp hG;replace hE1:=pc9 hep hE1;replace hE2:=pc9 hep hE2;clear hCC pc9;have hki:(k:Int)<3:=by omega
  unfold cp5A;refine zA6 CC [(8,false),(11,false),(14,false),(17,false)] [] (by kernel_rfl) (by kernel_rfl) hC0 ?_
  iterate 4
    repeat (
      (with_reducible refine wq1_q ⟨rfl,rfl⟩ (fun K hK=>?_))
      go_simp
      first
        |((with_reducible refine hK _ ?_);clear hK K)
        |((with_reducible refine zA7 (by simp[undef]) (hK _ ?_));clear hK K)
        | (apply Exists.intro
           (with_reducible refine⟨fun _=>?_,hK _ ?_⟩)
           (fail)
           clear hK K))
    refine wq1_v rfl ?_
  refine zC7 ?_;clear hG hE1 hE2 hne;refine wq2_v _ rfl rfl ?_ ?_
  · intro W hW KA hKA
    rw[HCC.out]at hW;obtain⟨hT,own⟩:=hW;have hHB:=hT.below hB hBs;have hQx:Arr W B 1 (.slice qa qn qc) (qs.map rowN):=hQ.below hHB;go_simp
    (with_reducible refine(clone_int rowN rowN_len rowN_oneC _ qs B W hQx (by omega)).mono ?_)
    rintro e w'' ⟨q,rfl,o1,hb1⟩;go_simp;exact hKA _ _ _ (by rw[HCC.out];exact⟨hT.trans (Touch.of_below hb1 (Nat.le_refl _)),OwnR.below own hb1 (fun k hk=>(OwnR.lt own k hk).2),o1.rebase hT.size⟩) rfl
  intro v0 KA hKA;go_simp;refine hKA _ ?_;clear hKA KA;refine wq2_v _ rfl rfl ?_ ?_
  · intro W hW KA hKA
    rw[HCC.out]at hW;obtain⟨hT,own,o8⟩:=hW;have hHB:=hT.below hB hBs;have hJx:Arr W B 3 (.slice oa on oc) (os.map jbRow):=hJ.below hHB;go_simp
    (with_reducible refine(clone_CycJob jbRow (fun _=>rfl) jbRow_one _ os B W hJx (by omega)).mono ?_)
    rintro e w'' ⟨q,rfl,o1,hb1⟩;go_simp;exact hKA _ _ _ (by rw[HCC.out];exact⟨hT.trans (Touch.of_below hb1 (Nat.le_refl _)),OwnR.below own hb1 (fun k hk=>(OwnR.lt own k hk).2),OwnR.below o8 hb1 (fun k hk=>(OwnR.lt o8 k hk).2),o1.rebase hT.size,zL8 o8 o1⟩) rfl
  intro v1 KA hKA;go_simp;refine hKA _ ?_;clear hKA KA;refine wq2_v _ rfl rfl ?_ ?_
  · intro W hW KA hKA
    rw[HCC.out]at hW;obtain⟨hT,own,o8,o11,ap⟩:=hW;obtain⟨y1,y3,e1,_,_⟩:=o8.shape;subst e1;have q:=(OwnR.get own (k * 4+1) (by omega)).trans (hC1);have q2:=OwnR.unfrozen own (po+(k * 4+1));have hput:=OwnR.put own (k * 4+1) (by omega) (.slice y1 qs.length y3);rw[←Nat.add_assoc]at q q2 hput;have HPUT:=hid hput;clear hput;go_simp;exact hKA undef _ _ (by rw[HCC.out];exact⟨hT.trans (Touch.setCell ..),HPUT.out,Owns.tchC o8 (Touch.setCell ..) (fun e=>by have:=(OwnR.lt o8 pb e).1;omega),Owns.tchC o11 (Touch.setCell ..) (fun e=>by have:=(OwnR.lt o11 pb e).1;omega),ap⟩) rfl
  intro v2 KA hKA;go_simp;refine hKA _ ?_;clear hKA KA;refine wq2_v _ rfl rfl ?_ ?_
  · intro W hW KA hKA
    rw[HCC.out]at hW;obtain⟨hT,own,o8,o11,ap⟩:=hW;obtain⟨y1,y3,e1,_,_⟩:=o11.shape;subst e1;have q:=(OwnR.get own (k * 4+2) (by omega)).trans ((show(C.set (k * 4+1) _)[k * 4+2]? = some c2 by rw[List.getElem?_set,if_neg (by omega)];exact hC2));have q2:=OwnR.unfrozen own (po+(k * 4+2));have hput:=OwnR.put own (k * 4+2) (by omega) (.slice y1 os.length y3);rw[←Nat.add_assoc]at q q2 hput;have HPUT:=hid hput;clear hput;go_simp;exact hKA undef _ _ (by rw[HCC.out];exact⟨hT.trans (Touch.setCell ..),_,_,Owns.tchC o8 (Touch.setCell ..) (fun e=>by have:=(OwnR.lt o8 pb e).1;omega),Owns.tchC o11 (Touch.setCell ..) (fun e=>by have:=(OwnR.lt o11 pb e).1;omega),ap,HPUT.out,hT.trans (Touch.setCell ..)⟩) rfl
  intro v3 KA hKA;go_simp;refine hKA _ ?_;clear hKA KA;refine zD0 ?_;intro wz hwz;rw[HCC.out]at hwz;exact hK _ _ _ _ _ _ _ _ _ _ _ _ _ _ _ _ wz hwz.2
end Go.Proofs.YtgkdoehkmbhfiaaGreat
namespace Go.Proofs.YtgkdoehkmbhfiaaGreat
open Go.RowKit
attribute [local go_sem ↓] Go.wp_at_zero Go.wp_at_succ
def cp10A (i0 i1 i2 i4 i5 i8 i9 i10 i11 i12 i13 i14 i15 i16 i17 i18 i19 i20 i21 i22 i23 i24 i25 i26 i27 i28 i29 i30 i31 i32 i33 i34 i35 i36 i37 i38 i39 i40 i41 i42 i43 i44 i45 i46 i47 i48 i49 i50 i51 i52 i53 i70 i71:Value) (g:Nat) (k:Nat) (gE:Nat) (u54 u55 u56 u57 u58 u59 u60 u61 u62 u63 u64 u65 u66 u67 u68 u69:Value):Act:={ tmps:=#[i0,i1,i2,.pointer (some ⟨g,0,none⟩),i4,i5,.int .i64 (k:Nat),.pointer (some ⟨gE,0,none⟩),i8,i9,i10,i11,i12,i13,i14,i15,i16,i17,i18,i19,i20,i21,i22,i23,i24,i25,i26,i27,i28,i29,i30,i31,i32,i33,i34,i35,i36,i37,i38,i39,i40,i41,i42,i43,i44,i45,i46,i47,i48,i49,i50,i51,i52,i53,u54,u55,u56,u57,u58,u59,u60,u61,u62,u63,u64,u65,u66,u67,u68,u69,i70,i71],defers:=[] }
noncomputable def cp10Code:Code:=(Tryz.f45.body.bind (zI6 10)).getD .skip
def CrP (lo pb po pc k:Nat) (C:List Value) (qs:List Jb) (js:List TJ) (wq w':World):Prop:=∃u v m,∃D1:List TJV,Owns w' wq.heap.size 101 3 jbRow u qs∧wq.heap.size≤m∧Owns w' m 65 5 tjRow v D1∧D1.map (·.1)=js∧(∀x∈D1,IntsD w' (fun b=>m≤b∧b<w'.heap.size∧v.ownBlock≠some b) x.2 x.1.rsp.data)∧Low m u∧OwnR w' lo 94 3 (.slice (some ⟨pb,po,none⟩) 4 pc) 4 ((C.set (k * 3) u).set (k * 3+1) v)∧Touch pb wq w'
def cp10C (lo pb po pc k : Nat) (C : List Value) (qs : List Jb) (js : List TJ) (wq : World) (us : List Value) (W : World) : Prop := Touch pb wq W ∧ match us with
 |[]=>OwnR W lo 94 3 (.slice (some ⟨pb,po,none⟩) 4 pc) 4 C
 |[u]=>OwnR W lo 94 3 (.slice (some ⟨pb,po,none⟩) 4 pc) 4 C∧Owns W wq.heap.size 101 3 jbRow u qs
 |[u,v]=>OwnR W lo 94 3 (.slice (some ⟨pb,po,none⟩) 4 pc) 4 C∧Owns W wq.heap.size 101 3 jbRow u qs∧∃m,∃D1:List TJV,wq.heap.size≤m∧Owns W m 65 5 tjRow v D1∧D1.map (·.1)=js∧(∀x∈D1,IntsD W (fun b=>m≤b∧b<W.heap.size∧v.ownBlock≠some b) x.2 x.1.rsp.data)∧Low m u
 |[u,v,_]=>OwnR W lo 94 3 (.slice (some ⟨pb,po,none⟩) 4 pc) 4 (C.set (k * 3) u)∧Owns W wq.heap.size 101 3 jbRow u qs∧∃m,∃D1:List TJV,wq.heap.size≤m∧Owns W m 65 5 tjRow v D1∧D1.map (·.1)=js∧(∀x∈D1,IntsD W (fun b=>m≤b∧b<W.heap.size∧v.ownBlock≠some b) x.2 x.1.rsp.data)∧Low m u
 |[_,_,_,_]=>CrP lo pb po pc k C qs js wq W
 |_=>False
set_option maxRecDepth 100000 in
theorem cp10_region (i0 i1 i2 i4 i5 i8 i9 i10 i11 i12 i13 i14 i15 i16 i17 i18 i19 i20 i21 i22 i23 i24 i25 i26 i27 i28 i29 i30 i31 i32 i33 i34 i35 i36 i37 i38 i39 i40 i41 i42 i43 i44 i45 i46 i47 i48 i49 i50 i51 i52 i53 i70 i71 j54 j55 j56 j57 j58 j59 j60 j61 j62 j63 j64 j65 j66 j67 j68 j69 : Value) (g : Nat) (k : Nat) (gE : Nat) (lo : Nat) (pb : Nat) (po : Nat) (pc : Nat) (B : Nat) (C : List Value) (c1 : Value) (c2 : Value) (qa : Option Addr) (qn : Nat) (qc : Nat) (oa : Option Addr) (on : Nat) (oc : Nat) (qs : List Jb) (js : List TJ) (D0 : List TJV) (wq : World)
    (hgp:g≠pb) (hgl:g<wq.heap.size) (hG:wq.cell? ⟨g,3,none⟩=some (.slice (some ⟨pb,po,none⟩) 4 pc)) (hpl:pb<wq.heap.size) (hB:B≤pb) (hBs:B≤wq.heap.size) (hkn:k<4) (hep:gE≠pb) (hel:gE<wq.heap.size) (hO:OwnR wq lo 94 3 (.slice (some ⟨pb,po,none⟩) 4 pc) 4 C) (hC1:C[k * 3]? = some c1) (hC2:C[k * 3+1]? = some c2) (hE0:wq.cell? ⟨gE,0,none⟩=some (.slice qa qn qc)) (hE1:wq.cell? ⟨gE,1,none⟩=some (.slice oa on oc)) (hQ:Jbs wq B (.slice qa qn qc) qs) (hJ1:Arr wq B 5 (.slice oa on oc) (D0.map tjRow)) (hJ2:D0.map (·.1)=js) (hJ3:∀x∈D0,Ints wq B x.2 x.1.rsp.data) (hl1:qs.length≤1048576) (hl5:D0.length≤1000) (hl6:∀x∈D0,x.1.rsp.data.length≤1000)
    {Q:Exit→Act→World→Prop}
    (hK:∀(u54 u55 u56 u57 u58 u59 u60 u61 u62 u63 u64 u65 u66 u67 u68 u69:Value) w', CrP lo pb po pc k C qs js wq w' → Q .normal (cp10A i0 i1 i2 i4 i5 i8 i9 i10 i11 i12 i13 i14 i15 i16 i17 i18 i19 i20 i21 i22 i23 i24 i25 i26 i27 i28 i29 i30 i31 i32 i33 i34 i35 i36 i37 i38 i39 i40 i41 i42 i43 i44 i45 i46 i47 i48 i49 i50 i51 i52 i53 i70 i71 g k gE u54 u55 u56 u57 u58 u59 u60 u61 u62 u63 u64 u65 u66 u67 u68 u69) w'):cp10Code.wp Tryz.prog Q (cp10A i0 i1 i2 i4 i5 i8 i9 i10 i11 i12 i13 i14 i15 i16 i17 i18 i19 i20 i21 i22 i23 i24 i25 i26 i27 i28 i29 i30 i31 i32 i33 i34 i35 i36 i37 i38 i39 i40 i41 i42 i43 i44 i45 i46 i47 i48 i49 i50 i51 i52 i53 i70 i71 g k gE j54 j55 j56 j57 j58 j59 j60 j61 j62 j63 j64 j65 j66 j67 j68 j69) wq:=by
  conv=>arg 2;whnf
  obtain⟨CC,hCC⟩:∃CC,CC=cp10C lo pb po pc k C qs js wq:=⟨_,rfl⟩
  have hC0:CC [] wq.drew:=by rw[hCC];exact⟨(Touch.refl _ _).drewd,hO⟩
  have hTC:∀us W,CC us W→Touch pb wq W:=by rw[hCC];exact fun us W h=>h.1
  have HCC:=hid hCC;have hne:Nonempty (Ph CC):=⟨⟨([],wq.drew),hC0⟩⟩
  have pc9:∀{p:Addr} {v:Value},p.block≠pb→wq.cell? p=some v→∀x:Ph CC,x.1.2.cell? p=some v:=fun hp hc x=>by
    rw[←hc];simp only[World.cell?,(hTC _ _ x.2).block _ (World.block_lt_of_cell? wq _ hc) hp]
  replace hG:=pc9 hgp hG;replace hE0:=pc9 hep hE0;replace hE1:=pc9 hep hE1;clear hCC pc9;have hki:(k:Int)<4:=by omega
  unfold cp10A;refine zA6 CC [(8,false),(11,false),(14,false),(17,false)] [] (by kernel_rfl) (by kernel_rfl) hC0 ?_
  iterate 4
    repeat (
      (with_reducible refine wq1_q ⟨rfl,rfl⟩ (fun K hK=>?_))
      go_simp
      first
        |((with_reducible refine hK _ ?_);clear hK K)
        |((with_reducible refine zA7 (by simp[undef]) (hK _ ?_));clear hK K)
        | (apply Exists.intro
           (with_reducible refine⟨fun _=>?_,hK _ ?_⟩)
           (fail)
           clear hK K))
    refine wq1_v rfl ?_
  refine zC7 ?_;clear hG hE0 hE1 hne;refine wq2_v _ rfl rfl ?_ ?_
  · intro W hW KA hKA
    rw[HCC.out]at hW;obtain⟨hT,own⟩:=hW;have hHB:=hT.below hB hBs;have hQx:Arr W B 3 (.slice qa qn qc) (qs.map jbRow):=hQ.below hHB;go_simp
    (with_reducible refine(clone_CycJob jbRow (fun _=>rfl) jbRow_one _ qs B W hQx (by omega)).mono ?_)
    rintro e w'' ⟨q,rfl,o1,hb1⟩;go_simp;exact hKA _ _ _ (by rw[HCC.out];exact⟨hT.trans (Touch.of_below hb1 (Nat.le_refl _)),OwnR.below own hb1 (fun k hk=>(OwnR.lt own k hk).2),o1.rebase hT.size⟩) rfl
  intro v0 KA hKA;go_simp;refine hKA _ ?_;clear hKA KA;refine wq2_v _ rfl rfl ?_ ?_
  · intro W hW KA hKA
    rw[HCC.out]at hW;obtain⟨hT,own,o8⟩:=hW;have hHB:=hT.below hB hBs;have hqq:=Nat.le_trans hBs hT.size;go_simp
    (with_reducible refine(zG3 D0 _ B W (hJ1.below hHB) (fun x hx2=>(hJ3 x hx2).below hHB) hqq hl5 hl6).mono ?_)
    rintro e w'' ⟨q,D1,rfl,o1,hm1,hd1,hb1⟩;go_simp;exact hKA _ _ _ (by rw[HCC.out];exact⟨hT.trans (Touch.of_below hb1 (Nat.le_refl _)),OwnR.below own hb1 (fun k hk=>(OwnR.lt own k hk).2),OwnR.below o8 hb1 (fun k hk=>(OwnR.lt o8 k hk).2),W.heap.size,D1,hT.size,o1,hm1.trans hJ2,hd1,(fun k hk=>(OwnR.lt o8 k hk).2)⟩) rfl
  intro v1 KA hKA;go_simp;refine hKA _ ?_;clear hKA KA;refine wq2_v _ rfl rfl ?_ ?_
  · intro W hW KA hKA
    rw[HCC.out]at hW;obtain⟨hT,own,o8,m,D1,m1,o11,hm11,hd11,r11⟩:=hW;have HM11:=hid hm11;have HD11:=hid hd11;have R11:=hid r11;clear hm11 hd11 r11;obtain⟨y1,y3,e1,_,_⟩:=o8.shape;subst e1;have q:=(OwnR.get own (k * 3) (by omega)).trans (hC1);have q2:=OwnR.unfrozen own (po+(k * 3));have hput:=OwnR.put own (k * 3) (by omega) (.slice y1 qs.length y3);have HPUT:=hid hput;clear hput;go_simp;exact hKA undef _ _ (by rw[HCC.out];exact⟨hT.trans (Touch.setCell ..),HPUT.out,Owns.tchC o8 (Touch.setCell ..) (fun e=>by have:=(OwnR.lt o8 pb e).1;omega),m,D1,m1,Owns.tchC o11 (Touch.setCell ..) (fun e=>by have:=(OwnR.lt o11 pb e).1;omega),HM11.out,fun x hx2=>((HD11.out x hx2).kept fun b hb=>Below.heap_setCell _ _ _ _ (show b≠pb by have:=hb.1;omega)).weak fun b hb=>⟨hb.1,by simpa using hb.2.1,hb.2.2⟩,R11.out⟩) rfl
  intro v2 KA hKA;go_simp;refine hKA _ ?_;clear hKA KA;refine wq2_v _ rfl rfl ?_ ?_
  · intro W hW KA hKA
    rw[HCC.out]at hW;obtain⟨hT,own,o8,m,D1,m1,o11,hm11,hd11,r11⟩:=hW;have HM11:=hid hm11;have HD11:=hid hd11;have R11:=hid r11;clear hm11 hd11 r11;obtain⟨y1,y3,e1,_,_⟩:=o11.shape;subst e1;have q:=(OwnR.get own (k * 3+1) (by omega)).trans ((show(C.set (k * 3) _)[k * 3+1]? = some c2 by rw[List.getElem?_set,if_neg (by omega)];exact hC2));have q2:=OwnR.unfrozen own (po+(k * 3+1));have hput:=OwnR.put own (k * 3+1) (by omega) (.slice y1 D1.length y3);rw[←Nat.add_assoc]at q q2 hput;have HPUT:=hid hput;clear hput;go_simp;exact hKA undef _ _ (by rw[HCC.out];exact⟨hT.trans (Touch.setCell ..),_,_,m,D1,Owns.tchC o8 (Touch.setCell ..) (fun e=>by have:=(OwnR.lt o8 pb e).1;omega),m1,Owns.tchC o11 (Touch.setCell ..) (fun e=>by have:=(OwnR.lt o11 pb e).1;omega),HM11.out,fun x hx2=>((HD11.out x hx2).kept fun b hb=>Below.heap_setCell _ _ _ _ (show b≠pb by have:=hb.1;omega)).weak fun b hb=>⟨hb.1,by simpa using hb.2.1,hb.2.2⟩,R11.out,HPUT.out,hT.trans (Touch.setCell ..)⟩) rfl
  intro v3 KA hKA;go_simp;refine hKA _ ?_;clear hKA KA;refine zD0 ?_;intro wz hwz;rw[HCC.out]at hwz;exact hK _ _ _ _ _ _ _ _ _ _ _ _ _ _ _ _ wz hwz.2
end Go.Proofs.YtgkdoehkmbhfiaaGreat
