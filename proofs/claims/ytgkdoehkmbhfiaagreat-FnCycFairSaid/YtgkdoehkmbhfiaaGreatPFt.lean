/- crLet of the laws: whether one was let in by a store (printed by wip/gen_fk.py). -/
import Derived.Test.YtgkdoehkmbhfiaaGreatPFl
import Derived.Test.YtgkdoehkmbhfiaaGreatPCr1
import Derived.Test.YtgkdoehkmbhfiaaGreatPLc0
import Derived.Test.YtgkdoehkmbhfiaaGreatPCloneP
import Derived.Test.YtgkdoehkmbhfiaaGreatPCs
import Derived.Test.YtgkdoehkmbhfiaaGreatPE1
import Derived.Test.YtgkdoehkmbhfiaaGreatPMs
import Derived.StillTail
import Derived.StillTailTactics
set_option linter.unusedVariables false
set_option linter.unusedSimpArgs false
set_option maxHeartbeats 16000000
namespace Go.Proofs.YtgkdoehkmbhfiaaGreat
open Go.RowKit
inductive FT
 |stop
 |alt (i:Nat) (fx:Bool) (sub more:FT)
def FT.isStop : FT → Bool
 | .stop=>true
 | .alt ..=>false
def FT.has : FT → Nat → Bool → Bool
 | .stop,_,_=>false
 | .alt i fx _ more,j,fy=>(i==j&&fx==fy) || more.has j fy
def tg (x:Nat×Value):Value:=.tuple #[.int .i64 x.1,x.2]
section
variable {P : Program} {ops : Array Oper} {C : List Value → World → Prop} {fl : List (Nat × Bool)} {bd : List (Nat × Nat)}
def wq2t (P : Program) (ops : Array Oper) (C : List Value → World → Prop) (K : List Value → Act → Prop) : FT → List (Nat × Value) → Act → Prop
 | .stop,ds,a=>K (ds.map tg) a
 | .alt i fx sub more, ds, a => (∃ o, ops[i]? = some o ∧ Region.wanted o (yielded ops a.tmps) = true ∧
   (∀W,C (ds.map tg) W→∀K':Act→World→Prop,(∀v a' W', C (ds.map tg++[tg (i,v)]) W' → a' = a.put o.dst v→(fx=true→a' = a)→K' a' W')→o.wp P a W K' (fun _ _ _=>False)) ∧
   ∀v,wq2t P ops C K sub (ds++[(i,v)]) (if fx then a else a.put o.dst v))∧(more.isStop=false→wq2t P ops C K more ds a)
theorem wqt_nil {K:List Value→Act→Prop} {ds:List (Nat×Value)} {a:Act} (h:K (ds.map tg) a):wq2t P ops C K .stop ds a:=h
theorem wqt_v {K : List Value → Act → Prop} {ds : List (Nat × Value)} {a : Act} {i : Nat} {sub more : FT} (o : Oper) (ho : ops[i]? = some o) (hw : Region.wanted o (yielded ops a.tmps) = true)
  (hf:∀W,C (ds.map tg) W→∀K':Act→World→Prop,(∀v a' W', C (ds.map tg++[tg (i,v)]) W' → a' = a.put o.dst v→K' a' W')→o.wp P a W K' (fun _ _ _=>False))
  (h:∀v (K':Act→Prop),(∀a', wq2t P ops C K sub (ds++[(i,v)]) a' → K' a')→K' (a.put o.dst v)) (hm:more.isStop=false→wq2t P ops C K more ds a):wq2t P ops C K (.alt i false sub more) ds a :=
 ⟨⟨o,ho,hw,fun W hW K' hK=>hf W hW K' fun v a' W' hC e=>hK v a' W' hC e (fun h=>by cases h),fun v=>by rw[if_neg (by simp)];exact h v _ fun _ h=>h⟩,hm⟩
def nodeB (ops:Array Oper) (fl:List (Nat×Bool)) (bd:List (Nat×Nat)) (t:FT) (ds:List Nat):Bool :=
 (bd.all fun x=>decide (ds.length≤x.2) || ds.any fun j=>match ops[j]? with|some o=>edgeB o x.1|none=>false) &&
 fl.all fun x=>ds.contains x.1 || t.has x.1 x.2 || fl.any fun y=>!ds.contains y.1&&match ops[x.1]? with|some o=>edgeB o y.1|none=>false
def subsB (ops : Array Oper) (fl : List (Nat × Bool)) (bd : List (Nat × Nat)) : FT → List Nat → Bool
 | .stop,_=>true
 | .alt i fx sub more,ds=>fl.contains (i,fx)&&!ds.contains i&&nodeB ops fl bd sub (ds++[i])&&subsB ops fl bd sub (ds++[i])&&subsB ops fl bd more ds
def treeB (ops:Array Oper) (fl:List (Nat×Bool)) (bd:List (Nat×Nat)) (T:FT) (n:Nat):Bool :=
 (backB .any ops && Region.noSelect ops &&
 ((List.range ops.size).all fun i => (List.range ops.size).all fun j => match ops[i]?, ops[j]? with
  | some o, some oj => (match oj.dst with
    | some d => decide (d < n) && (decide (i = j) || decide (o.dst ≠ some d)) &&
      (!(o.looksAt ops).contains d || (edgeB o j&&!(zB0 fl i==none&&zB0 fl j==some false)) || (edgeB oj i&&zB0 fl i==none))
    |none=>true)
  |_,_=>true))&&(fl.all fun x=>decide (x.1<ops.size)&&(zB0 fl x.1==some x.2))&&nodeB ops fl bd T []&&subsB ops fl bd T []
structure TreeOk (ops:Array Oper) (fl:List (Nat×Bool)) (n:Nat):Prop where
 back:backB .any ops=true
 sel:Region.noSelect ops=true
 inn:∀(j:Nat) oj d,ops[j]? = some oj→oj.dst=some d→d<n
 dis:∀(i j:Nat) oi oj d,ops[i]? = some oi→ops[j]? = some oj→oi.dst=some d→oj.dst=some d→i=j
 rd : ∀ (i j : Nat) o oj d, ops[i]? = some o → ops[j]? = some oj → oj.dst = some d → d ∈ o.looksAt ops →
  (edgeB o j=true∧(zB0 fl i=none→zB0 fl j≠some false))∨(edgeB oj i=true∧zB0 fl i=none)
 fk:∀(i:Nat) fx,(i,fx)∈fl→zB0 fl i=some fx∧i<ops.size
theorem treeOk_of {n:Nat} {T:FT} (h:treeB ops fl bd T n=true):TreeOk ops fl n∧nodeB ops fl bd T []=true∧subsB ops fl bd T []=true:=by
 unfold treeB at h;simp only[Bool.and_eq_true]at h;obtain⟨⟨⟨h0,h4⟩,h5⟩,h6⟩:=h;refine⟨?_,h5,h6⟩;simp only[List.all_eq_true,List.mem_range]at h0;obtain⟨⟨h1,h2⟩,h3⟩:=h0;have key:∀(i j:Nat) o oj d,ops[i]? = some o→ops[j]? = some oj→oj.dst=some d→d<n∧(i=j∨o.dst≠some d)∧(d ∉ o.looksAt ops∨(edgeB o j=true∧(zB0 fl i=none→zB0 fl j≠some false))∨(edgeB oj i=true∧zB0 fl i=none)):=by
  intro i j o oj d hi hj hd;have h:=h3 i (Array.getElem?_eq_some_iff.1 hi).1 j (Array.getElem?_eq_some_iff.1 hj).1;simp only[hi,hj,hd,Bool.and_eq_true,Bool.or_eq_true,decide_eq_true_eq,Bool.not_eq_true', beq_iff_eq,List.contains_eq_mem,decide_eq_false_iff_not,Bool.and_eq_false_imp]at h;refine⟨h.1.1,h.1.2,?_⟩;rcases h.2 with(h5|h5)|h5
  ·exact .inl h5
  ·exact .inr (.inl ⟨h5.1,fun hn hf=>by have:=h5.2 hn;simp[hf]at this⟩)
  ·exact .inr (.inr h5)
 refine⟨h1,h2,fun j oj d hj hd=>(key j j oj oj d hj hj hd).1,fun i j oi oj d hi hj hdi hdj=>?_,fun i j o oj d hi hj hd hm=>?_,fun i fx hp=>?_⟩
 ·rcases(key i j oi oj d hi hj hdj).2.1 with e|e
  ·exact e
  ·exact absurd hdi e
 ·rcases(key i j o oj d hi hj hd).2.2 with h5|h5
  ·exact absurd hm h5
  ·exact h5
 ·have h:=List.all_eq_true.1 h4 _ hp;simp only[Bool.and_eq_true,decide_eq_true_eq,beq_iff_eq]at h;exact⟨h.2,h.1⟩
theorem frV_at' {V : Nat → Value} {a : Act} (H : TreeOk ops fl a.tmps.size) {j : Nat} {oj : Oper} {d : Nat} (hj : ops[j]? = some oj) (hd : oj.dst = some d) (hk : zB0 fl j ≠ some false) : ∀ k, j < k → sl' (frV ops fl V a k) d = V j
 |k+1,h=>by
  unfold frV;by_cases e:k=j
  ·subst e;simp only[hj,if_neg hk,hd];rw[zH5,if_pos ⟨rfl,by rw[zL2];exact H.inn _ _ _ hj hd⟩]
  ·have ih:=frV_at' (V:=V) H hj hd hk k (by omega)
   split
   ·rename_i o ho
    split
    ·exact ih
    ·rw[zC8 (fun e2=>e (H.dis k j o oj d ho hj e2 hd))];exact ih
   ·exact ih
def valT (fl:List (Nat×Bool)) (V:Nat→Value) (ds:List (Nat×Value)) (j:Nat):Value:=if zB0 fl j=some false then((ds.find? fun x=>x.1==j).map (·.2)).getD undef else V j
theorem kind_mem {i:Nat} {fx:Bool} (h:zB0 fl i=some fx):(i,fx)∈fl:=by
 obtain⟨p,hp⟩:=kind_some h;exact List.mem_of_getElem? hp
theorem wqt_has {K : List Value → Act → Prop} {ds : List (Nat × Value)} {b : Act} {i : Nat} {fx : Bool} : ∀ {t : FT}, t.has i fx = true → wq2t P ops C K t ds b → subsB ops fl bd t (ds.map (·.1)) = true →
  ∃ sub, (∃ o, ops[i]? = some o ∧ Region.wanted o (yielded ops b.tmps) = true ∧
   (∀W,C (ds.map tg) W→∀K':Act→World→Prop,(∀v a' W', C (ds.map tg++[tg (i,v)]) W' → a' = b.put o.dst v→(fx=true→a' = b)→K' a' W')→o.wp P b W K' (fun _ _ _=>False)) ∧
   ∀v,wq2t P ops C K sub (ds++[(i,v)]) (if fx then b else b.put o.dst v))∧nodeB ops fl bd sub (ds.map (·.1)++[i])=true∧subsB ops fl bd sub (ds.map (·.1)++[i])=true
 | .stop,h,_,_=>by cases h
 | .alt j fy sub more,h,hw,hs=>by
  unfold subsB at hs;simp only[Bool.and_eq_true]at hs;unfold FT.has at h;rw[Bool.or_eq_true,Bool.and_eq_true]at h;rcases h with⟨h1,h2⟩|h
  ·simp only[beq_iff_eq]at h1 h2;subst h1 h2;exact⟨sub,hw.1,hs.1.1.2,hs.1.2⟩
  ·have hm:more.isStop=false:=by cases more with|stop=>cases h|alt=>rfl
   exact wqt_has h (hw.2 hm) hs.2
structure FtI (P:Program) (ops:Array Oper) (C:List Value→World→Prop) (fl:List (Nat×Bool)) (bd:List (Nat×Nat)) (K:List Value→Act→Prop) (V:Nat→Value) (a0:Act) (listed:Array Bool) (a:Act) (W:World) (ds:List (Nat×Value)) (T:FT) (b:Act):Prop where
 cw:C (ds.map tg) W
 cnt:∀(i:Nat) fx,(i,fx)∈fl→(listed.getD i false=true↔i∈ds.map (·.1))
 tn:nodeB ops fl bd T (ds.map (·.1))=true
 ts:subsB ops fl bd T (ds.map (·.1))=true
 dm:∀x∈ds,∃fx,(x.1,fx)∈fl
 da:a.defers=a0.defers
 za:a.tmps.size=a0.tmps.size
 on:∀(j:Nat) o d,ops[j]? = some o→o.dst=some d→listed.getD j false=true→sl' a d=valT fl V ds j
 off:∀d,(∀(j:Nat) o,ops[j]? = some o→listed.getD j false=true→o.dst≠some d)→sl' a d=sl' a0 d
 w2:wq2t P ops C K T ds b
 db:b.defers=a0.defers
 zb:b.tmps.size=a0.tmps.size
 bon:∀(j:Nat) o d,ops[j]? = some o→o.dst=some d→(zB0 fl j≠some false∨listed.getD j false=true)→sl' b d=valT fl V ds j
 boff:∀d,(∀(j:Nat) o,ops[j]? = some o→o.dst≠some d)→sl' b d=sl' a0 d
theorem FtI.quiet {K : List Value → Act → Prop} {V : Nat → Value} {a0 : Act} {listed : Array Bool} {a b : Act} {W W' : World} {ds : List (Nat × Value)} {T : FT} (H : TreeOk ops fl a0.tmps.size) (h : FtI P ops C fl bd K V a0 listed a W ds T b) {i : Nat} {o : Oper} (ho : ops[i]? = some o) (hi : i < listed.size) (hk : zB0 fl i = none) (hW : C (ds.map tg) W') :
  FtI P ops C fl bd K V a0 (listed.setIfInBounds i true) (a.put o.dst (V i)) W' ds T b:=by
 have hset:∀j,j≠i→(listed.setIfInBounds i true).getD j false=listed.getD j false:=fun j hj=>sgy (Ne.symm hj)
 refine⟨hW,fun j fx hp=>?_,h.tn,h.ts,h.dm,by rw[defers_put'];exact h.da,by rw[size_put];exact h.za,fun j oj d hj hd hl=>?_,fun d hd=>?_,h.w2,h.db,h.zb,fun j oj d hj hd hl=>?_,h.boff⟩
 ·have hne:j≠i:=fun e=>by have:=(H.fk _ _ hp).1;rw[e,hk]at this;cases this
  rw[hset j hne];exact h.cnt j fx hp
 ·by_cases e:j=i
  ·subst e;rw[ho]at hj;obtain rfl:=Option.some.inj hj;rw[hd,zH5,if_pos ⟨rfl,by rw[h.za];exact H.inn _ _ _ ho hd⟩];unfold valT;rw[hk];simp
  ·rw[hset j e]at hl;rw[zC8 (fun e2=>e (H.dis j i oj o d hj ho hd e2))];exact h.on j oj d hj hd hl
 ·have hdi:o.dst≠some d:=hd i o ho (zB9 hi);rw[zC8 hdi];refine h.off d fun j oj hj hl=>hd j oj hj ?_
  by_cases e:j=i
  ·subst e;exact zB9 hi
  ·rw[hset j e];exact hl
 ·refine h.bon j oj d hj hd ?_;by_cases e:j=i
  ·subst e;exact .inl (by rw[hk];simp)
  ·rw[hset j e]at hl;exact hl
theorem FtI.flip {K : List Value → Act → Prop} {V : Nat → Value} {a0 : Act} {listed : Array Bool} {a b : Act} {W W' : World} {ds : List (Nat × Value)} {T T' : FT} (H : TreeOk ops fl a0.tmps.size) (h : FtI P ops C fl bd K V a0 listed a W ds T b) {i : Nat} {fx : Bool} {o : Oper} (ho : ops[i]? = some o) (hi : i < listed.size) (hp : (i, fx) ∈ fl) (hn : i ∉ ds.map (·.1)) {v : Value} (hW : C (ds.map tg ++ [tg (i, v)]) W') (hfx : fx = true → b.put o.dst v = b)
  (hw:wq2t P ops C K T' (ds++[(i,v)]) (if fx then b else b.put o.dst v)) (h8:nodeB ops fl bd T' (ds.map (·.1)++[i])=true) (h9:subsB ops fl bd T' (ds.map (·.1)++[i])=true) :
  FtI P ops C fl bd K V a0 (listed.setIfInBounds i true) (a.put o.dst v) W' (ds++[(i,v)]) T' (if fx then b else b.put o.dst v):=by
 have hset:∀j,j≠i→(listed.setIfInBounds i true).getD j false=listed.getD j false:=fun j hj=>sgy (Ne.symm hj)
 have hk:=(H.fk _ _ hp).1;have vk:∀(j:Nat),j≠i→valT fl V (ds++[(i,v)]) j=valT fl V ds j:=fun j hj=>by
  unfold valT
  split
  ·rw[List.find?_append];have:([(i,v)]:List (Nat×Value)).find? (fun x=>x.1==j)=none:=by simp;omega
   rw[this,Option.or_none]
  ·rfl
 have vi:∀d,o.dst=some d→valT fl V (ds++[(i,v)]) i=v:=fun d hd=>by
  unfold valT;cases fx with
  |false=>
   rw[if_pos hk,List.find?_append];have h1:ds.find? (fun x=>x.1==i)=none:=by
    rw[List.find?_eq_none];intro x hx e;simp only[beq_iff_eq]at e;exact hn (by rw[←e];exact List.mem_map_of_mem hx)
   rw[h1];simp
  |true=>
   rw[if_neg (by rw[hk];simp)];have e:=hfx rfl;have h1:=h.bon i o d ho hd (.inl (by rw[hk];simp));rw[←e,hd,zH5,if_pos ⟨rfl,by rw[h.zb];exact H.inn _ _ _ ho hd⟩]at h1;unfold valT at h1;rw[if_neg (by rw[hk];simp)]at h1;exact h1.symm
 have bsl:∀d,o.dst≠some d→sl' (if fx then b else b.put o.dst v) d=sl' b d:=fun d hd=>by
  cases fx
  ·exact zC8 hd
  ·rfl
 have hms:(ds++[(i,v)]).map (·.1)=ds.map (·.1)++[i]:=by simp
 refine⟨by rw[List.map_append];exact hW,fun j fy hq=>?_,by rw[hms];exact h8,by rw[hms];exact h9,fun x hx=>?_,by rw[defers_put'];exact h.da,by rw[size_put];exact h.za,fun j oj d hj hd hl=>?_,fun d hd=>?_,hw,?_,?_,fun j oj d hj hd hl=>?_,fun d hd=>?_⟩
 ·rw[hms,List.mem_append,List.mem_singleton];by_cases e:j=i
  ·subst e;exact⟨fun _=>.inr rfl,fun _=>zB9 hi⟩
  ·rw[hset j e,h.cnt j fy hq];exact⟨.inl,fun h=>h.resolve_right e⟩
 ·rcases List.mem_append.1 hx with hx|hx
  ·exact h.dm x hx
  ·rw[List.mem_singleton.1 hx];exact⟨fx,hp⟩
 ·by_cases e:j=i
  ·subst e;rw[ho]at hj;obtain rfl:=Option.some.inj hj;rw[vi d hd,hd,zH5,if_pos ⟨rfl,by rw[h.za];exact H.inn _ _ _ ho hd⟩]
  ·rw[hset j e]at hl;rw[vk j e,zC8 (fun e2=>e (H.dis j i oj o d hj ho hd e2))];exact h.on j oj d hj hd hl
 ·have hdi:o.dst≠some d:=hd i o ho (zB9 hi);rw[zC8 hdi];refine h.off d fun j oj hj hl=>hd j oj hj ?_
  by_cases e:j=i
  ·subst e;exact zB9 hi
  ·rw[hset j e];exact hl
 ·cases fx
  ·exact defers_put'.trans h.db
  ·exact h.db
 ·cases fx
  ·exact size_put.trans h.zb
  ·exact h.zb
 ·by_cases e:j=i
  ·subst e;rw[ho]at hj;obtain rfl:=Option.some.inj hj;rw[vi d hd];cases fx with
   |false=>rw[if_neg (by simp),hd,zH5,if_pos ⟨rfl,by rw[h.zb];exact H.inn _ _ _ ho hd⟩]
   |true=>
    rw[if_pos rfl,←hfx rfl,hd,zH5,if_pos ⟨rfl,by rw[h.zb];exact H.inn _ _ _ ho hd⟩]
  ·have hl2:zB0 fl j≠some false∨listed.getD j false=true:=hl.imp id fun hl=>by rwa [hset j e]at hl
   rw[vk j e,bsl d (fun e2=>e (H.dis j i oj o d hj ho hd e2))];exact h.bon j oj d hj hd hl2
 ·rw[bsl d (hd i o ho)];exact h.boff d hd
theorem wp_region_tree {id : Nat} {Q : Exit → Act → World → Prop} {a : Act} {w : World} {l : List Oper} (C : List Value → World → Prop) (fl : List (Nat × Bool)) (T : FT) (bd : List (Nat × Nat)) (hm : P.follows .mixedOrders = true) (hB : treeB l.toArray fl bd T a.tmps.size = true) (hC : C [] w.drew)
  (h:wq1 P l.toArray C fl bd (fun a' => wq2t P l.toArray C (fun us b=>∀W,C us W→Q .normal b W) T [] a') 0 l a):(Code.region id l.toArray true).wp P Q a w:=by
 obtain⟨H,hn0,hs0⟩:=treeOk_of hB;obtain⟨V,_,hV,hK⟩:=wq1_vals (ops:=l.toArray) (a0:=a) l 0 (fun _=>undef) (by simp) h;rw[Nat.zero_add]at hK;refine zF5 (fun listed a' W=>∃ds T b,FtI P l.toArray C fl bd (fun us b=>∀W,C us W→Q .normal b W) V a listed a' W ds T b) hm H.back ?_ ?_ ?_
 ·refine⟨[],T,_,hC,fun i fx _=>?_,hn0,hs0,fun x hx=>(by cases hx),rfl,rfl,fun j o d _ _ hl=>?_,fun _ _=>rfl,hK,frV_defers _ _ _,zL2 _ _ _,fun j o d hj hd hl=>?_,fun d hd=>?_⟩
  ·rw[getD_replicate_false];simp
  ·rw[getD_replicate_false]at hl;cases hl
  ·rw[getD_replicate_false]at hl;have hk:zB0 fl j≠some false:=hl.resolve_right (by simp);rw[frV_at' H hj hd hk _ (by simpa using(Array.getElem?_eq_some_iff.1 hj).1)];unfold valT;rw[if_neg hk]
  ·exact frV_no _ fun j _ oj hj _=>hd j oj hj
 ·rintro listed a' W i o ⟨ds,T', b,I⟩ hsz ho hl he hcl;have hi:i<listed.size:=by rw[hsz];exact(Array.getElem?_eq_some_iff.1 ho).1
  have hl':listed.getD i false=false:=by
   rw[Array.getD_eq_getD_getElem?,Array.getElem?_eq_getElem hi]at hl ⊢;simpa using hl
  have hsel:∀cs b,o.op≠.select cs b:=fun cs b=>Region.noSelect_spec H.sel i o cs b ho
  cases hk:zB0 fl i with
  |none=>
   have same:∀t∈o.looksAt l.toArray,sl' a' t=sl' (frV l.toArray fl V a i) t:=fun t ht=>by
    by_cases ex:∃(j:Nat) (oj:Oper),l.toArray[j]? = some oj∧oj.dst=some t
    ·obtain⟨j,oj,hj,hd⟩:=ex;rcases H.rd i j o oj t ho hj hd ht with⟨e1,hkj⟩|⟨e2,_⟩
     ·obtain⟨e,hem,hbd,rfl⟩:=zD2 e1;have hb:=zF4 H.back ho e hem hbd;rw[I.on e.on oj t hj hd (he e hem hbd),frV_at' H hj hd (hkj hk) i hb];unfold valT;rw[if_neg (hkj hk)]
     ·obtain⟨e,hem,hbd,hon⟩:=zD2 e2;have hb:=zF4 H.back hj e hem hbd;rw[I.off t fun k ok hk2 hlk hdk=>?_,frV_no i fun k hki ok hk2 _ hdk=>?_]
      ·have:=H.dis k j ok oj t hk2 hj hdk hd;omega
      ·have e5:=H.dis k j ok oj t hk2 hj hdk hd;subst e5;have:=hcl k oj hj hlk e hem hbd;rw[hon,hl']at this;cases this
    ·rw[I.off t fun k ok hk2 _ hdk=>ex ⟨k,ok,hk2,hdk⟩,frV_no i fun k _ ok hk2 _ hdk=>ex ⟨k,ok,hk2,hdk⟩]
   have hwd:=zK3 (ops:=l.toArray) (o:=o) (a:=a') (b:=frV l.toArray fl V a i) (by rw[I.za,zL2]) same;unfold wpOp;simp only[ho];rcases hV i o (Nat.zero_le _) ho hk with⟨hw,hq⟩|⟨hw,hv⟩
   ·rw[if_pos (by rw[hwd];exact hw)];refine .inl (Oper.wp_of_quiet (C:=C (ds.map tg)) (K:=fun a'' => a'' = a'.put o.dst (V i)) I.cw (fun a'' W' hW' e=>by subst e;exact⟨ds,T', b,I.quiet H ho hi hk hW'⟩) ⟨V i,fun w hw=>?_,rfl⟩);have hlim:lims C (bdOf bd i) (ds.map tg) w:=by
     cases hbd:bdOf bd i with
     |none=>exact hw
     |some b9=>
      refine⟨hw,?_⟩;have hmem:(i,b9)∈bd:=by
       unfold bdOf at hbd;rw[Option.map_eq_some_iff]at hbd;obtain⟨⟨j,b'⟩,g1,g2⟩:=hbd;have g3:=List.find?_some g1;simp only[beq_iff_eq]at g3 g2;subst g3 g2;exact List.mem_of_find?_eq_some g1
      have h7:=I.tn;unfold nodeB at h7;rw[Bool.and_eq_true]at h7;have h6:=List.all_eq_true.1 h7.1 _ hmem;simp only[Bool.or_eq_true,decide_eq_true_eq,List.any_eq_true]at h6;rcases h6 with h6|⟨j,hj,h6⟩
      ·simpa using h6
      ·exfalso
       split at h6
       ·rename_i oj hoj;obtain⟨x,hx,rfl⟩:=List.mem_map.1 hj;obtain⟨fx,hfl⟩:=I.dm x hx;obtain⟨e,hem,hbnd,hon⟩:=zD2 h6;have h8:=hcl x.1 oj hoj ((I.cnt _ fx hfl).2 hj) e hem hbnd;rw[hon,hl']at h8;cases h8
       ·cases h6
    have:=hq ⟨(ds.map tg,w),hlim⟩;unfold Oper.quietAt at this ⊢;rw[exec_same hsel same];exact this
   ·rw[if_neg (by rw[hwd,hw];simp),←hv];exact⟨ds,T', b,I.quiet H ho hi hk I.cw⟩
  |some fx=>
   have hp:=kind_mem hk;have h1:i ∉ ds.map (·.1):=fun hc=>by have:=(I.cnt i fx hp).2 hc;rw[hl']at this;cases this
   have h7:=I.tn;unfold nodeB at h7;rw[Bool.and_eq_true]at h7;have h6:=List.all_eq_true.1 h7.2 _ hp;have hhas:T'.has i fx=true:=by
    simp only[Bool.or_eq_true,List.any_eq_true,Bool.and_eq_true,Bool.not_eq_true']at h6;rcases h6 with(h6|h6)|⟨y,hy,hy1,hy2⟩
    ·exact absurd (by simpa using h6) h1
    ·exact h6
    ·exfalso
     rw[ho]at hy2;simp only at hy2;obtain⟨e,hem,hbd,hon⟩:=zD2 hy2;have hlj:=he e hem hbd;rw[hon]at hlj;have h5:=(I.cnt y.1 y.2 hy).1 hlj;rw[List.contains_eq_mem]at hy1;simp only[decide_eq_false_iff_not]at hy1;exact hy1 h5
   obtain⟨T2,⟨o', ho', hw,hflip,hrest⟩,hn2,hs2⟩:=wqt_has hhas I.w2 I.ts;rw[ho]at ho';obtain rfl:=Option.some.inj ho';have same:∀t∈o.looksAt l.toArray,sl' a' t=sl' b t:=fun t ht=>by
    by_cases ex:∃(j:Nat) (oj:Oper),l.toArray[j]? = some oj∧oj.dst=some t
    ·obtain⟨j,oj,hj,hd⟩:=ex;rcases H.rd i j o oj t ho hj hd ht with⟨e1,_⟩|⟨_,hkn⟩
     ·obtain⟨e,hem,hbd,rfl⟩:=zD2 e1;have hlj:=he e hem hbd;rw[I.on e.on oj t hj hd hlj,I.bon e.on oj t hj hd (.inr hlj)]
     ·rw[hk]at hkn;cases hkn
    ·rw[I.off t fun k ok hk2 _ hdk=>ex ⟨k,ok,hk2,hdk⟩,I.boff t fun k ok hk2 hdk=>ex ⟨k,ok,hk2,hdk⟩]
   have hwd:=zK3 (ops:=l.toArray) (o:=o) (a:=a') (b:=b) (by rw[I.za,I.zb]) same;unfold wpOp;simp only[ho];rw[if_pos (by rw[hwd];exact hw)];refine .inl (Oper.wp_mono ?_ (flip_wp (R:=fun v W' => C (ds.map tg++[tg (i,v)]) W' ∧ (fx=true→b.put o.dst v=b)) (exec_same hsel same) (fun d hd=>by rw[I.zb];exact H.inn _ _ _ ho hd) (hflip W I.cw _ fun v a' W' hC' e hfx=>⟨v,e,hC', fun h=>e▸hfx h⟩)));rintro a'' W' ⟨v,rfl,hC', hfx⟩;exact⟨ds++[(i,v)],T2,_,I.flip H ho hi hp h1 hC' hfx (hrest v) hn2 hs2⟩
 ·rintro listed a' W ⟨ds,T', b,I⟩ hd;have hT:T' = .stop:=by
   cases hT:T' with
   |stop=>rfl
   |alt i fx sub more=>
    exfalso
    have h7:=I.ts;rw[hT]at h7;unfold subsB at h7;simp only[Bool.and_eq_true]at h7;obtain⟨⟨⟨⟨h1,h2⟩,_⟩,_⟩,_⟩:=h7;have hm:(i,fx)∈fl:=by simpa using h1
    have:=(I.cnt i fx hm).1 (hd i (H.fk i fx hm).2);simp at h2;simp at this;obtain⟨x,hx⟩:=this;exact h2 x hx
  have hw2:=I.w2;rw[hT]at hw2;have e:a' = b:=by
   have e1:a'.tmps=b.tmps:=by
    apply Array.ext
    ·rw[I.za,I.zb]
    ·intro t h1 h2;have:sl' a' t=sl' b t:=by
      by_cases ex:∃(j:Nat) (oj:Oper),l.toArray[j]? = some oj∧oj.dst=some t
      ·obtain⟨j,oj,hj,hdj⟩:=ex;have hlj:=hd j (Array.getElem?_eq_some_iff.1 hj).1;rw[I.on j oj t hj hdj hlj,I.bon j oj t hj hdj (.inr hlj)]
      ·rw[I.off t fun k ok hk2 _ hdk=>ex ⟨k,ok,hk2,hdk⟩,I.boff t fun k ok hk2 hdk=>ex ⟨k,ok,hk2,hdk⟩]
     unfold sl' at this;simpa[h1,h2]using this
   have e2:a'.defers=b.defers:=by rw[I.da,I.db]
   cases a';cases b;simp only at e1 e2;subst e1 e2;rfl
  rw[e];exact hw2 W I.cw
end
end Go.Proofs.YtgkdoehkmbhfiaaGreat
namespace Go.Proofs.YtgkdoehkmbhfiaaGreat
open Go.RowKit
structure Yl (R:Nat→Value→World→Prop) (wo:World) (lo:Nat) (v:Value) (W0 W:World):Prop where
 r:R lo v W0
 lo0:wo.heap.size≤lo
 lo1:lo≤W0.heap.size
 sz:W0.heap.size≤W.heap.size
 eq:∀b,lo≤b→b<W0.heap.size→W.heap[b]? = W0.heap[b]?
def ptr (g:Nat):Value:=.pointer (some ⟨g,0,none⟩)
def boxC (R : Nat → Value → World → Prop) (wo : World) (zero : List Value) (kc ka ks : Nat) (us : List Value) (W : World) : Prop := Below wo.heap.size wo W ∧ match us with
 |[]=>True
 |[x]=>(∃v lo W0,x=tg (kc,v)∧Yl R wo lo v W0 W)∨(∃g,x=tg (ka,ptr g)∧wo.heap.size≤g∧Bx W g zero)
 |[x,y]=>∃v lo W0 g,((x=tg (kc,v)∧y=tg (ka,ptr g))∨(x=tg (ka,ptr g)∧y=tg (kc,v)))∧Yl R wo lo v W0 W∧wo.heap.size≤g∧Bx W g zero∧(g<lo∨W0.heap.size≤g)
 |[x,y,_]=>∃cs lo W0 g,(x=tg (ka,ptr g)∨y=tg (ka,ptr g))∧Yl R wo lo (.agg ⟨cs⟩) W0 W∧wo.heap.size≤g∧Bx W g cs∧(g<lo∨W0.heap.size≤g)
 |_=>False
section
variable {R : Nat → Value → World → Prop} {wo W W' : World} {zero : List Value} {kc ka ks : Nat}
theorem zI2 {i j:Nat} {v u:Value} (h:tg (i,v)=tg (j,u)):i=j∧v=u:=by
 simp only[tg,Value.tuple.injEq,Array.mk.injEq,List.cons.injEq,Value.int.injEq,and_true,true_and]at h;exact⟨by omega,h.2⟩
theorem boxC_start:boxC R wo zero kc ka ks [] wo.drew:=⟨(Below.refl _ _).drew,trivial⟩
theorem boxC_below {us:List Value} (h:boxC R wo zero kc ka ks us W):Below wo.heap.size wo W:=h.1
theorem boxC_call {v:Value} (h:boxC R wo zero kc ka ks [] W) (hb:Below W.heap.size W W') (hr:R W.heap.size v W'):boxC R wo zero kc ka ks [tg (kc,v)] W' :=
 ⟨h.1.trans (hb.mono h.1.size),.inl ⟨v,W.heap.size,W', rfl,hr,h.1.size,hb.size,Nat.le_refl _,fun _ _ _=>rfl⟩⟩
theorem boxC_box {T:TypeId} (h:boxC R wo zero kc ka ks [] W) (hz:0<zero.length):boxC R wo zero kc ka ks [tg (ka,ptr W.heap.size)] (W.alloc (.cells ⟨zero⟩ T)) :=
 ⟨h.1.trans (((Below.refl _ _).alloc (Nat.le_refl _) _).mono h.1.size),.inr ⟨W.heap.size,rfl,h.1.size,Bx.new W ⟨zero⟩ T hz⟩⟩
theorem boxC_box2 {T:TypeId} {v:Value} (hne:kc≠ka) (h:boxC R wo zero kc ka ks [tg (kc,v)] W) (hz:0<zero.length):boxC R wo zero kc ka ks [tg (kc,v),tg (ka,ptr W.heap.size)] (W.alloc (.cells ⟨zero⟩ T)):=by
 have ha:Below W.heap.size W (W.alloc (.cells ⟨zero⟩ T)):=(Below.refl _ _).alloc (Nat.le_refl _) _;obtain⟨hb,⟨v', lo,W0,e,hy⟩|⟨g,e,_⟩⟩:=h
 ·obtain⟨_,rfl⟩:=zI2 e;exact⟨hb.trans (ha.mono hb.size),v,lo,W0,W.heap.size,.inl ⟨rfl,rfl⟩,⟨hy.r,hy.lo0,hy.lo1,Nat.le_trans hy.sz ha.size,fun b h1 h2=>(ha.block b (Nat.lt_of_lt_of_le h2 hy.sz)).trans (hy.eq b h1 h2)⟩,hb.size,Bx.new W ⟨zero⟩ T hz,.inr hy.sz⟩
 ·exact absurd (zI2 e).1 hne
theorem boxC_call2 {p v:Value} (hne:kc≠ka) (h:boxC R wo zero kc ka ks [tg (ka,p)] W) (hb:Below W.heap.size W W') (hr:R W.heap.size v W'):boxC R wo zero kc ka ks [tg (ka,p),tg (kc,v)] W':=by
 obtain⟨hw,⟨v', lo,W0,e,hy⟩|⟨g,e,hg,hx⟩⟩:=h
 ·exact absurd (zI2 e).1.symm hne
 ·obtain⟨_,rfl⟩:=zI2 e;exact⟨hw.trans (hb.mono hw.size),v,W.heap.size,W', g,.inr ⟨rfl,rfl⟩,⟨hr,hw.size,hb.size,Nat.le_refl _,fun _ _ _=>rfl⟩,hg,hx.below hb hx.lt,.inl hx.lt⟩
theorem boxC_at {x y:Value} {v p:Value} (hne:kc≠ka) (hxy:(x=tg (kc,v)∧y=tg (ka,p))∨(x=tg (ka,p)∧y=tg (kc,v))) (h:boxC R wo zero kc ka ks [x,y] W):∃lo W0 g,p=ptr g∧Yl R wo lo v W0 W∧wo.heap.size≤g∧Bx W g zero∧(g<lo∨W0.heap.size≤g):=by
 obtain⟨hw,v', lo,W0,g,h1,hy,hg,hx,hs⟩:=h;rcases hxy with⟨rfl,rfl⟩|⟨rfl,rfl⟩
 ·rcases h1 with⟨e1,e2⟩|⟨e1,e2⟩
  ·obtain⟨_,rfl⟩:=zI2 e1;obtain⟨_,rfl⟩:=zI2 e2;exact⟨lo,W0,g,rfl,hy,hg,hx,hs⟩
  ·exact absurd (zI2 e1).1 hne
 ·rcases h1 with⟨e1,e2⟩|⟨e1,e2⟩
  ·exact absurd (zI2 e1).1.symm hne
  ·obtain⟨_,rfl⟩:=zI2 e1;obtain⟨_,rfl⟩:=zI2 e2;exact⟨lo,W0,g,rfl,hy,hg,hx,hs⟩
theorem boxC_store {x y z : Value} {cs : List Value} {lo g : Nat} {W0 : World} (hxy : x = tg (ka, ptr g) ∨ y = tg (ka, ptr g)) (hw : Below wo.heap.size wo W) (hy : Yl R wo lo (.agg ⟨cs⟩) W0 W) (hg : wo.heap.size ≤ g) (hs : g < lo ∨ W0.heap.size ≤ g) (hk : ∀ b, b ≠ g → W'.heap[b]? = W.heap[b]?) (hz : W'.heap.size = W.heap.size) (hb : Below wo.heap.size W W') (hx : Bx W' g cs) :
  boxC R wo zero kc ka ks [x,y,z] W' :=
 ⟨hw.trans hb,cs,lo,W0,g,hxy,⟨hy.r,hy.lo0,hy.lo1,by rw[hz];exact hy.sz,fun b h1 h2=>(hk b (by omega)).trans (hy.eq b h1 h2)⟩,hg,hx,hs⟩
theorem boxC_done {x y z p:Value} (hne:kc≠ka) (hxy:(∃v,x=tg (kc,v)∧y=tg (ka,p))∨(∃v,x=tg (ka,p)∧y=tg (kc,v))) (h:boxC R wo zero kc ka ks [x,y,z] W):Below wo.heap.size wo W∧∃cs lo W0 g,p=ptr g∧Yl R wo lo (.agg ⟨cs⟩) W0 W∧wo.heap.size≤g∧Bx W g cs∧(g<lo∨W0.heap.size≤g):=by
 obtain⟨hw,cs,lo,W0,g,h1,hy,hg,hx⟩:=h;refine⟨hw,cs,lo,W0,g,?_,hy,hg,hx⟩;rcases hxy with⟨v,rfl,rfl⟩|⟨v,rfl,rfl⟩
 ·rcases h1 with e|e
  ·exact absurd (zI2 e).1 hne
  ·exact(zI2 e).2
 ·rcases h1 with e|e
  ·exact(zI2 e).2
  ·exact absurd (zI2 e).1 hne
end
end Go.Proofs.YtgkdoehkmbhfiaaGreat
namespace Go.Proofs.YtgkdoehkmbhfiaaGreat
open Go.RowKit
def CyX2 (w:World) (gx gs:Nat) (X:Nat→Prop) (st:Cy):Prop:=∃(V:Nat→Value) (N:Nat→Nat) (C:Nat→List Value) (D:Nat→List TJV),Bx w gx [V 0,V 1,V 2,V 3,V 4]∧Raw w 0 V N C∧Cont st [] V N C D∧Free V gx∧Free V gs∧¬X gx∧(∀b,X b→Free V b)∧∀κ,κ<20→∀x∈D κ,IntsD w (fun b=>b<w.heap.size∧b≠gx∧b≠gs∧¬X b) x.2 x.1.rsp.data
theorem CyX2.toX {w:World} {gx gs:Nat} {X:Nat→Prop} {st:Cy} (h:CyX2 w gx gs X st):CyBoxX w gx X st:=by
 obtain⟨V,N,C,D,h1,h2,h3,h4,_,h5,h6,h7⟩:=h;exact⟨V,N,C,D,h1,h2,h3,h4,h5,h6,fun κ hκ x hx=>(h7 κ hκ x hx).weak fun b hb=>⟨hb.1,hb.2.1,hb.2.2.2⟩⟩
theorem CyX2.keep {w w':World} {gx gs:Nat} {X X':Nat→Prop} {st:Cy} (h:CyX2 w gx gs X st) (hk:KeptX X w w') (hX:∀b,X' b→X b∨w.heap.size≤b):CyX2 w' gx gs X' st:=by
 obtain⟨V,N,C,D,h1,h2,h3,h4,h8,h5,h6,h7⟩:=h;refine⟨V,N,C,D,h1.kept (hk.block _ h1.lt h5),h2.kept fun b hb hf=>hk.block b hb fun e=>hf (h6 b e),h3,h4,h8,fun e=>?_,fun b hb=>?_,fun κ hκ x hx=>?_⟩
 ·rcases hX gx e with h|h
  ·exact h5 h
  ·have:=h1.lt;omega
 ·rcases hX b hb with h|h
  ·exact h6 b h
  ·exact fun κ hκ e=>by have:=(h2.lt hκ e).2;omega
 ·refine((h7 κ hκ x hx).kept fun b hb=>hk.block b hb.1 hb.2.2.2).weak fun b hb=>⟨Nat.lt_of_lt_of_le hb.1 hk.size,hb.2.1,hb.2.2.1,fun e=>?_⟩
  rcases hX b e with h|h
  ·exact hb.2.2.2 h
  ·have:=hb.1;omega
def CycR (st:Cy) (lo:Nat) (v:Value) (W:World):Prop:=∃V N C D,v=.agg #[V 0,V 1,V 2,V 3,V 4]∧CyR W lo st V N C D
theorem CycR.five {st:Cy} {lo:Nat} {v:Value} {W:World} (h:CycR st lo v W):∃y0 y1 y2 y3 y4 m0 m1 m2 m3 m4 j0 j1 j2 j3 j4,v=.agg #[.slice y0 m0 j0,.slice y1 m1 j1,.slice y2 m2 j2,.slice y3 m3 j3,.slice y4 m4 j4]:=by
 obtain⟨V,N,C,D,rfl,hr⟩:=h;obtain⟨A,n,K,e0,e1,e2,e3,e4⟩:=hr.raw.sl;exact⟨_,_,_,_,_,_,_,_,_,_,_,_,_,_,_,by rw[e0,e1,e2,e3,e4]⟩
theorem cyc_store {st : Cy} {wo W W0 : World} {zero : List Value} {kc ka ks lo g : Nat} {x y z v0 v1 v2 v3 v4 y0 y1 y2 y3 y4 : Value} (hxy : x = tg (ka, ptr g) ∨ y = tg (ka, ptr g)) (hw : Below wo.heap.size wo W) (hy : Yl (CycR st) wo lo (.agg #[y0, y1, y2, y3, y4]) W0 W) (hg : wo.heap.size ≤ g) (hs : g < lo ∨ W0.heap.size ≤ g) (hx : Bx W g [v0, v1, v2, v3, v4]) :
  boxC (CycR st) wo zero kc ka ks [x,y,z] (((((W.setCell ⟨g,0,none⟩ y0).setCell ⟨g,1,none⟩ y1).setCell ⟨g,2,none⟩ y2).setCell ⟨g,3,none⟩ y3).setCell ⟨g,4,none⟩ y4) :=
 boxC_store hxy hw hy hg hs (fun b hne=>zJ9 b hne) (by simp) (((((((Below.refl _ _).setCell (p:=⟨g,_,none⟩) hg _).setCell (p:=⟨g,_,none⟩) hg _).setCell (p:=⟨g,_,none⟩) hg _).setCell (p:=⟨g,_,none⟩) hg _).setCell (p:=⟨g,_,none⟩) hg _)) (hx.put5 _ _ _ _ _)
theorem cyc_done {st:Cy} {wo W:World} {p:Value} {gs:Nat} {X:Nat→Prop} (hgs:gs<wo.heap.size) (hX:∀b,X b→b<wo.heap.size) (h:Below wo.heap.size wo W∧∃cs lo W0 g,p=ptr g∧Yl (CycR st) wo lo (.agg ⟨cs⟩) W0 W∧wo.heap.size≤g∧Bx W g cs∧(g<lo∨W0.heap.size≤g)):Below wo.heap.size wo W∧∃g,p=.pointer (some ⟨g,0,none⟩)∧wo.heap.size≤g∧CyX2 W g gs X st:=by
 obtain⟨hb,cs,lo,W0,g,rfl,hy,hg,hx,hs⟩:=h;obtain⟨V,N,C,D,e,hr⟩:=hy.r;simp only[Value.agg.injEq,Array.mk.injEq]at e;subst e;have hl:=hy.lo0;have hz:=hy.sz;have hr2:Raw W lo V N C:=⟨fun κ hκ=>(hr.raw.own κ hκ).kept fun k hk2=>hy.eq k (hr.raw.lt hκ hk2).1 (hr.raw.lt hκ hk2).2,hr.raw.ap⟩
 refine⟨hb,g,rfl,hg,V,N,C,D,hx,raw_zero hr2,hr.con,fun κ hκ e=>?_,fun κ hκ e=>?_,fun e=>?_,fun b hb2 κ hκ e=>?_,fun κ hκ x hx2=>?_⟩
 ·have h1:=hr.raw.lt hκ e;omega
 ·have h1:=hr.raw.lt hκ e;omega
 ·have:=hX g e;omega
 ·have h1:=hr.raw.lt hκ e;have:=hX b hb2;omega
 ·refine((hr.dat κ hκ x hx2).kept fun b hb2=>hy.eq b hb2.1 hb2.2.1).weak fun b hb2=>⟨by omega,by have:=hb2.1;have:=hb2.2.1;omega,by have:=hb2.1;omega,fun e=>by have:=hX b e;have:=hb2.1;omega⟩
theorem CyX2.move {w:World} {gx gs:Nat} {X:Nat→Prop} {st:Cy} (h:CyX2 w gx gs X st) {a b c d e a' b' c' d' e':Value} (hs:Bx w gs [a,b,c,d,e]) (hx:Bx w gx [a', b', c', d', e']) (hn:¬X gs):CyBoxX (((((w.setCell ⟨gs,0,none⟩ a').setCell ⟨gs,1,none⟩ b').setCell ⟨gs,2,none⟩ c').setCell ⟨gs,3,none⟩ d').setCell ⟨gs,4,none⟩ e') gs X st:=by
 obtain⟨V,N,C,D,h1,h2,h3,h4,h8,h5,h6,h7⟩:=h;have e0:a' = V 0:=Option.some.inj ((hx.c 0 (by simp)).symm.trans (h1.c 0 (by simp)));have e1:b' = V 1:=Option.some.inj ((hx.c 1 (by simp)).symm.trans (h1.c 1 (by simp)));have e2:c' = V 2:=Option.some.inj ((hx.c 2 (by simp)).symm.trans (h1.c 2 (by simp)));have e3:d' = V 3:=Option.some.inj ((hx.c 3 (by simp)).symm.trans (h1.c 3 (by simp)));have e4:e' = V 4:=Option.some.inj ((hx.c 4 (by simp)).symm.trans (h1.c 4 (by simp)));subst e0 e1 e2 e3 e4;exact⟨V,N,C,D,hs.put5 _ _ _ _ _,h2.kept fun b _ hb2=>zJ9 b fun e=>hb2 (e▸h8),h3,h8,hn,h6,fun κ hκ x hx2=>((h7 κ hκ x hx2).kept fun b hb2=>zJ9 b hb2.2.2.1).weak fun b hb2=>⟨by simp only[World.size_setCell];exact hb2.1,hb2.2.2.1,hb2.2.2.2⟩⟩
def isNew (st:Cy) (w:Nat) (o:Jb):Bool:=!(st.ports w).out.any fun p=>p.n==o.n
theorem letB_any (st x:Cy) (q s:Nat):letB st x q s=((x.ports q).out.any fun o=>isNew st q o&&o.left==s):=by
 unfold letB lineL;rw[List.any_filter];rfl
set_option maxRecDepth 8000 in
theorem crLet_any {c : Cfg} {st x : Cy} (hg : Good c st) (hgx : Good c x) {w : World} {B : Nat} {z0 z1 z2 z3 z4 y0 y1 y2 y3 y4 : Option Addr} {n0 n1 n2 n3 n4 k0 k1 k2 k3 k4 m0 m1 m2 m3 m4 j0 j1 j2 j3 j4 : Nat} {P P' : List PS} {Q Q' : List SS} (hv : CyV w B (.slice z0 n0 k0) (.slice z1 n1 k1) (.slice z2 n2 k2) (.slice z3 n3 k3) (.slice z4 n4 k4) st P Q) (hv' : CyV w B (.slice y0 m0 j0) (.slice y1 m1 j1) (.slice y2 m2 j2) (.slice y3 m3 j3) (.slice y4 m4 j4) x P' Q') (hB : B ≤ w.heap.size) {q s : Nat} (hq : q < 3) (hs : s < 4) :
    Calls Tryz.prog 14 #[.agg #[.slice z0 n0 k0,.slice z1 n1 k1,.slice z2 n2 k2,.slice z3 n3 k3,.slice z4 n4 k4],.agg #[.slice y0 m0 j0,.slice y1 m1 j1,.slice y2 m2 j2,.slice y3 m3 j3,.slice y4 m4 j4],.int .i64 q,.int .i64 s] w fun e w' => e=.returned (.bool (letB st x q s))∧Below w.heap.size w w':=by
  obtain⟨_,_,_,_,_,_,pg,pq,pc,_,_,_,-,-,e2,-,-,hpb,-,hpr,-⟩:=hv'.rows;simp only[Value.slice.injEq]at e2;obtain⟨rfl,rfl,rfl⟩:=e2;obtain⟨_,_,pa,pk,-,-,pr,-,-,pj⟩:=hpr q hq;obtain⟨_,_,_,_,_,_,sg,sq,sc,_,_,_,-,-,e3,-,-,hsb,-,hsr,-⟩:=hv.rows;simp only[Value.slice.injEq]at e3;obtain⟨rfl,rfl,rfl⟩:=e3;obtain⟨_,_,sa,sk,-,-,sr,-,-,sj⟩:=hsr q hq;obtain⟨on,hon⟩:∃n,n=(x.ports q).out.length:=⟨_,rfl⟩
  obtain⟨sn,hsn⟩:∃n,n=(st.ports q).out.length:=⟨_,rfl⟩
  have ho4:on≤4:=by rw[hon];exact(hgx.p q hq).o4
  have hsn4:sn≤4:=by rw[hsn];exact(hg.p q hq).o4
  rw[←hon]at pr pj;rw[←hsn]at sr sj;have HON:=hid hon;have HSN2:=hid hsn;have hq3:(q:Int)<3:=by omega
  obtain⟨w2,hw2⟩:∃W,W=(w.alloc (.cells #[.slice z0 n0 k0,.slice z1 n1 k1,.slice (some ⟨sg,sq,none⟩) 3 k2,.slice z3 n3 k3,.slice z4 n4 k4] 39)).alloc (.cells #[.slice y0 m0 j0,.slice y1 m1 j1,.slice (some ⟨pg,pq,none⟩) 3 j2,.slice y3 m3 j3,.slice y4 m4 j4] 39):=⟨_,rfl⟩
  obtain⟨gy,hgy⟩:∃g,g=w.heap.size+1:=⟨_,rfl⟩
  obtain⟨gz,hgz⟩:∃g,g=w.heap.size:=⟨_,rfl⟩
  have hb2:Below w.heap.size w w2:=by rw[hw2];exact((Below.refl _ _).alloc (Nat.le_refl _) _).alloc (by simp) _
  have XZ := hid (show Bx w2 gz [.slice z0 n0 k0, .slice z1 n1 k1, .slice (some ⟨sg, sq, none⟩) 3 k2, .slice z3 n3 k3, .slice z4 n4 k4] by
    have h:=Bx.new w #[.slice z0 n0 k0,.slice z1 n1 k1,.slice (some ⟨sg,sq,none⟩) 3 k2,.slice z3 n3 k3,.slice z4 n4 k4] 39 (by simp);rw[hw2,hgz];exact h.below ((Below.refl _ _).alloc (Nat.le_refl _) _) h.lt)
  have XY := hid (show Bx w2 gy [.slice y0 m0 j0, .slice y1 m1 j1, .slice (some ⟨pg, pq, none⟩) 3 j2, .slice y3 m3 j3, .slice y4 m4 j4] by
    have h:=Bx.new (w.alloc (.cells #[.slice z0 n0 k0,.slice z1 n1 k1,.slice (some ⟨sg,sq,none⟩) 3 k2,.slice z3 n3 k3,.slice z4 n4 k4] 39)) #[.slice y0 m0 j0,.slice y1 m1 j1,.slice (some ⟨pg,pq,none⟩) 3 j2,.slice y3 m3 j3,.slice y4 m4 j4] 39 (by simp);rw[hw2,hgy];simpa using h)
  have HB2:=hid hb2;have PR:=hid ((hb2.cell (p:=⟨pg,_,none⟩) (Nat.lt_of_lt_of_le hpb hB)).trans pr);have SR:=hid ((hb2.cell (p:=⟨sg,_,none⟩) (Nat.lt_of_lt_of_le hsb hB)).trans sr);have PJ:=hid (Jbs.mono ((Jbs.mono pj hB).below hb2) hb2.size);have SJ:=hid (Jbs.mono ((Jbs.mono sj hB).below hb2) hb2.size);have KV:=hid (show ∀W,Below w2.heap.size w2 W→∀{p:Addr} {v:Value},w2.cell? p=some v→W.cell? p=some v from fun W hW {_ _} h=>(hW.cell (World.block_lt_of_cell? w2 _ h)).trans h);have HW2:=hid hw2;have HGY:=hid hgy;have HGZ:=hid hgz;clear hw2 hgy hgz hb2 hpb hsb pr sr pj sj hpr hsr hv hv' hB hon hsn
  go_enter Tryz.func14,Tryz.ntmps14
  go_upto_region 1 with fail
  rw[←HW2.out,←HGY.out,←HGZ.out];clear HW2 HGY
  go_wp2_with fail
  go_loopw [9] (fun i wr=>∃k:Nat,i=.int .i64 k∧k≤on∧Below w2.heap.size w2 wr∧((x.ports q).out.take k).any (fun o=>isNew st q o&&o.left==s)=false) (fun i _=>on - (intOf i).toNat)
  case atStart=>exact⟨0,by go_num,Nat.zero_le _,Below.refl _ _,rfl⟩
  case round=>
    obtain⟨j,rfl,hj,hbr,hno⟩:=hrel;have HNO:=hid hno;have HBR:=hid hbr;obtain⟨yo,hyo⟩:∃W,W=wr:=⟨_,rfl⟩
    subst hyo;clear hbr hno;have p2:=KV.out _ HBR.out XY.out.five.1.2.2.1;have pr:=KV.out _ HBR.out PR.out;by_cases hlt4:j<on
    · have hji : (j : Int) < (on : Int) := by omega
      have hjl:j<(x.ports q).out.length:=by rw[←HON.out];exact hlt4
      obtain⟨ob,oo,ocap,he,-,-,-,hoc⟩:=Arr.at (f:=jbRow) PJ.out (by omega);simp only[Value.slice.injEq]at he;obtain⟨rfl,-,rfl⟩:=he;have o0:=KV.out _ HBR.out (hoc j default hjl 0 (by omega));have o1:=KV.out _ HBR.out (hoc j default hjl 1 (by omega));have o2:=KV.out _ HBR.out (hoc j default hjl 2 (by omega));obtain⟨o,ho⟩:∃o,o=(x.ports q).out.getD j default:=⟨_,rfl⟩
      rw[←ho]at o0 o1 o2
      have HTK := hid (show ((x.ports q).out.take (j + 1)).any (fun o => isNew st q o && o.left == s) = (isNew st q o && o.left == s) by
        rw[List.take_add_one,List.any_append,HNO.out];have:(x.ports q).out[j]?.toList=[o]:=by rw[ho];simp[List.getD,hjl]
        rw[this];simp)
      obtain⟨ow,how⟩:∃x,x=o.who:=⟨_,rfl⟩
      obtain⟨onn,honn⟩:∃x,x=o.n:=⟨_,rfl⟩
      obtain⟨ol,hol⟩:∃x,x=o.left:=⟨_,rfl⟩
      simp only[jbRow,List.getElem?_cons_zero,List.getElem?_cons_succ,Nat.add_zero]at o0 o1 o2;rw[←how]at o0;rw[←honn]at o1;rw[←hol]at o2;have HONN:=hid honn;have HOL:=hid hol;have HOM:=hid (show o∈(x.ports q).out from by rw[ho];exact zC2 hjl);clear hoc ho how honn hol
      go_upto_region 5 with fail
      obtain⟨zq,hzq⟩:∃W,W=yo.alloc (.cells #[.int .i64 ow,.int .i64 onn,.int .i64 ol] 101):=⟨_,rfl⟩
      obtain⟨gO,hgO⟩:∃g,g=yo.heap.size:=⟨_,rfl⟩
      have hbz:Below yo.heap.size yo zq:=by rw[hzq];exact(Below.refl _ _).alloc (Nat.le_refl _) _
      have XO:=hid (show Bx zq gO [.int .i64 ow,.int .i64 onn,.int .i64 ol] by rw[hzq,hgO];exact Bx.new yo #[.int .i64 ow,.int .i64 onn,.int .i64 ol] 101 (by simp));rw[←hzq,←hgO];have HBQ:=hid (HBR.out.trans (hbz.mono HBR.out.size));have KO:=hid (show ∀W,Below zq.heap.size zq W→∀{p:Addr} {v:Value},zq.cell? p=some v→W.cell? p=some v from fun W hW {_ _} h=>(hW.cell (World.block_lt_of_cell? zq _ h)).trans h);clear hzq hgO hbz p2 pr o0 o1 o2
      go_wp2_with fail
      go_loopw [11,12] (fun u i wr=>∃t:Nat,i=.int .i64 t∧t≤sn∧u=.bool (((st.ports q).out.take t).any fun p=>p.n==onn)∧Below zq.heap.size zq wr) (fun _ i _=>sn - (intOf i).toNat)
      case atStart=>exact⟨0,by go_num,Nat.zero_le _,by simp,Below.refl _ _⟩
      case round=>
        obtain⟨t,rfl,ht,rfl,hbt⟩:=hrel;have HBT:=hid hbt;obtain⟨zo,hzo⟩:∃W,W=wr:=⟨_,rfl⟩
        subst hzo;clear hbt;have s2:=KO.out _ HBT.out (KV.out _ HBQ.out XZ.out.five.1.2.2.1);have sr:=KO.out _ HBT.out (KV.out _ HBQ.out SR.out);obtain⟨-,o1,o2⟩:=XO.out.three.1;replace o1:=KO.out _ HBT.out o1;replace o2:=KO.out _ HBT.out o2;by_cases hlt5:t<sn
        · have hti : (t : Int) < (sn : Int) := by omega
          have htl:t<(st.ports q).out.length:=by rw[←HSN2.out];exact hlt5
          obtain⟨pb9,po9,pcap,he,-,-,-,hpc9⟩:=Arr.at (f:=jbRow) SJ.out (by omega);simp only[Value.slice.injEq]at he;obtain⟨he1,-,he3⟩:=he;subst he1 he3;have p1:=hpc9 t default htl 1 (by omega);obtain⟨pn,hpn⟩:∃x,x=((st.ports q).out.getD t default).n:=⟨_,rfl⟩
          simp only[jbRow,List.getElem?_cons_zero,List.getElem?_cons_succ]at p1;rw[←hpn]at p1;have p1:=KO.out _ HBT.out (KV.out _ HBQ.out p1)
          have HNX := hid (show ((st.ports q).out.take (t + 1)).any (fun p => p.n == onn) = ((((st.ports q).out.take t).any fun p => p.n == onn) || pn == onn) from by
            rw[List.take_add_one,List.any_append,hpn];have:(st.ports q).out[t]?.toList=[(st.ports q).out.getD t default]:=by simp[List.getD,htl]
            rw[this];simp)
          obtain⟨ub,hub⟩:∃b,b=((st.ports q).out.take t).any fun p=>p.n==onn:=⟨_,rfl⟩
          rw[←hub]at HNX ⊢;clear hub hpn hpc9
          go_upto_region 9 with fail
          rcases ub with _|_
          · by_cases hpe : pn = onn
            · subst hpe
              have hpe2:((pn:Int)==(pn:Int))=true:=by simp
              obtain⟨CC,hCC⟩:∃CC:List Value→World→Prop,CC=fun us W=>Below zo.heap.size zo W:=⟨_,rfl⟩
              have hC0:CC [] zo.drew:=by rw[hCC];exact(Below.refl _ _).drew
              have hTC:∀us W,CC us W→Below zo.heap.size zo W:=by rw[hCC];exact fun us W h=>h
              have HTC:=hid hTC;have HCL:=hid (show ∀us W W', CC us W→Below W.heap.size W W' → CC us W' by rw[hCC];exact fun us W W' h h2=>h.trans (h2.mono h.size));have hne:Nonempty (Ph CC):=⟨⟨([],zo.drew),hC0⟩⟩
              have pc:∀{p:Addr} {v:Value},zo.cell? p=some v→∀x:Ph CC,x.1.2.cell? p=some v:=fun hc x=>((hTC _ _ x.2).cell (World.block_lt_of_cell? zo _ hc)).trans hc
              replace s2:=pc s2;replace sr:=pc sr;replace p1:=pc p1;replace o1:=pc o1;clear hCC hTC pc;refine zA6 CC [] [] (by kernel_rfl) (by kernel_rfl) hC0 ?_
              try simp only[List.append_eq,List.cons_append,List.nil_append]
              repeat (
                (with_reducible refine wq1_q ⟨rfl,rfl⟩ (fun K hK=>?_))
                go_simp
                first
                  |((with_reducible refine hK _ ?_);clear hK K)
                  |((with_reducible refine zA7 (by simp[undef]) (hK _ ?_));clear hK K)
                  | (apply Exists.intro
                     (with_reducible refine⟨fun _=>?_,hK _ ?_⟩)
                     (fail)
                     clear hK K))
              refine zC7 ?_;refine zD0 ?_;intro wz hwz;have HBZ:=hid (HTC.out _ _ hwz);clear hwz hC0 HTC HCL hne s2 sr p1 o1
              go_wp2_with fail
              go_roundw
              case rel=>exact⟨t+1,by go_num,by omega,by rw[HNX.out];simp,HBT.out.trans (HBZ.out.mono HBT.out.size)⟩
              case measure=>simp[intOf];omega
            · have hpe2 : ((pn : Int) == (onn : Int)) = false := by simp; omega
              have HPE:=hid hpe;clear hpe;obtain⟨CC,hCC⟩:∃CC:List Value→World→Prop,CC=fun us W=>Below zo.heap.size zo W:=⟨_,rfl⟩
              have hC0:CC [] zo.drew:=by rw[hCC];exact(Below.refl _ _).drew
              have hTC:∀us W,CC us W→Below zo.heap.size zo W:=by rw[hCC];exact fun us W h=>h
              have HTC:=hid hTC;have HCL:=hid (show ∀us W W', CC us W→Below W.heap.size W W' → CC us W' by rw[hCC];exact fun us W W' h h2=>h.trans (h2.mono h.size));have hne:Nonempty (Ph CC):=⟨⟨([],zo.drew),hC0⟩⟩
              have pc:∀{p:Addr} {v:Value},zo.cell? p=some v→∀x:Ph CC,x.1.2.cell? p=some v:=fun hc x=>((hTC _ _ x.2).cell (World.block_lt_of_cell? zo _ hc)).trans hc
              replace s2:=pc s2;replace sr:=pc sr;replace p1:=pc p1;replace o1:=pc o1;clear hCC hTC pc;refine zA6 CC [] [] (by kernel_rfl) (by kernel_rfl) hC0 ?_
              try simp only[List.append_eq,List.cons_append,List.nil_append]
              repeat (
                (with_reducible refine wq1_q ⟨rfl,rfl⟩ (fun K hK=>?_))
                go_simp
                first
                  |((with_reducible refine hK _ ?_);clear hK K)
                  |((with_reducible refine zA7 (by simp[undef]) (hK _ ?_));clear hK K)
                  | (apply Exists.intro
                     (with_reducible refine⟨fun _=>?_,hK _ ?_⟩)
                     (fail)
                     clear hK K))
              refine zC7 ?_;refine zD0 ?_;intro wz hwz;have HBZ:=hid (HTC.out _ _ hwz);clear hwz hC0 HTC HCL hne s2 sr p1 o1
              go_wp2_with fail
              go_roundw
              case rel=>exact⟨t+1,by go_num,by omega,by rw[HNX.out,show(pn==onn)=false from by simpa using HPE.out];rfl,HBT.out.trans (HBZ.out.mono HBT.out.size)⟩
              case measure=>simp[intOf];omega
          · skip
            obtain⟨CC,hCC⟩:∃CC:List Value→World→Prop,CC=fun us W=>Below zo.heap.size zo W:=⟨_,rfl⟩
            have hC0:CC [] zo.drew:=by rw[hCC];exact(Below.refl _ _).drew
            have hTC:∀us W,CC us W→Below zo.heap.size zo W:=by rw[hCC];exact fun us W h=>h
            have HTC:=hid hTC;have HCL:=hid (show ∀us W W', CC us W→Below W.heap.size W W' → CC us W' by rw[hCC];exact fun us W W' h h2=>h.trans (h2.mono h.size));have hne:Nonempty (Ph CC):=⟨⟨([],zo.drew),hC0⟩⟩
            have pc:∀{p:Addr} {v:Value},zo.cell? p=some v→∀x:Ph CC,x.1.2.cell? p=some v:=fun hc x=>((hTC _ _ x.2).cell (World.block_lt_of_cell? zo _ hc)).trans hc
            replace s2:=pc s2;replace sr:=pc sr;replace p1:=pc p1;replace o1:=pc o1;clear hCC hTC pc;refine zA6 CC [] [] (by kernel_rfl) (by kernel_rfl) hC0 ?_
            try simp only[List.append_eq,List.cons_append,List.nil_append]
            repeat (
              (with_reducible refine wq1_q ⟨rfl,rfl⟩ (fun K hK=>?_))
              go_simp
              first
                |((with_reducible refine hK _ ?_);clear hK K)
                |((with_reducible refine zA7 (by simp[undef]) (hK _ ?_));clear hK K)
                | (apply Exists.intro
                   (with_reducible refine⟨fun _=>?_,hK _ ?_⟩)
                   (fail)
                   clear hK K))
            refine zC7 ?_;refine zD0 ?_;intro wz hwz;have HBZ:=hid (HTC.out _ _ hwz);clear hwz hC0 HTC HCL hne s2 sr p1 o1
            go_wp2_with fail
            go_roundw
            case rel=>exact⟨t+1,by go_num,by omega,by rw[HNX.out];simp,HBT.out.trans (HBZ.out.mono HBT.out.size)⟩
            case measure=>simp[intOf];omega
        · obtain rfl : t = sn := by omega
          have htt:decide ((t:Int)<(t:Int))=false:=by simp
          rw[show(st.ports q).out.take t=(st.ports q).out from List.take_of_length_le (by rw[HSN2.out];exact Nat.le_refl _)];have HNW:=hid (show isNew st q o=!((st.ports q).out.any fun p=>p.n==onn) from by rw[HONN.out];rfl);obtain⟨ub,hub⟩:∃b,b=(st.ports q).out.any fun p=>p.n==onn:=⟨_,rfl⟩
          rw[←hub]at HNW ⊢;have HBL:=hid (HBQ.out.trans (HBT.out.mono HBQ.out.size));clear hub;rcases ub with _|_
          · by_cases hos : ol = s
            · subst hos
              have hoe:((ol:Int)==(ol:Int))=true:=by simp
              have HYES := hid (show letB st x q ol = true from by
                rw[letB_any,List.any_eq_true];exact⟨o,HOM.out,by rw[HNW.out,HOL.out];simp⟩)
              go_wp2_with fail
              go_ret
              exact⟨by rw[HYES.out];rfl,HB2.out.trans ((HBL.out).mono HB2.out.size)⟩
            · have hoe : ((ol : Int) == (s : Int)) = false := by simp; omega
              have HOS:=hid (show(o.left==s)=false from by rw[←HOL.out];simpa using hos);clear hos
              go_wp2_with fail
              go_roundw
              case rel=>exact⟨j+1,by go_num,by omega,HBL.out,by rw[HTK.out,HOS.out];simp⟩
              case measure=>simp[intOf];omega
          · go_wp2_with fail
            go_roundw
            case rel=>exact⟨j+1,by go_num,by omega,HBL.out,by rw[HTK.out,HNW.out];simp⟩
            case measure=>simp[intOf];omega
    · obtain rfl : j = on := by omega
      have hjj:decide ((j:Int)<(j:Int))=false:=by simp
      have HNO2 := hid (show letB st x q s = false from by
        rw[letB_any];have h:=HNO.out
        rwa [List.take_of_length_le (by rw[HON.out];exact Nat.le_refl _)]at h)
      go_wp2_with fail
      go_ret
      exact⟨by rw[HNO2.out];rfl,HB2.out.trans (HBR.out.mono HB2.out.size)⟩
end Go.Proofs.YtgkdoehkmbhfiaaGreat
