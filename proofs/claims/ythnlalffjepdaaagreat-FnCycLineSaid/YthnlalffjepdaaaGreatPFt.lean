/- What comes from outside in a cycle, drawn: l20In of the reference. -/
import Derived.Test.YthnlalffjepdaaaGreatPFl
import Derived.Test.YthnlalffjepdaaaGreatPInv
import Derived.Test.YthnlalffjepdaaaGreatPLc0
import Derived.Test.YthnlalffjepdaaaGreatPE1
import Derived.Test.YthnlalffjepdaaaGreatPCs
import Derived.Test.YthnlalffjepdaaaGreatPMs
import Derived.Test.YthnlalffjepdaaaGreatPDat
import Derived.Test.YthnlalffjepdaaaGreatPTg
set_option linter.unusedVariables false
set_option linter.unusedSimpArgs false
set_option maxHeartbeats 16000000
namespace Go.Proofs.YthnlalffjepdaaaGreat
open Go.RowKit
inductive FT
 |stop
 |alt (i:Nat) (fx:Bool) (sub more:FT)
def FT.isStop : FT → Bool
 | .stop=>true
 | .alt ..=>false
def FT.has : FT → Nat → Bool → Bool
 | .stop,_,_=>false
 | .alt i fx _ more,j,fy=>(i==j&&fx==fy) || more.has j fy
def tg (x:Nat×Value):Value:=.tuple #[.int .i64 x.1,x.2]
section
variable {P : Program} {ops : Array Oper} {C : List Value → World → Prop} {fl : List (Nat × Bool)} {bd : List (Nat × Nat)}
def wq2t (P : Program) (ops : Array Oper) (C : List Value → World → Prop) (K : List Value → Act → Prop) : FT → List (Nat × Value) → Act → Prop
 | .stop,ds,a=>K (ds.map tg) a
 | .alt i fx sub more, ds, a => (∃ o, ops[i]? = some o ∧ Region.wanted o (yielded ops a.tmps) = true ∧
   (∀W,C (ds.map tg) W→∀K':Act→World→Prop,(∀v a' W', C (ds.map tg++[tg (i,v)]) W' → a' = a.put o.dst v→(fx=true→a' = a)→K' a' W')→o.wp P a W K' (fun _ _ _=>False)) ∧
   ∀v,wq2t P ops C K sub (ds++[(i,v)]) (if fx then a else a.put o.dst v))∧(more.isStop=false→wq2t P ops C K more ds a)
theorem wqt_nil {K:List Value→Act→Prop} {ds:List (Nat×Value)} {a:Act} (h:K (ds.map tg) a):wq2t P ops C K .stop ds a:=h
theorem wqt_v {K : List Value → Act → Prop} {ds : List (Nat × Value)} {a : Act} {i : Nat} {sub more : FT} (o : Oper) (ho : ops[i]? = some o) (hw : Region.wanted o (yielded ops a.tmps) = true)
  (hf:∀W,C (ds.map tg) W→∀K':Act→World→Prop,(∀v a' W', C (ds.map tg++[tg (i,v)]) W' → a' = a.put o.dst v→K' a' W')→o.wp P a W K' (fun _ _ _=>False))
  (h:∀v (K':Act→Prop),(∀a', wq2t P ops C K sub (ds++[(i,v)]) a' → K' a')→K' (a.put o.dst v)) (hm:more.isStop=false→wq2t P ops C K more ds a):wq2t P ops C K (.alt i false sub more) ds a :=
 ⟨⟨o,ho,hw,fun W hW K' hK=>hf W hW K' fun v a' W' hC e=>hK v a' W' hC e (fun h=>by cases h),fun v=>by rw[if_neg (by simp)];exact h v _ fun _ h=>h⟩,hm⟩
def nodeB (ops:Array Oper) (fl:List (Nat×Bool)) (bd:List (Nat×Nat)) (t:FT) (ds:List Nat):Bool :=
 (bd.all fun x=>decide (ds.length≤x.2) || ds.any fun j=>match ops[j]? with|some o=>edgeB o x.1|none=>false) &&
 fl.all fun x=>ds.contains x.1 || t.has x.1 x.2 || fl.any fun y=>!ds.contains y.1&&match ops[x.1]? with|some o=>edgeB o y.1|none=>false
def subsB (ops : Array Oper) (fl : List (Nat × Bool)) (bd : List (Nat × Nat)) : FT → List Nat → Bool
 | .stop,_=>true
 | .alt i fx sub more,ds=>fl.contains (i,fx)&&!ds.contains i&&nodeB ops fl bd sub (ds++[i])&&subsB ops fl bd sub (ds++[i])&&subsB ops fl bd more ds
def treeB (ops:Array Oper) (fl:List (Nat×Bool)) (bd:List (Nat×Nat)) (T:FT) (n:Nat):Bool :=
 (backB .any ops && Region.noSelect ops &&
 ((List.range ops.size).all fun i => (List.range ops.size).all fun j => match ops[i]?, ops[j]? with
  | some o, some oj => (match oj.dst with
    | some d => decide (d < n) && (decide (i = j) || decide (o.dst ≠ some d)) &&
      (!(o.looksAt ops).contains d || (edgeB o j&&!(zA9 fl i==none&&zA9 fl j==some false)) || (edgeB oj i&&zA9 fl i==none))
    |none=>true)
  |_,_=>true))&&(fl.all fun x=>decide (x.1<ops.size)&&(zA9 fl x.1==some x.2))&&nodeB ops fl bd T []&&subsB ops fl bd T []
structure TreeOk (ops:Array Oper) (fl:List (Nat×Bool)) (n:Nat):Prop where
 back:backB .any ops=true
 sel:Region.noSelect ops=true
 inn:∀(j:Nat) oj d,ops[j]? = some oj→oj.dst=some d→d<n
 dis:∀(i j:Nat) oi oj d,ops[i]? = some oi→ops[j]? = some oj→oi.dst=some d→oj.dst=some d→i=j
 rd : ∀ (i j : Nat) o oj d, ops[i]? = some o → ops[j]? = some oj → oj.dst = some d → d ∈ o.looksAt ops →
  (edgeB o j=true∧(zA9 fl i=none→zA9 fl j≠some false))∨(edgeB oj i=true∧zA9 fl i=none)
 fk:∀(i:Nat) fx,(i,fx)∈fl→zA9 fl i=some fx∧i<ops.size
theorem treeOk_of {n:Nat} {T:FT} (h:treeB ops fl bd T n=true):TreeOk ops fl n∧nodeB ops fl bd T []=true∧subsB ops fl bd T []=true:=by
 unfold treeB at h;simp only[Bool.and_eq_true]at h;obtain⟨⟨⟨h0,h4⟩,h5⟩,h6⟩:=h;refine⟨?_,h5,h6⟩;simp only[List.all_eq_true,List.mem_range]at h0;obtain⟨⟨h1,h2⟩,h3⟩:=h0;have key:∀(i j:Nat) o oj d,ops[i]? = some o→ops[j]? = some oj→oj.dst=some d→d<n∧(i=j∨o.dst≠some d)∧(d ∉ o.looksAt ops∨(edgeB o j=true∧(zA9 fl i=none→zA9 fl j≠some false))∨(edgeB oj i=true∧zA9 fl i=none)):=by
  intro i j o oj d hi hj hd;have h:=h3 i (Array.getElem?_eq_some_iff.1 hi).1 j (Array.getElem?_eq_some_iff.1 hj).1;simp only[hi,hj,hd,Bool.and_eq_true,Bool.or_eq_true,decide_eq_true_eq,Bool.not_eq_true', beq_iff_eq,List.contains_eq_mem,decide_eq_false_iff_not,Bool.and_eq_false_imp]at h;refine⟨h.1.1,h.1.2,?_⟩;rcases h.2 with(h5|h5)|h5
  ·exact .inl h5
  ·exact .inr (.inl ⟨h5.1,fun hn hf=>by have:=h5.2 hn;simp[hf]at this⟩)
  ·exact .inr (.inr h5)
 refine⟨h1,h2,fun j oj d hj hd=>(key j j oj oj d hj hj hd).1,fun i j oi oj d hi hj hdi hdj=>?_,fun i j o oj d hi hj hd hm=>?_,fun i fx hp=>?_⟩
 ·rcases(key i j oi oj d hi hj hdj).2.1 with e|e
  ·exact e
  ·exact absurd hdi e
 ·rcases(key i j o oj d hi hj hd).2.2 with h5|h5
  ·exact absurd hm h5
  ·exact h5
 ·have h:=List.all_eq_true.1 h4 _ hp;simp only[Bool.and_eq_true,decide_eq_true_eq,beq_iff_eq]at h;exact⟨h.2,h.1⟩
theorem frV_at' {V : Nat → Value} {a : Act} (H : TreeOk ops fl a.tmps.size) {j : Nat} {oj : Oper} {d : Nat} (hj : ops[j]? = some oj) (hd : oj.dst = some d) (hk : zA9 fl j ≠ some false) : ∀ k, j < k → sl' (frV ops fl V a k) d = V j
 |k+1,h=>by
  unfold frV;by_cases e:k=j
  ·subst e;simp only[hj,if_neg hk,hd];rw[zH8,if_pos ⟨rfl,by rw[zL5];exact H.inn _ _ _ hj hd⟩]
  ·have ih:=frV_at' (V:=V) H hj hd hk k (by omega)
   split
   ·rename_i o ho
    split
    ·exact ih
    ·rw[zD1 (fun e2=>e (H.dis k j o oj d ho hj e2 hd))];exact ih
   ·exact ih
def valT (fl:List (Nat×Bool)) (V:Nat→Value) (ds:List (Nat×Value)) (j:Nat):Value:=if zA9 fl j=some false then((ds.find? fun x=>x.1==j).map (·.2)).getD undef else V j
theorem kind_mem {i:Nat} {fx:Bool} (h:zA9 fl i=some fx):(i,fx)∈fl:=by
 obtain⟨p,hp⟩:=kind_some h;exact List.mem_of_getElem? hp
theorem wqt_has {K : List Value → Act → Prop} {ds : List (Nat × Value)} {b : Act} {i : Nat} {fx : Bool} : ∀ {t : FT}, t.has i fx = true → wq2t P ops C K t ds b → subsB ops fl bd t (ds.map (·.1)) = true →
  ∃ sub, (∃ o, ops[i]? = some o ∧ Region.wanted o (yielded ops b.tmps) = true ∧
   (∀W,C (ds.map tg) W→∀K':Act→World→Prop,(∀v a' W', C (ds.map tg++[tg (i,v)]) W' → a' = b.put o.dst v→(fx=true→a' = b)→K' a' W')→o.wp P b W K' (fun _ _ _=>False)) ∧
   ∀v,wq2t P ops C K sub (ds++[(i,v)]) (if fx then b else b.put o.dst v))∧nodeB ops fl bd sub (ds.map (·.1)++[i])=true∧subsB ops fl bd sub (ds.map (·.1)++[i])=true
 | .stop,h,_,_=>by cases h
 | .alt j fy sub more,h,hw,hs=>by
  unfold subsB at hs;simp only[Bool.and_eq_true]at hs;unfold FT.has at h;rw[Bool.or_eq_true,Bool.and_eq_true]at h;rcases h with⟨h1,h2⟩|h
  ·simp only[beq_iff_eq]at h1 h2;subst h1 h2;exact⟨sub,hw.1,hs.1.1.2,hs.1.2⟩
  ·have hm:more.isStop=false:=by cases more with|stop=>cases h|alt=>rfl
   exact wqt_has h (hw.2 hm) hs.2
structure FtI (P:Program) (ops:Array Oper) (C:List Value→World→Prop) (fl:List (Nat×Bool)) (bd:List (Nat×Nat)) (K:List Value→Act→Prop) (V:Nat→Value) (a0:Act) (listed:Array Bool) (a:Act) (W:World) (ds:List (Nat×Value)) (T:FT) (b:Act):Prop where
 cw:C (ds.map tg) W
 cnt:∀(i:Nat) fx,(i,fx)∈fl→(listed.getD i false=true↔i∈ds.map (·.1))
 tn:nodeB ops fl bd T (ds.map (·.1))=true
 ts:subsB ops fl bd T (ds.map (·.1))=true
 dm:∀x∈ds,∃fx,(x.1,fx)∈fl
 da:a.defers=a0.defers
 za:a.tmps.size=a0.tmps.size
 on:∀(j:Nat) o d,ops[j]? = some o→o.dst=some d→listed.getD j false=true→sl' a d=valT fl V ds j
 off:∀d,(∀(j:Nat) o,ops[j]? = some o→listed.getD j false=true→o.dst≠some d)→sl' a d=sl' a0 d
 w2:wq2t P ops C K T ds b
 db:b.defers=a0.defers
 zb:b.tmps.size=a0.tmps.size
 bon:∀(j:Nat) o d,ops[j]? = some o→o.dst=some d→(zA9 fl j≠some false∨listed.getD j false=true)→sl' b d=valT fl V ds j
 boff:∀d,(∀(j:Nat) o,ops[j]? = some o→o.dst≠some d)→sl' b d=sl' a0 d
theorem FtI.quiet {K : List Value → Act → Prop} {V : Nat → Value} {a0 : Act} {listed : Array Bool} {a b : Act} {W W' : World} {ds : List (Nat × Value)} {T : FT} (H : TreeOk ops fl a0.tmps.size) (h : FtI P ops C fl bd K V a0 listed a W ds T b) {i : Nat} {o : Oper} (ho : ops[i]? = some o) (hi : i < listed.size) (hk : zA9 fl i = none) (hW : C (ds.map tg) W') :
  FtI P ops C fl bd K V a0 (listed.setIfInBounds i true) (a.put o.dst (V i)) W' ds T b:=by
 have hset:∀j,j≠i→(listed.setIfInBounds i true).getD j false=listed.getD j false:=fun j hj=>sgy (Ne.symm hj)
 refine⟨hW,fun j fx hp=>?_,h.tn,h.ts,h.dm,by rw[defers_put'];exact h.da,by rw[size_put];exact h.za,fun j oj d hj hd hl=>?_,fun d hd=>?_,h.w2,h.db,h.zb,fun j oj d hj hd hl=>?_,h.boff⟩
 ·have hne:j≠i:=fun e=>by have:=(H.fk _ _ hp).1;rw[e,hk]at this;cases this
  rw[hset j hne];exact h.cnt j fx hp
 ·by_cases e:j=i
  ·subst e;rw[ho]at hj;obtain rfl:=Option.some.inj hj;rw[hd,zH8,if_pos ⟨rfl,by rw[h.za];exact H.inn _ _ _ ho hd⟩];unfold valT;rw[hk];simp
  ·rw[hset j e]at hl;rw[zD1 (fun e2=>e (H.dis j i oj o d hj ho hd e2))];exact h.on j oj d hj hd hl
 ·have hdi:o.dst≠some d:=hd i o ho (zC0 hi);rw[zD1 hdi];refine h.off d fun j oj hj hl=>hd j oj hj ?_
  by_cases e:j=i
  ·subst e;exact zC0 hi
  ·rw[hset j e];exact hl
 ·refine h.bon j oj d hj hd ?_;by_cases e:j=i
  ·subst e;exact .inl (by rw[hk];simp)
  ·rw[hset j e]at hl;exact hl
theorem FtI.flip {K : List Value → Act → Prop} {V : Nat → Value} {a0 : Act} {listed : Array Bool} {a b : Act} {W W' : World} {ds : List (Nat × Value)} {T T' : FT} (H : TreeOk ops fl a0.tmps.size) (h : FtI P ops C fl bd K V a0 listed a W ds T b) {i : Nat} {fx : Bool} {o : Oper} (ho : ops[i]? = some o) (hi : i < listed.size) (hp : (i, fx) ∈ fl) (hn : i ∉ ds.map (·.1)) {v : Value} (hW : C (ds.map tg ++ [tg (i, v)]) W') (hfx : fx = true → b.put o.dst v = b)
  (hw:wq2t P ops C K T' (ds++[(i,v)]) (if fx then b else b.put o.dst v)) (h8:nodeB ops fl bd T' (ds.map (·.1)++[i])=true) (h9:subsB ops fl bd T' (ds.map (·.1)++[i])=true) :
  FtI P ops C fl bd K V a0 (listed.setIfInBounds i true) (a.put o.dst v) W' (ds++[(i,v)]) T' (if fx then b else b.put o.dst v):=by
 have hset:∀j,j≠i→(listed.setIfInBounds i true).getD j false=listed.getD j false:=fun j hj=>sgy (Ne.symm hj)
 have hk:=(H.fk _ _ hp).1;have vk:∀(j:Nat),j≠i→valT fl V (ds++[(i,v)]) j=valT fl V ds j:=fun j hj=>by
  unfold valT
  split
  ·rw[List.find?_append];have:([(i,v)]:List (Nat×Value)).find? (fun x=>x.1==j)=none:=by simp;omega
   rw[this,Option.or_none]
  ·rfl
 have vi:∀d,o.dst=some d→valT fl V (ds++[(i,v)]) i=v:=fun d hd=>by
  unfold valT;cases fx with
  |false=>
   rw[if_pos hk,List.find?_append];have h1:ds.find? (fun x=>x.1==i)=none:=by
    rw[List.find?_eq_none];intro x hx e;simp only[beq_iff_eq]at e;exact hn (by rw[←e];exact List.mem_map_of_mem hx)
   rw[h1];simp
  |true=>
   rw[if_neg (by rw[hk];simp)];have e:=hfx rfl;have h1:=h.bon i o d ho hd (.inl (by rw[hk];simp));rw[←e,hd,zH8,if_pos ⟨rfl,by rw[h.zb];exact H.inn _ _ _ ho hd⟩]at h1;unfold valT at h1;rw[if_neg (by rw[hk];simp)]at h1;exact h1.symm
 have bsl:∀d,o.dst≠some d→sl' (if fx then b else b.put o.dst v) d=sl' b d:=fun d hd=>by
  cases fx
  ·exact zD1 hd
  ·rfl
 have hms:(ds++[(i,v)]).map (·.1)=ds.map (·.1)++[i]:=by simp
 refine⟨by rw[List.map_append];exact hW,fun j fy hq=>?_,by rw[hms];exact h8,by rw[hms];exact h9,fun x hx=>?_,by rw[defers_put'];exact h.da,by rw[size_put];exact h.za,fun j oj d hj hd hl=>?_,fun d hd=>?_,hw,?_,?_,fun j oj d hj hd hl=>?_,fun d hd=>?_⟩
 ·rw[hms,List.mem_append,List.mem_singleton];by_cases e:j=i
  ·subst e;exact⟨fun _=>.inr rfl,fun _=>zC0 hi⟩
  ·rw[hset j e,h.cnt j fy hq];exact⟨.inl,fun h=>h.resolve_right e⟩
 ·rcases List.mem_append.1 hx with hx|hx
  ·exact h.dm x hx
  ·rw[List.mem_singleton.1 hx];exact⟨fx,hp⟩
 ·by_cases e:j=i
  ·subst e;rw[ho]at hj;obtain rfl:=Option.some.inj hj;rw[vi d hd,hd,zH8,if_pos ⟨rfl,by rw[h.za];exact H.inn _ _ _ ho hd⟩]
  ·rw[hset j e]at hl;rw[vk j e,zD1 (fun e2=>e (H.dis j i oj o d hj ho hd e2))];exact h.on j oj d hj hd hl
 ·have hdi:o.dst≠some d:=hd i o ho (zC0 hi);rw[zD1 hdi];refine h.off d fun j oj hj hl=>hd j oj hj ?_
  by_cases e:j=i
  ·subst e;exact zC0 hi
  ·rw[hset j e];exact hl
 ·cases fx
  ·exact defers_put'.trans h.db
  ·exact h.db
 ·cases fx
  ·exact size_put.trans h.zb
  ·exact h.zb
 ·by_cases e:j=i
  ·subst e;rw[ho]at hj;obtain rfl:=Option.some.inj hj;rw[vi d hd];cases fx with
   |false=>rw[if_neg (by simp),hd,zH8,if_pos ⟨rfl,by rw[h.zb];exact H.inn _ _ _ ho hd⟩]
   |true=>
    rw[if_pos rfl,←hfx rfl,hd,zH8,if_pos ⟨rfl,by rw[h.zb];exact H.inn _ _ _ ho hd⟩]
  ·have hl2:zA9 fl j≠some false∨listed.getD j false=true:=hl.imp id fun hl=>by rwa [hset j e]at hl
   rw[vk j e,bsl d (fun e2=>e (H.dis j i oj o d hj ho hd e2))];exact h.bon j oj d hj hd hl2
 ·rw[bsl d (hd i o ho)];exact h.boff d hd
theorem wp_region_tree {id : Nat} {Q : Exit → Act → World → Prop} {a : Act} {w : World} {l : List Oper} (C : List Value → World → Prop) (fl : List (Nat × Bool)) (T : FT) (bd : List (Nat × Nat)) (hm : P.follows .mixedOrders = true) (hB : treeB l.toArray fl bd T a.tmps.size = true) (hC : C [] w.drew)
  (h:wq1 P l.toArray C fl bd (fun a' => wq2t P l.toArray C (fun us b=>∀W,C us W→Q .normal b W) T [] a') 0 l a):(Code.region id l.toArray true).wp P Q a w:=by
 obtain⟨H,hn0,hs0⟩:=treeOk_of hB;obtain⟨V,_,hV,hK⟩:=wq1_vals (ops:=l.toArray) (a0:=a) l 0 (fun _=>undef) (by simp) h;rw[Nat.zero_add]at hK;refine zF9 (fun listed a' W=>∃ds T b,FtI P l.toArray C fl bd (fun us b=>∀W,C us W→Q .normal b W) V a listed a' W ds T b) hm H.back ?_ ?_ ?_
 ·refine⟨[],T,_,hC,fun i fx _=>?_,hn0,hs0,fun x hx=>(by cases hx),rfl,rfl,fun j o d _ _ hl=>?_,fun _ _=>rfl,hK,frV_defers _ _ _,zL5 _ _ _,fun j o d hj hd hl=>?_,fun d hd=>?_⟩
  ·rw[getD_replicate_false];simp
  ·rw[getD_replicate_false]at hl;cases hl
  ·rw[getD_replicate_false]at hl;have hk:zA9 fl j≠some false:=hl.resolve_right (by simp);rw[frV_at' H hj hd hk _ (by simpa using(Array.getElem?_eq_some_iff.1 hj).1)];unfold valT;rw[if_neg hk]
  ·exact frV_no _ fun j _ oj hj _=>hd j oj hj
 ·rintro listed a' W i o ⟨ds,T', b,I⟩ hsz ho hl he hcl;have hi:i<listed.size:=by rw[hsz];exact(Array.getElem?_eq_some_iff.1 ho).1
  have hl':listed.getD i false=false:=by
   rw[Array.getD_eq_getD_getElem?,Array.getElem?_eq_getElem hi]at hl ⊢;simpa using hl
  have hsel:∀cs b,o.op≠.select cs b:=fun cs b=>Region.noSelect_spec H.sel i o cs b ho
  cases hk:zA9 fl i with
  |none=>
   have same:∀t∈o.looksAt l.toArray,sl' a' t=sl' (frV l.toArray fl V a i) t:=fun t ht=>by
    by_cases ex:∃(j:Nat) (oj:Oper),l.toArray[j]? = some oj∧oj.dst=some t
    ·obtain⟨j,oj,hj,hd⟩:=ex;rcases H.rd i j o oj t ho hj hd ht with⟨e1,hkj⟩|⟨e2,_⟩
     ·obtain⟨e,hem,hbd,rfl⟩:=zD4 e1;have hb:=zF8 H.back ho e hem hbd;rw[I.on e.on oj t hj hd (he e hem hbd),frV_at' H hj hd (hkj hk) i hb];unfold valT;rw[if_neg (hkj hk)]
     ·obtain⟨e,hem,hbd,hon⟩:=zD4 e2;have hb:=zF8 H.back hj e hem hbd;rw[I.off t fun k ok hk2 hlk hdk=>?_,frV_no i fun k hki ok hk2 _ hdk=>?_]
      ·have:=H.dis k j ok oj t hk2 hj hdk hd;omega
      ·have e5:=H.dis k j ok oj t hk2 hj hdk hd;subst e5;have:=hcl k oj hj hlk e hem hbd;rw[hon,hl']at this;cases this
    ·rw[I.off t fun k ok hk2 _ hdk=>ex ⟨k,ok,hk2,hdk⟩,frV_no i fun k _ ok hk2 _ hdk=>ex ⟨k,ok,hk2,hdk⟩]
   have hwd:=zK8 (ops:=l.toArray) (o:=o) (a:=a') (b:=frV l.toArray fl V a i) (by rw[I.za,zL5]) same;unfold wpOp;simp only[ho];rcases hV i o (Nat.zero_le _) ho hk with⟨hw,hq⟩|⟨hw,hv⟩
   ·rw[if_pos (by rw[hwd];exact hw)];refine .inl (Oper.wp_of_quiet (C:=C (ds.map tg)) (K:=fun a'' => a'' = a'.put o.dst (V i)) I.cw (fun a'' W' hW' e=>by subst e;exact⟨ds,T', b,I.quiet H ho hi hk hW'⟩) ⟨V i,fun w hw=>?_,rfl⟩);have hlim:lims C (bdOf bd i) (ds.map tg) w:=by
     cases hbd:bdOf bd i with
     |none=>exact hw
     |some b9=>
      refine⟨hw,?_⟩;have hmem:(i,b9)∈bd:=by
       unfold bdOf at hbd;rw[Option.map_eq_some_iff]at hbd;obtain⟨⟨j,b'⟩,g1,g2⟩:=hbd;have g3:=List.find?_some g1;simp only[beq_iff_eq]at g3 g2;subst g3 g2;exact List.mem_of_find?_eq_some g1
      have h7:=I.tn;unfold nodeB at h7;rw[Bool.and_eq_true]at h7;have h6:=List.all_eq_true.1 h7.1 _ hmem;simp only[Bool.or_eq_true,decide_eq_true_eq,List.any_eq_true]at h6;rcases h6 with h6|⟨j,hj,h6⟩
      ·simpa using h6
      ·exfalso
       split at h6
       ·rename_i oj hoj;obtain⟨x,hx,rfl⟩:=List.mem_map.1 hj;obtain⟨fx,hfl⟩:=I.dm x hx;obtain⟨e,hem,hbnd,hon⟩:=zD4 h6;have h8:=hcl x.1 oj hoj ((I.cnt _ fx hfl).2 hj) e hem hbnd;rw[hon,hl']at h8;cases h8
       ·cases h6
    have:=hq ⟨(ds.map tg,w),hlim⟩;unfold Oper.quietAt at this ⊢;rw[exec_same hsel same];exact this
   ·rw[if_neg (by rw[hwd,hw];simp),←hv];exact⟨ds,T', b,I.quiet H ho hi hk I.cw⟩
  |some fx=>
   have hp:=kind_mem hk;have h1:i ∉ ds.map (·.1):=fun hc=>by have:=(I.cnt i fx hp).2 hc;rw[hl']at this;cases this
   have h7:=I.tn;unfold nodeB at h7;rw[Bool.and_eq_true]at h7;have h6:=List.all_eq_true.1 h7.2 _ hp;have hhas:T'.has i fx=true:=by
    simp only[Bool.or_eq_true,List.any_eq_true,Bool.and_eq_true,Bool.not_eq_true']at h6;rcases h6 with(h6|h6)|⟨y,hy,hy1,hy2⟩
    ·exact absurd (by simpa using h6) h1
    ·exact h6
    ·exfalso
     rw[ho]at hy2;simp only at hy2;obtain⟨e,hem,hbd,hon⟩:=zD4 hy2;have hlj:=he e hem hbd;rw[hon]at hlj;have h5:=(I.cnt y.1 y.2 hy).1 hlj;rw[List.contains_eq_mem]at hy1;simp only[decide_eq_false_iff_not]at hy1;exact hy1 h5
   obtain⟨T2,⟨o', ho', hw,hflip,hrest⟩,hn2,hs2⟩:=wqt_has hhas I.w2 I.ts;rw[ho]at ho';obtain rfl:=Option.some.inj ho';have same:∀t∈o.looksAt l.toArray,sl' a' t=sl' b t:=fun t ht=>by
    by_cases ex:∃(j:Nat) (oj:Oper),l.toArray[j]? = some oj∧oj.dst=some t
    ·obtain⟨j,oj,hj,hd⟩:=ex;rcases H.rd i j o oj t ho hj hd ht with⟨e1,_⟩|⟨_,hkn⟩
     ·obtain⟨e,hem,hbd,rfl⟩:=zD4 e1;have hlj:=he e hem hbd;rw[I.on e.on oj t hj hd hlj,I.bon e.on oj t hj hd (.inr hlj)]
     ·rw[hk]at hkn;cases hkn
    ·rw[I.off t fun k ok hk2 _ hdk=>ex ⟨k,ok,hk2,hdk⟩,I.boff t fun k ok hk2 hdk=>ex ⟨k,ok,hk2,hdk⟩]
   have hwd:=zK8 (ops:=l.toArray) (o:=o) (a:=a') (b:=b) (by rw[I.za,I.zb]) same;unfold wpOp;simp only[ho];rw[if_pos (by rw[hwd];exact hw)];refine .inl (Oper.wp_mono ?_ (flip_wp (R:=fun v W' => C (ds.map tg++[tg (i,v)]) W' ∧ (fx=true→b.put o.dst v=b)) (exec_same hsel same) (fun d hd=>by rw[I.zb];exact H.inn _ _ _ ho hd) (hflip W I.cw _ fun v a' W' hC' e hfx=>⟨v,e,hC', fun h=>e▸hfx h⟩)));rintro a'' W' ⟨v,rfl,hC', hfx⟩;exact⟨ds++[(i,v)],T2,_,I.flip H ho hi hp h1 hC' hfx (hrest v) hn2 hs2⟩
 ·rintro listed a' W ⟨ds,T', b,I⟩ hd;have hT:T' = .stop:=by
   cases hT:T' with
   |stop=>rfl
   |alt i fx sub more=>
    exfalso
    have h7:=I.ts;rw[hT]at h7;unfold subsB at h7;simp only[Bool.and_eq_true]at h7;obtain⟨⟨⟨⟨h1,h2⟩,_⟩,_⟩,_⟩:=h7;have hm:(i,fx)∈fl:=by simpa using h1
    have:=(I.cnt i fx hm).1 (hd i (H.fk i fx hm).2);simp at h2;simp at this;obtain⟨x,hx⟩:=this;exact h2 x hx
  have hw2:=I.w2;rw[hT]at hw2;have e:a' = b:=by
   have e1:a'.tmps=b.tmps:=by
    apply Array.ext
    ·rw[I.za,I.zb]
    ·intro t h1 h2;have:sl' a' t=sl' b t:=by
      by_cases ex:∃(j:Nat) (oj:Oper),l.toArray[j]? = some oj∧oj.dst=some t
      ·obtain⟨j,oj,hj,hdj⟩:=ex;have hlj:=hd j (Array.getElem?_eq_some_iff.1 hj).1;rw[I.on j oj t hj hdj hlj,I.bon j oj t hj hdj (.inr hlj)]
      ·rw[I.off t fun k ok hk2 _ hdk=>ex ⟨k,ok,hk2,hdk⟩,I.boff t fun k ok hk2 hdk=>ex ⟨k,ok,hk2,hdk⟩]
     unfold sl' at this;simpa[h1,h2]using this
   have e2:a'.defers=b.defers:=by rw[I.da,I.db]
   cases a';cases b;simp only at e1 e2;subst e1 e2;rfl
  rw[e];exact hw2 W I.cw
end
end Go.Proofs.YthnlalffjepdaaaGreat
namespace Go.Proofs.YthnlalffjepdaaaGreat
open Go.RowKit
structure Yl (R:Nat→Value→World→Prop) (wo:World) (lo:Nat) (v:Value) (W0 W:World):Prop where
 r:R lo v W0
 lo0:wo.heap.size≤lo
 lo1:lo≤W0.heap.size
 sz:W0.heap.size≤W.heap.size
 eq:∀b,lo≤b→b<W0.heap.size→W.heap[b]? = W0.heap[b]?
def ptr (g:Nat):Value:=.pointer (some ⟨g,0,none⟩)
def boxC (R : Nat → Value → World → Prop) (wo : World) (zero : List Value) (kc ka ks : Nat) (us : List Value) (W : World) : Prop := Below wo.heap.size wo W ∧ match us with
 |[]=>True
 |[x]=>(∃v lo W0,x=tg (kc,v)∧Yl R wo lo v W0 W)∨(∃g,x=tg (ka,ptr g)∧wo.heap.size≤g∧Bx W g zero)
 |[x,y]=>∃v lo W0 g,((x=tg (kc,v)∧y=tg (ka,ptr g))∨(x=tg (ka,ptr g)∧y=tg (kc,v)))∧Yl R wo lo v W0 W∧wo.heap.size≤g∧Bx W g zero∧(g<lo∨W0.heap.size≤g)
 |[x,y,_]=>∃cs lo W0 g,(x=tg (ka,ptr g)∨y=tg (ka,ptr g))∧Yl R wo lo (.agg ⟨cs⟩) W0 W∧wo.heap.size≤g∧Bx W g cs∧(g<lo∨W0.heap.size≤g)
 |_=>False
section
variable {R : Nat → Value → World → Prop} {wo W W' : World} {zero : List Value} {kc ka ks : Nat}
theorem zI3 {i j:Nat} {v u:Value} (h:tg (i,v)=tg (j,u)):i=j∧v=u:=by
 simp only[tg,Value.tuple.injEq,Array.mk.injEq,List.cons.injEq,Value.int.injEq,and_true,true_and]at h;exact⟨by omega,h.2⟩
theorem boxC_start:boxC R wo zero kc ka ks [] wo.drew:=⟨(Below.refl _ _).drew,trivial⟩
theorem boxC_below {us:List Value} (h:boxC R wo zero kc ka ks us W):Below wo.heap.size wo W:=h.1
theorem boxC_call {v:Value} (h:boxC R wo zero kc ka ks [] W) (hb:Below W.heap.size W W') (hr:R W.heap.size v W'):boxC R wo zero kc ka ks [tg (kc,v)] W' :=
 ⟨h.1.trans (hb.mono h.1.size),.inl ⟨v,W.heap.size,W', rfl,hr,h.1.size,hb.size,Nat.le_refl _,fun _ _ _=>rfl⟩⟩
theorem boxC_box {T:TypeId} (h:boxC R wo zero kc ka ks [] W) (hz:0<zero.length):boxC R wo zero kc ka ks [tg (ka,ptr W.heap.size)] (W.alloc (.cells ⟨zero⟩ T)) :=
 ⟨h.1.trans (((Below.refl _ _).alloc (Nat.le_refl _) _).mono h.1.size),.inr ⟨W.heap.size,rfl,h.1.size,Bx.new W ⟨zero⟩ T hz⟩⟩
theorem boxC_box2 {T:TypeId} {v:Value} (hne:kc≠ka) (h:boxC R wo zero kc ka ks [tg (kc,v)] W) (hz:0<zero.length):boxC R wo zero kc ka ks [tg (kc,v),tg (ka,ptr W.heap.size)] (W.alloc (.cells ⟨zero⟩ T)):=by
 have ha:Below W.heap.size W (W.alloc (.cells ⟨zero⟩ T)):=(Below.refl _ _).alloc (Nat.le_refl _) _;obtain⟨hb,⟨v', lo,W0,e,hy⟩|⟨g,e,_⟩⟩:=h
 ·obtain⟨_,rfl⟩:=zI3 e;exact⟨hb.trans (ha.mono hb.size),v,lo,W0,W.heap.size,.inl ⟨rfl,rfl⟩,⟨hy.r,hy.lo0,hy.lo1,Nat.le_trans hy.sz ha.size,fun b h1 h2=>(ha.block b (Nat.lt_of_lt_of_le h2 hy.sz)).trans (hy.eq b h1 h2)⟩,hb.size,Bx.new W ⟨zero⟩ T hz,.inr hy.sz⟩
 ·exact absurd (zI3 e).1 hne
theorem boxC_call2 {p v:Value} (hne:kc≠ka) (h:boxC R wo zero kc ka ks [tg (ka,p)] W) (hb:Below W.heap.size W W') (hr:R W.heap.size v W'):boxC R wo zero kc ka ks [tg (ka,p),tg (kc,v)] W':=by
 obtain⟨hw,⟨v', lo,W0,e,hy⟩|⟨g,e,hg,hx⟩⟩:=h
 ·exact absurd (zI3 e).1.symm hne
 ·obtain⟨_,rfl⟩:=zI3 e;exact⟨hw.trans (hb.mono hw.size),v,W.heap.size,W', g,.inr ⟨rfl,rfl⟩,⟨hr,hw.size,hb.size,Nat.le_refl _,fun _ _ _=>rfl⟩,hg,hx.below hb hx.lt,.inl hx.lt⟩
theorem boxC_at {x y:Value} {v p:Value} (hne:kc≠ka) (hxy:(x=tg (kc,v)∧y=tg (ka,p))∨(x=tg (ka,p)∧y=tg (kc,v))) (h:boxC R wo zero kc ka ks [x,y] W):∃lo W0 g,p=ptr g∧Yl R wo lo v W0 W∧wo.heap.size≤g∧Bx W g zero∧(g<lo∨W0.heap.size≤g):=by
 obtain⟨hw,v', lo,W0,g,h1,hy,hg,hx,hs⟩:=h;rcases hxy with⟨rfl,rfl⟩|⟨rfl,rfl⟩
 ·rcases h1 with⟨e1,e2⟩|⟨e1,e2⟩
  ·obtain⟨_,rfl⟩:=zI3 e1;obtain⟨_,rfl⟩:=zI3 e2;exact⟨lo,W0,g,rfl,hy,hg,hx,hs⟩
  ·exact absurd (zI3 e1).1 hne
 ·rcases h1 with⟨e1,e2⟩|⟨e1,e2⟩
  ·exact absurd (zI3 e1).1.symm hne
  ·obtain⟨_,rfl⟩:=zI3 e1;obtain⟨_,rfl⟩:=zI3 e2;exact⟨lo,W0,g,rfl,hy,hg,hx,hs⟩
theorem boxC_store {x y z : Value} {cs : List Value} {lo g : Nat} {W0 : World} (hxy : x = tg (ka, ptr g) ∨ y = tg (ka, ptr g)) (hw : Below wo.heap.size wo W) (hy : Yl R wo lo (.agg ⟨cs⟩) W0 W) (hg : wo.heap.size ≤ g) (hs : g < lo ∨ W0.heap.size ≤ g) (hk : ∀ b, b ≠ g → W'.heap[b]? = W.heap[b]?) (hz : W'.heap.size = W.heap.size) (hb : Below wo.heap.size W W') (hx : Bx W' g cs) :
  boxC R wo zero kc ka ks [x,y,z] W' :=
 ⟨hw.trans hb,cs,lo,W0,g,hxy,⟨hy.r,hy.lo0,hy.lo1,by rw[hz];exact hy.sz,fun b h1 h2=>(hk b (by omega)).trans (hy.eq b h1 h2)⟩,hg,hx,hs⟩
theorem boxC_done {x y z p:Value} (hne:kc≠ka) (hxy:(∃v,x=tg (kc,v)∧y=tg (ka,p))∨(∃v,x=tg (ka,p)∧y=tg (kc,v))) (h:boxC R wo zero kc ka ks [x,y,z] W):Below wo.heap.size wo W∧∃cs lo W0 g,p=ptr g∧Yl R wo lo (.agg ⟨cs⟩) W0 W∧wo.heap.size≤g∧Bx W g cs∧(g<lo∨W0.heap.size≤g):=by
 obtain⟨hw,cs,lo,W0,g,h1,hy,hg,hx⟩:=h;refine⟨hw,cs,lo,W0,g,?_,hy,hg,hx⟩;rcases hxy with⟨v,rfl,rfl⟩|⟨v,rfl,rfl⟩
 ·rcases h1 with e|e
  ·exact absurd (zI3 e).1 hne
  ·exact(zI3 e).2
 ·rcases h1 with e|e
  ·exact(zI3 e).2
  ·exact absurd (zI3 e).1 hne
end
end Go.Proofs.YthnlalffjepdaaaGreat
namespace Go.Proofs.YthnlalffjepdaaaGreat
def lineL (st st':Cy) (w:Nat):List Jb:=(st'.ports w).out.filter fun o=>!(st.ports w).out.any fun p=>p.n==o.n
def pick (w s:Nat) (l:List Jb):List (Nat×Nat):=(l.filter fun o=>o.left==s).map fun o=>(w,o.n)
def lineN (st st':Cy) (s:Nat):List (Nat×Nat):=pick 0 s (lineL st st' 0)++pick 1 s (lineL st st' 1)++pick 2 s (lineL st st' 2)
theorem pick_app (w s:Nat) (a b:List Jb):pick w s (a++b)=pick w s a++pick w s b:=by simp[pick]
structure LineW (c:Cfg) (st:Cy) (l:List Ev) (x:Cy×List Ev) (k:Nat):Prop where
 g:Good c x.1
 ev:∃es,x.2=l++es∧(∀s,k≤s→doneN c s es=0)∧∀s,kP x.1 s=(kP st s).drop (doneN c s es)
 out:∀w,(x.1.ports w)=(st.ports w)
theorem LineW.skip {c:Cfg} {st:Cy} {l:List Ev} {x:Cy×List Ev} {k:Nat} (h:LineW c st l x k):LineW c st l x (k+1):=by
 obtain⟨es,h1,h2,h3⟩:=h.ev;exact⟨h.g,⟨es,h1,fun s hs=>h2 s (by omega),h3⟩,h.out⟩
theorem line_work1 {c:Cfg} (hb:Bus c) {inp:Inp} {st:Cy} {l:List Ev} {x:Cy×List Ev} {k:Nat} (hk:k<4) (h:LineW c st l x k):LineW c st l (work1 c inp k x) (k+1):=by
 have hg:=good_work1 hb (inp:=inp) h.g hk;obtain⟨es,h1,h2,h3⟩:=h.ev;unfold work1 at hg ⊢
 split
 ·exact h.skip
 ·rename_i hst
  split
  ·exact h.skip
  ·rename_i j rest hp;rw[if_neg hst]at hg;simp only[hp]at hg
   split
   ·rename_i hl;rw[if_pos hl]at hg;refine⟨hg,⟨es,h1,fun s hs=>h2 s (by omega),fun s=>?_⟩,h.out⟩;rw[←h3 s];unfold kP;simp only[zK7];by_cases e:s=k
    ·subst e;rw[zA1,hp];rfl
    ·rw[zA0 _ _ e]
   ·rename_i hl;rw[if_neg hl]at hg
    split
    ·rename_i hd;rw[if_pos hd]at hg;have hin:(j.who,j.n)∈zA7 (x.1.slaves k):=by simp[zA7,hp]
     have hs:=h.g.slvKey hk hin;have hone:∀s,doneN c s (es++[⟨2,j.who,j.n⟩])=doneN c s es+(if s=k then 1 else 0):=fun s=>by
      rw[zI1]
      congr 1
      unfold doneN;by_cases e:s=k
      ·subst e;rw[if_pos rfl];simp[hs]
      ·rw[if_neg e,List.filter_cons_of_neg (by simp only[hs];simp;omega)];rfl
     refine⟨hg,⟨es++[⟨2,j.who,j.n⟩],by simp[zG3,h1],fun s hs2=>?_,fun s=>?_⟩,h.out⟩
     ·rw[hone,if_neg (by omega),h2 s (by omega)]
     ·rw[hone];have h3s:=h3 s;unfold kP at h3s ⊢;simp only[zG3];by_cases e:s=k
      ·subst e;rw[zA1,if_pos rfl,←List.drop_drop,←h3s,hp]
       rfl
      ·rw[zA0 _ _ e,if_neg e,Nat.add_zero];exact h3s
    ·exact h.skip
structure LineL (c:Cfg) (st x2:Cy) (y:Lt) (k:Nat):Prop where
 g:Good c y.st
 ex : ∃ (np : Nat → List (Nat × Nat)) (no : Nat → List Jb), (∀ s, kP y.st s = kP x2 s ++ np s) ∧ (∀ s, k ≤ s → np s = []) ∧ (∀ w, (y.st.ports w).out = (x2.ports w).out ++ no w) ∧
  (∀s,np s=pick 0 s (no 0)++pick 1 s (no 1)++pick 2 s (no 2))∧∀w,∀o∈no w,o.n∈(x2.ports w).queue
 q:∀w,∀n∈(y.st.ports w).queue,n∈(x2.ports w).queue
theorem LineL.skip {c:Cfg} {st x2:Cy} {y:Lt} {k:Nat} (h:LineL c st x2 y k):LineL c st x2 y (k+1):=by
 obtain⟨np,no,h1,h2,h3⟩:=h.ex;exact⟨h.g,⟨np,no,h1,fun s hs=>h2 s (by omega),h3⟩,h.q⟩
theorem line_let1 {c:Cfg} {st x2:Cy} {y:Lt} {k:Nat} (hk:k<4) (h:LineL c st x2 y k):LineL c st x2 (let1 c k y) (k+1):=by
 have hg:=good_let1 h.g hk;unfold let1 at hg ⊢
 split
 ·rename_i hp;rw[if_pos hp]at hg
  split
  ·exact h.skip
  ·rename_i m hm;simp only[hm]at hg
   split
   ·exact h.skip
   ·rename_i n rest hq;simp only[hq]at hg;obtain⟨w,hw⟩:∃v,v=((y.st.slaves k).last+m) % 3:=⟨_,rfl⟩
    have hw3:w<3:=by omega
    rw[←hw]at hq hg ⊢;obtain⟨np,no,h1,h2,h3,h4,h5⟩:=h.ex;have hz:=h2 k (Nat.le_refl _);have h4k:=h4 k;rw[hz]at h4k;obtain⟨h4a,h4c⟩:=List.append_eq_nil_iff.1 h4k.symm;obtain⟨h4a,h4b⟩:=List.append_eq_nil_iff.1 h4a;refine⟨hg,⟨upd np k [(w,n)],upd no w (no w++[⟨w,n,k⟩]),fun s=>?_,fun s hs=>?_,fun v=>?_,fun s=>?_,fun v o ho=>?_⟩,fun v i hi=>?_⟩
    ·have h1s:=h1 s;unfold kP at h1s ⊢;simp only[letDo];by_cases e:s=k
     ·subst e;rw[hz,List.append_nil]at h1s;rw[zA1,zA1,List.map_append,h1s];rfl
     ·rw[zA0 _ _ e,zA0 _ _ e];exact h1s
    ·rw[zA0 _ _ (show s≠k by omega)];exact h2 s (by omega)
    ·simp only[letDo];by_cases e:v=w
     ·subst e;rw[zA1,zA1,h3 v,List.append_assoc]
     ·rw[zA0 _ _ e,zA0 _ _ e];exact h3 v
    ·have hp:∀v,pick v s (upd no w (no w++[⟨w,n,k⟩]) v)=pick v s (no v)++(if v=w∧s=k then[(v,n)] else[]):=fun v=>by
      by_cases e:v=w
      ·subst e;rw[zA1,pick_app]
       congr 1
       unfold pick;by_cases e2:s=k
       ·subst e2;simp
       ·rw[List.filter_cons_of_neg (by simp;omega),if_neg (by simp[e2])];rfl
      ·rw[zA0 _ _ e,if_neg (by simp[e]),List.append_nil]
     rw[hp,hp,hp];by_cases e:s=k
     ·subst e;rw[zA1,h4a,h4b,h4c];obtain rfl|rfl|rfl:w=0∨w=1∨w=2:=by omega
      all_goals simp
     ·rw[zA0 _ _ e,h4 s];simp[e]
    ·by_cases e:v=w
     ·subst e;rw[zA1]at ho;rcases List.mem_append.1 ho with ho|ho
      ·exact h5 v o ho
      ·rw[List.mem_singleton.1 ho];exact h.q v n (by rw[hq];exact List.mem_cons_self ..)
     ·rw[zA0 _ _ e]at ho;exact h5 v o ho
    ·simp only[letDo]at hi;by_cases e:v=w
     ·subst e;rw[zA1]at hi;exact h.q v i (by rw[hq];exact List.mem_cons_of_mem _ hi)
     ·rw[zA0 _ _ e]at hi;exact h.q v i hi
 ·exact h.skip
theorem doneN_left {c:Cfg} {s:Nat} {l:List Ev} (h:∀e∈l,e.kind≠2):doneN c s l=0:=doneN_no fun e he hc=>h e he hc.1
theorem line_step {c:Cfg} (hb:Bus c) {inp:Inp} {st:Cy} (hg:Good c st) (s:Nat):kP (cyc c inp st) s=(kP st s).drop (doneN c s (evs c inp st))++lineN st (cyc c inp st) s:=by
 have h1:Good c (zC3 inp (st,[])).1∧(∀s,((zC3 inp (st,[])).1.slaves s).pipe=(st.slaves s).pipe)∧(∀e∈(zC3 inp (st,[])).2,e.kind=3)∧∀w,((zC3 inp (st,[])).1.ports w).queue=(st.ports w).queue∧∀o∈((zC3 inp (st,[])).1.ports w).out,o∈(st.ports w).out:=by
  refine zD2 (P:=fun x:Cy×List Ev=>Good c x.1∧(∀s,(x.1.slaves s).pipe=(st.slaves s).pipe)∧(∀e∈x.2,e.kind=3)∧∀w,(x.1.ports w).queue=(st.ports w).queue∧∀o∈(x.1.ports w).out,o∈(st.ports w).out) 3 (st,[]) ⟨hg,fun _=>rfl,fun e he=>(by cases he),fun w=>⟨rfl,fun o ho=>ho⟩⟩ ?_;intro i x hi hx;refine⟨good_tell1 hx.1 hi,fun s=>(tell1_pipe s).trans (hx.2.1 s),tell1_kind hx.2.2.1,fun w=>?_⟩;unfold tell1
  split
  ·split
   ·exact hx.2.2.2 w
   ·split
    ·exact hx.2.2.2 w
    ·simp only[zF3];by_cases e:w=i
     ·subst e;rw[zA1];exact⟨(hx.2.2.2 w).1,fun o ho=>(hx.2.2.2 w).2 o (List.mem_of_mem_eraseP ho)⟩
     ·rw[zA0 _ _ e];exact hx.2.2.2 w
  ·exact hx.2.2.2 w
 obtain⟨x1,hx1⟩:∃x,x=zC3 inp (st,[]):=⟨_,rfl⟩
 rw[←hx1]at h1;obtain⟨g1,p1,k1,q1⟩:=h1;have h2:LineW c x1.1 x1.2 (zC9 c inp x1) 4 :=
  line_work1 hb (k:=3) (by omega) (line_work1 hb (k:=2) (by omega) (line_work1 hb (k:=1) (by omega) (line_work1 hb (k:=0) (x:=x1) (by omega) ⟨g1,⟨[],by simp,fun _ _=>rfl,fun s=>by simp[doneN]⟩,fun _=>rfl⟩)))
 obtain⟨x2,hx2⟩:∃x,x=zC9 c inp x1:=⟨_,rfl⟩
 rw[←hx2]at h2;obtain⟨es,e1,_,e3⟩:=h2.ev;have h3:LineL c st x2.1 (zE0 c x2.1) 4 :=
  line_let1 (k:=3) (by omega) (line_let1 (k:=2) (by omega) (line_let1 (k:=1) (by omega) (line_let1 (k:=0) (y:=⟨x2.1,fun _=>false,fun _=>0⟩) (by omega) ⟨h2.g,⟨fun _=>[],fun _=>[],fun s=>(List.append_nil _).symm,fun _ _=>rfl,fun w=>(List.append_nil _).symm,fun s=>rfl,fun w o ho=>(by cases ho)⟩,fun w n hn=>hn⟩)))
 obtain⟨np,no,n1,_,n3,n4,n5⟩:=h3.ex;have h4:(∀s,kP (askAll c inp ((zE0 c x2.1).st,x2.2)).1 s=kP (zE0 c x2.1).st s)∧∀w,((askAll c inp ((zE0 c x2.1).st,x2.2)).1.ports w).out=((zE0 c x2.1).st.ports w).out :=
  zD2 (P:=fun x:Cy×List Ev=>(∀s,kP x.1 s=kP (zE0 c x2.1).st s)∧∀w,(x.1.ports w).out=((zE0 c x2.1).st.ports w).out) 3 ((zE0 c x2.1).st,x2.2) ⟨fun _=>rfl,fun _=>rfl⟩ fun i x _ hx=>by
   unfold ask1
   split
   ·refine⟨hx.1,fun w=>?_⟩;simp only[askDo];by_cases e:w=i
    ·subst e;rw[zA1];exact hx.2 w
    ·rw[zA0 _ _ e];exact hx.2 w
   ·exact hx
 obtain⟨a,a1,a2⟩:=zD2 (P:=fun x:Cy×List Ev=>∃a,x.2=x2.2++a∧∀e∈a,e.kind=1) 3 ((zE0 c x2.1).st,x2.2) ⟨[],by simp,by simp⟩ fun i _ _ hx=>ask1_ev (c:=c) (inp:=inp) (w:=i) hx
 have e:step c inp st=askAll c inp ((zE0 c x2.1).st,x2.2):=by rw[hx2,hx1];rfl
 have hev:evs c inp st=x1.2++es++a:=by unfold evs;rw[e,←e1];exact a1
 have hcy:cyc c inp st=(askAll c inp ((zE0 c x2.1).st,x2.2)).1:=by unfold cyc;rw[e]
 have hd:doneN c s (evs c inp st)=doneN c s es:=by
  rw[hev,zI1,zI1,doneN_left fun e he=>by have:=k1 e he;omega,doneN_left (l:=a) fun e he=>by have:=a2 e he;omega,Nat.zero_add,Nat.add_zero]
 have hk1:kP x1.1 s=kP st s:=by unfold kP;rw[p1]
 have hL:∀w,w<3→lineL st (cyc c inp st) w=no w:=fun w hw=>by
  unfold lineL;rw[hcy,h4.2 w,n3 w,List.filter_append];have hps:=hg.p w hw;have f1:((x2.1.ports w).out.filter fun o=>!(st.ports w).out.any fun p=>p.n==o.n)=[]:=by
   rw[List.filter_eq_nil_iff];intro o ho;rw[h2.out w]at ho;have:=(q1 w).2 o ho;simp only[Bool.not_eq_true,Bool.not_eq_false', List.any_eq_true,beq_iff_eq];exact⟨o,this,rfl⟩
  have f2:((no w).filter fun o=>!(st.ports w).out.any fun p=>p.n==o.n)=no w:=by
   rw[List.filter_eq_self];intro o ho;have hq:=n5 w o ho;rw[h2.out w,(q1 w).1,hps.q,List.mem_range'_1]at hq;simp only[Bool.not_eq_true', List.any_eq_false,beq_iff_eq];intro p hp he;have:=(hps.o p hp).2.2;omega
  rw[f1,f2,List.nil_append]
 rw[hd];have hfin:kP (cyc c inp st) s=(kP st s).drop (doneN c s es)++np s:=by rw[hcy,h4.1 s,n1 s,e3 s,hk1]
 rw[hfin,n4 s];unfold lineN;rw[hL 0 (by omega),hL 1 (by omega),hL 2 (by omega)]
def LineI (lt:Nat→List (Nat×Nat)) (dn:Nat→Nat) (st:Cy):Prop:=∀s,dn s≤(lt s).length∧(lt s).drop (dn s)=kP st s
theorem line_next {c:Cfg} (hb:Bus c) {inp:Inp} {st:Cy} (hg:Good c st) {lt:Nat→List (Nat×Nat)} {dn:Nat→Nat} (h:LineI lt dn st):LineI (fun s=>lt s++lineN st (cyc c inp st) s) (fun s=>dn s+doneN c s (evs c inp st)) (cyc c inp st):=fun s=>by
 obtain⟨h1,h2⟩:=h s;have h3:=line_step hb (inp:=inp) hg s;have h4:=doneN_one hb (inp:=inp) hg s;have h5:doneN c s (evs c inp st)≤(kP st s).length:=by
  unfold kP;rw[List.length_map];refine Nat.le_trans h4 ?_
  split <;> omega
 have h6:(kP st s).length=(lt s).length - dn s:=by rw[←h2,List.length_drop]
 show dn s+doneN c s (evs c inp st)≤(lt s++lineN st (cyc c inp st) s).length∧(lt s++lineN st (cyc c inp st) s).drop (dn s+doneN c s (evs c inp st))=kP (cyc c inp st) s;refine⟨by rw[List.length_append];omega,?_⟩;rw[h3,←h2,List.drop_drop,List.drop_append_of_le_length (by omega)]
theorem line_zero:LineI (fun _=>[]) (fun _=>0) cy0:=fun s=>⟨Nat.le_refl _,rfl⟩
theorem line_at {c : Cfg} (hb : Bus c) {inp : Inp} {st : Cy} (hg : Good c st) {lt : Nat → List (Nat × Nat)} {dn : Nat → Nat} (h : LineI lt dn st) {m : Nat} (hm : m < (evs c inp st).length) (hk : ((evs c inp st).getD m default).kind = 2) :
  ∃s,s=c.slv ((evs c inp st).getD m default).who ((evs c inp st).getD m default).n∧s<4∧doneN c s ((evs c inp st).take m)=0∧(lt s)[dn s]? = some (((evs c inp st).getD m default).who,((evs c inp st).getD m default).n):=by
 obtain⟨⟨_,_,_,hs,_,rest,hr⟩,h2⟩:=evs_at hb (inp:=inp) hg hm hk;refine⟨_,rfl,hs,h2,?_⟩;obtain⟨_,h3⟩:=h (c.slv ((evs c inp st).getD m default).who ((evs c inp st).getD m default).n);have h4:((lt (c.slv ((evs c inp st).getD m default).who ((evs c inp st).getD m default).n)).drop (dn (c.slv ((evs c inp st).getD m default).who ((evs c inp st).getD m default).n)))[0]? = some (((evs c inp st).getD m default).who,((evs c inp st).getD m default).n):=by
  rw[h3];unfold kP;rw[hr];rfl
 rwa [List.getElem?_drop,Nat.add_zero]at h4
end Go.Proofs.YthnlalffjepdaaaGreat
namespace Go.Proofs.YthnlalffjepdaaaGreat
open Go.RowKit
def CyX2 (w:World) (gx gs:Nat) (X:Nat→Prop) (st:Cy):Prop:=∃(V:Nat→Value) (N:Nat→Nat) (C:Nat→List Value) (D:Nat→List TJV),Bx w gx [V 0,V 1,V 2,V 3,V 4]∧Raw w 0 V N C∧Cont st [] V N C D∧Free V gx∧Free V gs∧¬X gx∧(∀b,X b→Free V b)∧∀κ,κ<20→∀x∈D κ,IntsD w (fun b=>b<w.heap.size∧b≠gx∧b≠gs∧¬X b) x.2 x.1.rsp.data
theorem CyX2.toX {w:World} {gx gs:Nat} {X:Nat→Prop} {st:Cy} (h:CyX2 w gx gs X st):CyBoxX w gx X st:=by
 obtain⟨V,N,C,D,h1,h2,h3,h4,_,h5,h6,h7⟩:=h;exact⟨V,N,C,D,h1,h2,h3,h4,h5,h6,fun κ hκ x hx=>(h7 κ hκ x hx).weak fun b hb=>⟨hb.1,hb.2.1,hb.2.2.2⟩⟩
theorem CyX2.keep {w w':World} {gx gs:Nat} {X X':Nat→Prop} {st:Cy} (h:CyX2 w gx gs X st) (hk:KeptX X w w') (hX:∀b,X' b→X b∨w.heap.size≤b):CyX2 w' gx gs X' st:=by
 obtain⟨V,N,C,D,h1,h2,h3,h4,h8,h5,h6,h7⟩:=h;refine⟨V,N,C,D,h1.kept (hk.block _ h1.lt h5),h2.kept fun b hb hf=>hk.block b hb fun e=>hf (h6 b e),h3,h4,h8,fun e=>?_,fun b hb=>?_,fun κ hκ x hx=>?_⟩
 ·rcases hX gx e with h|h
  ·exact h5 h
  ·have:=h1.lt;omega
 ·rcases hX b hb with h|h
  ·exact h6 b h
  ·exact fun κ hκ e=>by have:=(h2.lt hκ e).2;omega
 ·refine((h7 κ hκ x hx).kept fun b hb=>hk.block b hb.1 hb.2.2.2).weak fun b hb=>⟨Nat.lt_of_lt_of_le hb.1 hk.size,hb.2.1,hb.2.2.1,fun e=>?_⟩
  rcases hX b e with h|h
  ·exact hb.2.2.2 h
  ·have:=hb.1;omega
def CycR (st:Cy) (lo:Nat) (v:Value) (W:World):Prop:=∃V N C D,v=.agg #[V 0,V 1,V 2,V 3,V 4]∧CyR W lo st V N C D
theorem CycR.five {st:Cy} {lo:Nat} {v:Value} {W:World} (h:CycR st lo v W):∃y0 y1 y2 y3 y4 m0 m1 m2 m3 m4 j0 j1 j2 j3 j4,v=.agg #[.slice y0 m0 j0,.slice y1 m1 j1,.slice y2 m2 j2,.slice y3 m3 j3,.slice y4 m4 j4]:=by
 obtain⟨V,N,C,D,rfl,hr⟩:=h;obtain⟨A,n,K,e0,e1,e2,e3,e4⟩:=hr.raw.sl;exact⟨_,_,_,_,_,_,_,_,_,_,_,_,_,_,_,by rw[e0,e1,e2,e3,e4]⟩
theorem cyc_store {st : Cy} {wo W W0 : World} {zero : List Value} {kc ka ks lo g : Nat} {x y z v0 v1 v2 v3 v4 y0 y1 y2 y3 y4 : Value} (hxy : x = tg (ka, ptr g) ∨ y = tg (ka, ptr g)) (hw : Below wo.heap.size wo W) (hy : Yl (CycR st) wo lo (.agg #[y0, y1, y2, y3, y4]) W0 W) (hg : wo.heap.size ≤ g) (hs : g < lo ∨ W0.heap.size ≤ g) (hx : Bx W g [v0, v1, v2, v3, v4]) :
  boxC (CycR st) wo zero kc ka ks [x,y,z] (((((W.setCell ⟨g,0,none⟩ y0).setCell ⟨g,1,none⟩ y1).setCell ⟨g,2,none⟩ y2).setCell ⟨g,3,none⟩ y3).setCell ⟨g,4,none⟩ y4) :=
 boxC_store hxy hw hy hg hs (fun b hne=>zK3 b hne) (by simp) (((((((Below.refl _ _).setCell (p:=⟨g,_,none⟩) hg _).setCell (p:=⟨g,_,none⟩) hg _).setCell (p:=⟨g,_,none⟩) hg _).setCell (p:=⟨g,_,none⟩) hg _).setCell (p:=⟨g,_,none⟩) hg _)) (hx.put5 _ _ _ _ _)
theorem cyc_done {st:Cy} {wo W:World} {p:Value} {gs:Nat} {X:Nat→Prop} (hgs:gs<wo.heap.size) (hX:∀b,X b→b<wo.heap.size) (h:Below wo.heap.size wo W∧∃cs lo W0 g,p=ptr g∧Yl (CycR st) wo lo (.agg ⟨cs⟩) W0 W∧wo.heap.size≤g∧Bx W g cs∧(g<lo∨W0.heap.size≤g)):Below wo.heap.size wo W∧∃g,p=.pointer (some ⟨g,0,none⟩)∧wo.heap.size≤g∧CyX2 W g gs X st:=by
 obtain⟨hb,cs,lo,W0,g,rfl,hy,hg,hx,hs⟩:=h;obtain⟨V,N,C,D,e,hr⟩:=hy.r;simp only[Value.agg.injEq,Array.mk.injEq]at e;subst e;have hl:=hy.lo0;have hz:=hy.sz;have hr2:Raw W lo V N C:=⟨fun κ hκ=>(hr.raw.own κ hκ).kept fun k hk2=>hy.eq k (hr.raw.lt hκ hk2).1 (hr.raw.lt hκ hk2).2,hr.raw.ap⟩
 refine⟨hb,g,rfl,hg,V,N,C,D,hx,raw_zero hr2,hr.con,fun κ hκ e=>?_,fun κ hκ e=>?_,fun e=>?_,fun b hb2 κ hκ e=>?_,fun κ hκ x hx2=>?_⟩
 ·have h1:=hr.raw.lt hκ e;omega
 ·have h1:=hr.raw.lt hκ e;omega
 ·have:=hX g e;omega
 ·have h1:=hr.raw.lt hκ e;have:=hX b hb2;omega
 ·refine((hr.dat κ hκ x hx2).kept fun b hb2=>hy.eq b hb2.1 hb2.2.1).weak fun b hb2=>⟨by omega,by have:=hb2.1;have:=hb2.2.1;omega,by have:=hb2.1;omega,fun e=>by have:=hX b e;have:=hb2.1;omega⟩
theorem CyX2.move {w:World} {gx gs:Nat} {X:Nat→Prop} {st:Cy} (h:CyX2 w gx gs X st) {a b c d e a' b' c' d' e':Value} (hs:Bx w gs [a,b,c,d,e]) (hx:Bx w gx [a', b', c', d', e']) (hn:¬X gs):CyBoxX (((((w.setCell ⟨gs,0,none⟩ a').setCell ⟨gs,1,none⟩ b').setCell ⟨gs,2,none⟩ c').setCell ⟨gs,3,none⟩ d').setCell ⟨gs,4,none⟩ e') gs X st:=by
 obtain⟨V,N,C,D,h1,h2,h3,h4,h8,h5,h6,h7⟩:=h;have e0:a' = V 0:=Option.some.inj ((hx.c 0 (by simp)).symm.trans (h1.c 0 (by simp)));have e1:b' = V 1:=Option.some.inj ((hx.c 1 (by simp)).symm.trans (h1.c 1 (by simp)));have e2:c' = V 2:=Option.some.inj ((hx.c 2 (by simp)).symm.trans (h1.c 2 (by simp)));have e3:d' = V 3:=Option.some.inj ((hx.c 3 (by simp)).symm.trans (h1.c 3 (by simp)));have e4:e' = V 4:=Option.some.inj ((hx.c 4 (by simp)).symm.trans (h1.c 4 (by simp)));subst e0 e1 e2 e3 e4;exact⟨V,N,C,D,hs.put5 _ _ _ _ _,h2.kept fun b _ hb2=>zK3 b fun e=>hb2 (e▸h8),h3,h8,hn,h6,fun κ hκ x hx2=>((h7 κ hκ x hx2).kept fun b hb2=>zK3 b hb2.2.2.1).weak fun b hb2=>⟨by simp only[World.size_setCell];exact hb2.1,hb2.2.2.1,hb2.2.2.2⟩⟩
def lineQ (st st' : Cy) : Nat → Nat → List (Nat × Nat)
 |0,_=>[]
 |k+1,s=>lineQ st st' k s++pick k s (lineL st st' k)
theorem lineQ_three (st st':Cy) (s:Nat):lineQ st st' 3 s=lineN st st' s:=by simp[lineQ,lineN]
def isNew (st:Cy) (w:Nat) (o:Jb):Bool:=!(st.ports w).out.any fun p=>p.n==o.n
def lineR (st st':Cy) (k j s:Nat):List (Nat×Nat):=lineQ st st' k s++pick k s (((st'.ports k).out.take j).filter (isNew st k))
theorem lineR_zero (st st':Cy) (k s:Nat):lineR st st' k 0 s=lineQ st st' k s:=by simp[lineR,pick]
theorem lineR_full (st st':Cy) (k s:Nat):lineR st st' k (st'.ports k).out.length s=lineQ st st' (k+1) s:=by
 show _=lineQ st st' k s++pick k s (lineL st st' k);unfold lineR lineL;rw[List.take_length];rfl
theorem lineR_next (st st':Cy) {k j s:Nat} {o:Jb} (ho:(st'.ports k).out[j]? = some o):lineR st st' k (j+1) s=lineR st st' k j s++(if isNew st k o=true∧o.left=s then[(k,o.n)] else[]):=by
 unfold lineR;rw[List.take_add_one,ho,Option.toList_some,List.filter_append,pick_app,List.append_assoc]
 congr 1
 congr 1
 unfold pick;by_cases h1:isNew st k o=true
 ·rw[List.filter_cons_of_pos h1,List.filter_nil];by_cases h2:o.left=s
  ·simp[h1,h2]
  ·simp[h1,h2]
 ·rw[List.filter_cons_of_neg h1,List.filter_nil,if_neg (fun h=>h1 h.1)];rfl
def lnE (x:Nat×Nat):Ev:=⟨2,x.1,x.2⟩
theorem elem_evT:Elem 54 66 3 24:=elem_TlmEvent
theorem zI7 (x:Bool):(rowB x).length=1:=rfl
theorem Owns.cellB {w:World} {base e g n c:Nat} {xs:List Bool} (h:Owns w base e 1 rowB (.slice (some ⟨g,0,none⟩) n c) xs) (k:Nat) (hk:k<xs.length):w.cell? ⟨g,k,none⟩=some (.bool (xs.getD k false)):=by
 have:=h.cellAt zI7 k 0 false hk (by omega);simpa[rowB]using this
theorem Owns.putB {w:World} {base e g n c:Nat} {xs:List Bool} (h:Owns w base e 1 rowB (.slice (some ⟨g,0,none⟩) n c) xs) (k:Nat) (hk:k<xs.length) (x:Bool):Owns (w.setCell ⟨g,k,none⟩ (.bool x)) base e 1 rowB (.slice (some ⟨g,0,none⟩) n c) (xs.set k x):=by
 have:=h.putRow zI7 k 0 false x (.bool x) hk (by omega) (by simp[rowB]);simpa using this
theorem Bx.touch {w w':World} {r g:Nat} {cs:List Value} (h:Bx w g cs) (ht:Touch r w w') (hn:g≠r):Bx w' g cs:=h.kept (ht.block g h.lt hn)
theorem Bx.setc {w:World} {g:Nat} {cs:List Value} (h:Bx w g cs) (b o:Nat) (u:Value) (hn:g≠b):Bx (w.setCell ⟨b,o,none⟩ u) g cs:=h.kept (Below.heap_setCell _ _ _ _ hn)
theorem loadVar_in (w:World) (g:Nat) (a b c:Value) (h0:w.cell? ⟨g,0,none⟩=some a) (h1:w.cell? ⟨g,1,none⟩=some b) (h2:w.cell? ⟨g,2,none⟩=some c):(loadVar 64 ⟨g,0,none⟩).run Tryz.prog w=.ok (.agg #[a,b,c]) w:=by
 simp[loadVar,go_sem,h0,h1,h2]
abbrev T3:List Bool:=[true,true,true]
abbrev F4:List Bool:=[false,false,false,false]
structure InO (w:World) (lo g1 g2 g3:Nat) (xs zs ys:List Bool):Prop where
 o1:Owns w lo 4 1 rowB (.slice (some ⟨g1,0,none⟩) 3 3) xs
 o2:Owns w lo 4 1 rowB (.slice (some ⟨g2,0,none⟩) 4 4) zs
 o3:Owns w lo 4 1 rowB (.slice (some ⟨g3,0,none⟩) 3 3) ys
 l1:xs.length=3
 l2:zs.length=4
 l3:ys.length=3
 n12:g1<g2
 n23:g2<g3
theorem InO.kept {w w':World} {lo g1 g2 g3:Nat} {xs zs ys:List Bool} (h:InO w lo g1 g2 g3 xs zs ys) (hk:∀k,lo≤k→k<w.heap.size→w'.heap[k]? = w.heap[k]?):InO w' lo g1 g2 g3 xs zs ys :=
 ⟨OwnR.kept h.o1 fun k hk2=>hk k (OwnR.lt h.o1 k hk2).1 (OwnR.lt h.o1 k hk2).2,OwnR.kept h.o2 fun k hk2=>hk k (OwnR.lt h.o2 k hk2).1 (OwnR.lt h.o2 k hk2).2,OwnR.kept h.o3 fun k hk2=>hk k (OwnR.lt h.o3 k hk2).1 (OwnR.lt h.o3 k hk2).2,h.l1,h.l2,h.l3,h.n12,h.n23⟩
theorem InO.lt {w:World} {lo g1 g2 g3:Nat} {xs zs ys:List Bool} (h:InO w lo g1 g2 g3 xs zs ys):lo≤g1∧g1<g2∧g2<g3∧g3<w.heap.size:=⟨(OwnR.lt h.o1 g1 rfl).1,h.n12,h.n23,(OwnR.lt h.o3 g3 rfl).2⟩
theorem InO.put1 {w:World} {lo g1 g2 g3:Nat} {xs zs ys:List Bool} (h:InO w lo g1 g2 g3 xs zs ys) (k:Nat) (hk:k<3) (b:Bool):InO (w.setCell ⟨g1,k,none⟩ (.bool b)) lo g1 g2 g3 (xs.set k b) zs ys :=
 ⟨h.o1.putB k (by rw[h.l1];exact hk) b,h.o2.set' g1 k _ (fun j hj=>by have:=h.n12;simp[Value.ownBlock]at hj;omega),h.o3.set' g1 k _ (fun j hj=>by have:=h.n12;have:=h.n23;simp[Value.ownBlock]at hj;omega),by simp[h.l1],h.l2,h.l3,h.n12,h.n23⟩
theorem InO.put2 {w:World} {lo g1 g2 g3:Nat} {xs zs ys:List Bool} (h:InO w lo g1 g2 g3 xs zs ys) (k:Nat) (hk:k<4) (b:Bool):InO (w.setCell ⟨g2,k,none⟩ (.bool b)) lo g1 g2 g3 xs (zs.set k b) ys :=
 ⟨h.o1.set' g2 k _ (fun j hj=>by have:=h.n12;simp[Value.ownBlock]at hj;omega),h.o2.putB k (by rw[h.l2];exact hk) b,h.o3.set' g2 k _ (fun j hj=>by have:=h.n23;simp[Value.ownBlock]at hj;omega),h.l1,by simp[h.l2],h.l3,h.n12,h.n23⟩
theorem InO.put3 {w:World} {lo g1 g2 g3:Nat} {xs zs ys:List Bool} (h:InO w lo g1 g2 g3 xs zs ys) (k:Nat) (hk:k<3) (b:Bool):InO (w.setCell ⟨g3,k,none⟩ (.bool b)) lo g1 g2 g3 xs zs (ys.set k b) :=
 ⟨h.o1.set' g3 k _ (fun j hj=>by have:=h.n12;have:=h.n23;simp[Value.ownBlock]at hj;omega),h.o2.set' g3 k _ (fun j hj=>by have:=h.n23;simp[Value.ownBlock]at hj;omega),h.o3.putB k (by rw[h.l3];exact hk) b,h.l1,h.l2,by simp[h.l3],h.n12,h.n23⟩
theorem InO.boxed {w w':World} {lo g1 g2 g3:Nat} {xs zs ys:List Bool} (h:InO w lo g1 g2 g3 xs zs ys) {b:Nat} (hk:∀k,k≠b→w'.heap[k]? = w.heap[k]?) (hb:b<g1):InO w' lo g1 g2 g3 xs zs ys:=by
 have h1:=h.n12;have h2:=h.n23;exact⟨OwnR.kept h.o1 fun k hk2=>hk k (by simp[Value.ownBlock]at hk2;omega),OwnR.kept h.o2 fun k hk2=>hk k (by simp[Value.ownBlock]at hk2;omega),OwnR.kept h.o3 fun k hk2=>hk k (by simp[Value.ownBlock]at hk2;omega),h.l1,h.l2,h.l3,h.n12,h.n23⟩
def InAllP (w:World) (e:Ending) (w':World):Prop:=∃g1 g2 g3,e=.returned (.agg #[.slice (some ⟨g1,0,none⟩) 3 3,.slice (some ⟨g2,0,none⟩) 4 4,.slice (some ⟨g3,0,none⟩) 3 3])∧InO w' w.heap.size g1 g2 g3 T3 F4 T3∧Below w.heap.size w w'
theorem inAll_any (w:World):Calls Tryz.prog 150 #[] w (InAllP w):=by
 go_enter Tryz.func150,Tryz.ntmps150
 go_wp2_with fail
 refine bodyPost_ret (zA5 Tryz.results150 _ _ ⟨w.heap.size,0,none⟩ (.agg #[.slice (some ⟨w.heap.size+1,0,none⟩) 3 3,.slice (some ⟨w.heap.size+1+1,0,none⟩) 4 4,.slice (some ⟨w.heap.size+1+1+1,0,none⟩) 3 3]) rfl (loadVar_in _ _ _ _ _ (by simp[go_sem]) (by simp[go_sem]) (by simp[go_sem]))) rfl ⟨_,_,_,rfl,⟨?_,?_,?_,rfl,rfl,rfl,by omega,by omega⟩,?_⟩
 ·have:=((Owns.litOf (w:=w.alloc (.cells #[.slice (some ⟨w.heap.size+1,0,none⟩) 3 3,.slice (some ⟨w.heap.size+1+1,0,none⟩) 4 4,.slice (some ⟨w.heap.size+1+1+1,0,none⟩) 3 3] 64)) (base:=w.heap.size) (e:=4) (f:=rowB) T3 #[.bool true,.bool true,.bool true] (by simp) zI7 rfl (by unfold maxLen;simp)).allocd (.cells #[.bool false,.bool false,.bool false,.bool false] 4)).allocd (.cells #[.bool true,.bool true,.bool true] 4);simpa using this
 ·have:=(Owns.litOf (w:=(w.alloc (.cells #[.slice (some ⟨w.heap.size+1,0,none⟩) 3 3,.slice (some ⟨w.heap.size+1+1,0,none⟩) 4 4,.slice (some ⟨w.heap.size+1+1+1,0,none⟩) 3 3] 64)).alloc (.cells #[.bool true,.bool true,.bool true] 4)) (base:=w.heap.size) (e:=4) (f:=rowB) F4 #[.bool false,.bool false,.bool false,.bool false] (by simp;omega) zI7 rfl (by unfold maxLen;simp)).allocd (.cells #[.bool true,.bool true,.bool true] 4);simpa using this
 ·have:=Owns.litOf (w:=((w.alloc (.cells #[.slice (some ⟨w.heap.size+1,0,none⟩) 3 3,.slice (some ⟨w.heap.size+1+1,0,none⟩) 4 4,.slice (some ⟨w.heap.size+1+1+1,0,none⟩) 3 3] 64)).alloc (.cells #[.bool true,.bool true,.bool true] 4)).alloc (.cells #[.bool false,.bool false,.bool false,.bool false] 4)) (base:=w.heap.size) (e:=4) (f:=rowB) T3 #[.bool true,.bool true,.bool true] (by simp;omega) zI7 rfl (by unfold maxLen;simp);simpa using this
 ·exact((((Below.refl _ _).alloc (Nat.le_refl _) _).alloc (by simp) _).alloc (by simp;omega) _).alloc (by simp;omega) _
def InDr (r B:Nat) (bs:List Nat) (p:Nat) (w:World) (e:Ending) (w':World):Prop :=
 ∃g1 g2 g3 xs zs ys q,e=.returned (.agg #[.slice (some ⟨g1,0,none⟩) 3 3,.slice (some ⟨g2,0,none⟩) 4 4,.slice (some ⟨g3,0,none⟩) 3 3])∧InO w' w.heap.size g1 g2 g3 xs zs ys∧q≤p+10∧RdAt w' r B bs q∧Touch r w w'
set_option maxRecDepth 4000 in
theorem l20In_any (r B : Nat) (bs : List Nat) (p : Nat) (n : Int) (w : World) (h : RdAt w r B bs p) (hp : p ≤ 900000000) (h1 : 1 ≤ n) (hn : n ≤ 1099511627776) :
  Calls Tryz.prog 105 #[.pointer (some ⟨r,0,none⟩),.int .i64 n] w (InDr r B bs p w):=by
 have hrw:=h.lt;have HR0:=hid h;clear h
 go_enter Tryz.func105,Tryz.ntmps105
 go_upto_region 2 with(go_at_call 150;(with_reducible refine(inAll_any _).mono ?_);rintro e w1 ⟨g1,g2,g3,rfl,ho,hb⟩;have HO1:=hid ho;have HB1:=hid hb;clear ho hb)
 obtain⟨w2,hw2⟩:∃W,W=w1.alloc (.cells #[.slice (some ⟨g1,0,none⟩) 3 3,.slice (some ⟨g2,0,none⟩) 4 4,.slice (some ⟨g3,0,none⟩) 3 3] 64):=⟨_,rfl⟩
 obtain⟨gi,hgi⟩:∃g,g=w1.heap.size:=⟨_,rfl⟩
 rw[←hw2,←hgi];have hb2:Below w1.heap.size w1 w2:=by rw[hw2];exact(Below.refl _ _).alloc (Nat.le_refl _) _
 have hb01:Below w.heap.size w w1:=((Below.refl _ _).alloc (Nat.le_refl _) _).trans (HB1.out.mono (by simp));have HLO:=hid HO1.out.lt;have HX:=hid (show Bx w2 gi [.slice (some ⟨g1,0,none⟩) 3 3,.slice (some ⟨g2,0,none⟩) 4 4,.slice (some ⟨g3,0,none⟩) 3 3] by rw[hw2,hgi];exact Bx.new w1 #[.slice (some ⟨g1,0,none⟩) 3 3,.slice (some ⟨g2,0,none⟩) 4 4,.slice (some ⟨g3,0,none⟩) 3 3] 64 (by simp));have HY:=hid (show Bx w2 w.heap.size [vnil,vnil,vnil] from((Bx.new w #[vnil,vnil,vnil] 64 (by simp)).below HB1.out (by simp)).below hb2 (by have:=HB1.out.size;simp at this;omega));have HO2:=hid (HO1.out.kept (w':=w2) fun k _ hk=>hb2.block k hk);have HT2:=hid (show Touch r w w2 from(Touch.of_below hb01 (Nat.le_refl _)).trans (Touch.of_below hb2 (Nat.le_refl _)));have HR2:=hid ((HR0.out.kept hb01 hrw).kept hb2 (by have:=hb01.size;omega));have h0lo:=HO1.out.lt;simp only[World.size_alloc]at h0lo;have hn1:g1<gi:=by omega
 have hn3:g3<gi:=by omega
 have hgr1:w.heap.size<g1:=by omega
 obtain⟨_,h12,h23,_⟩:=h0lo;have hg10:g1≠w.heap.size:=by omega
 have hSZ:=hid (show w.heap.size≤(w.alloc (.cells #[vnil,vnil,vnil] 64)).heap.size by simp);clear hw2 hgi hb2 hb01
 go_wp2_with fail
 go_loopw [6] (fun i wr=>∃(k q:Nat) (xs ys:List Bool),i=.int .i64 (k:Nat)∧k≤3∧q≤p+2 * k∧RdAt wr r B bs q∧InO wr w.heap.size g1 g2 g3 xs F4 ys∧Touch r w wr∧Bx wr gi [.slice (some ⟨g1,0,none⟩) 3 3,.slice (some ⟨g2,0,none⟩) 4 4,.slice (some ⟨g3,0,none⟩) 3 3]∧Bx wr w.heap.size [vnil,vnil,vnil]) (fun i _=>3 - (intOf i).toNat)
 case atStart=>exact⟨0,p,T3,T3,by go_num,by omega,by omega,HR2.out,⟨HO2.out.o1.rebase hSZ.out,HO2.out.o2.rebase hSZ.out,HO2.out.o3.rebase hSZ.out,HO2.out.l1,HO2.out.l2,HO2.out.l3,HO2.out.n12,HO2.out.n23⟩,HT2.out,HX.out,HY.out⟩
 case round=>
  clear HX HY HO2 HT2 HR2;obtain⟨k,q,xs,ys,rfl,hk,hq,hrd,ho,ht,hx,hy⟩:=hrel;have HO:=hid ho;have HT:=hid ht;have HX:=hid hx;have HY:=hid hy;have HRD:=hid hrd;have h3l:=ho.lt.2.2.2;have hxl:=hx.lt;clear ho ht hx hy hrd;by_cases hlt:k<3
  ·have hki:(k:Int)<3:=by omega
   obtain⟨x0,x1,x2⟩:=HX.out.three.1
   go_upto_region 5 with fail
   go_region_held3 (fun w' => w'.cell? ⟨gi, 0, none⟩ = some (.slice (some ⟨g1, 0, none⟩) 3 3)) (first | exact z1 | (rw [World.cell?_setCell_far _ _ _ _ (by show g1 ≠ gi; omega)]; exact z1) | go_keep)
    (first|(go_at_call 103;(with_reducible refine(zB6 r B bs q n _ HRD.out.drewd (by omega) h1 hn).mono ?_);rintro e w4 ⟨y,rfl,hy0,hy1,h4,ht4⟩;have HT4:=hid (show Touch r wr w4 from(Touch.refl r wr).drewd.trans ht4);have HX4:=hid (HX.out.touch HT4.out (by omega));have z1:=HX4.out.three.1.1;have HO4:=hid (HO.out.kept (w':=w4) fun k h1 h2=>HT4.out.block k h2 (by omega));have zc:=HO4.out.o1.cellB k (by rw[HO4.out.l1];omega);have zf:=HO4.out.o1.frozenAt k;have HY4:=hid (HY.out.touch HT4.out (by omega));have HRD4:=hid h4;clear h4 ht4))
   clear z1 zc zf x0 x1 x2
   go_upto_region 6 with fail
   obtain⟨w5,hw5⟩:∃W,W=w4.setCell ⟨g1,k,none⟩ (.bool (decide (0<y))):=⟨_,rfl⟩
   rw[←hw5];have HO5:=hid (show InO w5 w.heap.size g1 g2 g3 (xs.set k (decide (0<y))) F4 ys by rw[hw5];exact HO4.out.put1 k hlt _);have HX5:=hid (show Bx w5 gi _ by rw[hw5];exact HX4.out.setc g1 k _ (by omega));have HY5:=hid (show Bx w5 w.heap.size _ by rw[hw5];exact HY4.out.setc g1 k _ (by omega));have HRD5:=hid (show RdAt w5 r B bs (q+1) by rw[hw5];exact HRD4.out.setNew hrw (by omega) k _);have HT5:=hid (show Touch r w w5 by rw[hw5];exact(HT.out.trans HT4.out).setNew (by omega) _);have hxl5:=HX5.out.lt;have h3l5:=HO5.out.lt.2.2.2;clear hw5;obtain⟨x0,x1,x2⟩:=HX5.out.three.1
   go_region_held3 (fun w' => w'.cell? ⟨gi, 2, none⟩ = some (.slice (some ⟨g3, 0, none⟩) 3 3)) (first | exact z1 | (rw [World.cell?_setCell_far _ _ _ _ (by show g3 ≠ gi; omega)]; exact z1) | go_keep)
    (first|(go_at_call 103;(with_reducible refine(zB6 r B bs (q+1) n _ HRD5.out.drewd (by omega) h1 hn).mono ?_);rintro e w6 ⟨y2,rfl,hy20,hy21,h6,ht6⟩;have HT6:=hid (show Touch r w5 w6 from(Touch.refl r w5).drewd.trans ht6);have HX6:=hid (HX5.out.touch HT6.out (by omega));have z1:=HX6.out.three.1.2.2;have HO6:=hid (HO5.out.kept (w':=w6) fun k h1 h2=>HT6.out.block k h2 (by omega));have zc:=HO6.out.o3.cellB k (by rw[HO6.out.l3];omega);have zf:=HO6.out.o3.frozenAt k;have HY6:=hid (HY5.out.touch HT6.out (by omega));have HRD6:=hid h6;clear h6 ht6))
   clear z1 zc zf x0 x1 x2
   go_wp2_with fail
   go_roundw
   case rel=>exact⟨k+1,q+1+1,_,ys.set k (decide (0<y2)),by go_num,by omega,by omega,HRD6.out.setNew hrw (by omega) k _,HO6.out.put3 k hlt _,(HT5.out.trans HT6.out).setNew (by omega) _,HX6.out.setc g3 k _ (by omega),HY6.out.setc g3 k _ (by omega)⟩
   case measure=>simp[intOf];omega
  ·obtain rfl:k=3:=by omega
   have hq:q≤p+6:=by omega
   rw[show(((3:Nat)):Int)=(3:Int) from rfl]
   go_wp2_with fail
   go_loopw [7] (fun i wr=>∃(k q:Nat) (zs:List Bool),i=.int .i64 (k:Nat)∧k≤4∧q≤p+6+k∧RdAt wr r B bs q∧InO wr w.heap.size g1 g2 g3 xs zs ys∧Touch r w wr∧Bx wr gi [.slice (some ⟨g1,0,none⟩) 3 3,.slice (some ⟨g2,0,none⟩) 4 4,.slice (some ⟨g3,0,none⟩) 3 3]∧Bx wr w.heap.size [vnil,vnil,vnil]) (fun i _=>4 - (intOf i).toNat)
   case atStart=>exact⟨0,q,F4,by go_num,by omega,by omega,HRD.out,HO.out,HT.out,HX.out,HY.out⟩
   case round=>
    clear HX HY HO HT HRD hq hxl h3l;obtain⟨k,q,zs,rfl,hk,hq,hrd,ho,ht,hx,hy⟩:=hrel;have HO:=hid ho;have HT:=hid ht;have HX:=hid hx;have HY:=hid hy;have HRD:=hid hrd;have h3l:=ho.lt.2.2.2;have hxl:=hx.lt;clear ho ht hx hy hrd;by_cases hlt:k<4
    ·have hki:(k:Int)≤3:=by omega
     have hki4:(k:Int)<4:=by omega
     obtain⟨x0,x1,x2⟩:=HX.out.three.1
     go_upto_region 10 with fail
     go_region_held3 (fun w' => w'.cell? ⟨gi, 1, none⟩ = some (.slice (some ⟨g2, 0, none⟩) 4 4)) (first | exact z1 | (rw [World.cell?_setCell_far _ _ _ _ (by show g2 ≠ gi; omega)]; exact z1) | go_keep)
      (first|(go_at_call 103;(with_reducible refine(zB6 r B bs q n _ HRD.out.drewd (by omega) h1 hn).mono ?_);rintro e w4 ⟨y,rfl,hy0,hy1,h4,ht4⟩;have HT4:=hid (show Touch r wr w4 from(Touch.refl r wr).drewd.trans ht4);have HX4:=hid (HX.out.touch HT4.out (by omega));have z1:=HX4.out.three.1.2.1;have HO4:=hid (HO.out.kept (w':=w4) fun k h1 h2=>HT4.out.block k h2 (by omega));have zc:=HO4.out.o2.cellB k (by rw[HO4.out.l2];omega);have zf:=HO4.out.o2.frozenAt k;have HY4:=hid (HY.out.touch HT4.out (by omega));have HRD4:=hid h4;clear h4 ht4))
     clear z1 zc zf x0 x1 x2
     go_wp2_with fail
     go_roundw
     case rel=>exact⟨k+1,q+1,zs.set k (y==0),by go_num,by omega,by omega,HRD4.out.setNew hrw (by omega) k _,HO4.out.put2 k hlt _,(HT.out.trans HT4.out).setNew (by omega) _,HX4.out.setc g2 k _ (by omega),HY4.out.setc g2 k _ (by omega)⟩
     case measure=>simp[intOf];omega
    ·obtain rfl:k=4:=by omega
     obtain⟨x0,x1,x2⟩:=HX.out.three.1;obtain⟨⟨y0,y1,y2⟩,f0,f1,f2⟩:=HY.out.three;have hyl:=HY.out.lt
     go_wp2_with fail
     refine bodyPost_ret (zA5 Tryz.results105 _ _ ⟨w.heap.size,0,none⟩ (.agg #[.slice (some ⟨g1,0,none⟩) 3 3,.slice (some ⟨g2,0,none⟩) 4 4,.slice (some ⟨g3,0,none⟩) 3 3]) rfl (loadVar_in _ _ _ _ _ (by simp[go_sem, *]) (by simp[go_sem, *]) (by simp[go_sem, *]))) rfl ⟨_,_,_,xs,zs,ys,q,rfl,?_,by omega,?_,?_⟩
     ·refine HO.out.boxed (b:=w.heap.size) (fun k hk=>?_) (by omega);rw[Below.heap_setCell _ _ _ _ (by exact hk),Below.heap_setCell _ _ _ _ (by exact hk),Below.heap_setCell _ _ _ _ (by exact hk)]
     ·exact((HRD.out.setNew hrw (Nat.le_refl _) _ _).setNew hrw (Nat.le_refl _) _ _).setNew hrw (Nat.le_refl _) _ _
     ·exact((HT.out.setNew (Nat.le_refl _) _).setNew (Nat.le_refl _) _).setNew (Nat.le_refl _) _
end Go.Proofs.YthnlalffjepdaaaGreat
