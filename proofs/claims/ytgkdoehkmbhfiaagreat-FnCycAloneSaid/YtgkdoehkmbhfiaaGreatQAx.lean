/- A store of what is asked into a row of its list. -/
import Derived.Test.YtgkdoehkmbhfiaaGreatQDp1
import Derived.Test.YtgkdoehkmbhfiaaGreatQDo4
import Derived.Test.YtgkdoehkmbhfiaaGreatQDr7
import Derived.Test.YtgkdoehkmbhfiaaGreatQFl
import Derived.Test.YtgkdoehkmbhfiaaGreatQLib
import Derived.Test.YtgkdoehkmbhfiaaGreatQDl
set_option linter.unusedVariables false
set_option linter.unusedSimpArgs false
set_option maxHeartbeats 16000000
namespace Go.Proofs.YtgkdoehkmbhfiaaGreat
section
variable {ms : List MR} {ws hs : List Int} {who other : Int} {r q : Rq}
def Indep (ms:List MR) (r q:Rq):Prop:=r.id≠q.id∧zH7 ms r≠zH7 ms q
theorem Indep.symm (h:Indep ms r q):Indep ms q r:=⟨Ne.symm h.1,Ne.symm h.2⟩
theorem far_of (h:zH7 ms r≠zH7 ms q) (h1:0≤zA5 ms (zA4 r)) (h2:0≤zA5 ms (zA4 q)):Far (zA4 r) (zA4 q):=by
 intro x hx hy;have e1:=((wholeOf_iff h1).1 rfl).2 x hx;have e2:=((wholeOf_iff h2).1 rfl).2 x hy;have e:zA5 ms (zA4 r)=zA5 ms (zA4 q):=e1.symm.trans e2;apply h;unfold zH7;rw[e]
theorem doesW_far2 (hl : hs.length = 6) (ho : 0 ≤ other ∧ other ≤ 2) (hsp : (who * 2 + r.id).toNat ≠ (other * 2 + q.id).toNat) (hq : reqOk q = true) (hf : Far (zA4 r) (zA4 q)) :
  doesW ms (newH ms hs who r) other q=doesW ms hs other q:=by
 unfold doesW;by_cases hk:q.kind=4
 ·have hb:=burst_one hq (.inr hk);have hqa:q.addr ∉ zA4 r:=hf.symm _ (by rw[hb];simp);have hq0:0≤q.addr:=((zI4 _ _ _).1 (adr_of hq)).1;have hi:=id_of hq;have e:((newH ms hs who r).getD (other * 2+q.id).toNat 0==q.addr)=(hs.getD (other * 2+q.id).toNat 0==q.addr):=by
   unfold newH
   split
   ·rw[freeAll_get (by omega),freeOne_far hqa hq0]
   ·split
    ·rw[lget_set_ne hsp]
    ·rfl
  rw[e]
 ·have:(q.kind==4)=false:=by simpa using hk
  simp[this]
theorem swap_half2 (hl : ws.length = 64) (hh : hs.length = 6) (hw : 0 ≤ who ∧ who ≤ 2) (ho : 0 ≤ other ∧ other ≤ 2) (hsp : (who * 2 + r.id).toNat ≠ (other * 2 + q.id).toNat) (hr : reqOk r = true) (hq : reqOk q = true) (hf : Far (zA4 r) (zA4 q)) :
  newW ms (newW ms ws hs who r) (newH ms hs who r) other q=newW ms (newW ms ws hs other q) (newH ms hs other q) who r ∧
  newH ms (newH ms hs who r) other q=newH ms (newH ms hs other q) who r ∧
  newC ms (doesW ms (newH ms hs who r) other q) q=newC ms (doesW ms hs other q) q ∧
  newD ms (newW ms ws hs who r) q=newD ms ws q:=by
 have e1:=doesW_far2 (ms:=ms) hh ho hsp hq hf;have e2:=doesW_far2 (ms:=ms) hh hw (Ne.symm hsp) hr hf.symm;have lens:∀{x:Rq} {wh:Int} {h:List Int},reqOk x=true→doesW ms h wh x=true→x.data.length=(zA4 x).length∧x.lanes.length=(zA4 x).length:=by
  intro x wh h hx hd;have:(x.kind==2 || x.kind==4)=true:=by
   simp only[doesW,Bool.and_eq_true,Bool.or_eq_true]at hd;simp only[Bool.or_eq_true];rcases hd.2 with h|h
   ·exact .inl h
   ·exact .inr h.1
  obtain⟨d1,d2,_⟩:=(zD2 hx).2.2.2.1 this;exact⟨d1,d2⟩
 have r1:∀x∈zA4 r,0≤x∧x.toNat<ws.length:=burst_rng (hl:=hl);have r2:∀x∈zA4 q,0≤x∧x.toNat<ws.length:=burst_rng (hl:=hl);refine⟨?_,?_,by rw[e1],?_⟩
 ·unfold newW;rw[e1,e2];rcases h1:doesW ms hs who r with _|_ <;> rcases h2:doesW ms hs other q with _|_ <;> simp only[if_true,if_false,Bool.false_eq_true]
  obtain⟨d1,d2⟩:=lens hr h1;obtain⟨d3,d4⟩:=lens hq h2;exact putAll_comm (burst_nodup _ _ _) (burst_nodup _ _ _) r1 r2 hf d1 d2 d3 d4
 ·have hk3:∀{x:Rq},reqOk x=true→doesH ms x=true→zA4 x=[x.addr]:=by
   intro x hx hd;simp only[doesH,Bool.and_eq_true,beq_iff_eq]at hd;exact burst_one hx (.inl hd.2)
  unfold newH at e1 e2 ⊢;rw[e1,e2];rcases h1:doesW ms hs who r with _|_ <;> rcases h2:doesW ms hs other q with _|_ <;> rcases h3:doesH ms r with _|_ <;> rcases h4:doesH ms q with _|_ <;> simp only[if_true,if_false,Bool.false_eq_true]
  ·exact List.set_comm _ _ hsp
  ·exact zM9 (hf _ (by rw[hk3 hr h3];simp))
  ·exact zM9 (hf _ (by rw[hk3 hr h3];simp))
  ·exact(zM9 (hf.symm _ (by rw[hk3 hq h4];simp))).symm
  ·exact(zM9 (hf.symm _ (by rw[hk3 hq h4];simp))).symm
  all_goals exact freeAll_comm _ _
 ·unfold newD newW
  split
  ·split
   ·exact getAll_far (fun x hx=>(r1 x hx).1) (fun x hx=>(r2 x hx).1) hf
   ·rfl
  ·rfl
theorem do_nowhere (h:zA5 ms (zA4 r)<0):doReq ms ws hs who r=(ws,hs,⟨r.id,4,[]⟩):=by unfold doReq;simp only[h,if_true]
theorem swap2 (ha : atmOk ws hs = true) (hw : 0 ≤ who ∧ who ≤ 2) (hr : reqOk r = true) (hq : reqOk q = true) (hi : Indep ms r q) :
  (doReq ms (doReq ms ws hs who r).1 (doReq ms ws hs who r).2.1 who q).1=(doReq ms (doReq ms ws hs who q).1 (doReq ms ws hs who q).2.1 who r).1 ∧
  (doReq ms (doReq ms ws hs who r).1 (doReq ms ws hs who r).2.1 who q).2.1=(doReq ms (doReq ms ws hs who q).1 (doReq ms ws hs who q).2.1 who r).2.1 ∧
  (doReq ms (doReq ms ws hs who r).1 (doReq ms ws hs who r).2.1 who q).2.2=(doReq ms ws hs who q).2.2 ∧
  (doReq ms (doReq ms ws hs who q).1 (doReq ms ws hs who q).2.1 who r).2.2=(doReq ms ws hs who r).2.2:=by
 by_cases h1:zA5 ms (zA4 r)<0
 ·rw[do_nowhere h1,do_nowhere h1];exact⟨rfl,rfl,rfl,rfl⟩
 ·by_cases h2:zA5 ms (zA4 q)<0
  ·rw[do_nowhere h2,do_nowhere h2];exact⟨rfl,rfl,rfl,rfl⟩
  ·have hf:=far_of hi.2 (by omega) (by omega);obtain⟨l1,l2,_⟩:=zJ9 ha;have i1:=id_of hr;have i2:=id_of hq;have hsp:(who * 2+r.id).toNat≠(who * 2+q.id).toNat:=by have:=hi.1;omega
   obtain⟨a1,a2,a3,a4⟩:=swap_half2 (ms:=ms) l1 l2 hw hw hsp hr hq hf;obtain⟨b1,b2,b3,b4⟩:=swap_half2 (ms:=ms) l1 l2 hw hw (Ne.symm hsp) hq hr hf.symm;rw[do_new (kind_of hr),do_new (kind_of hq)];simp only;rw[do_new (kind_of hq),do_new (kind_of hr)];simp only;exact⟨a1,a2,by rw[a3,a4],by rw[b3,b4]⟩
end
def execA (c : Cfg) (who : Nat) : List Nat → List Int → List Int → List Int × List Int × List (Nat × Rs)
 |[],ws,hs=>(ws,hs,[])
 | n :: l, ws, hs => ((execA c who l (doReq c.ms ws hs who (c.req who n)).1 (doReq c.ms ws hs who (c.req who n)).2.1).1, (execA c who l (doReq c.ms ws hs who (c.req who n)).1 (doReq c.ms ws hs who (c.req who n)).2.1).2.1,
   (n,(doReq c.ms ws hs who (c.req who n)).2.2)::(execA c who l (doReq c.ms ws hs who (c.req who n)).1 (doReq c.ms ws hs who (c.req who n)).2.1).2.2)
theorem zN2 (c : Cfg) (who : Nat) : ∀ (a b : List Nat) (ws hs : List Int), execA c who (a ++ b) ws hs =
  ((execA c who b (execA c who a ws hs).1 (execA c who a ws hs).2.1).1,(execA c who b (execA c who a ws hs).1 (execA c who a ws hs).2.1).2.1,(execA c who a ws hs).2.2++(execA c who b (execA c who a ws hs).1 (execA c who a ws hs).2.1).2.2)
 |[],b,ws,hs=>by simp[execA]
 |n::a,b,ws,hs=>by simp only[List.cons_append,execA,zN2 c who a b]
section
variable {c : Cfg} {who : Nat}
theorem inB_who (hw:who<3):inB (who:Int) 0 2=true:=by simp[inB];omega
theorem exec_ok (hb : Bus c) (hw : who < 3) : ∀ (l : List Nat) (ws hs : List Int), atmOk ws hs = true → (∀ n ∈ l, n < (c.prog who).length) → atmOk (execA c who l ws hs).1 (execA c who l ws hs).2.1 = true
 |[],_,_,h,_=>h
 |n::l,ws,hs,h,hn=>exec_ok hb hw l _ _ (doReq_ok (inB_who hw) (hb.req hw (hn n (by simp))) h) fun m hm=>hn m (List.mem_cons_of_mem _ hm)
theorem exec_move (hb : Bus c) (hw : who < 3) {n : Nat} (hn : n < (c.prog who).length) : ∀ (l : List Nat) (ws hs : List Int), atmOk ws hs = true → (∀ k ∈ l, k < (c.prog who).length ∧ Indep c.ms (c.req who n) (c.req who k)) →
  (execA c who (n::l) ws hs).1=(execA c who (l++[n]) ws hs).1∧(execA c who (n::l) ws hs).2.1=(execA c who (l++[n]) ws hs).2.1∧∀p,p∈(execA c who (n::l) ws hs).2.2↔p∈(execA c who (l++[n]) ws hs).2.2
 |[],_,_,_,_=>⟨rfl,rfl,fun _=>Iff.rfl⟩
 |k::l,ws,hs,h,hk=>by
  obtain⟨h1,h2⟩:=hk k (by simp);have hrn:=hb.req hw hn;have hrk:=hb.req hw h1;obtain⟨s1,s2,s3,s4⟩:=swap2 (who:=(who:Int)) h (by omega) hrn hrk h2;obtain⟨i1,i2,i3⟩:=exec_move hb hw hn l (doReq c.ms ws hs who (c.req who k)).1 (doReq c.ms ws hs who (c.req who k)).2.1 (doReq_ok (inB_who hw) hrk h) fun m hm=>hk m (List.mem_cons_of_mem _ hm)
  have e : execA c who (k :: l ++ [n]) ws hs = ((execA c who (l ++ [n]) (doReq c.ms ws hs who (c.req who k)).1 (doReq c.ms ws hs who (c.req who k)).2.1).1, (execA c who (l ++ [n]) (doReq c.ms ws hs who (c.req who k)).1 (doReq c.ms ws hs who (c.req who k)).2.1).2.1,
    (k,(doReq c.ms ws hs who (c.req who k)).2.2)::(execA c who (l++[n]) (doReq c.ms ws hs who (c.req who k)).1 (doReq c.ms ws hs who (c.req who k)).2.1).2.2):=rfl
  rw[e,←i1,←i2];simp only[execA]at i3 ⊢;rw[s1,s2,s3];refine⟨rfl,rfl,fun p=>?_⟩;rw[List.mem_cons,List.mem_cons,List.mem_cons,←i3 p,List.mem_cons,s4]
  constructor
  ·rintro(h|h|h)
   ·exact .inr (.inl h)
   ·exact .inl h
   ·exact .inr (.inr h)
  ·rintro(h|h|h)
   ·exact .inr (.inl h)
   ·exact .inl h
   ·exact .inr (.inr h)
theorem splitAt {n : Nat} : ∀ {ds : List Nat}, ds.Pairwise (· < ·) → n ∉ ds → ∃ a b, ds = a ++ b ∧ (∀ x ∈ a, x < n) ∧ ∀ x ∈ b, n < x
 |[],_,_=>⟨[],[],rfl,by simp,by simp⟩
 |d::ds,h,hn=>by
  rw[List.pairwise_cons]at h;by_cases hd:d<n
  ·obtain⟨a,b,e,ha,hb⟩:=splitAt h.2 fun hm=>hn (List.mem_cons_of_mem _ hm)
   refine⟨d::a,b,by rw[e];rfl,fun x hx=>?_,hb⟩;rcases List.mem_cons.1 hx with rfl|hx
   ·exact hd
   ·exact ha x hx
  ·have:n≠d:=fun e=>hn (by rw[e];simp)
   refine⟨[],d::ds,rfl,by simp,fun x hx=>?_⟩;rcases List.mem_cons.1 hx with rfl|hx
   ·omega
   ·have:=h.1 x hx;omega
structure Lone (c:Cfg) (who:Nat):Prop where
 w3:who<3
 none:∀w,w<3→w≠who→(c.prog w).length=0
theorem Lone.key (hl:Lone c who) {st:Cy} (hg:Good c st) {s w n:Nat} (hs:s<4) (hk:(w,n)∈zA6 (st.slaves s)):w=who:=by
 have h1:=hg.keyN hs hk;have h2:=(hg.key hs hk).1;by_cases h:w=who
 ·exact h
 ·rw[hl.none w h2 h]at h1;omega
theorem Lone.told (hl:Lone c who) {st:Cy} (hg:Good c st) {j:TJ} (hj:j∈st.told):j.who=who∧j.n<(st.ports who).next - (st.ports who).queue.length:=by
 have h3:=(hg.t j hj).1;have hm:j.n∈((st.told.filter (fun i=>i.who==j.who)).map (·.n))++(st.ports j.who).out.map (·.n):=List.mem_append_left _ (List.mem_map.2 ⟨j,List.mem_filter.2 ⟨hj,by simp⟩,rfl⟩);have:=List.mem_range.1 ((hg.part j.who h3).mem_iff.1 hm);have hn:=(hg.p j.who h3).nx;by_cases h:j.who=who
 ·exact⟨h,by rw[h]at this;exact this⟩
 ·rw[hl.none _ h3 h]at hn;omega
theorem Good.asc {st:Cy} (hg:Good c st) {s w:Nat} (hs:s<4) (hw:w<3):(nsOf w (zA6 (st.slaves s))).Pairwise (·<·):=by
 rw[hg.link s w hs hw,List.pairwise_map];exact((hg.p w hw).os.sublist List.filter_sublist)
theorem told_out {st:Cy} (hg:Good c st) {j:TJ} (hj:j∈st.told) {o:Jb} (ho:o∈(st.ports j.who).out):o.n≠j.n:=by
 have h3:=(hg.t j hj).1;have hd:=((hg.part j.who h3).nodup_iff).2 List.nodup_range;rw[List.nodup_append]at hd;intro e;exact hd.2.2 j.n (List.mem_map.2 ⟨j,List.mem_filter.2 ⟨hj,by simp⟩,rfl⟩) o.n (List.mem_map.2 ⟨o,ho,rfl⟩) e.symm
structure Ser (c:Cfg) (who:Nat) (st:Cy) (ds:List Nat):Prop where
 asc:ds.Pairwise (·<·)
 ws:(execA c who ds cy0.ws cy0.hs).1=st.ws
 hs:(execA c who ds cy0.ws cy0.hs).2.1=st.hs
 mem:∀n,n∈ds↔(∃j∈st.told,j.n=n)∨∃s,s<4∧∃j∈(st.slaves s).done,j.n=n
 told:∀j∈st.told,(j.n,j.rsp)∈(execA c who ds cy0.ws cy0.hs).2.2
 done:∀s,s<4→∀j∈(st.slaves s).done,(j.n,j.rsp)∈(execA c who ds cy0.ws cy0.hs).2.2
 dep:∀s,s<4→∀i∈(st.slaves s).pipe,∀q∈ds,i.n<q→Indep c.ms (c.req who i.n) (c.req who q)
theorem ser_zero (c:Cfg) (who:Nat):Ser c who cy0 [] :=
 ⟨List.Pairwise.nil,rfl,rfl,fun n=>by simp[cy0],by simp[cy0],by simp[cy0],by simp[cy0]⟩
theorem ser_tell {x:Cy×List Ev} {ds:List Nat} {w s:Nat} {j:TJ} {rest:List TJ} (h:Ser c who x.1 ds) (hs:s<4) (hd:(x.1.slaves s).done=j::rest):Ser c who (zD4 w s j rest x).1 ds:=by
 have hdn:∀t,((zD4 w s j rest x).1.slaves t).done=if t=s then rest else(x.1.slaves t).done:=fun t=>by
  simp only[zD4,upd];split <;> rfl
 have hpp:∀t,((zD4 w s j rest x).1.slaves t).pipe=(x.1.slaves t).pipe:=fun t=>by
  simp only[zD4,upd];split
  ·rename_i e;rw[e]
  ·rfl
 have htl:(zD4 w s j rest x).1.told=x.1.told++[j]:=rfl;refine⟨h.asc,h.ws,h.hs,fun n=>?_,fun i hi=>?_,fun t ht i hi=>?_,fun t ht i hi=>h.dep t ht i (by rwa [hpp]at hi)⟩
 ·rw[h.mem n,htl]
  constructor
  ·rintro(⟨i,hi,e⟩|⟨t,ht,i,hi,e⟩)
   ·exact .inl ⟨i,List.mem_append_left _ hi,e⟩
   ·by_cases hts:t=s
    ·subst hts;rw[hd]at hi;rcases List.mem_cons.1 hi with rfl|hi
     ·exact .inl ⟨i,by simp,e⟩
     ·exact .inr ⟨t,ht,i,by rw[hdn,if_pos rfl];exact hi,e⟩
    ·exact .inr ⟨t,ht,i,by rw[hdn,if_neg hts];exact hi,e⟩
  ·rintro(⟨i,hi,e⟩|⟨t,ht,i,hi,e⟩)
   ·rcases List.mem_append.1 hi with hi|hi
    ·exact .inl ⟨i,hi,e⟩
    ·rw[List.mem_singleton]at hi;exact .inr ⟨s,hs,i,by rw[hd,hi];simp,e⟩
   ·rw[hdn]at hi;by_cases hts:t=s
    ·rw[if_pos hts]at hi;exact .inr ⟨s,hs,i,by rw[hd];exact List.mem_cons_of_mem _ hi,e⟩
    ·rw[if_neg hts]at hi;exact .inr ⟨t,ht,i,hi,e⟩
 ·rw[htl]at hi;rcases List.mem_append.1 hi with hi|hi
  ·exact h.told i hi
  ·rw[List.mem_singleton]at hi;exact h.done s hs i (by rw[hd,hi];simp)
 ·rw[hdn]at hi;by_cases hts:t=s
  ·rw[if_pos hts]at hi;exact h.done s hs i (by rw[hd];exact List.mem_cons_of_mem _ hi)
  ·rw[if_neg hts]at hi;exact h.done t ht i hi
theorem ser_dec {st:Cy} {ds:List Nat} {s:Nat} {j:Jb} {rest:List Jb} (h:Ser c who st ds) (hs:s<4) (hp:(st.slaves s).pipe=j::rest):Ser c who (zF6 s j rest st) ds:=by
 have hdn:∀t,((zF6 s j rest st).slaves t).done=(st.slaves t).done:=fun t=>by
  simp only[zF6,upd];split
  ·rename_i e;rw[e]
  ·rfl
 refine⟨h.asc,h.ws,h.hs,fun n=>by simp only[hdn];exact h.mem n,h.told,fun t ht i hi=>h.done t ht i (by rwa [hdn]at hi),fun t ht i hi q hq hlt=>?_⟩;by_cases hts:t=s
 ·subst hts;simp only[zF6,zA1]at hi;rcases List.mem_cons.1 hi with rfl|hi
  ·exact h.dep t ht j (by rw[hp];simp) q hq hlt
  ·exact h.dep t ht i (by rw[hp];exact List.mem_cons_of_mem _ hi) q hq hlt
 ·simp only[zF6,zA0 _ _ hts]at hi;exact h.dep t ht i hi q hq hlt
theorem ser_work (hb:Bus c) (hl:Lone c who) {x:Cy×List Ev} {ds:List Nat} {s:Nat} {j:Jb} {rest:List Jb} (hg:Good c x.1) (h:Ser c who x.1 ds) (hs:s<4) (hp:(x.1.slaves s).pipe=j::rest):∃ds,Ser c who (zD9 c s j rest x).1 ds:=by
 have hw:=hl.w3;have hk:(j.who,j.n)∈zA6 (x.1.slaves s):=by simp[zA6,hp]
 have hj:j.who=who:=hl.key hg hs hk;rw[hj]at hk;have hlen:=hg.keyN hs hk;obtain⟨o,ho,hon,hos⟩:=(hg.key hs hk).2;have hsl:=((hg.p who hw).o o ho).2.1;rw[hon,hos]at hsl;have hlt:∀q∈ds,q<(c.prog who).length:=fun q hq=>by
  rcases(h.mem q).1 hq with⟨i,hi,e⟩|⟨t,ht,i,hi,e⟩
  ·have h1:=(hl.told hg hi).2;have:=(hg.p who hw).nx;omega
  ·have hk2:(i.who,i.n)∈zA6 (x.1.slaves t):=by
    unfold zA6;exact List.mem_append_left _ (List.mem_map.2 ⟨i,hi,rfl⟩)
   have h1:=hl.key hg ht hk2;have h2:=hg.keyN ht hk2;rw[h1]at h2;omega
 have hasc:=hg.asc hs hw;have hns:nsOf who (zA6 (x.1.slaves s))=nsOf who ((x.1.slaves s).done.map (fun j=>(j.who,j.n)))++j.n::nsOf who (rest.map (fun j=>(j.who,j.n))):=by
  unfold zA6;rw[zK3,hp,List.map_cons,hj,zK2]
 rw[hns,List.pairwise_append,List.pairwise_cons]at hasc;have hnot:j.n ∉ ds:=fun hm=>by
  rcases(h.mem j.n).1 hm with⟨i,hi,e⟩|⟨t,ht,i,hi,e⟩
  ·have h1:=(hl.told hg hi).1;exact told_out hg hi (o:=o) (by rw[h1];exact ho) (by omega)
  ·have hk2:(i.who,i.n)∈zA6 (x.1.slaves t):=by
    unfold zA6;exact List.mem_append_left _ (List.mem_map.2 ⟨i,hi,rfl⟩)
   have h1:=hl.key hg ht hk2;rw[h1]at hk2;obtain⟨o2,ho2,hon2,hos2⟩:=(hg.key ht hk2).2;have he:=uniq_n (hg.p who hw).os ho ho2 (by omega);subst he;obtain rfl:t=s:=by omega
   have hm2:i.n∈nsOf who ((x.1.slaves t).done.map (fun j=>(j.who,j.n))):=mem_nsOf.2 (List.mem_map.2 ⟨i,hi,by rw[h1]⟩);have:=hasc.2.2 i.n hm2 j.n (by simp);omega
 have hdep:∀q∈ds,j.n<q→Indep c.ms (c.req who j.n) (c.req who q):=fun q hq hlt=>h.dep s hs j (by rw[hp];simp) q hq hlt
 obtain⟨a,b,e,hA,hB⟩:=splitAt h.asc hnot;subst e;have hok:=exec_ok hb hw a cy0.ws cy0.hs (by decide +kernel) fun n hn=>hlt n (List.mem_append_left _ hn)
 obtain⟨m1,m2,m3⟩:=exec_move hb hw hlen b (execA c who a cy0.ws cy0.hs).1 (execA c who a cy0.ws cy0.hs).2.1 hok fun k hk=>⟨hlt k (List.mem_append_right _ hk),hdep k (List.mem_append_right _ hk) (hB k hk)⟩
 have hws:=h.ws;have hhs:=h.hs;rw[zN2]at hws hhs;simp only at hws hhs;obtain⟨r,hr⟩:∃r,r=doReq c.ms x.1.ws x.1.hs who (c.req who j.n):=⟨_,rfl⟩
 have hend:execA c who (b++[j.n]) (execA c who a cy0.ws cy0.hs).1 (execA c who a cy0.ws cy0.hs).2.1=(r.1,r.2.1,(execA c who b (execA c who a cy0.ws cy0.hs).1 (execA c who a cy0.ws cy0.hs).2.1).2.2++[(j.n,r.2.2)]):=by
  rw[zN2,hws,hhs];simp only[execA,←hr]
 rw[hend]at m1 m2 m3;simp only at m1 m2 m3;have hx1:(execA c who (a++j.n::b) cy0.ws cy0.hs).1=r.1:=by rw[zN2];exact m1
 have hx2:(execA c who (a++j.n::b) cy0.ws cy0.hs).2.1=r.2.1:=by rw[zN2];exact m2
 have hx3:∀p,p∈(execA c who (a++j.n::b) cy0.ws cy0.hs).2.2↔p∈(execA c who (a++b) cy0.ws cy0.hs).2.2∨p=(j.n,r.2.2):=fun p=>by
  rw[zN2,zN2 c who a b];simp only[List.mem_append,m3 p,List.mem_singleton];exact or_assoc.symm
 have hdn:∀t,((zD9 c s j rest x).1.slaves t).done=if t=s then(x.1.slaves s).done++[⟨who,j.n,r.2.2⟩] else(x.1.slaves t).done:=fun t=>by
  simp only[zD9,hj,←hr,upd];split <;> rfl
 have hpp:∀t,((zD9 c s j rest x).1.slaves t).pipe=if t=s then rest else(x.1.slaves t).pipe:=fun t=>by
  simp only[zD9,upd];split <;> rfl
 have htl:(zD9 c s j rest x).1.told=x.1.told:=rfl;refine⟨a++j.n::b,?_,?_,?_,fun n=>?_,fun i hi=>(hx3 _).2 (.inl (h.told i hi)),fun t ht i hi=>?_,fun t ht i hi q hq hlt2=>?_⟩
 ·have h0:=h.asc;rw[List.pairwise_append]at h0 ⊢;refine⟨h0.1,List.pairwise_cons.2 ⟨fun y hy=>hB y hy,h0.2.1⟩,fun y hy z hz=>?_⟩;rcases List.mem_cons.1 hz with rfl|hz
  ·exact hA y hy
  ·exact h0.2.2 y hy z hz
 ·rw[hx1,hr];simp only[zD9,hj]
 ·rw[hx2,hr];simp only[zD9,hj]
 ·have hm:=h.mem n;rw[htl];have e1:n∈a++j.n::b↔n∈a++b∨n=j.n:=by
   simp only[List.mem_append,List.mem_cons]
   constructor
   ·rintro(h|h|h)
    ·exact .inl (.inl h)
    ·exact .inr h
    ·exact .inl (.inr h)
   ·rintro((h|h)|h)
    ·exact .inl h
    ·exact .inr (.inr h)
    ·exact .inr (.inl h)
  rw[e1,hm]
  constructor
  ·rintro((h|⟨t,ht,i,hi,e⟩)|e)
   ·exact .inl h
   ·refine .inr ⟨t,ht,i,?_,e⟩;rw[hdn];split
    ·rename_i e;rw[e]at hi;exact List.mem_append_left _ hi
    ·exact hi
   ·exact .inr ⟨s,hs,⟨who,j.n,r.2.2⟩,by rw[hdn,if_pos rfl];simp,e.symm⟩
  ·rintro(h|⟨t,ht,i,hi,e⟩)
   ·exact .inl (.inl h)
   ·rw[hdn]at hi;by_cases hts:t=s
    ·rw[if_pos hts]at hi;rcases List.mem_append.1 hi with hi|hi
     ·exact .inl (.inr ⟨s,hs,i,hi,e⟩)
     ·rw[List.mem_singleton]at hi;subst hi;exact .inr e.symm
    ·rw[if_neg hts]at hi;exact .inl (.inr ⟨t,ht,i,hi,e⟩)
 ·rw[hdn]at hi;by_cases hts:t=s
  ·rw[if_pos hts]at hi;rcases List.mem_append.1 hi with hi|hi
   ·exact(hx3 _).2 (.inl (h.done s hs i hi))
   ·rw[List.mem_singleton]at hi;subst hi;exact(hx3 _).2 (.inr rfl)
  ·rw[if_neg hts]at hi;exact(hx3 _).2 (.inl (h.done t ht i hi))
 ·rw[hpp]at hi;have hi2:i∈(x.1.slaves t).pipe:=by
   by_cases hts:t=s
   ·rw[if_pos hts]at hi;rw[hts,hp];exact List.mem_cons_of_mem _ hi
   ·rwa [if_neg hts]at hi
  have hq2:q∈a++b∨q=j.n:=by
   rcases List.mem_append.1 hq with h|h
   ·exact .inl (List.mem_append_left _ h)
   ·rcases List.mem_cons.1 h with h|h
    ·exact .inr h
    ·exact .inl (List.mem_append_right _ h)
  rcases hq2 with hq2|rfl
  ·exact h.dep t ht i hi2 q hq2 hlt2
  ·have hki:(i.who,i.n)∈zA6 (x.1.slaves t):=by
    unfold zA6;exact List.mem_append_right _ (List.mem_map.2 ⟨i,hi2,rfl⟩)
   have hiw:=hl.key hg ht hki;rw[hiw]at hki;by_cases hts:t=s
   ·subst hts;rw[if_pos rfl]at hi;have:=hasc.2.1.1 i.n (mem_nsOf.2 (List.mem_map.2 ⟨i,hi,by rw[hiw]⟩));omega
   ·obtain⟨o2,ho2,hon2,hos2⟩:=(hg.key ht hki).2;have hsl2:=((hg.p who hw).o o2 ho2).2.1;rw[hon2,hos2]at hsl2;refine⟨fun he=>?_,fun he=>?_⟩
    ·have:=(hg.p who hw).oi o ho o2 ho2 (by rw[hon,hon2];exact he.symm);omega
    ·have:c.slv who i.n=c.slv who j.n:=by unfold Cfg.slv;rw[he]
     omega
theorem ser_let (hl:Lone c who) {y:Lt} {ds:List Nat} {s w n:Nat} {rest:List Nat} (hg:Good c y.st) (h:Ser c who y.st ds) (hs:s<4) (hw:w<3) (hq:(y.st.ports w).queue=n::rest):Ser c who (letDo c s w n rest y).st ds:=by
 have hpg:=hg.p w hw;have hqq:=hpg.q;rw[hq]at hqq;obtain⟨hn,_,_⟩:=range'_cons hqq;have hqn:=hpg.qn;have hnx:=hpg.nx;have hww:w=who:=by
  by_cases e:w=who
  ·exact e
  ·rw[hl.none w hw e]at hnx;rw[hq]at hqn;simp only[List.length_cons]at hqn;omega
 subst hww;have hdn:∀t,((letDo c s w n rest y).st.slaves t).done=(y.st.slaves t).done:=fun t=>by
  simp only[letDo,upd];split
  ·rename_i e;rw[e]
  ·rfl
 refine⟨h.asc,h.ws,h.hs,fun n=>by simp only[hdn];exact h.mem n,h.told,fun t ht i hi=>h.done t ht i (by rwa [hdn]at hi),fun t ht i hi q hq2 hlt=>?_⟩;by_cases hts:t=s
 ·subst hts;simp only[letDo,zA1]at hi;rcases List.mem_append.1 hi with hi|hi
  ·exact h.dep t ht i hi q hq2 hlt
  ·rw[List.mem_singleton]at hi;subst hi
   exfalso
   simp only at hlt;have hlen:(y.st.ports w).queue.length=rest.length+1:=by rw[hq];rfl
   rw[hlen]at hqn;simp only[List.length_cons]at hn;rcases(h.mem q).1 hq2 with⟨i,hi,e⟩|⟨t2,ht2,i,hi,e⟩
   ·have:=(hl.told hg hi).2;rw[hlen]at this;omega
   ·have hk2:(i.who,i.n)∈zA6 (y.st.slaves t2):=by
     unfold zA6;exact List.mem_append_left _ (List.mem_map.2 ⟨i,hi,rfl⟩)
    rw[hl.key hg ht2 hk2]at hk2;obtain⟨o2,ho2,hon2,_⟩:=(hg.key ht2 hk2).2;have:=(hpg.o o2 ho2).2.2;rw[hlen]at this;omega
 ·simp only[letDo,zA0 _ _ hts]at hi;exact h.dep t ht i hi q hq2 hlt
theorem ser_step (hb:Bus c) (hl:Lone c who) {inp:Inp} {st:Cy} {ds:List Nat} (hg:Good c st) (h:Ser c who st ds):∃ds,Ser c who (cyc c inp st) ds:=by
 have h1:Good c (zE0 inp (st,[])).1∧∃ds,Ser c who (zE0 inp (st,[])).1 ds :=
  zD6 (P := fun x : Cy × List Ev => Good c x.1 ∧ ∃ ds, Ser c who x.1 ds) 3 (st, []) ⟨hg, ds, h⟩ fun i x hi hx => ⟨good_tell1 hx.1 hi, by
   obtain⟨_,ds,hd⟩:=hx;refine⟨ds,?_⟩;unfold tell1
   split
   ·split
    ·exact hd
    ·split
     ·exact hd
     ·exact ser_tell hd (Nat.mod_lt _ (by omega)) ‹_›
   ·exact hd⟩
 obtain⟨x1,e1⟩:∃x,x=zE0 inp (st,[]):=⟨_,rfl⟩
 rw[←e1]at h1;have h2:Good c (zF0 c inp x1).1∧∃ds,Ser c who (zF0 c inp x1).1 ds :=
  zD6 (P := fun x : Cy × List Ev => Good c x.1 ∧ ∃ ds, Ser c who x.1 ds) 4 x1 h1 fun i x hi hx => ⟨good_work1 hb hx.1 hi, by
   obtain⟨hxg,ds,hd⟩:=hx;unfold work1
   split
   ·exact⟨ds,hd⟩
   ·split
    ·exact⟨ds,hd⟩
    ·split
     ·exact⟨ds,ser_dec hd hi ‹_›⟩
     ·split
      ·exact ser_work hb hl hxg hd hi ‹_›
      ·exact⟨ds,hd⟩⟩
 obtain⟨x2,e2⟩:∃x,x=zF0 c inp x1:=⟨_,rfl⟩
 rw[←e2]at h2;have h3:Good c (zL7 c x2.1).st∧∃ds,Ser c who (zL7 c x2.1).st ds :=
  zD6 (P := fun y : Lt => Good c y.st ∧ ∃ ds, Ser c who y.st ds) 4 ⟨x2.1, fun _ => false, fun _ => 0⟩ h2 fun i y hi hy => ⟨good_let1 hy.1 hi, by
   obtain⟨hyg,ds,hd⟩:=hy;refine⟨ds,?_⟩;unfold let1
   split
   ·split
    ·exact hd
    ·split
     ·exact hd
     ·exact ser_let hl hyg hd hi (Nat.mod_lt _ (by omega)) ‹_›
   ·exact hd⟩
 obtain⟨y3,e3⟩:∃x,x=zL7 c x2.1:=⟨_,rfl⟩
 rw[←e3]at h3;have h4:∃ds,Ser c who (askAll c inp (y3.st,x2.2)).1 ds :=
  zD6 (P:=fun x:Cy×List Ev=>∃ds,Ser c who x.1 ds) 3 (y3.st,x2.2) h3.2 fun i x hi hx=>by
   obtain⟨ds,hd⟩:=hx;refine⟨ds,?_⟩;unfold ask1
   split
   ·exact⟨hd.asc,hd.ws,hd.hs,hd.mem,hd.told,hd.done,hd.dep⟩
   ·exact hd
 have e:cyc c inp st=(askAll c inp (y3.st,x2.2)).1:=by rw[e3,e2,e1];rfl
 rw[e];exact h4
theorem ser_run (hb : Bus c) (hl : Lone c who) : ∀ (ins : List Inp) {st : Cy} {ds : List Nat}, Good c st → Ser c who st ds → ∃ ds, Ser c who (runC c ins st) ds
 |[],_,ds,_,h=>⟨ds,h⟩
 |i::rest,_,_,hg,h=>by
  obtain⟨ds,h1⟩:=ser_step hb hl (inp:=i) hg h;exact ser_run hb hl rest (good_step hb (inp:=i) hg) h1
theorem asc_all : ∀ {m k : Nat} {ds : List Nat}, ds.Pairwise (· < ·) → (∀ n, n ∈ ds ↔ k ≤ n ∧ n < k + m) → ds = List.range' k m
 |0,k,ds,_,h=>by
  rw[List.range'_zero,List.eq_nil_iff_forall_not_mem];intro n hn;have:=(h n).1 hn;omega
 |m+1,k,ds,hp,h=>by
  rcases ds with _|⟨d,ds⟩
  ·have:=(h k).2 ⟨Nat.le_refl _,by omega⟩;simp at this
  ·rw[List.pairwise_cons]at hp;obtain rfl:d=k:=by
    have h1:=(h d).1 (by simp);rcases List.mem_cons.1 ((h k).2 ⟨Nat.le_refl _,by omega⟩)with e|e
    ·exact e.symm
    ·have:=hp.1 k e;omega
   rw[List.range'_succ,asc_all hp.2 fun n=>?_]
   constructor
   ·intro hn;have h1:=(h n).1 (List.mem_cons_of_mem _ hn);have:=hp.1 n hn;omega
   ·rintro⟨h1,h2⟩;rcases List.mem_cons.1 ((h n).2 ⟨by omega,by omega⟩)with e|e
    ·omega
    ·exact e
theorem exec_all (c : Cfg) (who : Nat) : ∀ (m k : Nat) (ws hs : List Int), k + m = (c.prog who).length →
  (execA c who (List.range' k m) ws hs).1=(zB2 c.ms who ws hs ((c.prog who).drop k)).1∧(execA c who (List.range' k m) ws hs).2.1=(zB2 c.ms who ws hs ((c.prog who).drop k)).2.1 ∧
  ∀p∈(execA c who (List.range' k m) ws hs).2.2,k≤p.1∧p.2=(zB2 c.ms who ws hs ((c.prog who).drop k)).2.2.getD (p.1 - k) default
 |0,k,ws,hs,h=>by
  rw[List.range'_zero,List.drop_eq_nil_of_le (by omega)];exact⟨rfl,rfl,by simp[execA]⟩
 |m+1,k,ws,hs,h=>by
  have hd:(c.prog who).drop k=c.req who k::(c.prog who).drop (k+1):=by
   rw[List.drop_eq_getElem_cons (by omega)]
   congr 1
   unfold Cfg.req;simp[List.getD,show k<(c.prog who).length by omega]
  obtain⟨h1,h2,h3⟩:=exec_all c who m (k+1) (doReq c.ms ws hs who (c.req who k)).1 (doReq c.ms ws hs who (c.req who k)).2.1 (by omega);rw[List.range'_succ,hd];simp only[execA,zB2];refine⟨h1,h2,fun p hp=>?_⟩;rcases List.mem_cons.1 hp with rfl|hp
  ·simp
  ·obtain⟨h4,h5⟩:=h3 p hp;refine⟨by omega,?_⟩;rw[h5,show p.1 - k=p.1 - (k+1)+1 by omega,List.getD_cons_succ]
theorem alone_law (hl : Lone c who) (hms : ∀ w n, c.slv w n < 4) {st : Cy} {ds : List Nat} (hg : Good c st) (h : Ser c who st ds) (h0 : todo c st = 0) :
  st.ws=(zB2 c.ms who cy0.ws cy0.hs (c.prog who)).1∧st.hs=(zB2 c.ms who cy0.ws cy0.hs (c.prog who)).2.1∧st.told.length=(c.prog who).length ∧
  ∀j∈st.told,j.who=who∧j.n<(c.prog who).length∧j.rsp=(zB2 c.ms who cy0.ws cy0.hs (c.prog who)).2.2.getD j.n default:=by
 have hp:=told_perm hg hms h0 hl.w3;have hz:=todo_zero hg hms h0;have hf:st.told.filter (fun j=>j.who==who)=st.told:=List.filter_eq_self.2 fun j hj=>by simp[(hl.told hg hj).1]
 rw[hf]at hp;have hlen:st.told.length=(c.prog who).length:=by
  have:=hp.length_eq;simpa using this
 have hds:ds=List.range' 0 (c.prog who).length:=asc_all h.asc fun n=>by
  rw[h.mem n]
  constructor
  ·rintro(⟨j,hj,e⟩|⟨s,hs,j,hj,_⟩)
   ·have:=hp.mem_iff.1 (List.mem_map.2 ⟨j,hj,e⟩);rw[List.mem_range]at this;omega
   ·rw[(hz.2 s hs).2]at hj;simp at hj
  ·rintro⟨_,h2⟩;obtain⟨j,hj,e⟩:=List.mem_map.1 (hp.mem_iff.2 (List.mem_range.2 (show n<(c.prog who).length by omega)));exact .inl ⟨j,hj,e⟩
 obtain⟨h1,h2,h3⟩:=exec_all c who (c.prog who).length 0 cy0.ws cy0.hs (by omega);rw[List.drop_zero]at h1 h2 h3;rw[hds]at h;refine⟨by rw[←h.ws,h1],by rw[←h.hs,h2],hlen,fun j hj=>?_⟩;have h4:=(hl.told hg hj).1;have h5:=hp.mem_iff.1 (List.mem_map.2 ⟨j,hj,rfl⟩);rw[List.mem_range]at h5;exact⟨h4,h5,by have:=(h3 _ (h.told j hj)).2;simpa using this⟩
end
end Go.Proofs.YtgkdoehkmbhfiaaGreat
namespace Go.Proofs.YtgkdoehkmbhfiaaGreat
section
variable {c : Cfg} {who a : Nat}
theorem Good.slv {st:Cy} (hg:Good c st) {s w n:Nat} (hs:s<4) (hk:(w,n)∈zA6 (st.slaves s)):c.slv w n=s:=by
 obtain⟨hw,o,ho,hon,hos⟩:=hg.key hs hk;have:=((hg.p w hw).o o ho).2.1;rw[hon,hos]at this;exact this.symm
def zJ3 (a:Nat):Inp:=⟨[true,true,true],[false,false,false,false].set a true,[true,true,true]⟩
theorem stall_at {s:Nat} (hs:s<4):(zJ3 a).stall.getD s false=decide (s=a):=by
 unfold zJ3;by_cases h:s=a
 ·subst h;simp[List.getD,hs]
 ·simp only[List.getD,List.getElem?_set_ne (Ne.symm h),h];have:=getD_none hs;simpa[List.getD]using this
theorem flow_all (hb:Bus c) (hms:∀w n,c.slv w n<4) {st:Cy} (hg:Good c st) (hle:todo c st≤300):todo c (flow c 300 st)=0:=by
 have h0:=todo_all hb hms (List.replicate 300 inAll) hg fun i hi st hgs=>by
  rw[List.mem_replicate]at hi;obtain⟨_,rfl⟩:=hi;refine⟨fun w hw=>getD_all hw,fun w hw=>getD_all hw,fun s hs hst=>?_⟩;have:inAll.stall.getD s false=false:=getD_none hs;rw[this]at hst;cases hst
 rw[List.length_replicate]at h0;unfold flow;omega
end
end Go.Proofs.YtgkdoehkmbhfiaaGreat
namespace Go.Proofs.YtgkdoehkmbhfiaaGreat
open Go.RowKit
theorem QcO.keptB {w w':World} {lo hi g o c n:Nat} {qs:List Rq} {vs:List (Value×Value)} {rest:List RqV} (h:QcO w lo g o c n qs vs rest) (hh:QsB hi g qs.length vs) (hk:∀k,lo≤k→k<hi→k<w.heap.size→w'.heap[k]? = w.heap[k]?):QcO w' lo g o c n qs vs rest :=
  { h with rows := OwnR.kept h.rows fun k hk2 => hk k (OwnR.lt h.rows k hk2).1 (by have := hh.g; simp only [Value.ownBlock, Option.some.injEq] at hk2; omega) (OwnR.lt h.rows k hk2).2
           d:=fun j hj=>OwnR.kept (h.d j hj) fun k hk2=>hk k (OwnR.lt (h.d j hj) k hk2).1 (hh.d j hj k hk2) (OwnR.lt (h.d j hj) k hk2).2
           l:=fun j hj=>OwnR.kept (h.l j hj) fun k hk2=>hk k (OwnR.lt (h.l j hj) k hk2).1 (hh.l j hj k hk2) (OwnR.lt (h.l j hj) k hk2).2 }
def PgO (w:World) (lo hi:Nat) (u:Value) (qs:List Rq):Prop :=
 (u=vnil∧qs=[])∨∃g o c vs,u=.slice (some ⟨g,o,none⟩) qs.length c∧qs.length≤c∧c≤9223372036854775807∧QcO w lo g o c qs.length qs vs []∧QsB hi g qs.length vs
theorem PgO.nil (w:World) (lo hi:Nat):PgO w lo hi vnil []:=.inl ⟨rfl,rfl⟩
theorem PgO.kept {w w':World} {lo hi:Nat} {u:Value} {qs:List Rq} (h:PgO w lo hi u qs) (hk:∀k,lo≤k→k<hi→k<w.heap.size→w'.heap[k]? = w.heap[k]?):PgO w' lo hi u qs:=by
 rcases h with h|⟨g,o,c,vs,e,h1,h2,h3,h4⟩
 ·exact .inl h
 ·exact .inr ⟨g,o,c,vs,e,h1,h2,h3.keptB h4 hk,h4⟩
theorem PgO.shape {w:World} {lo hi:Nat} {u:Value} {qs:List Rq} (h:PgO w lo hi u qs):∃a c,u=.slice a qs.length c∧qs.length≤c∧c≤9223372036854775807:=by
 rcases h with⟨rfl,rfl⟩|⟨g,o,c,vs,e,h1,h2,_⟩
 ·exact⟨none,0,rfl,Nat.le_refl _,by omega⟩
 ·exact⟨_,c,e,h1,h2⟩
def RqFit (q:Rq):Prop:=Rq20 q∧(∀y∈q.data,I64 y)∧(∀y∈q.lanes,I64 y)∧I64 q.id∧I64 q.kind∧I64 q.addr∧I64 q.many
theorem PgO.reqs {w:World} {lo hi:Nat} {u:Value} {qs:List Rq} (h:PgO w lo hi u qs) (hn:qs.length≤1048576) (hq:∀q∈qs,RqFit q):Reqs w w.heap.size u qs:=by
 rcases h with⟨rfl,rfl⟩|⟨g,o,c,vs,e,h1,h2,h3,h4⟩
 ·exact ArrV.nil _ _ _ _
 ·rw[e];exact h3.reqs hn hq
structure PsO (w:World) (lo pb n:Nat) (us:List Value) (pss:List (List Rq)) (L:Nat→Nat):Prop where
 outer:Owns w lo 53 1 row1 (.slice (some ⟨pb,0,none⟩) n n) us
 len:us.length=n
 le:pss.length≤n
 pg:∀j,j<pss.length→PgO w (L j) (L (j+1)) (us.getD j vnil) (pss.getD j [])
 nil:∀j,pss.length≤j→j<n→us.getD j vnil=vnil
 mono:∀j,j<pss.length→L j≤L (j+1)
 pbl:pb<L 0
 top:L pss.length≤w.heap.size
theorem PsO.le0 {w:World} {lo pb n:Nat} {us:List Value} {pss:List (List Rq)} {L:Nat→Nat} (h:PsO w lo pb n us pss L):∀j,j≤pss.length→L 0≤L j:=by
 intro j
 induction j with
 |zero=>intro _;exact Nat.le_refl _
 |succ j ih=>intro hj;exact Nat.le_trans (ih (by omega)) (h.mono j (by omega))
theorem PsO.pb {w:World} {lo pb n:Nat} {us:List Value} {pss:List (List Rq)} {L:Nat→Nat} (h:PsO w lo pb n us pss L):lo≤pb∧pb<w.heap.size:=OwnR.lt h.outer pb rfl
theorem PsO.kept {w w':World} {lo pb n:Nat} {us:List Value} {pss:List (List Rq)} {L:Nat→Nat} (h:PsO w lo pb n us pss L) (hk:∀k,lo≤k→k<w.heap.size→w'.heap[k]? = w.heap[k]?) (hs:w.heap.size≤w'.heap.size):PsO w' lo pb n us pss L :=
  { h with outer := OwnR.kept h.outer fun k hk2 => hk k (OwnR.lt h.outer k hk2).1 (OwnR.lt h.outer k hk2).2
           pg:=fun j hj=>(h.pg j hj).kept fun k h1 _ h3=>hk k (by have:=h.le0 j (by omega);have:=h.pbl;have:=h.pb.1;omega) h3
           top:=Nat.le_trans h.top hs }
theorem PsO.below {w w':World} {lo pb n:Nat} {us:List Value} {pss:List (List Rq)} {L:Nat→Nat} (h:PsO w lo pb n us pss L) (hb:Below w.heap.size w w'):PsO w' lo pb n us pss L:=h.kept (fun k _ hk=>hb.block k hk) hb.size
theorem PsO.rebase {w:World} {lo lo' pb n:Nat} {us:List Value} {pss:List (List Rq)} {L:Nat→Nat} (h:PsO w lo pb n us pss L) (hl:lo' ≤ lo):PsO w lo' pb n us pss L:={ h with outer:=OwnR.rebase h.outer hl }
theorem PsO.progs {w:World} {lo pb n:Nat} {us:List Value} {pss:List (List Rq)} {L:Nat→Nat} (h:PsO w lo pb n us pss L) (hn:pss.length=n) (h20:n≤1048576) (hq:∀p∈pss,p.length≤1048576∧∀q∈p,RqFit q):Progs w w.heap.size (.slice (some ⟨pb,0,none⟩) n n) pss:=by
 refine⟨us,?_,by rw[h.len,hn],fun k hk d=>?_⟩
 ·have e:us.map (fun u=>u.cells.toList)=us.map row1:=by
   apply List.map_congr_left;intro u hu;obtain⟨i,hi,rfl⟩:=List.mem_iff_getElem.1 hu;have hi2:i<pss.length:=by have:=h.len;omega
   obtain⟨a,c,e,_⟩:=(h.pg i hi2).shape;have e2:us.getD i vnil=us[i]:=by simp[List.getD,hi]
   rw[e2]at e;rw[e];rfl
  rw[e];exact h.outer.arr zG7 (by rw[h.len];omega)
 ·have hk2:k<us.length:=by have:=h.len;omega
  obtain⟨q1,q2⟩:=hq _ (zB5 (d:=[]) hk);have:=(h.pg k hk).reqs q1 q2;rw[show us.getD k undef=us.getD k vnil by simp[List.getD,hk2],show pss.getD k d=pss.getD k [] by simp[List.getD,hk]];exact this
end Go.Proofs.YtgkdoehkmbhfiaaGreat
namespace Go.Proofs.YtgkdoehkmbhfiaaGreat
open Go.RowKit
attribute [local go_sem ↓] Go.wp_at_zero Go.wp_at_succ
def qb1A (i0 i2 i4 i5 i6 i7 i19 i20 i21 i22 i23 i24 i25 i26 i27 i28 i29 i30 i31 i32 i33 i34 i35 i36 i37 i38 i39 i40 i41 i42 i43 i44 i45 i46 i47 i48 i49 i50 i51:Value) (gS:Nat) (u3 u8 u9 u10 u11 u12 u13 u14 u15 u16 u17 u18:Value):Act:={ tmps:=#[i0,.pointer (some ⟨gS,0,none⟩),i2,u3,i4,i5,i6,i7,u8,u9,u10,u11,u12,u13,u14,u15,u16,u17,u18,i19,i20,i21,i22,i23,i24,i25,i26,i27,i28,i29,i30,i31,i32,i33,i34,i35,i36,i37,i38,i39,i40,i41,i42,i43,i44,i45,i46,i47,i48,i49,i50,i51],defers:=[] }
def qb1I (i0 i2 i4 i5 i6 i7 i19 i20 i21 i22 i23 i24 i25 i26 i27 i28 i29 i30 i31 i32 i33 i34 i35 i36 i37 i38 i39 i40 i41 i42 i43 i44 i45 i46 i47 i48 i49 i50 i51:Value) (gS:Nat) (vm:Value) (vl:Value) (pa:Option Addr) (n:Nat) (pc:Nat) (ms:List MR) (lat:List Int) (wq:World) (listed:Array Bool) (a:Act) (w':World):Prop :=
 ∃ u3 u8 u9 u10 u11 u12 u13 u14 u15 u16 u17 u18 : Value, a = qb1A i0 i2 i4 i5 i6 i7 i19 i20 i21 i22 i23 i24 i25 i26 i27 i28 i29 i30 i31 i32 i33 i34 i35 i36 i37 i38 i39 i40 i41 i42 i43 i44 i45 i46 i47 i48 i49 i50 i51 gS u3 u8 u9 u10 u11 u12 u13 u14 u15 u16 u17 u18 ∧
   (listed.getD 0 false=true→u8=.pointer (some ⟨gS,0,none⟩)) ∧
   (listed.getD 1 false=true→u9=vm) ∧
   (listed.getD 2 false=true→Owns w' wq.heap.size 144 4 rowM u10 ms) ∧
   (listed.getD 3 false=true→u11=.pointer (some ⟨gS,1,none⟩)) ∧
   (listed.getD 4 false=true→u12=vl) ∧
   (listed.getD 5 false=true→Owns w' wq.heap.size 3 1 rowI u13 lat) ∧
   (listed.getD 6 false=true→u14=.pointer (some ⟨gS,2,none⟩)) ∧
   (listed.getD 7 false=true→u15=.slice pa n pc) ∧
   (listed.getD 8 false=true→u16=.int .i64 (n:Nat)) ∧
   (listed.getD 9 false=true→∃pb,u17=.slice (some ⟨pb,0,none⟩) n n∧Owns w' wq.heap.size 53 1 row1 (.slice (some ⟨pb,0,none⟩) n n) (List.replicate n vnil)) ∧
   (listed.getD 10 false=true→u18=.agg #[u10,u13,u17]) ∧
   (listed.getD 11 false=true→listed.getD 12 false=false→∃g,u3=.pointer (some ⟨g,0,none⟩)∧wq.heap.size≤g∧BoxB w' g vnil vnil vnil) ∧
   (listed.getD 12 false=true→∃g,u3=.pointer (some ⟨g,0,none⟩)∧wq.heap.size≤g∧BoxB w' g u10 u13 u17) ∧
   Below wq.heap.size wq w'
noncomputable def qb1Code:Code:=(Tryz.f57.body.bind (zH0 1)).getD .skip
def QbP (u:Value) (n:Nat) (ms:List MR) (lat:List Int) (wq w':World):Prop:=∃g a b pb,u=.pointer (some ⟨g,0,none⟩)∧wq.heap.size≤g∧BoxB w' g a b (.slice (some ⟨pb,0,none⟩) n n)∧Owns w' wq.heap.size 144 4 rowM a ms∧Owns w' wq.heap.size 3 1 rowI b lat∧Owns w' wq.heap.size 53 1 row1 (.slice (some ⟨pb,0,none⟩) n n) (List.replicate n vnil)∧Below wq.heap.size wq w'
set_option maxRecDepth 100000 in
theorem qb1_region (i0 i2 i4 i5 i6 i7 i19 i20 i21 i22 i23 i24 i25 i26 i27 i28 i29 i30 i31 i32 i33 i34 i35 i36 i37 i38 i39 i40 i41 i42 i43 i44 i45 i46 i47 i48 i49 i50 i51 j3 j8 j9 j10 j11 j12 j13 j14 j15 j16 j17 j18 : Value) (gS : Nat) (vm : Value) (vl : Value) (pa : Option Addr) (n : Nat) (pc : Nat) (ms : List MR) (lat : List Int) (wq : World)
  (hS:Bx wq gS [vm,vl,.slice pa n pc]) (hM:Arr wq wq.heap.size 4 vm (ms.map rowM)) (hL:Arr wq wq.heap.size 1 vl (lat.map rowI)) (hl1:ms.length≤1048576) (hl2:lat.length≤1048576) (hl3:n≤1048576)
  {Q:Exit→Act→World→Prop}
  (hK:∀(u3 u8 u9 u10 u11 u12 u13 u14 u15 u16 u17 u18:Value) w', QbP u3 n ms lat wq w' → Q .normal (qb1A i0 i2 i4 i5 i6 i7 i19 i20 i21 i22 i23 i24 i25 i26 i27 i28 i29 i30 i31 i32 i33 i34 i35 i36 i37 i38 i39 i40 i41 i42 i43 i44 i45 i46 i47 i48 i49 i50 i51 gS u3 u8 u9 u10 u11 u12 u13 u14 u15 u16 u17 u18) w'):qb1Code.wp Tryz.prog Q (qb1A i0 i2 i4 i5 i6 i7 i19 i20 i21 i22 i23 i24 i25 i26 i27 i28 i29 i30 i31 i32 i33 i34 i35 i36 i37 i38 i39 i40 i41 i42 i43 i44 i45 i46 i47 i48 i49 i50 i51 gS j3 j8 j9 j10 j11 j12 j13 j14 j15 j16 j17 j18) wq:=by
 conv=>arg 2;whnf
 refine zE7 (qb1I i0 i2 i4 i5 i6 i7 i19 i20 i21 i22 i23 i24 i25 i26 i27 i28 i29 i30 i31 i32 i33 i34 i35 i36 i37 i38 i39 i40 i41 i42 i43 i44 i45 i46 i47 i48 i49 i50 i51 gS vm vl pa n pc ms lat wq) (by kernel_rfl) (by kernel_rfl) ?_ ?_ ?_
 ·exact⟨_,_,_,_,_,_,_,_,_,_,_,_,rfl,nf,nf,nf,nf,nf,nf,nf,nf,nf,nf,nf,(fun h _=>absurd h (by rw[getD_replicate_false];simp)),nf,(Below.refl _ _).drew⟩
 ·intro listed a w' i o hI hsz ho hl he hcl;obtain⟨u3,u8,u9,u10,u11,u12,u13,u14,u15,u16,u17,u18,rfl,F0,F1,F2,F3,F4,F5,F6,F7,F8,F9,F10,F11,F12,hx⟩:=hI;have hi:i<13:=(Array.getElem?_eq_some_iff.1 ho).1;have e:i=0∨i=1∨i=2∨i=3∨i=4∨i=5∨i=6∨i=7∨i=8∨i=9∨i=10∨i=11∨i=12:=by omega
  clear hi;rcases e with rfl|rfl|rfl|rfl|rfl|rfl|rfl|rfl|rfl|rfl|rfl|rfl|rfl
  all_goals (have ho2:=ho;obtain rfl:=Option.some.inj ho2.symm;clear ho2)
  ·as_aux_lemma=>
    refine zA2 ho rfl (fun K hK=>?_);unfold qb1A;go_simp;refine hK _ _ ⟨_,_,_,_,_,_,_,_,_,_,_,_,rfl,?_,?_,?_,?_,?_,?_,?_,?_,?_,?_,?_,?_,?_,hx⟩ <;> first|exact cy ‹_› rfl|exact fun _=>rfl|exact cyu ‹_› rfl rfl
  ·as_aux_lemma=>
    have l0:=he ⟨0,.data⟩ (by simp) rfl;have e:=F0 l0;subst e;obtain⟨⟨c0,c1,c2⟩,_⟩:=(hS.below hx hS.lt).three;refine zA2 ho rfl (fun K hK=>?_);unfold qb1A;go_simp;refine hK _ _ ⟨_,_,_,_,_,_,_,_,_,_,_,_,rfl,?_,?_,?_,?_,?_,?_,?_,?_,?_,?_,?_,?_,?_,hx⟩ <;> first|exact cy ‹_› rfl|exact fun _=>rfl|exact cyu ‹_› rfl rfl
  ·as_aux_lemma=>
    have l1:=he ⟨1,.data⟩ (by simp) rfl;have e:=F1 l1;subst e;refine zA2 ho rfl (fun K hK=>?_);unfold qb1A;go_simp
    (with_reducible refine(clone_MapRange rowM rowM_len rowM_one _ ms w'.heap.size w' ((hM.below hx).mono hx.size) (by omega)).mono ?_)
    rintro e w'' ⟨q,rfl,o1,hb1⟩
    go_wp2_with fail
    refine⟨_,_,_,_,_,_,_,_,_,_,_,_,rfl,?_,?_,fun _=>o1.rebase hx.size,?_,?_,fun hj=>absurd (hcl 5 _ rfl (by rwa [sgx (by decide)]at hj) ⟨2,.chain⟩ (by simp) rfl) (by rw[getD_both hl];simp),?_,?_,?_,fun hj=>(let ⟨pb,e,o⟩:=(F9 (by rwa [sgx (by decide)]at hj));⟨pb,e,OwnR.below o hb1 (fun k hk=>(OwnR.lt o k hk).2)⟩),fun hj=>absurd (hcl 10 _ rfl (by rwa [sgx (by decide)]at hj) ⟨2,.data⟩ (by simp) rfl) (by rw[getD_both hl];simp),fun hj hu=>(let ⟨g,e1,e2,e3⟩:=(F11 (by rwa [sgx (by decide)]at hj) (by rwa [sgx (by decide)]at hu));⟨g,e1,e2,e3.below hb1 e3.lt⟩),fun hj=>absurd (hcl 12 _ rfl (by rwa [sgx (by decide)]at hj) ⟨2,.phase⟩ (by simp) rfl) (by rw[getD_both hl];simp),hx.trans (hb1.mono hx.size)⟩ <;> first|exact cy ‹_› rfl|exact fun _=>rfl
  ·as_aux_lemma=>
    refine zA2 ho rfl (fun K hK=>?_);unfold qb1A;go_simp;refine hK _ _ ⟨_,_,_,_,_,_,_,_,_,_,_,_,rfl,?_,?_,?_,?_,?_,?_,?_,?_,?_,?_,?_,?_,?_,hx⟩ <;> first|exact cy ‹_› rfl|exact fun _=>rfl|exact cyu ‹_› rfl rfl
  ·as_aux_lemma=>
    have l3:=he ⟨3,.data⟩ (by simp) rfl;have e:=F3 l3;subst e;obtain⟨⟨c0,c1,c2⟩,_⟩:=(hS.below hx hS.lt).three;refine zA2 ho rfl (fun K hK=>?_);unfold qb1A;go_simp;refine hK _ _ ⟨_,_,_,_,_,_,_,_,_,_,_,_,rfl,?_,?_,?_,?_,?_,?_,?_,?_,?_,?_,?_,?_,?_,hx⟩ <;> first|exact cy ‹_› rfl|exact fun _=>rfl|exact cyu ‹_› rfl rfl
  ·as_aux_lemma=>
    have l4:=he ⟨4,.data⟩ (by simp) rfl;have e:=F4 l4;subst e;refine zA2 ho rfl (fun K hK=>?_);unfold qb1A;go_simp
    (with_reducible refine(zH4 rowI zE9 zH9 _ lat w'.heap.size w' ((hL.below hx).mono hx.size) (by omega)).mono ?_)
    rintro e w'' ⟨q,rfl,o1,hb1⟩
    go_wp2_with fail
    refine⟨_,_,_,_,_,_,_,_,_,_,_,_,rfl,?_,?_,fun hj=>OwnR.below (F2 (by rwa [sgx (by decide)]at hj)) hb1 (fun k hk=>(OwnR.lt (F2 (by rwa [sgx (by decide)]at hj)) k hk).2),?_,?_,fun _=>o1.rebase hx.size,?_,?_,?_,fun hj=>(let ⟨pb,e,o⟩:=(F9 (by rwa [sgx (by decide)]at hj));⟨pb,e,OwnR.below o hb1 (fun k hk=>(OwnR.lt o k hk).2)⟩),fun hj=>absurd (hcl 10 _ rfl (by rwa [sgx (by decide)]at hj) ⟨5,.data⟩ (by simp) rfl) (by rw[getD_both hl];simp),fun hj hu=>(let ⟨g,e1,e2,e3⟩:=(F11 (by rwa [sgx (by decide)]at hj) (by rwa [sgx (by decide)]at hu));⟨g,e1,e2,e3.below hb1 e3.lt⟩),fun hj=>absurd (hcl 12 _ rfl (by rwa [sgx (by decide)]at hj) ⟨5,.phase⟩ (by simp) rfl) (by rw[getD_both hl];simp),hx.trans (hb1.mono hx.size)⟩ <;> first|exact cy ‹_› rfl|exact fun _=>rfl
  ·as_aux_lemma=>
    refine zA2 ho rfl (fun K hK=>?_);unfold qb1A;go_simp;refine hK _ _ ⟨_,_,_,_,_,_,_,_,_,_,_,_,rfl,?_,?_,?_,?_,?_,?_,?_,?_,?_,?_,?_,?_,?_,hx⟩ <;> first|exact cy ‹_› rfl|exact fun _=>rfl|exact cyu ‹_› rfl rfl
  ·as_aux_lemma=>
    have l6:=he ⟨6,.data⟩ (by simp) rfl;have e:=F6 l6;subst e;obtain⟨⟨c0,c1,c2⟩,_⟩:=(hS.below hx hS.lt).three;refine zA2 ho rfl (fun K hK=>?_);unfold qb1A;go_simp;refine hK _ _ ⟨_,_,_,_,_,_,_,_,_,_,_,_,rfl,?_,?_,?_,?_,?_,?_,?_,?_,?_,?_,?_,?_,?_,hx⟩ <;> first|exact cy ‹_› rfl|exact fun _=>rfl|exact cyu ‹_› rfl rfl
  ·as_aux_lemma=>
    have l7:=he ⟨7,.data⟩ (by simp) rfl;have e:=F7 l7;subst e;refine zA2 ho rfl (fun K hK=>?_);unfold qb1A;go_simp;refine hK _ _ ⟨_,_,_,_,_,_,_,_,_,_,_,_,rfl,?_,?_,?_,?_,?_,?_,?_,?_,?_,?_,?_,?_,?_,hx⟩ <;> first|exact cy ‹_› rfl|exact fun _=>rfl|exact cyu ‹_› rfl rfl
  ·as_aux_lemma=>
    have l8:=he ⟨8,.data⟩ (by simp) rfl;have e:=F8 l8;subst e;refine zA2 ho rfl (fun K hK=>?_);unfold qb1A;refine opWp_mk row1 vnil vnil Tryz.underlying25 infoPQ rfl (by omega) rfl w' _ _ rfl _ _ _ _ n rfl rfl rfl rfl (by omega) (by unfold maxLen;omega) ?_;intro w'' o1 hb1;refine hK _ _ ⟨_,_,_,_,_,_,_,_,_,_,_,_,rfl,?_,?_,fun hj=>OwnR.below (F2 (by rwa [sgx (by decide)]at hj)) hb1 (fun k hk=>(OwnR.lt (F2 (by rwa [sgx (by decide)]at hj)) k hk).2),?_,?_,fun hj=>OwnR.below (F5 (by rwa [sgx (by decide)]at hj)) hb1 (fun k hk=>(OwnR.lt (F5 (by rwa [sgx (by decide)]at hj)) k hk).2),?_,?_,?_,fun _=>⟨_,rfl,OwnR.rebase o1 hx.size⟩,fun hj=>absurd (hcl 10 _ rfl (by rwa [sgx (by decide)]at hj) ⟨9,.data⟩ (by simp) rfl) (by rw[getD_both hl];simp),fun hj hu=>(let ⟨g,e1,e2,e3⟩:=(F11 (by rwa [sgx (by decide)]at hj) (by rwa [sgx (by decide)]at hu));⟨g,e1,e2,e3.below hb1 e3.lt⟩),fun hj=>absurd (hcl 12 _ rfl (by rwa [sgx (by decide)]at hj) ⟨9,.phase⟩ (by simp) rfl) (by rw[getD_both hl];simp),hx.trans (hb1.mono hx.size)⟩ <;> first|exact cy ‹_› rfl|exact fun _=>rfl
  ·as_aux_lemma=>
    have l2:=he ⟨2,.data⟩ (by simp) rfl;have l5:=he ⟨5,.data⟩ (by simp) rfl;have l9:=he ⟨9,.data⟩ (by simp) rfl;have oa:=F2 l2;have ob:=F5 l5;obtain⟨pb,hpb,op⟩:=F9 l9;obtain⟨y1,y2,e1,_,_⟩:=oa.shape;obtain⟨z1,z2,e2,_,_⟩:=ob.shape;subst e1 e2 hpb;refine zA2 ho rfl (fun K hK=>?_);unfold qb1A;go_simp;refine hK _ _ ⟨_,_,_,_,_,_,_,_,_,_,_,_,rfl,?_,?_,fun hj=>oa,?_,?_,fun hj=>ob,?_,?_,?_,fun hj=>⟨pb,rfl,op⟩,?_,?_,?_,hx⟩ <;> first|exact cy ‹_› rfl|exact fun _=>rfl|exact cyu ‹_› rfl rfl
  ·as_aux_lemma=>
    refine zA2 ho rfl (fun K hK=>?_);unfold qb1A;have hb1:Below w'.heap.size w' (w'.alloc (.cells #[.slice none 0 0,.slice none 0 0,.slice none 0 0] 27)):=(Below.refl _ _).alloc (Nat.le_refl _) _;go_simp;refine hK _ _ ⟨_,_,_,_,_,_,_,_,_,_,_,_,rfl,?_,?_,fun hj=>OwnR.below (F2 (by rwa [sgx (by decide)]at hj)) hb1 (fun k hk=>(OwnR.lt (F2 (by rwa [sgx (by decide)]at hj)) k hk).2),?_,?_,fun hj=>OwnR.below (F5 (by rwa [sgx (by decide)]at hj)) hb1 (fun k hk=>(OwnR.lt (F5 (by rwa [sgx (by decide)]at hj)) k hk).2),?_,?_,?_,fun hj=>(let ⟨pb,e,o⟩:=(F9 (by rwa [sgx (by decide)]at hj));⟨pb,e,OwnR.below o hb1 (fun k hk=>(OwnR.lt o k hk).2)⟩),?_,fun _ _=>⟨_,rfl,hx.size,BoxB.new _ _ _ _⟩,fun hj=>absurd (hcl 12 _ rfl (by rwa [sgx (by decide)]at hj) ⟨11,.data⟩ (by simp) rfl) (by rw[getD_both hl];simp),hx.trans (hb1.mono hx.size)⟩ <;> first|exact cy ‹_› rfl|exact fun _=>rfl
  ·as_aux_lemma=>
    have l11:=he ⟨11,.data⟩ (by simp) rfl;have l10:=he ⟨10,.data⟩ (by simp) rfl;obtain⟨g,rfl,g1,hB⟩:=F11 l11 (getD_both hl);have e10:=F10 l10;have oa:=F2 (hcl 10 _ rfl l10 ⟨2,.data⟩ (by simp) rfl);have ob:=F5 (hcl 10 _ rfl l10 ⟨5,.data⟩ (by simp) rfl);obtain⟨pb,hpb,op⟩:=F9 (hcl 10 _ rfl l10 ⟨9,.data⟩ (by simp) rfl);obtain⟨y1,y2,e1,_,_⟩:=oa.shape;obtain⟨z1,z2,e2,_,_⟩:=ob.shape;subst e1 e2 hpb e10;obtain⟨⟨k0,k1,k2⟩,m0,m1,m2⟩:=hB.bx.three;refine zA2 ho rfl (fun K hK=>?_);unfold qb1A;have ht:=touchB g w' (.slice y1 ms.length y2) (.slice z1 lat.length z2) (.slice (some ⟨pb,0,none⟩) n n);go_simp;refine hK _ _ ⟨_,_,_,_,_,_,_,_,_,_,_,_,rfl,?_,?_,fun hj=>oa.boxB hB (by decide) ht,?_,?_,fun hj=>ob.boxB hB (by decide) ht,?_,?_,?_,fun hj=>⟨pb,rfl,op.boxB hB (by decide) ht⟩,fun hj=>rfl,fun _ hu=>absurd hu (by rw[sgix hl];simp),fun _=>⟨g,rfl,g1,hB.put _ _ _⟩,Below.touchN hx ht g1 (Nat.le_refl _)⟩ <;> first|exact cy ‹_› rfl|exact fun _=>rfl
 ·intro listed a w' hI hd;obtain⟨u3,u8,u9,u10,u11,u12,u13,u14,u15,u16,u17,u18,rfl,F0,F1,F2,F3,F4,F5,F6,F7,F8,F9,F10,F11,F12,hx⟩:=hI;obtain⟨g,h3,g1,hB⟩:=F12 (hd 12 (by show 12<13;omega));have oa:=F2 (hd 2 (by show 2<13;omega));have ob:=F5 (hd 5 (by show 5<13;omega));obtain⟨pb,hpb,op⟩:=F9 (hd 9 (by show 9<13;omega));subst hpb;exact hK _ _ _ _ _ _ _ _ _ _ _ _ w' ⟨g,_,_,pb,h3,g1,hB,oa,ob,op,hx⟩
end Go.Proofs.YtgkdoehkmbhfiaaGreat
namespace Go.Proofs.YtgkdoehkmbhfiaaGreat
open Go.RowKit
attribute [local go_sem ↓] Go.wp_at_zero Go.wp_at_succ
def qb5A (i0 i1 i2 i6 i7 i8 i9 i10 i11 i12 i13 i14 i15 i16 i17 i18 i19 i20 i21 i22 i23 i24 i25 i26 i33 i34 i35 i36 i37 i38 i39 i40 i41 i42 i43 i44 i45 i46 i47 i48 i49 i50 i51:Value) (g:Nat) (k:Nat) (v5:Value) (u27 u28 u29 u30 u31 u32:Value):Act:={ tmps:=#[i0,i1,i2,.pointer (some ⟨g,0,none⟩),.int .i64 (k:Nat),v5,i6,i7,i8,i9,i10,i11,i12,i13,i14,i15,i16,i17,i18,i19,i20,i21,i22,i23,i24,i25,i26,u27,u28,u29,u30,u31,u32,i33,i34,i35,i36,i37,i38,i39,i40,i41,i42,i43,i44,i45,i46,i47,i48,i49,i50,i51],defers:=[] }
noncomputable def qb5Code:Code:=(Tryz.f57.body.bind (zH0 5)).getD .skip
def QcP (lo pb k n:Nat) (us:List Value) (ys:List RqS) (wq w':World):Prop:=∃u,Owns w' wq.heap.size 52 7 rowS7 u ys∧Owns w' lo 53 1 row1 (.slice (some ⟨pb,0,none⟩) n n) (us.set k u)∧Touch pb wq w'
def qb5C (lo pb k n : Nat) (us : List Value) (ys : List RqS) (wq : World) (vs : List Value) (W : World) : Prop := Touch pb wq W ∧ match vs with
 |[]=>Owns W lo 53 1 row1 (.slice (some ⟨pb,0,none⟩) n n) us
 |[u]=>Owns W lo 53 1 row1 (.slice (some ⟨pb,0,none⟩) n n) us∧Owns W wq.heap.size 52 7 rowS7 u ys
 |[_,_]=>QcP lo pb k n us ys wq W
 |_=>False
set_option maxRecDepth 100000 in
theorem qb5_region (i0 i1 i2 i6 i7 i8 i9 i10 i11 i12 i13 i14 i15 i16 i17 i18 i19 i20 i21 i22 i23 i24 i25 i26 i33 i34 i35 i36 i37 i38 i39 i40 i41 i42 i43 i44 i45 i46 i47 i48 i49 i50 i51 j27 j28 j29 j30 j31 j32 : Value) (g : Nat) (k : Nat) (v5 : Value) (lo : Nat) (pb : Nat) (n : Nat) (B : Nat) (us : List Value) (ys : List RqS) (wq : World)
    (hgp:g≠pb) (hgl:g<wq.heap.size) (hG:wq.cell? ⟨g,2,none⟩=some (.slice (some ⟨pb,0,none⟩) n n)) (hpl:pb<wq.heap.size) (hB:B≤pb) (hkn:k<n) (hus:us.length=n) (hO:Owns wq lo 53 1 row1 (.slice (some ⟨pb,0,none⟩) n n) us) (hA:Arr wq B 7 v5 (ys.map rowS7)) (hl3:ys.length≤1048576)
    {Q:Exit→Act→World→Prop}
    (hK:∀(u27 u28 u29 u30 u31 u32:Value) w', QcP lo pb k n us ys wq w' → Q .normal (qb5A i0 i1 i2 i6 i7 i8 i9 i10 i11 i12 i13 i14 i15 i16 i17 i18 i19 i20 i21 i22 i23 i24 i25 i26 i33 i34 i35 i36 i37 i38 i39 i40 i41 i42 i43 i44 i45 i46 i47 i48 i49 i50 i51 g k v5 u27 u28 u29 u30 u31 u32) w'):qb5Code.wp Tryz.prog Q (qb5A i0 i1 i2 i6 i7 i8 i9 i10 i11 i12 i13 i14 i15 i16 i17 i18 i19 i20 i21 i22 i23 i24 i25 i26 i33 i34 i35 i36 i37 i38 i39 i40 i41 i42 i43 i44 i45 i46 i47 i48 i49 i50 i51 g k v5 j27 j28 j29 j30 j31 j32) wq:=by
  conv=>arg 2;whnf
  obtain⟨CC,hCC⟩:∃CC,CC=qb5C lo pb k n us ys wq:=⟨_,rfl⟩
  have hC0:CC [] wq.drew:=by rw[hCC];exact⟨(Touch.refl _ _).drewd,hO⟩
  have hTC:∀us W,CC us W→Touch pb wq W:=by rw[hCC];exact fun us W h=>h.1
  have HCC:=hid hCC;have hne:Nonempty (Ph CC):=⟨⟨([],wq.drew),hC0⟩⟩
  have pc9:∀{p:Addr} {v:Value},p.block≠pb→wq.cell? p=some v→∀x:Ph CC,x.1.2.cell? p=some v:=fun hp hc x=>by
    rw[←hc];simp only[World.cell?,(hTC _ _ x.2).block _ (World.block_lt_of_cell? wq _ hc) hp]
  replace hG:=pc9 hgp hG;clear hCC pc9;have hki:(k:Int)<(n:Int):=by omega
  unfold qb5A;refine zA9 CC [(4,false),(6,false)] [] (by kernel_rfl) (by kernel_rfl) hC0 ?_
  iterate 2
    repeat (
      (with_reducible refine wq1_q ⟨rfl,rfl⟩ (fun K hK=>?_))
      go_simp
      first
        |((with_reducible refine hK _ ?_);clear hK K)
        |((with_reducible refine zA7 (by simp[undef]) (hK _ ?_));clear hK K)
        | (apply Exists.intro
           (with_reducible refine⟨fun _=>?_,hK _ ?_⟩)
           (fail)
           clear hK K))
    refine wq1_v rfl ?_
  repeat (
    (with_reducible refine wq1_q ⟨rfl,rfl⟩ (fun K hK=>?_))
    go_simp
    first
      |((with_reducible refine hK _ ?_);clear hK K)
      |((with_reducible refine zA7 (by simp[undef]) (hK _ ?_));clear hK K)
      | (apply Exists.intro
         (with_reducible refine⟨fun _=>?_,hK _ ?_⟩)
         (fail)
         clear hK K))
  refine zF4 ?_;clear hne;refine wq2_v _ rfl rfl ?_ ?_
  · intro W hW KA hKA
    rw[HCC.out]at hW;obtain⟨hT,own⟩:=hW;go_simp
    (with_reducible refine(clone_ReqReq rowS7 rowS7_len rowS7_one _ ys B W (hA.below (hT.below hB (Nat.le_trans hB (Nat.le_of_lt hpl)))) (by omega)).mono ?_)
    rintro e w'' ⟨q,rfl,o1,hb1⟩;go_simp;exact hKA _ _ _ (by rw[HCC.out];exact⟨hT.trans (Touch.of_below hb1 (Nat.le_refl _)),OwnR.below own hb1 (fun k hk=>(OwnR.lt own k hk).2),o1.rebase hT.size⟩) rfl
  intro v0 KA hKA;go_simp;refine hKA _ ?_;clear hKA KA;refine wq2_v _ rfl rfl ?_ ?_
  · intro W hW KA hKA
    rw[HCC.out]at hW;obtain⟨hT,n6,o4⟩:=hW;obtain⟨y1,y2,e1,_,_⟩:=o4.shape;subst e1;have q:=n6.cellAt zG7 k 0 vnil (by rw[hus];exact hkn) (by omega);have q2:=n6.frozenAt k;simp only[Nat.zero_add,Nat.mul_one,Nat.add_zero,row1,List.getElem?_cons_zero]at q;have hput:=n6.putRow zG7 k 0 vnil (.slice y1 ys.length y2) (.slice y1 ys.length y2) (by rw[hus];exact hkn) (by omega) rfl;simp only[Nat.zero_add,Nat.mul_one,Nat.add_zero]at hput;have HPUT:=hid hput;clear hput;go_simp;exact hKA undef _ _ (by rw[HCC.out];exact⟨hT.trans (Touch.setCell ..),_,Owns.tchB o4 (Touch.setCell ..) (fun e=>(Owns.apartT o4 n6 (by decide)) pb e rfl),HPUT.out,hT.trans (Touch.setCell ..)⟩) rfl
  intro v1 KA hKA;go_simp;refine hKA _ ?_;clear hKA KA;refine zF3 ?_;intro wz hwz;rw[HCC.out]at hwz;exact hK _ _ _ _ _ _ wz hwz.2
end Go.Proofs.YtgkdoehkmbhfiaaGreat
namespace Go.Proofs.YtgkdoehkmbhfiaaGreat
open Go.RowKit
theorem touch7o (s o:Nat) (w:World) (a b c d e f h:Value):Touch s w (((((((w.setCell ⟨s,o,none⟩ a).setCell ⟨s,o+1,none⟩ b).setCell ⟨s,o+2,none⟩ c).setCell ⟨s,o+3,none⟩ d).setCell ⟨s,o+4,none⟩ e).setCell ⟨s,o+5,none⟩ f).setCell ⟨s,o+6,none⟩ h) :=
 ((((((Touch.setCell _ _ _ _).trans (Touch.setCell _ _ _ _)).trans (Touch.setCell _ _ _ _)).trans (Touch.setCell _ _ _ _)).trans (Touch.setCell _ _ _ _)).trans (Touch.setCell _ _ _ _)).trans (Touch.setCell _ _ _ _)
set_option maxRecDepth 20000 in
theorem wp_store7o {a : Act} {w : World} {K : Act → World → Prop} {Q : Exit → Act → World → Prop} (ty : Nat) (pos : String) (aft : Array Edge) {t1 t2 g o : Nat} {c0 c1 c2 c3 c4 c5 c6 : Value} {id kind addr many : Int} {wp : Bool} {da la : Option Addr} {dn dc ln lc : Nat}
  (k0:w.cell? ⟨g,o,none⟩=some c0) (k1:w.cell? ⟨g,o+1,none⟩=some c1) (k2:w.cell? ⟨g,o+2,none⟩=some c2) (k3:w.cell? ⟨g,o+3,none⟩=some c3) (k4:w.cell? ⟨g,o+4,none⟩=some c4) (k5:w.cell? ⟨g,o+5,none⟩=some c5) (k6:w.cell? ⟨g,o+6,none⟩=some c6)
  (m:∀j,w.frozen? ⟨g,j,none⟩=false)
  (hp:a.tmps.getD t1 undef=.pointer (some ⟨g,o,none⟩)) (hv:a.tmps.getD t2 undef=.agg #[.int .i64 id,.int .i64 kind,.int .i64 addr,.int .i64 many,.bool wp,.slice da dn dc,.slice la ln lc])
  (h:K a (((((((w.setCell ⟨g,o,none⟩ (.int .i64 id)).setCell ⟨g,o+1,none⟩ (.int .i64 kind)).setCell ⟨g,o+2,none⟩ (.int .i64 addr)).setCell ⟨g,o+3,none⟩ (.int .i64 many)).setCell ⟨g,o+4,none⟩ (.bool wp)).setCell ⟨g,o+5,none⟩ (.slice da dn dc)).setCell ⟨g,o+6,none⟩ (.slice la ln lc))) :
  Oper.wp Tryz.prog { dst:=none,op:=.store 52 (.tmp t1) (.tmp t2),type:=ty,pos:=pos,after:=aft,guard:=none } a w K Q:=by
 have m0:=m o;have m1:=m (o+1);have m2:=m (o+2);have m3:=m (o+3);have m4:=m (o+4);have m5:=m (o+5);have m6:=m (o+6);clear m;obtain⟨tmps,defers⟩:=a;simp only at hp hv;simp only[Array.getD_eq_getD_getElem?]at hp hv;go_simp;exact h
end Go.Proofs.YtgkdoehkmbhfiaaGreat
