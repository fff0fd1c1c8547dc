/- Draws: odd, l20Addr. -/
import Derived.Test.YthnlalffjepdaaaGreatGLib
import Derived.Test.YthnlalffjepdaaaGreatGDo4
import Derived.Test.YthnlalffjepdaaaGreatGClInt
set_option linter.unusedVariables false
set_option linter.unusedSimpArgs false
set_option maxHeartbeats 16000000
namespace Go.Proofs.YthnlalffjepdaaaGreat
def zA7 (v:Sv):List (Nat×Nat):=v.done.map (fun j=>(j.who,j.n))++v.pipe.map (fun j=>(j.who,j.n))
def nsOf (w:Nat) (l:List (Nat×Nat)):List Nat:=(l.filter (fun k=>k.1==w)).map (·.2)
theorem zL4 (w:Nat) (a b:List (Nat×Nat)):nsOf w (a++b)=nsOf w a++nsOf w b:=by simp[nsOf]
theorem zL3 (w n:Nat) (l:List (Nat×Nat)):nsOf w ((w,n)::l)=n::nsOf w l:=by simp[nsOf]
theorem zH1 {w v:Nat} (n:Nat) (l:List (Nat×Nat)) (h:v≠w):nsOf w ((v,n)::l)=nsOf w l:=by simp[nsOf,h]
theorem mem_nsOf {w n:Nat} {l:List (Nat×Nat)}:n∈nsOf w l↔(w,n)∈l:=by
 simp only[nsOf,List.mem_map,List.mem_filter,beq_iff_eq]
 constructor
 ·rintro⟨⟨a,b⟩,⟨h1,rfl⟩,rfl⟩;exact h1
 ·intro h;exact⟨(w,n),⟨h,rfl⟩,rfl⟩
structure Bus (c:Cfg):Prop where
 ms:mapOk c.ms=true
 lat:c.lat.length=4
 lat3:∀x∈c.lat,x≤3
 progs:c.progs.length=3
 most:∀p∈c.progs,p.length≤12
 reqs:∀p∈c.progs,∀r∈p,reqOk r=true
theorem Bus.prog {c:Cfg} (h:Bus c) {w:Nat} (hw:w<3):c.prog w∈c.progs:=zC6 (by rw[h.progs];exact hw)
theorem Bus.req {c:Cfg} (h:Bus c) {w n:Nat} (hw:w<3) (hn:n<(c.prog w).length):reqOk (c.req w n)=true:=h.reqs _ (h.prog hw) _ (zC6 hn)
theorem Bus.twelve {c:Cfg} (h:Bus c) {w:Nat} (hw:w<3):(c.prog w).length≤12:=h.most _ (h.prog hw)
theorem Bus.lt3 {c:Cfg} (h:Bus c) {s:Nat} (hs:s<4):c.lt s≤3:=h.lat3 _ (zC6 (by rw[h.lat];exact hs))
structure PGood (c:Cfg) (w:Nat) (p:Pt):Prop where
 q:p.queue=List.range' (p.next - p.queue.length) p.queue.length
 qn:p.queue.length≤p.next
 q2:p.queue.length≤2
 nx:p.next≤(c.prog w).length
 o4:p.out.length≤4
 o:∀j∈p.out,j.who=w∧j.left=c.slv w j.n∧j.n<p.next - p.queue.length
 os:p.out.Pairwise (fun a b=>a.n<b.n)
 oi:∀a∈p.out,∀b∈p.out,c.id w a.n=c.id w b.n→a.left=b.left
 l:p.last≤3
structure SGood (c:Cfg) (s:Nat) (v:Sv):Prop where
 p2:v.pipe.length≤2
 d2:v.done.length≤2
 l:v.last≤2
 w3:∀k∈zA7 v,k.1<3
 pl:∀j rest,v.pipe=j::rest→j.left≤c.lt s∧∀i∈rest,i.left=c.lt s
 dr:∀j∈v.done,rspOk j.rsp=true∧j.rsp.id=c.id j.who j.n
structure Good (c:Cfg) (st:Cy):Prop where
 atm:atmOk st.ws st.hs=true
 p:∀w,w<3→PGood c w (st.ports w)
 s:∀s,s<4→SGood c s (st.slaves s)
 link:∀s w,s<4→w<3→nsOf w (zA7 (st.slaves s))=((st.ports w).out.filter (fun j=>j.left==s)).map (·.n)
 t:∀j∈st.told,j.who<3∧rspOk j.rsp=true∧j.rsp.id=c.id j.who j.n
 part:∀w,w<3→(((st.told.filter (fun j=>j.who==w)).map (·.n))++(st.ports w).out.map (·.n)).Perm (List.range ((st.ports w).next - (st.ports w).queue.length))
theorem zE3 (c:Cfg):Good c cy0:=by
 refine⟨by decide +kernel,fun w _=>⟨rfl,Nat.le_refl _,by simp[cy0],Nat.zero_le _,by simp[cy0],by simp[cy0],by simp[cy0],by simp[cy0],by simp[cy0]⟩,fun s _=>⟨by simp[cy0],by simp[cy0],by simp[cy0],by simp[cy0,zA7],by simp[cy0],by simp[cy0]⟩,by simp[cy0,zA7,nsOf],by simp[cy0],by simp[cy0]⟩
theorem Good.key {c:Cfg} {st:Cy} (h:Good c st) {s w n:Nat} (hs:s<4) (hk:(w,n)∈zA7 (st.slaves s)):w<3∧∃o∈(st.ports w).out,o.n=n∧o.left=s:=by
 have hw:w<3:=(h.s s hs).w3 _ hk;refine⟨hw,?_⟩;have:=mem_nsOf.2 hk;rw[h.link s w hs hw,List.mem_map]at this;obtain⟨o,ho,rfl⟩:=this;rw[List.mem_filter]at ho;exact⟨o,ho.1,rfl,by simpa using ho.2⟩
theorem Good.keyN {c:Cfg} {st:Cy} (h:Good c st) {s w n:Nat} (hs:s<4) (hk:(w,n)∈zA7 (st.slaves s)):n<(c.prog w).length:=by
 obtain⟨hw,o,ho,rfl,_⟩:=h.key hs hk;have:=(h.p w hw).o o ho;have:=(h.p w hw).nx;omega
theorem uniq_n {l:List Jb} (h:l.Pairwise (fun a b=>a.n<b.n)) {a b:Jb} (ha:a∈l) (hb:b∈l) (e:a.n=b.n):a=b:=by
 induction l with
 |nil=>cases ha
 |cons x l ih=>
  rw[List.pairwise_cons]at h;rcases List.mem_cons.1 ha with e1|h1 <;> rcases List.mem_cons.1 hb with e2|h2
  ·rw[e1,e2]
  ·subst e1;have:=h.1 _ h2;omega
  ·subst e2;have:=h.1 _ h1;omega
  ·exact ih h.2 h1 h2
theorem zK7 {α : Type} {p q : α → Bool} : ∀ {l : List α}, (∀ x ∈ l, p x = true → q x = true) → (l.eraseP p).filter q = (l.filter q).eraseP p
 |[],_=>rfl
 |x::l,h=>by
  have ih:=zK7 (p:=p) (q:=q) (l:=l) (fun y hy=>h y (List.mem_cons_of_mem _ hy));rcases hp:p x with _|_
  ·rcases hq:q x with _|_
   ·simp[List.eraseP_cons,hp,hq,ih]
   ·simp[List.eraseP_cons,hp,hq,ih]
  ·have hq:=h x (by simp) hp;simp[List.eraseP_cons,hp,hq]
theorem zJ3 {α : Type} {p q : α → Bool} : ∀ {l : List α}, (∀ x ∈ l, p x = true → q x = false) → (l.eraseP p).filter q = l.filter q
 |[],_=>rfl
 |x::l,h=>by
  have ih:=zJ3 (p:=p) (q:=q) (l:=l) (fun y hy=>h y (List.mem_cons_of_mem _ hy));rcases hp:p x with _|_
  ·rcases hq:q x with _|_
   ·simp[List.eraseP_cons,hp,hq,ih]
   ·simp[List.eraseP_cons,hp,hq,ih]
  ·have hq:=h x (by simp) hp;simp[List.eraseP_cons,hp,hq]
theorem Good.tell {c:Cfg} {x:Cy×List Ev} (h:Good c x.1) {w s:Nat} {j:TJ} {rest:List TJ} (hw:w<3) (hs:s<4) (hd:(x.1.slaves s).done=j::rest) (hj:j.who=w):Good c (zD4 w s j rest x).1:=by
 have hsg:=h.s s hs;have hpg:=h.p w hw;have hkeys:zA7 (x.1.slaves s)=(w,j.n)::zA7 { x.1.slaves s with done:=rest }:=by simp[zA7,hd,hj]
 have hl:=h.link s w hs hw;rw[hkeys,zL3]at hl;obtain⟨o,ho,hon,hos⟩:=(h.key hs (by rw[hkeys];simp:(w,j.n)∈zA7 (x.1.slaves s))).2;obtain⟨a,l1,l2,_,ha,he,he2⟩:=List.exists_of_eraseP (p:=fun o:Jb=>o.n==j.n) ho (by simp[hon]);have ha':a.n=j.n:=by simpa using ha
 have hperm:((x.1.ports w).out.map (·.n)).Perm (j.n::((x.1.ports w).out.eraseP (fun o=>o.n==j.n)).map (·.n)):=by
  rw[he2,he];simp only[List.map_append,List.map_cons,ha'];exact List.perm_middle
 have hsub:((x.1.ports w).out.eraseP (fun o=>o.n==j.n)).Sublist (x.1.ports w).out:=List.eraseP_sublist;have hmem:∀y∈(x.1.ports w).out,(y.n==j.n)=true→y=o:=fun y hy e=>uniq_n hpg.os hy ho (by rw[hon];simpa using e)
 refine⟨h.atm,fun v hv=>?_,fun t ht=>?_,fun t v ht hv=>?_,fun i hi=>?_,fun v hv=>?_⟩
 ·by_cases hvw:v=w
  ·subst hvw;simp only[zD4,zA1];exact⟨hpg.q,hpg.qn,hpg.q2,hpg.nx,Nat.le_trans hsub.length_le hpg.o4,fun j hj=>hpg.o j (hsub.subset hj),hpg.os.sublist hsub,fun a ha b hb=>hpg.oi a (hsub.subset ha) b (hsub.subset hb),by simp only;omega⟩
  ·simp only[zD4,zA0 _ _ hvw];exact h.p v hv
 ·by_cases hts:t=s
  ·subst hts;simp only[zD4,zA1];refine⟨hsg.p2,?_,hsg.l,fun k hk=>hsg.w3 k (by rw[hkeys];exact List.mem_cons_of_mem _ hk),hsg.pl,fun i hi=>hsg.dr i (by rw[hd];exact List.mem_cons_of_mem _ hi)⟩;have:=hsg.d2;rw[hd]at this;simp at this ⊢;omega
  ·simp only[zD4,zA0 _ _ hts];exact h.s t ht
 ·by_cases hvw:v=w
  ·subst hvw;by_cases hts:t=s
   ·subst hts;simp only[zD4,zA1];rw[zK7 (fun y hy e=>by rw[hmem y hy e];simp[hos])];have hm2:(((x.1.ports v).out.filter (fun j=>j.left==t)).map (·.n))=j.n::nsOf v (zA7 { x.1.slaves t with done:=rest }):=hl.symm;rcases hf:(x.1.ports v).out.filter (fun j=>j.left==t)with _|⟨y,ys⟩
    ·rw[hf]at hm2;cases hm2
    ·rw[hf]at hm2;simp only[List.map_cons,List.cons.injEq]at hm2;rw[hf,List.eraseP_cons_of_pos (by simp[hm2.1])];exact hm2.2.symm
   ·simp only[zD4,zA1,zA0 _ _ hts];rw[zJ3 (fun y hy e=>by rw[hmem y hy e];simp[hos];omega)];exact h.link t v ht hv
  ·by_cases hts:t=s
   ·subst hts;simp only[zD4,zA1,zA0 _ _ hvw];rw[←h.link t v ht hv,hkeys,zH1 _ _ (Ne.symm hvw)]
   ·simp only[zD4,zA0 _ _ hvw,zA0 _ _ hts];exact h.link t v ht hv
 ·simp only[zD4,List.mem_append,List.mem_singleton]at hi;rcases hi with hi|rfl
  ·exact h.t i hi
  ·exact⟨by omega,hsg.dr _ (by rw[hd];simp)⟩
 ·by_cases hvw:v=w
  ·subst hvw;simp only[zD4,zA1,List.filter_append,List.map_append,List.filter_cons,hj,beq_self_eq_true,if_true,List.filter_nil,List.map_cons,List.map_nil,List.append_assoc,List.singleton_append];exact(hperm.symm.append_left _).trans (h.part v hv)
  ·simp only[zD4,zA0 _ _ hvw,List.filter_append,List.map_append,List.filter_cons,hj];rw[show(w==v)=false by simpa using Ne.symm hvw];simpa using h.part v hv
theorem good_tell1 {c:Cfg} {inp:Inp} {x:Cy×List Ev} (h:Good c x.1) {w:Nat} (hw:w<3):Good c (tell1 inp w x).1:=by
 unfold tell1
 split
 ·split
  ·exact h
  ·rename_i k hk;obtain⟨_,_,hm⟩:=zM2 hk
   split
   ·exact h
   ·rename_i j rest hd;refine h.tell hw (Nat.mod_lt _ (by omega)) hd ?_;unfold tellM at hm;rw[hd]at hm;simpa using hm
 ·exact h
theorem Good.dec {c:Cfg} {st:Cy} (h:Good c st) {s:Nat} {j:Jb} {rest:List Jb} (hs:s<4) (hp:(st.slaves s).pipe=j::rest):Good c (zI0 s j rest st):=by
 have hsg:=h.s s hs;have hkeys:zA7 { st.slaves s with pipe:=⟨j.who,j.n,j.left - 1⟩::rest }=zA7 (st.slaves s):=by simp[zA7,hp]
 refine⟨h.atm,h.p,fun t ht=>?_,fun t v ht hv=>?_,h.t,h.part⟩
 ·by_cases hts:t=s
  ·subst hts;simp only[zI0,zA1];refine⟨by have:=hsg.p2;rw[hp]at this;simpa using this,hsg.d2,hsg.l,fun k hk=>hsg.w3 k (by rwa [hkeys]at hk),?_,hsg.dr⟩;intro i r e;simp only[List.cons.injEq]at e;obtain⟨rfl,rfl⟩:=e;have:=hsg.pl _ _ hp;exact⟨by simp only;omega,this.2⟩
  ·simp only[zI0,zA0 _ _ hts];exact h.s t ht
 ·by_cases hts:t=s
  ·subst hts;simp only[zI0,zA1];rw[hkeys];exact h.link t v ht hv
  ·simp only[zI0,zA0 _ _ hts];exact h.link t v ht hv
theorem Good.work {c:Cfg} (hb:Bus c) {x:Cy×List Ev} (h:Good c x.1) {s:Nat} {j:Jb} {rest:List Jb} (hs:s<4) (hp:(x.1.slaves s).pipe=j::rest) (hd:(x.1.slaves s).done.length<2):Good c (zE8 c s j rest x).1:=by
 have hsg:=h.s s hs;obtain⟨r,hr⟩:∃r,r=(doReq c.ms x.1.ws x.1.hs j.who (c.req j.who j.n)).2.2:=⟨_,rfl⟩
 have hin:(j.who,j.n)∈zA7 (x.1.slaves s):=by simp[zA7,hp]
 have hw:=(h.key hs hin).1;have hq:=hb.req hw (h.keyN hs hin);have hwi:inB (j.who:Int) 0 2=true:=by simp[inB];omega
 have hok:atmOkk c.ms x.1.ws x.1.hs j.who (c.req j.who j.n)=true:=okk_parts.2 ⟨hb.ms,h.atm,hwi,hq⟩;have hrsp:=rsp_law hok;rw[atmDo_yes hok,←hr]at hrsp;have hkeys:zA7 { x.1.slaves s with pipe:=rest,done:=(x.1.slaves s).done++[⟨j.who,j.n,r⟩] }=zA7 (x.1.slaves s):=by simp[zA7,hp]
 refine⟨doReq_ok hwi hq h.atm,h.p,fun t ht=>?_,fun t v ht hv=>?_,h.t,h.part⟩
 ·by_cases hts:t=s
  ·subst hts;simp only[zE8,zA1,←hr];refine⟨by have:=hsg.p2;rw[hp]at this;simp at this ⊢;omega,by simp;omega,hsg.l,fun k hk=>hsg.w3 k (by rwa [hkeys]at hk),?_,?_⟩
   ·intro i r' e;simp only at e;have hh:=(hsg.pl _ _ hp).2;rw[e]at hh;exact⟨Nat.le_of_eq (hh i (by simp)),fun k hk=>hh k (by simp[hk])⟩
   ·intro i hi;simp only[List.mem_append,List.mem_singleton]at hi;rcases hi with hi|rfl
    ·exact hsg.dr i hi
    ·exact hrsp
  ·simp only[zE8,zA0 _ _ hts];exact h.s t ht
 ·by_cases hts:t=s
  ·subst hts;simp only[zE8,zA1,←hr];rw[hkeys];exact h.link t v ht hv
  ·simp only[zE8,zA0 _ _ hts];exact h.link t v ht hv
theorem good_work1 {c:Cfg} (hb:Bus c) {inp:Inp} {x:Cy×List Ev} (h:Good c x.1) {s:Nat} (hs:s<4):Good c (work1 c inp s x).1:=by
 unfold work1
 split
 ·exact h
 ·split
  ·exact h
  ·rename_i j rest hp
   split
   ·exact h.dec hs hp
   ·split
    ·exact h.work hb hs hp ‹_›
    ·exact h
theorem range'_cons {a n m:Nat} {rest:List Nat} (h:n::rest=List.range' a m):n=a∧rest=List.range' (a+1) (m - 1)∧0<m:=by
 rcases m with _|m
 ·simp at h
 ·rw[List.range'_succ]at h;simp only[List.cons.injEq]at h;exact⟨h.1,by simpa using h.2,by omega⟩
theorem Good.lets {c:Cfg} {y:Lt} (h:Good c y.st) {s w n:Nat} {rest:List Nat} (hs:s<4) (hw:w<3) (hq:(y.st.ports w).queue=n::rest) (hp:(y.st.slaves s).pipe.length<2) (hm:may c y.st w s=true):Good c (letDo c s w n rest y).st:=by
 have hsg:=h.s s hs;have hpg:=h.p w hw;unfold may at hm;rw[hq]at hm;simp only[Bool.and_eq_true,decide_eq_true_eq,beq_iff_eq,Bool.not_eq_true', List.any_eq_false,bne_iff_ne]at hm;obtain⟨⟨ho4,hslv⟩,hcon⟩:=hm;have hql:(y.st.ports w).queue.length=rest.length+1:=by rw[hq];rfl
 have hqq:=hpg.q;rw[hq]at hqq;obtain⟨hn,hrest,_⟩:=range'_cons hqq;simp only[List.length_cons,Nat.add_sub_cancel]at hn hrest;have hqn:=hpg.qn;rw[hql]at hqn;have hnn:(y.st.ports w).next - rest.length=n+1:=by omega
 have hold:(y.st.ports w).next - (y.st.ports w).queue.length=n:=by omega
 have hkeys:zA7 { y.st.slaves s with pipe:=(y.st.slaves s).pipe++[⟨w,n,c.lt s⟩],last:=w }=zA7 (y.st.slaves s)++[(w,n)]:=by simp[zA7]
 refine⟨h.atm,fun v hv=>?_,fun t ht=>?_,fun t v ht hv=>?_,h.t,fun v hv=>?_⟩
 ·by_cases hvw:v=w
  ·subst hvw;simp only[letDo,zA1];refine⟨?_,by simp only;omega,by have:=hpg.q2;simp only;omega,hpg.nx,by simp;omega,?_,?_,?_,hpg.l⟩
   ·simp only[hnn];rw[hrest];simp only[List.length_range'];rw[hn]
   ·intro j hj;simp only[List.mem_append,List.mem_singleton]at hj;simp only[hnn];rcases hj with hj|rfl
    ·have:=hpg.o j hj;rw[hold]at this;exact⟨this.1,this.2.1,by omega⟩
    ·exact⟨rfl,hslv.symm,by simp⟩
   ·simp only[List.pairwise_append,List.pairwise_cons,List.not_mem_nil,List.mem_singleton];refine⟨hpg.os,⟨fun _ h=>absurd h (by simp),List.Pairwise.nil⟩,?_⟩;rintro a ha b rfl;have:=(hpg.o a ha).2.2;rw[hold]at this;exact this
   ·intro a ha b hb e;simp only[List.mem_append,List.mem_singleton]at ha hb;rcases ha with ha|rfl <;> rcases hb with hb|rfl
    ·exact hpg.oi a ha b hb e
    ·have:=hcon a ha;simp only[not_and,Decidable.not_not]at this;exact this (by simpa using e)
    ·have:=hcon b hb;simp only[not_and,Decidable.not_not]at this;exact(this (by simpa using e.symm)).symm
    ·rfl
  ·simp only[letDo,zA0 _ _ hvw];exact h.p v hv
 ·by_cases hts:t=s
  ·subst hts;simp only[letDo,zA1];refine⟨by simp;omega,hsg.d2,by simp only;omega,?_,?_,hsg.dr⟩
   ·intro k hk;rw[hkeys]at hk;simp only[List.mem_append,List.mem_singleton]at hk;rcases hk with hk|rfl
    ·exact hsg.w3 k hk
    ·exact hw
   ·intro i r e;simp only at e;rcases hpp:(y.st.slaves t).pipe with _|⟨a,al⟩
    ·rw[hpp]at e;simp only[List.nil_append,List.cons.injEq]at e;obtain⟨rfl,rfl⟩:=e;exact⟨Nat.le_refl _,by simp⟩
    ·rw[hpp]at e;simp only[List.cons_append,List.cons.injEq]at e;obtain⟨rfl,rfl⟩:=e;have:=hsg.pl _ _ hpp;refine⟨this.1,fun k hk=>?_⟩;simp only[List.mem_append,List.mem_singleton]at hk;rcases hk with hk|rfl
     ·exact this.2 k hk
     ·rfl
  ·simp only[letDo,zA0 _ _ hts];exact h.s t ht
 ·by_cases hts:t=s
  ·subst hts;by_cases hvw:v=w
   ·subst hvw;simp only[letDo,zA1];rw[hkeys,zL4,h.link t v ht hv];simp[nsOf]
   ·simp only[letDo,zA1,zA0 _ _ hvw];rw[hkeys,zL4,h.link t v ht hv];simp[nsOf,Ne.symm hvw]
  ·by_cases hvw:v=w
   ·subst hvw;simp only[letDo,zA1,zA0 _ _ hts,List.filter_append,List.map_append];rw[h.link t v ht hv];simp[Ne.symm hts]
   ·simp only[letDo,zA0 _ _ hvw,zA0 _ _ hts];exact h.link t v ht hv
 ·by_cases hvw:v=w
  ·subst hvw;simp only[letDo,zA1,hnn,List.map_append,List.map_cons,List.map_nil];have:=h.part v hv;rw[hold]at this;rw[List.range_succ,←List.append_assoc];exact this.append_right _
  ·simp only[letDo,zA0 _ _ hvw];exact h.part v hv
theorem good_let1 {c:Cfg} {y:Lt} (h:Good c y.st) {s:Nat} (hs:s<4):Good c (let1 c s y).st:=by
 unfold let1
 split
 ·split
  ·exact h
  ·rename_i k hk;obtain⟨_,_,hm⟩:=zM2 hk;unfold letM at hm;rw[Bool.and_eq_true]at hm
   split
   ·exact h
   ·exact h.lets hs (Nat.mod_lt _ (by omega)) ‹_› ‹_› hm.2
 ·exact h
theorem Good.ask {c:Cfg} {x:Cy×List Ev} (h:Good c x.1) {w:Nat} (hw:w<3) (hq:(x.1.ports w).queue.length<2) (hn:(x.1.ports w).next<(c.prog w).length):Good c (askDo w x).1:=by
 have hpg:=h.p w hw;have hqn:=hpg.qn;have hold:(x.1.ports w).next+1 - ((x.1.ports w).queue.length+1)=(x.1.ports w).next - (x.1.ports w).queue.length:=by omega
 refine⟨h.atm,fun v hv=>?_,h.s,fun t v ht hv=>?_,h.t,fun v hv=>?_⟩
 ·by_cases hvw:v=w
  ·subst hvw;simp only[askDo,zA1];refine⟨?_,by simp;omega,by simp;omega,by simp only;omega,hpg.o4,?_,hpg.os,hpg.oi,hpg.l⟩
   ·simp only[List.length_append,List.length_singleton,hold];rw[List.range'_1_concat]
    congr 1
    ·exact hpg.q
    ·congr 1;omega
   ·intro j hj;simp only[List.length_append,List.length_singleton,hold];exact hpg.o j hj
  ·simp only[askDo,zA0 _ _ hvw];exact h.p v hv
 ·by_cases hvw:v=w
  ·subst hvw;simp only[askDo,zA1];exact h.link t v ht hv
  ·simp only[askDo,zA0 _ _ hvw];exact h.link t v ht hv
 ·by_cases hvw:v=w
  ·subst hvw;simp only[askDo,zA1,List.length_append,List.length_singleton,hold];exact h.part v hv
  ·simp only[askDo,zA0 _ _ hvw];exact h.part v hv
theorem good_ask1 {c:Cfg} {inp:Inp} {x:Cy×List Ev} (h:Good c x.1) {w:Nat} (hw:w<3):Good c (ask1 c inp w x).1:=by
 unfold ask1
 split
 ·rename_i hc;exact h.ask hw hc.2.1 hc.2.2
 ·exact h
theorem good_tellAll {c:Cfg} {inp:Inp} {x:Cy×List Ev} (h:Good c x.1):Good c (zB2 inp x).1:=zB5 (P:=fun x:Cy×List Ev=>Good c x.1) 3 x h fun _ _ hi hx=>good_tell1 hx hi
theorem good_workAll {c:Cfg} (hb:Bus c) {inp:Inp} {x:Cy×List Ev} (h:Good c x.1):Good c (zA9 c inp x).1:=zB5 (P:=fun x:Cy×List Ev=>Good c x.1) 4 x h fun _ _ hi hx=>good_work1 hb hx hi
theorem good_letAll {c:Cfg} {st:Cy} (h:Good c st):Good c (zD2 c st).st:=zB5 (P:=fun y:Lt=>Good c y.st) 4 ⟨st,fun _=>false,fun _=>0⟩ h fun _ _ hi hx=>good_let1 hx hi
theorem good_askAll {c:Cfg} {inp:Inp} {x:Cy×List Ev} (h:Good c x.1):Good c (zI5 c inp x).1:=zB5 (P:=fun x:Cy×List Ev=>Good c x.1) 3 x h fun _ _ hi hx=>good_ask1 hx hi
theorem good_step {c:Cfg} (hb:Bus c) {inp:Inp} {st:Cy} (h:Good c st):Good c (cyc c inp st) :=
 good_askAll (x:=((zD2 c (zA9 c inp (zB2 inp (st,[]))).1).st,_)) (good_letAll (good_workAll hb (good_tellAll (x:=(st,[])) h)))
theorem good_run {c : Cfg} (hb : Bus c) : ∀ (ins : List Inp) {st : Cy}, Good c st → Good c (runC c ins st)
 |[],_,h=>h
 |_::rest,_,h=>good_run hb rest (good_step hb h)
def cntW (j:Nat) (l:List TJ):Nat:=(l.filter (fun x=>x.who==j)).length
structure GrowT (inp:Inp) (st st':Cy) (k:Nat):Prop where
 pre:∃t,st'.told=st.told++t
 cnt:∀j,cntW j st'.told≤cntW j st.told+(if j<k then 1 else 0)
 ge:∀j,cntW j st.told≤cntW j st'.told
 rdy:∀j,cntW j st.told<cntW j st'.told→inp.ready.getD j false=true
 nx:∀j,(st'.ports j).next=(st.ports j).next
theorem GrowT.skip {inp:Inp} {st st':Cy} {k:Nat} (h:GrowT inp st st' k):GrowT inp st st' (k+1) :=
 ⟨h.pre,fun j=>by have:=h.cnt j;by_cases h1:j<k <;> by_cases h2:j<k+1 <;> simp[h1,h2]at this ⊢ <;> omega,h.ge,h.rdy,h.nx⟩
theorem growT_tell1 {inp:Inp} {st:Cy} {x:Cy×List Ev} {k:Nat} (h:GrowT inp st x.1 k):GrowT inp st (tell1 inp k x).1 (k+1):=by
 unfold tell1
 split
 ·rename_i hr
  split
  ·exact h.skip
  ·rename_i m hm;obtain⟨_,_,hmm⟩:=zM2 hm
   split
   ·exact h.skip
   ·rename_i j rest hd;have hj:j.who=k:=by
     unfold tellM at hmm;rw[hd]at hmm;simpa using hmm
    obtain⟨t,ht⟩:=h.pre;have hc:∀i,cntW i (x.1.told++[j])=cntW i x.1.told+(if i=k then 1 else 0):=fun i=>by
     unfold cntW;rw[List.filter_append,List.length_append];by_cases hi:i=k
     ·simp[hi,hj]
     ·rw[if_neg hi,List.filter_cons_of_neg (by simp[hj];omega)];simp
    refine⟨⟨t++[j],by simp[zD4,ht]⟩,fun i=>?_,fun i=>?_,fun i hi=>?_,fun i=>?_⟩
    ·simp only[zD4];rw[hc i];have:=h.cnt i;by_cases h1:i<k <;> by_cases h2:i=k <;> by_cases h3:i<k+1 <;> simp[h1,h2,h3]at this ⊢ <;> omega
    ·simp only[zD4];rw[hc i];exact Nat.le_trans (h.ge i) (Nat.le_add_right _ _)
    ·simp only[zD4]at hi;rw[hc i]at hi;by_cases hik:i=k
     ·rw[hik];exact hr
     ·rw[if_neg hik]at hi;exact h.rdy i hi
    ·simp only[zD4];by_cases hik:i=k
     ·rw[hik,zA1];exact h.nx k
     ·rw[zA0 _ _ hik];exact h.nx i
 ·exact h.skip
def SameT (st st':Cy):Prop:=st'.told=st.told∧∀j,(st'.ports j).next=(st.ports j).next
theorem sameT_work1 {c:Cfg} {inp:Inp} {st:Cy} {x:Cy×List Ev} {s:Nat} (h:SameT st x.1):SameT st (work1 c inp s x).1:=by
 unfold work1
 split
 ·exact h
 ·split
  ·exact h
  ·split
   ·exact h
   ·split
    ·exact h
    ·exact h
theorem sameT_let1 {c:Cfg} {st:Cy} {y:Lt} {s:Nat} (h:SameT st y.st):SameT st (let1 c s y).st:=by
 unfold let1
 split
 ·split
  ·exact h
  ·rename_i k hk
   split
   ·exact h
   ·refine⟨h.1,fun j=>?_⟩;simp only[letDo];by_cases hj:j=((y.st.slaves s).last+k) % 3
    ·rw[hj,zA1];exact h.2 _
    ·rw[zA0 _ _ hj];exact h.2 j
 ·exact h
structure GrowA (inp:Inp) (st st':Cy) (k:Nat):Prop where
 told:st'.told=st.told
 lo:∀j,(st.ports j).next≤(st'.ports j).next
 hi:∀j,(st'.ports j).next≤(st.ports j).next+(if j<k then 1 else 0)
 snd:∀j,(st.ports j).next<(st'.ports j).next→inp.send.getD j false=true
theorem GrowA.skip {inp:Inp} {st st':Cy} {k:Nat} (h:GrowA inp st st' k):GrowA inp st st' (k+1) :=
 ⟨h.told,h.lo,fun j=>by have:=h.hi j;by_cases h1:j<k <;> by_cases h2:j<k+1 <;> simp[h1,h2]at this ⊢ <;> omega,h.snd⟩
theorem growA_ask1 {c:Cfg} {inp:Inp} {st:Cy} {x:Cy×List Ev} {k:Nat} (h:GrowA inp st x.1 k):GrowA inp st (ask1 c inp k x).1 (k+1):=by
 unfold ask1
 split
 ·rename_i hc;have e:∀i,((askDo k x).1.ports i).next=(x.1.ports i).next+(if i=k then 1 else 0):=fun i=>by
   simp only[askDo];by_cases hik:i=k
   ·rw[hik,zA1];simp
   ·rw[zA0 _ _ hik];simp[hik]
  refine⟨h.told,fun i=>?_,fun i=>?_,fun i hi=>?_⟩
  ·rw[e i];exact Nat.le_trans (h.lo i) (Nat.le_add_right _ _)
  ·rw[e i];have:=h.hi i;by_cases h1:i<k <;> by_cases h2:i=k <;> by_cases h3:i<k+1 <;> simp[h1,h2,h3]at this ⊢ <;> omega
  ·rw[e i]at hi;by_cases hik:i=k
   ·rw[hik];exact hc.1
   ·rw[if_neg hik]at hi;exact h.snd i hi
 ·exact h.skip
structure Grow (inp:Inp) (st st':Cy):Prop where
 pre:∃t,st'.told=st.told++t
 cnt:∀j,cntW j st'.told≤cntW j st.told+1
 rdy:∀j,cntW j st.told<cntW j st'.told→inp.ready.getD j false=true
 lo:∀j,(st.ports j).next≤(st'.ports j).next
 hi:∀j,(st'.ports j).next≤(st.ports j).next+1
 snd:∀j,(st.ports j).next<(st'.ports j).next→inp.send.getD j false=true
theorem grow_tell {inp:Inp} {st:Cy}:GrowT inp st (zB2 inp (st,[])).1 3 :=
 growT_tell1 (growT_tell1 (growT_tell1 (x:=(st,[])) (k:=0) ⟨⟨[],by simp⟩,fun j=>by simp,fun j=>Nat.le_refl _,fun j h=>absurd h (Nat.lt_irrefl _),fun j=>rfl⟩))
theorem grow_work {c:Cfg} {inp:Inp} {x:Cy×List Ev}:SameT x.1 (zA9 c inp x).1:=zB5 (P:=fun y:Cy×List Ev=>SameT x.1 y.1) 4 x ⟨rfl,fun _=>rfl⟩ fun _ _ _ hx=>sameT_work1 hx
theorem grow_let {c:Cfg} {st:Cy}:SameT st (zD2 c st).st:=zB5 (P:=fun y:Lt=>SameT st y.st) 4 ⟨st,fun _=>false,fun _=>0⟩ ⟨rfl,fun _=>rfl⟩ fun _ _ _ hx=>sameT_let1 hx
theorem grow_ask {c:Cfg} {inp:Inp} {x:Cy×List Ev}:GrowA inp x.1 (zI5 c inp x).1 3 :=
 growA_ask1 (growA_ask1 (growA_ask1 (x:=x) (k:=0) ⟨rfl,fun j=>Nat.le_refl _,fun j=>by simp,fun j h=>absurd h (Nat.lt_irrefl _)⟩))
theorem grow_step {c:Cfg} {inp:Inp} {st:Cy}:Grow inp st (cyc c inp st):=by
 have h1:=grow_tell (inp:=inp) (st:=st);have h2:=grow_work (c:=c) (inp:=inp) (x:=zB2 inp (st,[]));have h3:=grow_let (c:=c) (st:=(zA9 c inp (zB2 inp (st,[]))).1);have h4:=grow_ask (c:=c) (inp:=inp) (x:=((zD2 c (zA9 c inp (zB2 inp (st,[]))).1).st,(zA9 c inp (zB2 inp (st,[]))).2));change Grow inp st (zI5 c inp ((zD2 c (zA9 c inp (zB2 inp (st,[]))).1).st,(zA9 c inp (zB2 inp (st,[]))).2)).1;generalize (zI5 c inp ((zD2 c (zA9 c inp (zB2 inp (st,[]))).1).st,(zA9 c inp (zB2 inp (st,[]))).2)).1=s4 at h4 ⊢;simp only at h4;generalize (zD2 c (zA9 c inp (zB2 inp (st,[]))).1).st=s3 at h3 h4;generalize (zA9 c inp (zB2 inp (st,[]))).1=s2 at h2 h3;generalize (zB2 inp (st,[])).1=s1 at h1 h2;have et:s4.told=s1.told:=by rw[h4.told,h3.1,h2.1]
 have en:∀j,(s3.ports j).next=(st.ports j).next:=fun j=>by rw[h3.2,h2.2,h1.nx]
 refine⟨by rw[et];exact h1.pre,fun j=>?_,fun j hj=>?_,fun j=>?_,fun j=>?_,fun j hj=>?_⟩
 ·rw[et];have:=h1.cnt j;split at this <;> omega
 ·rw[et]at hj;exact h1.rdy j hj
 ·rw[←en j];exact h4.lo j
 ·rw[←en j];have:=h4.hi j;split at this <;> omega
 ·rw[←en j]at hj;exact h4.snd j hj
def WkOk (c:Cfg) (inp:Inp) (st:Cy) (e:Ev):Prop :=
 e.kind=2∧e.who<3∧e.n<(c.prog e.who).length∧c.slv e.who e.n<4∧inp.stall.getD (c.slv e.who e.n) false=false∧∃rest,(st.slaves (c.slv e.who e.n)).pipe=⟨e.who,e.n,0⟩::rest
structure WkI (c:Cfg) (inp:Inp) (st:Cy) (l:List Ev) (x:Cy×List Ev) (k:Nat):Prop where
 g:Good c x.1
 ev:∃es,x.2=l++es∧(∀e∈es,WkOk c inp st e∧c.slv e.who e.n<k)∧es.Pairwise (fun a b=>c.slv a.who a.n<c.slv b.who b.n)
 pipe:∀s,k≤s→(x.1.slaves s).pipe=(st.slaves s).pipe
theorem WkI.skip {c:Cfg} {inp:Inp} {st:Cy} {l:List Ev} {x:Cy×List Ev} {k:Nat} (h:WkI c inp st l x k):WkI c inp st l x (k+1):=by
 obtain⟨es,h1,h2,h3⟩:=h.ev;exact⟨h.g,⟨es,h1,fun e he=>⟨(h2 e he).1,by have:=(h2 e he).2;omega⟩,h3⟩,fun s hs=>h.pipe s (by omega)⟩
theorem Good.slvKey {c:Cfg} {st:Cy} (h:Good c st) {s w n:Nat} (hs:s<4) (hk:(w,n)∈zA7 (st.slaves s)):c.slv w n=s:=by
 obtain⟨hw,o,ho,rfl,hl⟩:=h.key hs hk;rw[←hl];exact((h.p w hw).o o ho).2.1.symm
theorem wkI_step {c:Cfg} (hb:Bus c) {inp:Inp} {st:Cy} {l:List Ev} {x:Cy×List Ev} {k:Nat} (hk:k<4) (h:WkI c inp st l x k):WkI c inp st l (work1 c inp k x) (k+1):=by
 have hg:=good_work1 hb (inp:=inp) h.g hk;obtain⟨es,h1,h2,h3⟩:=h.ev;unfold work1 at hg ⊢
 split
 ·exact h.skip
 ·rename_i hst
  split
  ·exact h.skip
  ·rename_i j rest hp;rw[if_neg hst]at hg;simp only[hp]at hg
   split
   ·rename_i hl;rw[if_pos hl]at hg;refine⟨hg,⟨es,h1,fun e he=>⟨(h2 e he).1,by have:=(h2 e he).2;omega⟩,h3⟩,fun s hs=>?_⟩;simp only[zI0];rw[zA0 _ _ (show s≠k by omega)];exact h.pipe s (by omega)
   ·rename_i hl;rw[if_neg hl]at hg
    split
    ·rename_i hd;rw[if_pos hd]at hg;have hin:(j.who,j.n)∈zA7 (x.1.slaves k):=by simp[zA7,hp]
     have hw:=(h.g.key hk hin).1;have hn:=h.g.keyN hk hin;have hs:=h.g.slvKey hk hin;have hj0:j.left=0:=by omega
     refine⟨hg,⟨es++[⟨2,j.who,j.n⟩],by simp[zE8,h1],fun e he=>?_,?_⟩,fun s hs2=>?_⟩
     ·rcases List.mem_append.1 he with he|he
      ·exact⟨(h2 e he).1,by have:=(h2 e he).2;omega⟩
      ·rw[List.mem_singleton.1 he];refine⟨⟨rfl,hw,hn,by simp only;omega,by simp only;rw[hs];simpa using hst,rest,?_⟩,by simp only;omega⟩;simp only;rw[hs,←h.pipe k (Nat.le_refl _),hp,←hj0]
     ·rw[List.pairwise_append];refine⟨h3,List.pairwise_singleton _ _,fun a ha b hb2=>?_⟩;rw[List.mem_singleton.1 hb2];have:=(h2 a ha).2;simp only;omega
     ·simp only[zE8];rw[zA0 _ _ (show s≠k by omega)];exact h.pipe s (by omega)
    ·exact h.skip
theorem tell1_pipe {inp:Inp} {x:Cy×List Ev} {w:Nat} (s:Nat):((tell1 inp w x).1.slaves s).pipe=(x.1.slaves s).pipe:=by
 unfold tell1
 split
 ·split
  ·rfl
  ·rename_i k hk
   split
   ·rfl
   ·simp only[zD4];by_cases hs:s=((x.1.ports w).last+k) % 4
    ·rw[hs,zA1]
    ·rw[zA0 _ _ hs]
 ·rfl
theorem tell1_kind {inp:Inp} {x:Cy×List Ev} {w:Nat} (h:∀e∈x.2,e.kind=3):∀e∈(tell1 inp w x).2,e.kind=3:=by
 unfold tell1
 split
 ·split
  ·exact h
  ·split
   ·exact h
   ·intro e he;rcases List.mem_append.1 he with he|he
    ·exact h e he
    ·rw[List.mem_singleton.1 he]
 ·exact h
theorem ask1_ev {c:Cfg} {inp:Inp} {l:List Ev} {x:Cy×List Ev} {w:Nat} (h:∃a,x.2=l++a∧∀e∈a,e.kind=1):∃a,(ask1 c inp w x).2=l++a∧∀e∈a,e.kind=1:=by
 obtain⟨a,h1,h2⟩:=h;unfold ask1
 split
 ·refine⟨a++[⟨1,w,(x.1.ports w).next⟩],by simp[askDo,h1],fun e he=>?_⟩;rcases List.mem_append.1 he with he|he
  ·exact h2 e he
  ·rw[List.mem_singleton.1 he]
 ·exact⟨a,h1,h2⟩
theorem evs_law {c:Cfg} (hb:Bus c) {inp:Inp} {st:Cy} (hg:Good c st):∃t es a,evs c inp st=t++es++a∧(∀e∈t,e.kind=3)∧(∀e∈a,e.kind=1)∧(∀e∈es,WkOk c inp st e)∧es.Pairwise (fun a b=>c.slv a.who a.n<c.slv b.who b.n):=by
 have h1:Good c (zB2 inp (st,[])).1∧(∀s,((zB2 inp (st,[])).1.slaves s).pipe=(st.slaves s).pipe)∧∀e∈(zB2 inp (st,[])).2,e.kind=3:=by
  refine zB5 (P:=fun x:Cy×List Ev=>Good c x.1∧(∀s,(x.1.slaves s).pipe=(st.slaves s).pipe)∧∀e∈x.2,e.kind=3) 3 (st,[]) ⟨hg,fun _=>rfl,fun e he=>by cases he⟩ ?_;intro i x hi hx;exact⟨good_tell1 hx.1 hi,fun s=>(tell1_pipe s).trans (hx.2.1 s),tell1_kind hx.2.2⟩
 obtain⟨x1,hx1⟩:∃x,x=zB2 inp (st,[]):=⟨_,rfl⟩
 rw[←hx1]at h1;have h2:WkI c inp st x1.2 (zA9 c inp x1) 4 :=
  wkI_step hb (k:=3) (by omega) (wkI_step hb (k:=2) (by omega) (wkI_step hb (k:=1) (by omega) (wkI_step hb (k:=0) (x:=x1) (by omega) ⟨h1.1,⟨[],by simp,by simp,List.Pairwise.nil⟩,fun s _=>h1.2.1 s⟩)))
 obtain⟨es,e1,e2,e3⟩:=h2.ev;have h3:∃a,(zI5 c inp ((zD2 c (zA9 c inp x1).1).st,(zA9 c inp x1).2)).2=(zA9 c inp x1).2++a∧∀e∈a,e.kind=1 :=
  zB5 (P:=fun x:Cy×List Ev=>∃a,x.2=(zA9 c inp x1).2++a∧∀e∈a,e.kind=1) 3 ((zD2 c (zA9 c inp x1).1).st,(zA9 c inp x1).2) ⟨[],by simp,by simp⟩ fun _ _ _ hx=>ask1_ev hx
 obtain⟨a,a1,a2⟩:=h3;refine⟨x1.2,es,a,?_,h1.2.2,a2,fun e he=>(e2 e he).1,e3⟩;rw[←e1,←a1,hx1];rfl
def doneN (c:Cfg) (s:Nat) (l:List Ev):Nat:=(l.filter (fun e=>e.kind==2&&c.slv e.who e.n==s)).length
theorem doneN_app (c:Cfg) (s:Nat) (a b:List Ev):doneN c s (a++b)=doneN c s a+doneN c s b:=by simp[doneN]
theorem doneN_no {c:Cfg} {s:Nat} {l:List Ev} (h:∀e∈l,¬(e.kind=2∧c.slv e.who e.n=s)):doneN c s l=0:=by
 unfold doneN;rw[List.length_eq_zero_iff,List.filter_eq_nil_iff];intro e he;simpa using h e he
def sum3 (f:Nat→Nat):Nat:=f 0+f 1+f 2
def cntS4 (f:Nat→Nat):Nat:=f 0+f 1+f 2+f 3
theorem sum3_upd {α:Type} (f:Nat→α) (g:α→Nat) {i:Nat} (hi:i<3) (x:α):sum3 (fun w=>g (upd f i x w))+g (f i)=sum3 (fun w=>g (f w))+g x:=by
 obtain rfl|rfl|rfl:i=0∨i=1∨i=2:=by omega
 all_goals
  simp only[sum3,upd];simp only[if_pos,if_neg,reduceCtorEq,Nat.reduceEqDiff,↓reduceIte];omega
theorem sum4_upd {α:Type} (f:Nat→α) (g:α→Nat) {i:Nat} (hi:i<4) (x:α):cntS4 (fun w=>g (upd f i x w))+g (f i)=cntS4 (fun w=>g (f w))+g x:=by
 obtain rfl|rfl|rfl|rfl:i=0∨i=1∨i=2∨i=3:=by omega
 all_goals
  simp only[cntS4,upd];simp only[if_pos,if_neg,reduceCtorEq,Nat.reduceEqDiff,↓reduceIte];omega
def outs (st:Cy):Nat:=sum3 fun w=>(st.ports w).out.length
def doneW (st:Cy):Nat:=cntS4 fun s=>(st.slaves s).done.length
def evN (k w:Nat) (l:List Ev):Nat:=(l.filter (fun e=>e.kind==k&&e.who==w)).length
def dosN (l:List Ev):Nat:=(l.filter (fun e=>e.kind==2)).length
theorem zJ4 (k w:Nat) (l:List Ev) (e:Ev):evN k w (l++[e])=evN k w l+(if e.kind=k∧e.who=w then 1 else 0):=by
 unfold evN;rw[List.filter_append,List.length_append];by_cases h:e.kind=k∧e.who=w
 ·simp[h.1,h.2]
 ·rw[if_neg h,List.filter_cons_of_neg (by simpa using h)];simp
theorem dosN_snoc (l:List Ev) (e:Ev):dosN (l++[e])=dosN l+(if e.kind=2 then 1 else 0):=by
 unfold dosN;rw[List.filter_append,List.length_append];by_cases h:e.kind=2
 ·simp[h]
 ·rw[if_neg h,List.filter_cons_of_neg (by simpa using h)];simp
theorem cntW_snoc (w:Nat) (l:List TJ) (j:TJ):cntW w (l++[j])=cntW w l+(if j.who=w then 1 else 0):=by
 unfold cntW;rw[List.filter_append,List.length_append];by_cases h:j.who=w
 ·simp[h]
 ·rw[if_neg h,List.filter_cons_of_neg (by simpa using h)];simp
structure Tally (st0:Cy) (x:Cy×List Ev) (L:Nat):Prop where
 nx:∀w,(x.1.ports w).next=(st0.ports w).next+evN 1 w x.2
 tl:∀w,cntW w x.1.told=cntW w st0.told+evN 3 w x.2
 ou:x.1.told.length+outs x.1=st0.told.length+outs st0+L
 dn:x.1.told.length+doneW x.1=st0.told.length+doneW st0+dosN x.2
theorem tally_tell1 {c:Cfg} {inp:Inp} {st0:Cy} {x:Cy×List Ev} {L w:Nat} (hw:w<3) (h:Good c x.1) (t:Tally st0 x L):Tally st0 (tell1 inp w x) L:=by
 unfold tell1
 split
 ·split
  ·exact t
  ·rename_i k hk;obtain⟨_,_,hmm⟩:=zM2 hk
   split
   ·exact t
   ·rename_i j rest hd;have hj:j.who=w:=by
     unfold tellM at hmm;rw[hd]at hmm;simpa using hmm
    obtain⟨s,hs⟩:∃s,s=((x.1.ports w).last+k) % 4:=⟨_,rfl⟩
    have hs4:s<4:=by omega
    rw[←hs]at hd ⊢;obtain⟨_,o,ho,hon,_⟩:=h.key (s:=s) (w:=j.who) (n:=j.n) hs4 (by simp[zA7,hd]);rw[hj]at ho;have he:((x.1.ports w).out.eraseP (fun o=>o.n==j.n)).length+1=(x.1.ports w).out.length:=by
     have h1:=List.length_eraseP_of_mem (p:=fun o:Jb=>o.n==j.n) ho (by simp[hon]);have h2:0<(x.1.ports w).out.length:=List.length_pos_of_mem ho;omega
    refine⟨fun v=>?_,fun v=>?_,?_,?_⟩
    ·simp only[zD4];rw[zJ4,if_neg (by simp),Nat.add_zero,←t.nx v];by_cases hv:v=w
     ·rw[hv,zA1]
     ·rw[zA0 _ _ hv]
    ·simp only[zD4];rw[zJ4,cntW_snoc,t.tl v,hj];simp only[true_and];omega
    ·have:=t.ou;have h3:=sum3_upd x.1.ports (fun p=>p.out.length) hw { x.1.ports w with out:=(x.1.ports w).out.eraseP (fun o=>o.n==j.n),last:=s };simp only[zD4,outs,List.length_append,List.length_singleton]at this h3 ⊢;omega
    ·have:=t.dn;have h3:=sum4_upd x.1.slaves (fun p=>p.done.length) hs4 { x.1.slaves s with done:=rest };simp only[hd,List.length_cons]at h3;simp only[zD4,doneW,List.length_append,List.length_singleton,dosN_snoc]at this h3 ⊢;rw[if_neg (by simp)];omega
 ·exact t
theorem tally_work1 {c:Cfg} {inp:Inp} {st0:Cy} {x:Cy×List Ev} {L s:Nat} (hs:s<4) (t:Tally st0 x L):Tally st0 (work1 c inp s x) L:=by
 unfold work1
 split
 ·exact t
 ·split
  ·exact t
  ·rename_i j rest hp
   split
   ·refine⟨t.nx,t.tl,t.ou,?_⟩;have:=t.dn;have h3:=sum4_upd x.1.slaves (fun p=>p.done.length) hs { x.1.slaves s with pipe:=⟨j.who,j.n,j.left - 1⟩::rest };simp only[zI0,doneW]at this h3 ⊢;omega
   ·split
    ·refine⟨fun v=>?_,fun v=>?_,t.ou,?_⟩
     ·simp only[zE8];rw[zJ4,if_neg (by simp),Nat.add_zero];exact t.nx v
     ·simp only[zE8];rw[zJ4,if_neg (by simp),Nat.add_zero];exact t.tl v
     ·have:=t.dn;have h3:=sum4_upd x.1.slaves (fun p=>p.done.length) hs { x.1.slaves s with pipe:=rest,done:=(x.1.slaves s).done++[⟨j.who,j.n,(doReq c.ms x.1.ws x.1.hs j.who (c.req j.who j.n)).2.2⟩] };simp only[List.length_append,List.length_singleton]at h3;simp only[zE8,doneW,dosN_snoc,if_pos]at this h3 ⊢;omega
    ·exact t
structure TallyL (st0:Cy) (l:List Ev) (y:Lt) (k:Nat):Prop where
 t:Tally st0 (y.st,l) (cntS4 y.lets)
 z:∀s,k≤s→y.lets s=0
 o:∀s,y.lets s≤1
theorem TallyL.skip {st0:Cy} {l:List Ev} {y:Lt} {k:Nat} (h:TallyL st0 l y k):TallyL st0 l y (k+1):=⟨h.t,fun s hs=>h.z s (by omega),h.o⟩
theorem tally_let1 {c:Cfg} {st0:Cy} {l:List Ev} {y:Lt} {k:Nat} (hk:k<4) (h:TallyL st0 l y k):TallyL st0 l (let1 c k y) (k+1):=by
 unfold let1
 split
 ·split
  ·exact h.skip
  ·rename_i m hm
   split
   ·exact h.skip
   ·rename_i n rest hq;obtain⟨w,hw⟩:∃s,s=((y.st.slaves k).last+m) % 3:=⟨_,rfl⟩
    have hw3:w<3:=by omega
    rw[←hw]at hq ⊢;refine⟨⟨fun v=>?_,h.t.tl,?_,?_⟩,fun s hs=>?_,fun s=>?_⟩
    ·rw[←h.t.nx v];simp only[letDo];by_cases hv:v=w
     ·rw[hv,zA1]
     ·rw[zA0 _ _ hv]
    ·have:=h.t.ou;have h3:=sum3_upd y.st.ports (fun p=>p.out.length) hw3 { y.st.ports w with queue:=rest,out:=(y.st.ports w).out++[⟨w,n,k⟩] };have h4:=sum4_upd y.lets id hk 1;have h5:=h.z k (Nat.le_refl _);simp only[id,List.length_append,List.length_singleton]at h3 h4;simp only[letDo,outs]at this h3 ⊢;have h6:cntS4 (upd y.lets k 1)=cntS4 (fun w=>upd y.lets k 1 w):=rfl;have h7:cntS4 y.lets=cntS4 (fun w=>y.lets w):=rfl;omega
    ·have:=h.t.dn;have h3:=sum4_upd y.st.slaves (fun p=>p.done.length) hk { y.st.slaves k with pipe:=(y.st.slaves k).pipe++[⟨w,n,c.lt k⟩],last:=w };simp only[letDo,doneW]at this h3 ⊢;omega
    ·simp only[letDo];rw[zA0 _ _ (show s≠k by omega)];exact h.z s (by omega)
    ·simp only[letDo];by_cases hs:s=k
     ·rw[hs,zA1];exact Nat.le_refl _
     ·rw[zA0 _ _ hs];exact h.o s
 ·exact h.skip
theorem tally_ask1 {c:Cfg} {inp:Inp} {st0:Cy} {x:Cy×List Ev} {L w:Nat} (hw:w<3) (t:Tally st0 x L):Tally st0 (ask1 c inp w x) L:=by
 unfold ask1
 split
 ·refine⟨fun v=>?_,fun v=>?_,?_,?_⟩
  ·simp only[askDo];rw[zJ4];have:=t.nx v;by_cases hv:v=w
   ·subst hv;rw[zA1];simp only[and_self,if_pos];omega
   ·rw[zA0 _ _ hv,if_neg (by simp;omega)];exact this
  ·simp only[askDo];rw[zJ4,if_neg (by simp),Nat.add_zero];exact t.tl v
  ·have:=t.ou;have h3:=sum3_upd x.1.ports (fun p=>p.out.length) hw { x.1.ports w with queue:=(x.1.ports w).queue++[(x.1.ports w).next],next:=(x.1.ports w).next+1 };simp only[askDo,outs]at this h3 ⊢;omega
  ·have:=t.dn;simp only[askDo,dosN_snoc]at this ⊢;rw[if_neg (by simp)];exact this
 ·exact t
theorem tally_zero (st:Cy):Tally st (st,[]) 0:=⟨fun _=>rfl,fun _=>rfl,rfl,rfl⟩
theorem tally_step {c:Cfg} (hb:Bus c) {inp:Inp} {st:Cy} (hg:Good c st):Tally st (cyc c inp st,evs c inp st) (cntS4 (lets c inp st))∧∀s,lets c inp st s≤1:=by
 have h1:Good c (zB2 inp (st,[])).1∧Tally st (zB2 inp (st,[])) 0 :=
  zB5 (P:=fun x:Cy×List Ev=>Good c x.1∧Tally st x 0) 3 (st,[]) ⟨hg,tally_zero st⟩ fun i x hi hx=>⟨good_tell1 hx.1 hi,tally_tell1 hi hx.1 hx.2⟩
 obtain⟨x1,hx1⟩:∃x,x=zB2 inp (st,[]):=⟨_,rfl⟩
 rw[←hx1]at h1;have h2:Tally st (zA9 c inp x1) 0:=zB5 (P:=fun x:Cy×List Ev=>Tally st x 0) 4 x1 h1.2 fun i x hi hx=>tally_work1 hi hx
 obtain⟨x2,hx2⟩:∃x,x=zA9 c inp x1:=⟨_,rfl⟩
 rw[←hx2]at h2;have h3:TallyL st x2.2 (zD2 c x2.1) 4 :=
  tally_let1 (k:=3) (by omega) (tally_let1 (k:=2) (by omega) (tally_let1 (k:=1) (by omega) (tally_let1 (k:=0) (y:=⟨x2.1,fun _=>false,fun _=>0⟩) (by omega) ⟨h2,fun _ _=>rfl,fun _=>Nat.zero_le _⟩)))
 have h4:Tally st (zI5 c inp ((zD2 c x2.1).st,x2.2)) (cntS4 (zD2 c x2.1).lets) :=
  zB5 (P:=fun x:Cy×List Ev=>Tally st x (cntS4 (zD2 c x2.1).lets)) 3 ((zD2 c x2.1).st,x2.2) h3.t fun i x hi hx=>tally_ask1 hi hx
 have e:step c inp st=zI5 c inp ((zD2 c x2.1).st,x2.2):=by rw[hx2,hx1];rfl
 have e2:lets c inp st=(zD2 c x2.1).lets:=by rw[hx2,hx1];rfl
 rw[e2];refine⟨?_,h3.o⟩;show Tally st (step c inp st) _;rw[e];exact h4
structure Cn where
 cycles:Nat
 asked:Nat→Nat
 told:Nat→Nat
 waits:Nat→Nat
 lt:Nat→Nat
 done:Nat→Nat
 busy:Nat→Nat
def cn0:Cn:=⟨0,fun _=>0,fun _=>0,fun _=>0,fun _=>0,fun _=>0,fun _=>0⟩
def cnt1 (c:Cfg) (inp:Inp) (st:Cy) (n:Cn):Cn :=
  ⟨n.cycles + 1, fun w => n.asked w + evN 1 w (evs c inp st), fun w => n.told w + evN 3 w (evs c inp st), fun w => n.waits w + (if (st.ports w).queue.length = 0 then 0 else 1),
   fun s=>n.lt s+lets c inp st s,fun s=>n.done s+doneN c s (evs c inp st),fun s=>n.busy s+(if(st.slaves s).pipe.length=0 then 0 else 1)⟩
def cntR (c : Cfg) : List Inp → Cy → Cn → Cn
 |[],_,n=>n
 |i::rest,st,n=>cntR c rest (cyc c i st) (cnt1 c i st n)
theorem cntR_app (c : Cfg) : ∀ (a b : List Inp) (st : Cy) (n : Cn), cntR c (a ++ b) st n = cntR c b (runC c a st) (cntR c a st n)
 |[],_,_,_=>rfl
 |_::a,b,_,_=>cntR_app c a b _ _
theorem cntR_snoc (c:Cfg) (ins:List Inp) (k:Nat) (hk:k<ins.length) [Inhabited Inp] (st:Cy) (n:Cn):cntR c (ins.take (k+1)) st n=cnt1 c (ins.getD k default) (runC c (ins.take k) st) (cntR c (ins.take k) st n):=by
 rw[List.take_add_one,cntR_app];have:ins[k]?.toList=[ins.getD k default]:=by simp[List.getD,hk]
 rw[this];rfl
theorem doneN_sum {c : Cfg} : ∀ {l : List Ev}, (∀ e ∈ l, e.kind = 2 → c.slv e.who e.n < 4) → cntS4 (fun s => doneN c s l) = dosN l
 |[],_=>rfl
 |e::l,h=>by
  have ih:=doneN_sum (l:=l) fun x hx=>h x (List.mem_cons_of_mem _ hx)
  have he:=h e (List.mem_cons_self ..);unfold doneN dosN cntS4 at ih ⊢
  dsimp only at ih ⊢
  by_cases h2:e.kind=2
  ·have:=he h2;obtain h3|h3|h3|h3:c.slv e.who e.n=0∨c.slv e.who e.n=1∨c.slv e.who e.n=2∨c.slv e.who e.n=3:=by omega
   all_goals
    simp only[List.filter_cons,h2,h3];simp;omega
  ·simp only[List.filter_cons];simp[h2];simpa using ih
theorem doneN_one {c:Cfg} (hb:Bus c) {inp:Inp} {st:Cy} (hg:Good c st) (s:Nat):doneN c s (evs c inp st)≤(if(st.slaves s).pipe.length=0 then 0 else 1):=by
 obtain⟨t,wk,a,e,ht,ha,hw,hp⟩:=evs_law hb (inp:=inp) hg;rw[e,doneN_app,doneN_app,doneN_no (l:=t) fun e he hc=>by have:=ht e he;omega,doneN_no (l:=a) fun e he hc=>by have:=ha e he;omega,Nat.zero_add,Nat.add_zero];clear e;have h1:doneN c s wk≤1:=by
  unfold doneN
  induction wk with
  |nil=>simp
  |cons x xs ih=>
   rw[List.pairwise_cons]at hp;by_cases hx:(x.kind==2&&c.slv x.who x.n==s)=true
   ·rw[show(x::xs).filter (fun e=>e.kind==2&&c.slv e.who e.n==s)=x::xs.filter (fun e=>e.kind==2&&c.slv e.who e.n==s) from List.filter_cons_of_pos hx];have:xs.filter (fun e=>e.kind==2&&c.slv e.who e.n==s)=[]:=by
     rw[List.filter_eq_nil_iff];intro y hy;have:=hp.1 y hy;simp at hx ⊢;intro _;omega
    rw[this];simp
   ·rw[show(x::xs).filter (fun e=>e.kind==2&&c.slv e.who e.n==s)=xs.filter (fun e=>e.kind==2&&c.slv e.who e.n==s) from List.filter_cons_of_neg hx];exact ih (fun e he=>hw e (List.mem_cons_of_mem _ he)) hp.2
 split
 ·rename_i h0;rw[Nat.le_zero];refine doneN_no fun e he ⟨_,h3⟩=>?_
  obtain⟨_,_,_,_,_,rest,hr⟩:=hw e he;rw[h3]at hr;rw[hr]at h0;simp at h0
 ·exact h1
structure CnOk (c:Cfg) (k:Nat) (st:Cy) (n:Cn):Prop where
 cy:n.cycles=k
 asked:∀w,n.asked w=(st.ports w).next
 told:∀w,n.told w=cntW w st.told
 asked1:∀w,n.asked w≤k
 told1:∀w,n.told w≤k
 waits:∀w,n.waits w≤k
 lt:∀s,n.lt s≤k
 busy:∀s,n.busy s≤k
 done:∀s,n.done s≤n.busy s
 slt:cntS4 n.lt=st.told.length+outs st
 sdn:cntS4 n.done=st.told.length+doneW st
theorem cnOk_zero (c:Cfg):CnOk c 0 cy0 cn0:=⟨rfl,fun _=>rfl,fun _=>rfl,fun _=>Nat.le_refl _,fun _=>Nat.le_refl _,fun _=>Nat.le_refl _,fun _=>Nat.le_refl _,fun _=>Nat.le_refl _,fun _=>Nat.le_refl _,rfl,rfl⟩
theorem cnOk_step {c:Cfg} (hb:Bus c) {inp:Inp} {st:Cy} (hg:Good c st) {k:Nat} {n:Cn} (h:CnOk c k st n):CnOk c (k+1) (cyc c inp st) (cnt1 c inp st n):=by
 obtain⟨t,hl⟩:=tally_step hb (inp:=inp) hg;have g:=grow_step (c:=c) (inp:=inp) (st:=st);have hsum:cntS4 (fun s=>doneN c s (evs c inp st))=dosN (evs c inp st):=doneN_sum fun e he h2=>by
  obtain⟨t,wk,a,e1,ht,ha,hw,_⟩:=evs_law hb (inp:=inp) hg;rw[e1]at he;rcases List.mem_append.1 he with he|he
  ·rcases List.mem_append.1 he with he|he
   ·have:=ht e he;omega
   ·exact(hw e he).2.2.2.1
  ·have:=ha e he;omega
 refine⟨by simp[cnt1,h.cy],fun w=>?_,fun w=>?_,fun w=>?_,fun w=>?_,fun w=>?_,fun s=>?_,fun s=>?_,fun s=>?_,?_,?_⟩
 ·have:=t.nx w;have:=h.asked w;simp only[cnt1]at *;omega
 ·have:=t.tl w;have:=h.told w;simp only[cnt1]at *;omega
 ·have:=t.nx w;have:=h.asked w;have:=h.asked1 w;have:=g.hi w;simp only[cnt1]at *;omega
 ·have:=t.tl w;have:=h.told w;have:=h.told1 w;have:=g.cnt w;simp only[cnt1]at *;omega
 ·have:=h.waits w;simp only[cnt1];split <;> omega
 ·have:=h.lt s;have:=hl s;simp only[cnt1];omega
 ·have:=h.busy s;simp only[cnt1];split <;> omega
 ·have:=h.done s;have:=doneN_one hb (inp:=inp) hg s;simp only[cnt1];omega
 ·have:=h.slt;have:=t.ou;simp only[cnt1,cntS4]at *;omega
 ·have:=h.sdn;have:=t.dn;simp only[cnt1,cntS4]at *;omega
theorem cnOk_run {c : Cfg} (hb : Bus c) : ∀ (ins : List Inp) {st : Cy} {k : Nat} {n : Cn}, Good c st → CnOk c k st n → CnOk c (k + ins.length) (runC c ins st) (cntR c ins st n)
 |[],_,_,_,_,h=>h
 |i::rest,st,k,n,hg,h=>by
  have:=cnOk_run hb rest (good_step hb (inp:=i) hg) (cnOk_step hb (inp:=i) hg h);rw[List.length_cons,show k+(rest.length+1)=k+1+rest.length by omega];exact this
structure CnLe (a b:Cn):Prop where
 cy:a.cycles≤b.cycles
 asked:∀w,a.asked w≤b.asked w
 told:∀w,a.told w≤b.told w
 waits:∀w,a.waits w≤b.waits w
 lt:∀w,a.lt w≤b.lt w
 done:∀w,a.done w≤b.done w
 busy:∀w,a.busy w≤b.busy w
theorem CnLe.refl (a:Cn):CnLe a a:=⟨Nat.le_refl _,fun _=>Nat.le_refl _,fun _=>Nat.le_refl _,fun _=>Nat.le_refl _,fun _=>Nat.le_refl _,fun _=>Nat.le_refl _,fun _=>Nat.le_refl _⟩
theorem CnLe.trans {a b c:Cn} (h:CnLe a b) (g:CnLe b c):CnLe a c:=⟨Nat.le_trans h.cy g.cy,fun w=>Nat.le_trans (h.asked w) (g.asked w),fun w=>Nat.le_trans (h.told w) (g.told w),fun w=>Nat.le_trans (h.waits w) (g.waits w),fun w=>Nat.le_trans (h.lt w) (g.lt w),fun w=>Nat.le_trans (h.done w) (g.done w),fun w=>Nat.le_trans (h.busy w) (g.busy w)⟩
theorem cnLe_one (c:Cfg) (i:Inp) (st:Cy) (n:Cn):CnLe n (cnt1 c i st n):=⟨Nat.le_add_right _ _,fun _=>Nat.le_add_right _ _,fun _=>Nat.le_add_right _ _,fun _=>Nat.le_add_right _ _,fun _=>Nat.le_add_right _ _,fun _=>Nat.le_add_right _ _,fun _=>Nat.le_add_right _ _⟩
theorem cnLe_run (c : Cfg) : ∀ (ins : List Inp) (st : Cy) (n : Cn), CnLe n (cntR c ins st n)
 |[],_,n=>CnLe.refl n
 |i::rest,st,n=>(cnLe_one c i st n).trans (cnLe_run c rest (cyc c i st) (cnt1 c i st n))
theorem cnLe_part (c:Cfg) (ins:List Inp) (m:Nat) (st:Cy) (n:Cn):CnLe (cntR c (ins.take m) st n) (cntR c ins st n):=by
 have:=cnLe_run c (ins.drop m) (runC c (ins.take m) st) (cntR c (ins.take m) st n);rw[←cntR_app,List.take_append_drop]at this;exact this
end Go.Proofs.YthnlalffjepdaaaGreat
namespace Go.Proofs.YthnlalffjepdaaaGreat
open Go.RowKit
def ArrV {α:Type} (R:World→Nat→Value→α→Prop) (w:World) (B sz:Nat) (v:Value) (xs:List α):Prop :=
 ∃vs:List Value,Arr w B sz v (vs.map fun u=>u.cells.toList)∧vs.length=xs.length∧∀k,k<xs.length→∀d,R w B (vs.getD k undef) (xs.getD k d)
theorem ArrV.below {α:Type} {R:World→Nat→Value→α→Prop} {w w':World} {B sz:Nat} {v:Value} {xs:List α} (h:ArrV R w B sz v xs) (hb:Below B w w') (hR:∀u x,R w B u x→R w' B u x):ArrV R w' B sz v xs:=by
 obtain⟨vs,h1,h2,h3⟩:=h;exact⟨vs,h1.below hb,h2,fun k hk d=>hR _ _ (h3 k hk d)⟩
theorem ArrV.mono {α:Type} {R:World→Nat→Value→α→Prop} {w:World} {B B' sz:Nat} {v:Value} {xs:List α} (h:ArrV R w B sz v xs) (hb:B≤B') (hR:∀u x,R w B u x→R w B' u x):ArrV R w B' sz v xs:=by
 obtain⟨vs,h1,h2,h3⟩:=h;exact⟨vs,h1.mono hb,h2,fun k hk d=>hR _ _ (h3 k hk d)⟩
theorem zE4 {α:Type} {xs:List α} {k m:Nat} {d:α} (h:k<m):(xs.take m).getD k d=xs.getD k d:=by
 simp[List.getD,List.getElem?_take_of_lt h]
theorem ArrV.take {α:Type} {R:World→Nat→Value→α→Prop} {w:World} {B sz n cap m:Nat} {ao:Option Addr} {xs:List α} (h:ArrV R w B sz (.slice ao n cap) xs) (hm:m≤n):ArrV R w B sz (.slice ao m cap) (xs.take m):=by
 obtain⟨vs,h1,h2,h3⟩:=h;refine⟨vs.take m,by rw[List.map_take];exact h1.take hm,by simp[h2],fun k hk d=>?_⟩;simp only[List.length_take]at hk;rw[zE4 (by omega),zE4 (by omega)];exact h3 k (by omega) d
theorem ArrV.shape {α : Type} {R : World → Nat → Value → α → Prop} {w : World} {B sz : Nat} {v : Value} {xs : List α} (h : ArrV R w B sz v xs) :
  ∃ao cap,v=.slice ao xs.length cap∧xs.length≤cap∧cap≤9223372036854775807∧xs.length≤140737488351232∧(ao=none→cap=0):=by
 obtain⟨vs,⟨ao,cap,hv,h1,h2,h0,h9,_⟩,hl,_⟩:=h;simp only[List.length_map,hl]at hv h1 h0;exact⟨ao,cap,hv,h1,h2,h0,h9⟩
theorem ArrV.at {α : Type} {R : World → Nat → Value → α → Prop} {w : World} {B sz n cap : Nat} {ao : Option Addr} {xs : List α} (h : ArrV R w B sz (.slice ao n cap) xs) (hn : xs.length ≠ 0) :
  ∃b off,ao=some ⟨b,off,none⟩∧b<B∧∀k,k<xs.length→∃u,(∀d,R w B u (xs.getD k d))∧∀j,j<sz→w.cell? ⟨b,off+k * sz+j,none⟩=u.cells.toList[j]?:=by
 obtain⟨vs,⟨ao', cap', hv,h1,h2,h0,h9,h3⟩,hl,hr⟩:=h;simp only[Value.slice.injEq]at hv;obtain⟨rfl,_,rfl⟩:=hv;obtain⟨b,off,ha,hlt,hc⟩:=h3 (by simp only[List.length_map];omega);refine⟨b,off,ha,hlt,fun k hk=>⟨vs.getD k undef,fun d=>hr k hk d,fun j hj=>?_⟩⟩;rw[hc k (by simp only[List.length_map];omega) j hj];simp[List.getD,show k<vs.length by omega]
theorem ArrV.nil {α:Type} (R:World→Nat→Value→α→Prop) (w:World) (B sz:Nat):ArrV R w B sz (.slice none 0 0) ([]:List α) :=
 ⟨[],⟨none,0,rfl,by simp,by omega,by simp,fun _=>rfl,fun h=>absurd rfl h⟩,rfl,fun k hk=>absurd hk (by simp)⟩
def Reqs (w:World) (B:Nat) (v:Value) (rs:List Rq):Prop:=ArrV ReqV w B 7 v rs
theorem Reqs.below {w w':World} {B:Nat} {v:Value} {rs:List Rq} (h:Reqs w B v rs) (hb:Below B w w'):Reqs w' B v rs:=ArrV.below h hb fun _ _ h=>h.below hb
theorem Reqs.mono {w:World} {B B':Nat} {v:Value} {rs:List Rq} (h:Reqs w B v rs) (hb:B≤B'):Reqs w B' v rs:=ArrV.mono h hb fun _ _ h=>h.mono hb
theorem Reqs.opened {w : World} {B : Nat} {v : Value} {rs : List Rq} (h : Reqs w B v rs) :
  ∃ ao cap, v = .slice ao rs.length cap ∧ rs.length ≤ cap ∧ cap ≤ 9223372036854775807 ∧ rs.length ≤ 140737488351232 ∧ (ao = none → cap = 0) ∧
   (rs.length ≠ 0 → ∃ b off, ao = some ⟨b, off, none⟩ ∧ b < B ∧ ∀ t, t < rs.length → ∃ da dc la lc, ReqV w B (.agg #[.int .i64 (rs.getD t default).id, .int .i64 (rs.getD t default).kind, .int .i64 (rs.getD t default).addr, .int .i64 (rs.getD t default).many, .bool (rs.getD t default).wrap, .slice da (rs.getD t default).data.length dc, .slice la (rs.getD t default).lanes.length lc]) (rs.getD t default) ∧
    w.cell? ⟨b,off+t * 7,none⟩=some (.int .i64 (rs.getD t default).id)∧w.cell? ⟨b,off+t * 7+1,none⟩=some (.int .i64 (rs.getD t default).kind)∧w.cell? ⟨b,off+t * 7+2,none⟩=some (.int .i64 (rs.getD t default).addr) ∧
    w.cell? ⟨b,off+t * 7+3,none⟩=some (.int .i64 (rs.getD t default).many)∧w.cell? ⟨b,off+t * 7+4,none⟩=some (.bool (rs.getD t default).wrap)∧w.cell? ⟨b,off+t * 7+5,none⟩=some (.slice da (rs.getD t default).data.length dc)∧w.cell? ⟨b,off+t * 7+6,none⟩=some (.slice la (rs.getD t default).lanes.length lc)):=by
 obtain⟨ao,cap,rfl,h1,h2,h0,h9⟩:=ArrV.shape h;refine⟨ao,cap,rfl,h1,h2,h0,h9,fun hn=>?_⟩;obtain⟨b,off,ha,hlt,hc⟩:=ArrV.at h hn;refine⟨b,off,ha,hlt,fun t ht=>?_⟩;obtain⟨u,hu,hcell⟩:=hc t ht;have hu':=hu default;have hu2:=hu';obtain⟨dv,lv,rfl,k1,k2,k3⟩:=hu';obtain⟨da,dc,rfl,_⟩:=k1.opened;obtain⟨la,lc,rfl,_⟩:=k2.opened;refine⟨_,_,_,_,hu2,?_,?_,?_,?_,?_,?_,?_⟩
 ·have:=hcell 0 (by omega);simpa[Value.cells]using this
 ·have:=hcell 1 (by omega);simpa[Value.cells]using this
 ·have:=hcell 2 (by omega);simpa[Value.cells]using this
 ·have:=hcell 3 (by omega);simpa[Value.cells]using this
 ·have:=hcell 4 (by omega);simpa[Value.cells]using this
 ·have:=hcell 5 (by omega);simpa[Value.cells]using this
 ·have:=hcell 6 (by omega);simpa[Value.cells]using this
theorem RdAt.fresh {w:World} {B:Nat} {bv:Value} {bs:List Nat} (h:Bytes w B bv bs) (hB:B≤w.heap.size) (hl:bs.length≤2000):RdAt (w.alloc (.cells #[bv,.int .i64 0] 142)) w.heap.size B bs 0 :=
 ⟨bv,by show(w.heap.push _)[w.heap.size]? = _;simp,h.below ((Below.refl _ _).alloc (by omega) _),hB,hl⟩
def OpenP (w:World) (B:Nat) (e:Ending) (w':World):Prop:=∃cs,e=.returned (.pointer (some ⟨w.heap.size,0,none⟩))∧RdAt w' w.heap.size B cs 0∧Below w.heap.size w w'
theorem open_any (v : Value) (bs : List Nat) (B : Nat) (w : World) (h : Bytes w B v bs) (hB : B ≤ w.heap.size) :
  Calls Tryz.prog 55 #[v] w (OpenP w B):=by
 obtain⟨ao,cap,rfl,hlc,hcap,hln,hni,hr⟩:=h.opened;by_cases hl:(2000:Int)<(bs.length:Int)
 ·go_enter Tryz.func55,Tryz.ntmps55
  go_wp2
  go_ret
  exact⟨bs.take 2000,rfl,by exact RdAt.fresh (h.take (by omega)) hB (by simp;omega),(Below.refl _ _).alloc (Nat.le_refl _) _⟩
 ·go_enter Tryz.func55,Tryz.ntmps55
  go_wp2
  go_ret
  exact⟨bs,rfl,by exact RdAt.fresh h hB (by omega),(Below.refl _ _).alloc (Nat.le_refl _) _⟩
def PickP (r B:Nat) (bs:List Nat) (p:Nat) (n:Int) (w:World) (e:Ending) (w':World):Prop :=
 ∃x:Int,e=.returned (.int .i64 x)∧0≤x∧x<n∧RdAt w' r B bs (p+1)∧Touch r w w'
theorem zC0 (r B : Nat) (bs : List Nat) (p : Nat) (n : Int) (w : World) (h : RdAt w r B bs p) (hp : p ≤ 1099511627776) (h1 : 1 ≤ n) (hn : n ≤ 1099511627776) :
  Calls Tryz.prog 103 #[.pointer (some ⟨r,0,none⟩),.int .i64 n] w (PickP r B bs p n w):=by
 refine(pick_any r B bs p n w h hp hn).mono ?_;rintro e w' ⟨x,rfl,h0,h2,h3,h4⟩;exact⟨x,rfl,h0,by omega,h3,h4⟩
def OddP (r B:Nat) (bs:List Nat) (p:Nat) (n:Int) (w:World) (e:Ending) (w':World):Prop :=
 ∃(b:Bool) (q:Nat),e=.returned (.bool b)∧(9000≤n→b=false)∧q≤p+1∧RdAt w' r B bs q∧Touch r w w'
theorem odd_any (r B : Nat) (bs : List Nat) (p : Nat) (n : Int) (w : World) (h : RdAt w r B bs p) (hp : p ≤ 1099511627776) (h1 : 1 ≤ n) (hn : n ≤ 1099511627776) :
  Calls Tryz.prog 140 #[.pointer (some ⟨r,0,none⟩),.int .i64 n] w (OddP r B bs p n w):=by
 by_cases h9:n<9000
 ·go_enter Tryz.func140,Tryz.ntmps140
  go_wp2_with (first|(go_at_call 103;refine(zC0 r B bs p n _ h hp h1 hn).mono ?_;rintro e w1 ⟨x,rfl,hx0,hx1,hr1,ht1⟩))
  go_ret
  exact⟨_,p+1,rfl,fun h=>by omega,by omega,hr1,ht1⟩
 ·have h9':decide (n<9000)=false:=by simpa using h9
  go_enter Tryz.func140,Tryz.ntmps140
  go_wp2_with fail
  go_ret
  exact⟨false,p,rfl,fun _=>rfl,by omega,h,Touch.refl _ _⟩
theorem RdAt.alloc {w:World} {r B:Nat} {bs:List Nat} {p:Nat} (h:RdAt w r B bs p) (o:Obj):RdAt (w.alloc o) r B bs p:=h.kept ((Below.refl _ _).alloc (Nat.le_refl _) o) h.lt
theorem Touch.tab {r:Nat} {w w':World} {xs:Array Value} {T:TypeId} (ht:Touch r (w.alloc (.cells xs T)) w') (hr:r<w.heap.size):∀i v,xs[i]? = some v→w'.cell? ⟨w.heap.size,i,none⟩=some v:=by
 intro i v hv;rw[Touch.cell ht (by show w.heap.size≠r;omega) (by simp)];simp[go_sem,hv]
theorem Touch.tab2 {r : Nat} {w w' : World} {xs ys : Array Value} {T U : TypeId} (ht : Touch r ((w.alloc (.cells xs T)).alloc (.cells ys U)) w') (hr : r < w.heap.size) :
  (∀i v,xs[i]? = some v→w'.cell? ⟨w.heap.size,i,none⟩=some v)∧(∀i v,ys[i]? = some v→w'.cell? ⟨w.heap.size+1,i,none⟩=some v):=by
 refine⟨fun i v hv=>?_,fun i v hv=>?_⟩
 ·rw[Touch.cell ht (by show w.heap.size≠r;omega) (by simp;omega)];simp[go_sem,hv]
 ·rw[Touch.cell ht (by show w.heap.size+1≠r;omega) (by simp)];simp[go_sem,hv]
def AddrP (r B:Nat) (bs:List Nat) (p:Nat) (w:World) (e:Ending) (w':World):Prop :=
 ∃x:Int,e=.returned (.int .i64 x)∧0≤x∧x≤63∧RdAt w' r B bs (p+7)∧Touch r w w'
theorem l20Addr_any (r B : Nat) (bs : List Nat) (p : Nat) (w : World) (h : RdAt w r B bs p) (hp : p ≤ 1000000000) :
  Calls Tryz.prog 149 #[.pointer (some ⟨r,0,none⟩)] w (AddrP r B bs p w):=by
 have HT:=hid (Touch.refl r w)
 go_enter Tryz.func149,Tryz.ntmps149
 go_wp2_with (first
  |(go_at_call 103;(with_reducible refine(zC0 r B bs _ 8 _ ((h.alloc _).alloc _) ?_ (by omega) (by omega)).mono ?_);(omega);have hlt:=h.lt;rintro e w1 ⟨x,rfl,a0,a1,h,ht⟩;obtain⟨tA,tB⟩:=Touch.tab2 ht hlt;have u0:=tA 0 _ rfl;have u1:=tA 1 _ rfl;have u2:=tA 2 _ rfl;have u3:=tA 3 _ rfl;have u4:=tA 4 _ rfl;have u5:=tA 5 _ rfl;have v0:=tB 0 _ rfl;have v1:=tB 1 _ rfl;have v2:=tB 2 _ rfl;have v3:=tB 3 _ rfl;have v4:=tB 4 _ rfl;have v5:=tB 5 _ rfl;have v6:=tB 6 _ rfl;have v7:=tB 7 _ rfl;clear tA tB;have HT:=hid (show Touch r w w1 from((HT.out.alloc _).alloc _).trans ht);rcases(show x=0∨x=1∨x=2∨x=3∨x=4∨x=5∨x=6∨x=7 by omega)with rfl|rfl|rfl|rfl|rfl|rfl|rfl|rfl)
  |(go_at_call 103;go_must (refine(zC0 r B bs _ _ _ (by first|exact h|exact h.alloc _|exact(h.alloc _).alloc _) (by omega) (by omega) (by omega)).mono ?_);rintro e w1 ⟨x,rfl,a0,a1,h,ht⟩;have HT:=hid (show Touch r w w1 by first|exact HT.out.trans ht|exact(HT.out.alloc _).trans ht|exact((HT.out.alloc _).alloc _).trans ht)))
 all_goals
  go_ret
  exact⟨_,rfl,by omega,by omega,h,HT.out⟩
end Go.Proofs.YthnlalffjepdaaaGreat
