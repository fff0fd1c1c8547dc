/- CycEvents of a bus that stands as it may. -/
import Derived.Test.YtgkdoehkmbhfiaaGreatGDp1
import Derived.Test.YtgkdoehkmbhfiaaGreatGDo4
import Derived.Test.YtgkdoehkmbhfiaaGreatGIv3
import Derived.Test.YtgkdoehkmbhfiaaGreatGLib
import Derived.Test.YtgkdoehkmbhfiaaGreatGCs
import Derived.Test.YtgkdoehkmbhfiaaGreatGTk
import Derived.Test.YtgkdoehkmbhfiaaGreatGCp1
import Derived.Test.YtgkdoehkmbhfiaaGreatGDl
import Derived.Test.YtgkdoehkmbhfiaaGreatGKm
import Derived.Test.YtgkdoehkmbhfiaaGreatGMq
import Derived.StillTail
import Derived.StillTailTactics
import Derived.Deep.RegionWith
import Derived.Deep.Cut
import Derived.Deep.CutRange
set_option linter.unusedVariables false
set_option linter.unusedSimpArgs false
set_option maxHeartbeats 16000000
namespace Go.Proofs.YtgkdoehkmbhfiaaGreat
theorem sum3_updI {α:Type} (f:Nat→α) (g:Nat→α→Nat) {i:Nat} (hi:i<3) (x:α):sum3 (fun w=>g w (upd f i x w))+g i (f i)=sum3 (fun w=>g w (f w))+g i x:=by
 obtain rfl|rfl|rfl:i=0∨i=1∨i=2:=by omega
 all_goals
  simp only[sum3,upd];simp only[if_pos,if_neg,reduceCtorEq,Nat.reduceEqDiff,↓reduceIte];omega
def pipeW (l:List Jb):Nat:=(l.map (fun j=>j.left+2)).sum
theorem pipeW_cons (j:Jb) (l:List Jb):pipeW (j::l)=j.left+2+pipeW l:=by simp[pipeW]
theorem pipeW_snoc (j:Jb) (l:List Jb):pipeW (l++[j])=pipeW l+(j.left+2):=by simp[pipeW]
def leftP (c:Cfg) (w:Nat) (p:Pt):Nat:=7 * ((c.prog w).length - p.next)+6 * p.queue.length
def leftS (v:Sv):Nat:=pipeW v.pipe+v.done.length
def todo (c:Cfg) (st:Cy):Nat:=sum3 (fun w=>leftP c w (st.ports w))+cntS4 (fun s=>leftS (st.slaves s))
theorem foldN_dec {α : Type} {f : Nat → α → α} {m : α → Nat} {P : α → Prop} : ∀ (n : Nat) (a : α), P a → (∀ i x, i < n → P x → P (f i x) ∧ (m (f i x) < m x ∨ f i x = x)) →
  P (foldN f n a)∧(m (foldN f n a)<m a∨foldN f n a=a∧∀i,i<n→f i a=a)
 |0,_,h,_=>⟨h,.inr ⟨rfl,fun _ hi=>absurd hi (Nat.not_lt_zero _)⟩⟩
 |n+1,a,h,hs=>by
  obtain⟨h1,h2⟩:=foldN_dec n a h fun i x hi hx=>hs i x (by omega) hx
  obtain⟨h3,h4⟩:=hs n _ (Nat.lt_succ_self n) h1;refine⟨h3,?_⟩;show m (f n (foldN f n a))<m a∨f n (foldN f n a)=a∧_;rcases h2 with h2|⟨h2,h5⟩
  ·rcases h4 with h4|h4
   ·exact .inl (by omega)
   ·exact .inl (by rw[h4];exact h2)
  ·rw[h2]at h4 ⊢;rcases h4 with h4|h4
   ·exact .inl h4
   ·refine .inr ⟨h4,fun i hi=>?_⟩;by_cases he:i=n
    ·rw[he];exact h4
    ·exact h5 i (by omega)
theorem firstK_ex {m:Nat→Bool} {n k:Nat} (h0:1≤k) (hk:k≤n) (hm:m k=true):∃i,firstK m n=some i:=by
 rcases h:firstK m n with _|i
 ·unfold firstK at h;rw[List.find?_eq_none]at h;have:=h k (List.mem_map.2 ⟨k - 1,List.mem_range.2 (by omega),by omega⟩);exact absurd hm this
 ·exact⟨i,rfl⟩
section
variable {c : Cfg} {inp : Inp}
theorem todo_tell {x:Cy×List Ev} {w s:Nat} {j:TJ} {rest:List TJ} (hw:w<3) (hs:s<4) (hd:(x.1.slaves s).done=j::rest):todo c (zC5 w s j rest x).1<todo c x.1:=by
 have h1:=sum3_updI x.1.ports (leftP c) hw { x.1.ports w with out:=(x.1.ports w).out.eraseP (fun o=>o.n==j.n),last:=s };have h2:=zH0 x.1.slaves leftS hs { x.1.slaves s with done:=rest };have h3:leftP c w { x.1.ports w with out:=(x.1.ports w).out.eraseP (fun o=>o.n==j.n),last:=s }=leftP c w (x.1.ports w):=rfl;have h4:leftS (x.1.slaves s)=leftS { x.1.slaves s with done:=rest }+1:=by simp only[leftS,hd,List.length_cons];omega
 simp only[todo,zC5]at *;omega
theorem tell1_dec {x:Cy×List Ev} {w:Nat} (hw:w<3):todo c (tell1 inp w x).1<todo c x.1∨tell1 inp w x=x:=by
 unfold tell1
 split
 ·split
  ·exact .inr rfl
  ·split
   ·exact .inr rfl
   ·exact .inl (todo_tell hw (Nat.mod_lt _ (by omega)) ‹_›)
 ·exact .inr rfl
theorem tell1_takes {x:Cy×List Ev} {w s:Nat} {j:TJ} {rest:List TJ} (hr:inp.ready.getD w false=true) (hl:(x.1.ports w).last≤3) (hs:s<4) (hd:(x.1.slaves s).done=j::rest) (hj:j.who=w):tell1 inp w x≠x:=by
 have hk:∃k,1≤k∧k≤4∧((x.1.ports w).last+k) % 4=s:=by
  by_cases h:(x.1.ports w).last<s
  ·exact⟨s - (x.1.ports w).last,by omega,by omega,by omega⟩
  ·exact⟨s+4 - (x.1.ports w).last,by omega,by omega,by omega⟩
 obtain⟨k,k1,k2,k3⟩:=hk;obtain⟨i,hi⟩:=firstK_ex (m:=tellM x.1 w) k1 k2 (by unfold tellM;rw[k3,hd];simp[hj]);have hm:=(zG1 hi).2.2;intro he;unfold tell1 at he;rw[if_pos hr,hi]at he;simp only at he;unfold tellM at hm;rcases hdd:(x.1.slaves (((x.1.ports w).last+i) % 4)).done with _|⟨a,l⟩
 ·rw[hdd]at hm;simp at hm
 ·rw[hdd]at he;have:=congrArg (fun x=>x.2.length) he;simp[zC5]at this
theorem todo_dec {st:Cy} {s:Nat} {j:Jb} {rest:List Jb} (hs:s<4) (hp:(st.slaves s).pipe=j::rest) (h0:0<j.left):todo c (zD8 s j rest st)<todo c st:=by
 have h2:=zH0 st.slaves leftS hs { st.slaves s with pipe:=⟨j.who,j.n,j.left - 1⟩::rest };have h4:leftS (st.slaves s)=leftS { st.slaves s with pipe:=⟨j.who,j.n,j.left - 1⟩::rest }+1:=by simp only[leftS,hp,pipeW_cons];omega
 simp only[todo,zD8]at *;omega
theorem todo_work {x:Cy×List Ev} {s:Nat} {j:Jb} {rest:List Jb} (hs:s<4) (hp:(x.1.slaves s).pipe=j::rest):todo c (zD4 c s j rest x).1<todo c x.1:=by
 have h2:=zH0 x.1.slaves leftS hs { x.1.slaves s with pipe:=rest,done:=(x.1.slaves s).done++[⟨j.who,j.n,(doReq c.ms x.1.ws x.1.hs j.who (c.req j.who j.n)).2.2⟩] };have h4:leftS { x.1.slaves s with pipe:=rest,done:=(x.1.slaves s).done++[⟨j.who,j.n,(doReq c.ms x.1.ws x.1.hs j.who (c.req j.who j.n)).2.2⟩] }<leftS (x.1.slaves s):=by simp only[leftS,hp,pipeW_cons,List.length_append,List.length_singleton];omega
 simp only[todo,zD4]at *;omega
theorem work1_less {x:Cy×List Ev} {s:Nat} (hs:s<4):todo c (work1 c inp s x).1<todo c x.1∨work1 c inp s x=x:=by
 unfold work1
 split
 ·exact .inr rfl
 ·split
  ·exact .inr rfl
  ·split
   ·exact .inl (todo_dec hs ‹_› ‹_›)
   ·split
    ·exact .inl (todo_work hs ‹_›)
    ·exact .inr rfl
theorem work1_hit {x:Cy×List Ev} {s:Nat} {j:Jb} {rest:List Jb} (hs:s<4) (hst:¬inp.stall.getD s false=true) (hp:(x.1.slaves s).pipe=j::rest) (hd:(x.1.slaves s).done=[]):work1 c inp s x≠x:=by
 intro he;have h:todo c (work1 c inp s x).1<todo c x.1:=by
  unfold work1;rw[if_neg hst,hp];simp only;by_cases h0:0<j.left
  ·rw[if_pos h0];exact todo_dec hs hp h0
  ·rw[if_neg h0,if_pos (by rw[hd];simp)];exact todo_work hs hp
 rw[he]at h;exact absurd h (Nat.lt_irrefl _)
theorem todo_let (hb:Bus c) {y:Lt} {s w n:Nat} {rest:List Nat} (hs:s<4) (hw:w<3) (hq:(y.st.ports w).queue=n::rest):todo c (letDo c s w n rest y).st<todo c y.st:=by
 have h1:=sum3_updI y.st.ports (leftP c) hw { y.st.ports w with queue:=rest,out:=(y.st.ports w).out++[⟨w,n,s⟩] };have h2:=zH0 y.st.slaves leftS hs { y.st.slaves s with pipe:=(y.st.slaves s).pipe++[⟨w,n,c.lt s⟩],last:=w };have h3:leftP c w (y.st.ports w)=leftP c w { y.st.ports w with queue:=rest,out:=(y.st.ports w).out++[⟨w,n,s⟩] }+6:=by simp only[leftP,hq,List.length_cons];omega
 have h5:=hb.lt3 hs;have h4:leftS { y.st.slaves s with pipe:=(y.st.slaves s).pipe++[⟨w,n,c.lt s⟩],last:=w }≤leftS (y.st.slaves s)+5:=by simp only[leftS,pipeW_snoc];omega
 simp only[todo,letDo]at *;omega
theorem let1_dec (hb:Bus c) {y:Lt} {s:Nat} (hs:s<4):todo c (let1 c s y).st<todo c y.st∨let1 c s y=y:=by
 unfold let1
 split
 ·split
  ·exact .inr rfl
  ·split
   ·exact .inr rfl
   ·exact .inl (todo_let hb hs (Nat.mod_lt _ (by omega)) ‹_›)
 ·exact .inr rfl
theorem let1_takes (hb:Bus c) {y:Lt} {s w:Nat} (hs:s<4) (hw:w<3) (hl:(y.st.slaves s).last≤2) (hp:(y.st.slaves s).pipe.length<2) (hu:y.used w=false) (hm:may c y.st w s=true):let1 c s y≠y:=by
 have hk:∃k,1≤k∧k≤3∧((y.st.slaves s).last+k) % 3=w:=by
  by_cases h:(y.st.slaves s).last<w
  ·exact⟨w - (y.st.slaves s).last,by omega,by omega,by omega⟩
  ·exact⟨w+3 - (y.st.slaves s).last,by omega,by omega,by omega⟩
 obtain⟨k,k1,k2,k3⟩:=hk;obtain⟨i,hi⟩:=firstK_ex (m:=letM c s y) k1 k2 (by unfold letM;rw[k3,hu,hm];rfl);have hmm:=(zG1 hi).2.2;intro he;have h:todo c (let1 c s y).st<todo c y.st:=by
  unfold let1;rw[if_pos hp,hi];simp only;unfold letM may at hmm;rcases hq:(y.st.ports (((y.st.slaves s).last+i) % 3)).queue with _|⟨a,l⟩
  ·rw[hq]at hmm;simp at hmm
  ·exact todo_let hb hs (Nat.mod_lt _ (by omega)) hq
 rw[he]at h;exact absurd h (Nat.lt_irrefl _)
theorem todo_ask {x:Cy×List Ev} {w:Nat} (hw:w<3) (hn:(x.1.ports w).next<(c.prog w).length):todo c (askDo w x).1<todo c x.1:=by
 have h1:=sum3_updI x.1.ports (leftP c) hw { x.1.ports w with queue:=(x.1.ports w).queue++[(x.1.ports w).next],next:=(x.1.ports w).next+1 };have h3:leftP c w (x.1.ports w)=leftP c w { x.1.ports w with queue:=(x.1.ports w).queue++[(x.1.ports w).next],next:=(x.1.ports w).next+1 }+1:=by simp only[leftP,List.length_append,List.length_singleton];omega
 simp only[todo,askDo]at *;omega
theorem ask1_dec {x:Cy×List Ev} {w:Nat} (hw:w<3):todo c (ask1 c inp w x).1<todo c x.1∨ask1 c inp w x=x:=by
 unfold ask1
 split
 ·rename_i h;exact .inl (todo_ask hw h.2.2)
 ·exact .inr rfl
theorem ask1_hit {x:Cy×List Ev} {w:Nat} (hw:w<3) (hs:inp.send.getD w false=true) (hq:(x.1.ports w).queue=[]) (hn:(x.1.ports w).next<(c.prog w).length):ask1 c inp w x≠x:=by
 intro he;have h:todo c (ask1 c inp w x).1<todo c x.1:=by
  unfold ask1;rw[if_pos ⟨hs,by rw[hq];simp,hn⟩];exact todo_ask hw hn
 rw[he]at h;exact absurd h (Nat.lt_irrefl _)
theorem cyc_dec (hb : Bus c) {st : Cy} (hg : Good c st) : todo c (cyc c inp st) < todo c st ∨ cyc c inp st = st ∧
  (∀w,w<3→tell1 inp w (st,[])=(st,[]))∧(∀s,s<4→work1 c inp s (st,[])=(st,[]))∧(∀s,s<4→let1 c s ⟨st,fun _=>false,fun _=>0⟩=⟨st,fun _=>false,fun _=>0⟩)∧(∀w,w<3→ask1 c inp w (st,[])=(st,[])):=by
 obtain⟨g1,t1⟩:Good c (zB0 inp (st,[])).1∧(todo c (zB0 inp (st,[])).1<todo c st∨zB0 inp (st,[])=(st,[])∧∀w,w<3→tell1 inp w (st,[])=(st,[])) :=
  foldN_dec (m:=fun x:Cy×List Ev=>todo c x.1) (P:=fun x=>Good c x.1) 3 (st,[]) hg fun i x hi hx=>⟨zH6 hx hi,tell1_dec hi⟩
 obtain⟨x1,e1⟩:∃x,x=zB0 inp (st,[]):=⟨_,rfl⟩
 rw[←e1]at g1 t1;obtain⟨g2,t2⟩:Good c (zA8 c inp x1).1∧(todo c (zA8 c inp x1).1<todo c x1.1∨zA8 c inp x1=x1∧∀s,s<4→work1 c inp s x1=x1) :=
  foldN_dec (m:=fun x:Cy×List Ev=>todo c x.1) (P:=fun x=>Good c x.1) 4 x1 g1 fun i x hi hx=>⟨good_work1 hb hx hi,work1_less hi⟩
 obtain⟨x2,e2⟩:∃x,x=zA8 c inp x1:=⟨_,rfl⟩
 rw[←e2]at g2 t2;obtain⟨g3,t3⟩:Good c (zC4 c x2.1).st∧(todo c (zC4 c x2.1).st<todo c x2.1∨zC4 c x2.1=⟨x2.1,fun _=>false,fun _=>0⟩∧∀s,s<4→let1 c s ⟨x2.1,fun _=>false,fun _=>0⟩=⟨x2.1,fun _=>false,fun _=>0⟩) :=
  foldN_dec (m:=fun y:Lt=>todo c y.st) (P:=fun y=>Good c y.st) 4 ⟨x2.1,fun _=>false,fun _=>0⟩ g2 fun i x hi hx=>⟨good_let1 hx hi,let1_dec hb hi⟩
 obtain⟨y3,e3⟩:∃x,x=zC4 c x2.1:=⟨_,rfl⟩
 rw[←e3]at g3 t3;obtain⟨g4,t4⟩:Good c (zE4 c inp (y3.st,x2.2)).1∧(todo c (zE4 c inp (y3.st,x2.2)).1<todo c y3.st∨zE4 c inp (y3.st,x2.2)=(y3.st,x2.2)∧∀w,w<3→ask1 c inp w (y3.st,x2.2)=(y3.st,x2.2)) :=
  foldN_dec (m:=fun x:Cy×List Ev=>todo c x.1) (P:=fun x=>Good c x.1) 3 (y3.st,x2.2) g3 fun i x hi hx=>⟨good_ask1 hx hi,ask1_dec hi⟩
 have e:cyc c inp st=(zE4 c inp (y3.st,x2.2)).1:=by rw[e3,e2,e1];rfl
 rw[e];clear e e1 e2 e3;rcases t1 with t1|⟨rfl,u1⟩
 ·refine .inl ?_;rcases t2 with t2|⟨rfl,_⟩ <;> rcases t3 with t3|⟨rfl,_⟩ <;> rcases t4 with t4|⟨t4,_⟩ <;> (try rw[t4]) <;> (try simp only at *) <;> omega
 ·rcases t2 with t2|⟨rfl,u2⟩
  ·refine .inl ?_;rcases t3 with t3|⟨rfl,_⟩ <;> rcases t4 with t4|⟨t4,_⟩ <;> (try rw[t4]) <;> (try simp only at *) <;> omega
  ·rcases t3 with t3|⟨rfl,u3⟩
   ·refine .inl ?_;rcases t4 with t4|⟨t4,_⟩ <;> (try rw[t4]) <;> (try simp only at *) <;> omega
   ·rcases t4 with t4|⟨t4,u4⟩
    ·exact .inl t4
    ·exact .inr ⟨by rw[t4],u1,u2,u3,u4⟩
theorem todo_cyc (hb:Bus c) {st:Cy} (hg:Good c st):todo c (cyc c inp st)≤todo c st:=by
 rcases cyc_dec (inp:=inp) hb hg with h|⟨h,_⟩
 ·exact Nat.le_of_lt h
 ·rw[h];exact Nat.le_refl _
theorem outs_nil {st:Cy} (hg:Good c st) (hms:∀w n,c.slv w n<4) (h:∀s,s<4→zA7 (st.slaves s)=[]) {w:Nat} (hw:w<3):(st.ports w).out=[]:=by
 rw[List.eq_nil_iff_forall_not_mem];intro o ho;have h1:=((hg.p w hw).o o ho).2.1;have h2:=hms w o.n;have h3:=hg.link o.left w (by omega) hw;rw[h _ (by omega)]at h3;have:o.n∈((st.ports w).out.filter (fun j=>j.left==o.left)).map (·.n):=List.mem_map.2 ⟨o,List.mem_filter.2 ⟨ho,by simp⟩,rfl⟩;rw[←h3]at this;simp[nsOf]at this
structure FreeI (c:Cfg) (inp:Inp) (st:Cy):Prop where
 ready:∀w,w<3→inp.ready.getD w false=true
 send:∀w,w<3→inp.send.getD w false=true
 stall:∀s,s<4→inp.stall.getD s false=true→(st.slaves s).pipe=[]
theorem todo_less (hb:Bus c) {st:Cy} (hg:Good c st) (hms:∀w n,c.slv w n<4) (hf:FreeI c inp st):todo c (cyc c inp st)<todo c st∨todo c st=0:=by
 rcases cyc_dec (inp:=inp) hb hg with h|⟨_,h1,h2,h3,h4⟩
 ·exact .inl h
 ·refine .inr ?_;have d0:∀s,s<4→(st.slaves s).done=[]:=fun s hs=>by
   rcases hd:(st.slaves s).done with _|⟨j,l⟩
   ·rfl
   ·have hw:j.who<3:=(hg.s s hs).w3 (j.who,j.n) (by simp[zA7,hd]);exact absurd (h1 j.who hw) (tell1_takes (hf.ready _ hw) (hg.p _ hw).l hs hd rfl)
  have p0:∀s,s<4→(st.slaves s).pipe=[]:=fun s hs=>by
   by_cases hst:inp.stall.getD s false=true
   ·exact hf.stall s hs hst
   ·rcases hd:(st.slaves s).pipe with _|⟨j,l⟩
    ·rfl
    ·exact absurd (h2 s hs) (work1_hit hs hst hd (d0 s hs))
  have o0:=fun {w:Nat} (hw:w<3)=>outs_nil hg hms (fun s hs=>by simp[zA7,d0 s hs,p0 s hs]) hw
  have q0:∀w,w<3→(st.ports w).queue=[]:=fun w hw=>by
   rcases hq:(st.ports w).queue with _|⟨n,l⟩
   ·rfl
   ·have hs:=hms w n;refine absurd (h3 _ hs) (let1_takes (w:=w) hb hs hw (hg.s _ hs).l (by simp[p0 _ hs]) rfl ?_);unfold may;simp only[hq,o0 hw];simp
  have n0:∀w,w<3→(c.prog w).length - (st.ports w).next=0:=fun w hw=>by
   by_cases hn:(st.ports w).next<(c.prog w).length
   ·exact absurd (h4 w hw) (ask1_hit hw (hf.send w hw) (q0 w hw) hn)
   ·omega
  simp only[todo,sum3,cntS4,leftP,leftS];simp[d0,p0,q0,n0,pipeW]
theorem todo_all (hb : Bus c) (hms : ∀ w n, c.slv w n < 4) : ∀ (ins : List Inp) {st : Cy}, Good c st → (∀ i ∈ ins, ∀ st, Good c st → FreeI c i st) → todo c (runC c ins st) ≤ todo c st - ins.length
 |[],_,_,_=>Nat.le_refl _
 |i::rest,st,hg,hf=>by
  have h1:=todo_all hb hms rest (good_step hb (inp:=i) hg) fun j hj=>hf j (List.mem_cons_of_mem _ hj)
  have h2:todo c (runC c (i::rest) st)≤todo c (cyc c i st) - rest.length:=h1;rw[List.length_cons];rcases todo_less (inp:=i) hb hg hms (hf i (List.mem_cons_self ..) st hg)with h|h
  ·omega
  ·have:=todo_cyc (inp:=i) hb hg;omega
theorem todo_zero {st : Cy} (hg : Good c st) (hms : ∀ w n, c.slv w n < 4) (h : todo c st = 0) :
  (∀w,w<3→(st.ports w).next=(c.prog w).length∧(st.ports w).queue=[]∧(st.ports w).out=[])∧∀s,s<4→(st.slaves s).pipe=[]∧(st.slaves s).done=[]:=by
 simp only[todo,sum3,cntS4,leftP,leftS]at h;have hs:∀s,s<4→pipeW (st.slaves s).pipe=0∧(st.slaves s).done.length=0:=fun s hs=>by
  obtain rfl|rfl|rfl|rfl:s=0∨s=1∨s=2∨s=3:=by omega
  all_goals constructor <;> omega
 have hs2:∀s,s<4→(st.slaves s).pipe=[]∧(st.slaves s).done=[]:=fun s h4=>by
  obtain⟨h1,h2⟩:=hs s h4;refine⟨?_,List.eq_nil_of_length_eq_zero h2⟩;rcases hp:(st.slaves s).pipe with _|⟨j,l⟩
  ·rfl
  ·rw[hp,pipeW_cons]at h1;omega
 refine⟨fun w hw=>?_,hs2⟩;have h3:(c.prog w).length - (st.ports w).next=0∧(st.ports w).queue.length=0:=by
  obtain rfl|rfl|rfl:w=0∨w=1∨w=2:=by omega
  all_goals constructor <;> omega
 have h4:=(hg.p w hw).nx;exact⟨by omega,List.eq_nil_of_length_eq_zero h3.2,outs_nil hg hms (fun s hs=>by simp[zA7,hs2 s hs]) hw⟩
theorem todo_first (hb:Bus c):todo c cy0≤252:=by
 have h0:=hb.twelve (w:=0) (by omega);have h1:=hb.twelve (w:=1) (by omega);have h2:=hb.twelve (w:=2) (by omega);simp only[todo,sum3,cntS4,leftP,leftS,cy0,pipeW,List.map_nil,List.sum_nil,List.length_nil];omega
theorem told_perm {st:Cy} (hg:Good c st) (hms:∀w n,c.slv w n<4) (h:todo c st=0) {w:Nat} (hw:w<3):((st.told.filter (fun j=>j.who==w)).map (·.n)).Perm (List.range (c.prog w).length):=by
 obtain⟨h1,h2,h3⟩:=(todo_zero hg hms h).1 w hw;have:=hg.part w hw;rw[h1,h2,h3]at this;simpa using this
end
end Go.Proofs.YtgkdoehkmbhfiaaGreat
namespace Go.Proofs.YtgkdoehkmbhfiaaGreat
section
variable {c : Cfg} {who a : Nat}
theorem Good.slv {st:Cy} (hg:Good c st) {s w n:Nat} (hs:s<4) (hk:(w,n)∈zA7 (st.slaves s)):c.slv w n=s:=by
 obtain⟨hw,o,ho,hon,hos⟩:=hg.key hs hk;have:=((hg.p w hw).o o ho).2.1;rw[hon,hos]at this;exact this.symm
def zH9 (a:Nat):Inp:=⟨[true,true,true],[false,false,false,false].set a true,[true,true,true]⟩
theorem stall_at {s:Nat} (hs:s<4):(zH9 a).stall.getD s false=decide (s=a):=by
 unfold zH9;by_cases h:s=a
 ·subst h;simp[List.getD,hs]
 ·simp only[List.getD,List.getElem?_set_ne (Ne.symm h),h];have:=getD_none hs;simpa[List.getD]using this
def toldS (c:Cfg) (s:Nat) (l:List TJ):Nat:=(l.filter (fun j=>c.slv j.who j.n==s)).length
theorem toldS_snoc (s:Nat) (l:List TJ) (j:TJ):toldS c s (l++[j])=toldS c s l+(if c.slv j.who j.n=s then 1 else 0):=by
 unfold toldS;rw[List.filter_append,List.length_append];by_cases h:c.slv j.who j.n=s
 ·simp[h]
 ·rw[if_neg h,List.filter_cons_of_neg (by simpa using h)];simp
theorem zK7 (s:Nat) (l:List Ev) (e:Ev):doneN c s (l++[e])=doneN c s l+(if e.kind=2∧c.slv e.who e.n=s then 1 else 0):=by
 unfold doneN;rw[List.filter_append,List.length_append];by_cases h:e.kind=2∧c.slv e.who e.n=s
 ·simp[h.1,h.2]
 ·rw[if_neg h,List.filter_cons_of_neg (by simpa using h)];simp
structure StTally (c:Cfg) (st0:Cy) (s:Nat) (x:Cy×List Ev) (L:Nat):Prop where
 l:toldS c s x.1.told+(x.1.slaves s).pipe.length+(x.1.slaves s).done.length=toldS c s st0.told+(st0.slaves s).pipe.length+(st0.slaves s).done.length+L
 d:toldS c s x.1.told+(x.1.slaves s).done.length=toldS c s st0.told+(st0.slaves s).done.length+doneN c s x.2
theorem sTally_step (hb:Bus c) {inp:Inp} {st:Cy} (hg:Good c st) (s:Nat) (hs:s<4):StTally c st s (cyc c inp st,evs c inp st) (lets c inp st s):=by
 have h1:Good c (zB0 inp (st,[])).1∧StTally c st s (zB0 inp (st,[])) 0 :=
  zB1 (P := fun x : Cy × List Ev => Good c x.1 ∧ StTally c st s x 0) 3 (st, []) ⟨hg, ⟨rfl, rfl⟩⟩ fun i x hi hx => ⟨zH6 hx.1 hi, by
   obtain⟨hxg,hx⟩:=hx;unfold tell1
   split
   ·split
    ·exact hx
    ·rename_i k hk
     split
     ·exact hx
     ·rename_i j rest hd;obtain⟨t,ht⟩:∃s,s=((x.1.ports i).last+k) % 4:=⟨_,rfl⟩
      have ht4:t<4:=by omega
      rw[←ht]at hd ⊢;have hsl:=hxg.slv ht4 (w:=j.who) (n:=j.n) (by simp[zA7,hd]);have hl:=hx.l;have hdd:=hx.d;by_cases hst:s=t
      ·subst hst
       constructor
       ·simp only[zC5,zA1,toldS_snoc,hsl];rw[hd]at hl;simp only[List.length_cons]at hl;simp;omega
       ·simp only[zC5,zA1,toldS_snoc,hsl,zK7];rw[hd]at hdd;simp only[List.length_cons]at hdd;simp;omega
      ·constructor
       ·simp only[zC5,zA0 _ _ hst,toldS_snoc,hsl,if_neg (Ne.symm hst),Nat.add_zero];exact hl
       ·simp only[zC5,zA0 _ _ hst,toldS_snoc,hsl,if_neg (Ne.symm hst),Nat.add_zero,zK7];simp;exact hdd
   ·exact hx⟩
 obtain⟨x1,e1⟩:∃x,x=zB0 inp (st,[]):=⟨_,rfl⟩
 rw[←e1]at h1;have h2:Good c (zA8 c inp x1).1∧StTally c st s (zA8 c inp x1) 0 :=
  zB1 (P := fun x : Cy × List Ev => Good c x.1 ∧ StTally c st s x 0) 4 x1 h1 fun i x hi hx => ⟨good_work1 hb hx.1 hi, by
   obtain⟨hxg,hx⟩:=hx;have hl:=hx.l;have hdd:=hx.d;unfold work1
   split
   ·exact hx
   ·split
    ·exact hx
    ·rename_i j rest hp;have hsl:=hxg.slv hi (w:=j.who) (n:=j.n) (by simp[zA7,hp])
     split
     ·by_cases hst:s=i
      ·subst hst
       constructor
       ·simp only[zD8,zA1,List.length_cons];rw[hp]at hl;simpa using hl
       ·simp only[zD8,zA1];exact hdd
      ·constructor
       ·simp only[zD8,zA0 _ _ hst];exact hl
       ·simp only[zD8,zA0 _ _ hst];exact hdd
     ·split
      ·by_cases hst:s=i
       ·subst hst
        constructor
        ·simp only[zD4,zA1,List.length_append,List.length_singleton];rw[hp]at hl;simp only[List.length_cons]at hl;omega
        ·simp only[zD4,zA1,List.length_append,List.length_singleton,zK7,hsl];simp;omega
       ·constructor
        ·simp only[zD4,zA0 _ _ hst];exact hl
        ·simp only[zD4,zA0 _ _ hst,zK7,hsl];rw[if_neg (fun h=>hst h.2.symm),Nat.add_zero];exact hdd
      ·exact hx⟩
 obtain⟨x2,e2⟩:∃x,x=zA8 c inp x1:=⟨_,rfl⟩
 rw[←e2]at h2;have h3:∀k y,k<4→(StTally c st s (y.st,x2.2) (y.lets s)∧∀t,k≤t→y.lets t=0)→(StTally c st s ((let1 c k y).st,x2.2) ((let1 c k y).lets s)∧∀t,k+1≤t→(let1 c k y).lets t=0):=fun k y hk ⟨hy,hz⟩=>by
  have hskip:(StTally c st s (y.st,x2.2) (y.lets s)∧∀t,k+1≤t→y.lets t=0):=⟨hy,fun t ht=>hz t (by omega)⟩
  unfold let1
  split
  ·split
   ·exact hskip
   ·split
    ·exact hskip
    ·refine⟨?_,fun t ht=>by simp only[letDo,zA0 _ _ (show t≠k by omega)];exact hz t (by omega)⟩;have hl:=hy.l;have hdd:=hy.d;by_cases hst:s=k
     ·subst hst;have hz0:=hz s (Nat.le_refl _)
      constructor
      ·simp only[letDo,zA1,List.length_append,List.length_singleton];rw[hz0]at hl;simp only at hl;omega
      ·simp only[letDo,zA1];exact hdd
     ·constructor
      ·simp only[letDo,zA0 _ _ hst];exact hl
      ·simp only[letDo,zA0 _ _ hst];exact hdd
  ·exact hskip
 have h4:StTally c st s ((zC4 c x2.1).st,x2.2) ((zC4 c x2.1).lets s) :=
  (h3 3 _ (by omega) (h3 2 _ (by omega) (h3 1 _ (by omega) (h3 0 ⟨x2.1,fun _=>false,fun _=>0⟩ (by omega) ⟨h2.2,fun _ _=>rfl⟩)))).1
 obtain⟨y3,e3⟩:∃x,x=zC4 c x2.1:=⟨_,rfl⟩
 rw[←e3]at h4;have h5:StTally c st s (zE4 c inp (y3.st,x2.2)) (y3.lets s) :=
  zB1 (P:=fun x:Cy×List Ev=>StTally c st s x (y3.lets s)) 3 (y3.st,x2.2) h4 fun i x _ hx=>by
   unfold ask1
   split
   ·exact⟨hx.l,by have:=hx.d;simp only[askDo,zK7];simpa using this⟩
   ·exact hx
 have e:step c inp st=zE4 c inp (y3.st,x2.2):=by rw[e3,e2,e1];rfl
 have e4:lets c inp st=y3.lets:=by rw[e3,e2,e1];rfl
 rw[e4];show StTally c st s (step c inp st) _;rw[e];exact h5
structure CnS (c:Cfg) (s:Nat) (st:Cy) (n:Cn):Prop where
 l:n.lt s=toldS c s st.told+(st.slaves s).pipe.length+(st.slaves s).done.length
 d:n.done s=toldS c s st.told+(st.slaves s).done.length
theorem cnS_run (hb : Bus c) {s : Nat} (hs : s < 4) : ∀ (ins : List Inp) {st : Cy} {n : Cn}, Good c st → CnS c s st n → CnS c s (runC c ins st) (cntR c ins st n)
 |[],_,_,_,h=>h
 |i::rest,st,n,hg,h=>by
  have ht:=sTally_step hb (inp:=i) hg s hs;refine cnS_run hb hs rest (good_step hb (inp:=i) hg) ⟨?_,?_⟩
  ·have:=h.l;have:=ht.l;simp only[cnt1]at *;omega
  ·have:=h.d;have:=ht.d;simp only[cnt1]at *;omega
def askS (c : Cfg) (w s : Nat) : Nat → Nat
 |0=>0
 |k+1=>askS c w s k+(if c.slv w k=s then 1 else 0)
def askW (c : Cfg) (s : Nat) : Nat → Nat
 |0=>0
 |w+1=>askW c s w+askS c w s (c.prog w).length
theorem askS_eq (w s : Nat) : ∀ k, askS c w s k = ((List.range k).filter (fun n => c.slv w n == s)).length
 |0=>rfl
 |k+1=>by
  rw[askS,askS_eq w s k,List.range_succ,List.filter_append,List.length_append];by_cases h:c.slv w k=s
  ·simp[h]
  ·rw[if_neg h,List.filter_cons_of_neg (by simpa using h)];simp
theorem toldS_parts (s : Nat) : ∀ {l : List TJ}, (∀ j ∈ l, j.who < 3) → toldS c s l = sum3 (fun w => (((l.filter (fun j => j.who == w)).map (·.n)).filter (fun n => c.slv w n == s)).length)
 |[],_=>rfl
 |j::l,h=>by
  have ih:=toldS_parts s (l:=l) fun i hi=>h i (List.mem_cons_of_mem _ hi)
  have h3:=h j (by simp);unfold toldS at ih ⊢;unfold sum3 at ih ⊢;have hj:j.who=0∨j.who=1∨j.who=2:=by omega
  by_cases hs:c.slv j.who j.n=s
  ·rcases hj with e|e|e <;> rw[e]at hs <;> simp[e,hs]at ih ⊢ <;> omega
  ·rcases hj with e|e|e <;> rw[e]at hs <;> simp[e,hs]at ih ⊢ <;> omega
theorem store_law (hb:Bus c) (hms:∀w n,c.slv w n<4) {s:Nat} (hs:s<4):(cntR c (List.replicate 300 inAll) cy0 cn0).lt s=askW c s 3∧(cntR c (List.replicate 300 inAll) cy0 cn0).done s=askW c s 3:=by
 have hg:=zK5 c;have hf:∀i∈List.replicate 300 inAll,∀st,Good c st→FreeI c i st:=fun i hi st hgs=>by
  rw[List.mem_replicate]at hi;obtain⟨_,rfl⟩:=hi;refine⟨fun w hw=>getD_all hw,fun w hw=>getD_all hw,fun s hs hst=>?_⟩;have:inAll.stall.getD s false=false:=getD_none hs;rw[this]at hst;cases hst
 have h0:=todo_all hb hms (List.replicate 300 inAll) hg hf;have h1:=todo_first hb;rw[List.length_replicate]at h0;have hr:=good_run hb (List.replicate 300 inAll) hg;have h00:todo c (runC c (List.replicate 300 inAll) cy0)=0:=by omega
 have hz:=todo_zero hr hms h00;have hn:=cnS_run hb hs (List.replicate 300 inAll) hg (n:=cn0) ⟨rfl,rfl⟩;obtain⟨z1,z2⟩:=hz.2 s hs;have ht:toldS c s (runC c (List.replicate 300 inAll) cy0).told=askW c s 3:=by
  rw[toldS_parts s fun j hj=>(hr.t j hj).1];simp only[sum3,askW,Nat.zero_add];have key:∀w,w<3→((((runC c (List.replicate 300 inAll) cy0).told.filter (fun j=>j.who==w)).map (·.n)).filter (fun n=>c.slv w n==s)).length=askS c w s (c.prog w).length:=fun w hw=>by
   rw[askS_eq,((told_perm hr hms h00 hw).filter _).length_eq]
  rw[key 0 (by omega),key 1 (by omega),key 2 (by omega)]
 have hl:=hn.l;have hd:=hn.d;rw[z1,z2,ht]at hl;rw[z2,ht]at hd;simp only[List.length_nil,Nat.add_zero]at hl hd;exact⟨hl,hd⟩
end
end Go.Proofs.YtgkdoehkmbhfiaaGreat
namespace Go.Proofs.YtgkdoehkmbhfiaaGreat
open Go.RowKit
def RqFit (q:Rq):Prop:=Rq20 q∧(∀y∈q.data,I64 y)∧(∀y∈q.lanes,I64 y)∧I64 q.id∧I64 q.kind∧I64 q.addr∧I64 q.many
theorem loadVar_bus (w:World) (g:Nat) (a b c:Value) (h0:w.cell? ⟨g,0,none⟩=some a) (h1:w.cell? ⟨g,1,none⟩=some b) (h2:w.cell? ⟨g,2,none⟩=some c):(loadVar 27 ⟨g,0,none⟩).run Tryz.prog w=.ok (.agg #[a,b,c]) w:=by
 simp[loadVar,go_sem,h0,h1,h2]
def aloneK (pss:List (List Rq)) (who:Int) (k:Nat):List (List Rq):=(List.range pss.length).map fun j=>if j<k∧(j:Int)≠who then[] else pss.getD j []
theorem aloneK_len (pss:List (List Rq)) (who:Int) (k:Nat):(aloneK pss who k).length=pss.length:=by simp[aloneK]
theorem aloneK_get {pss:List (List Rq)} {who:Int} {k j:Nat} (hj:j<pss.length):(aloneK pss who k).getD j []=if j<k∧(j:Int)≠who then[] else pss.getD j []:=by simp[aloneK,List.getD,hj]
theorem CopP.below {st:Cy} {w w0:World} {e:Ending} {w':World} (h:CopP st w0 e w') (hb:Below w.heap.size w w0):CopP st w e w':=by
 obtain⟨V,N,C,D,he,hr,h3⟩:=h;exact⟨V,N,C,D,he,hr.rebase hb.size,hb.trans (h3.mono hb.size)⟩
theorem runC_app (c : Cfg) : ∀ (a b : List Inp) (st : Cy), runC c (a ++ b) st = runC c b (runC c a st)
 |[],_,_=>rfl
 |_::a,b,_=>runC_app c a b _
theorem runC_snoc (c:Cfg) (ins:List Inp) (k:Nat) (hk:k<ins.length) (st:Cy):runC c (ins.take (k+1)) st=cyc c (ins.getD k default) (runC c (ins.take k) st):=by
 rw[List.take_succ_eq_append_getElem hk,runC_app];simp[runC,List.getD,hk]
theorem CyO.toR {w:World} {lo:Nat} {a b p s:Value} (h:CyO w lo a b p s z64 z6 z3 z4):∃V N C D,CyR w lo cy0 V N C D∧V 0=a∧V 1=b∧V 2=p∧V 3=s∧V 4=vnil:=by
 have nil:∀(e sz:Nat),OwnR w lo e sz vnil 0 []:=fun e sz=>⟨by simp,.inl ⟨rfl,rfl⟩⟩
 have an:∀v:Value,Apart v vnil:=fun v k _ h2=>by simp[vnil,Value.ownBlock]at h2
 have na:∀v:Value,Apart vnil v:=fun v k h2=>by simp[vnil,Value.ownBlock]at h2
 refine ⟨fun κ => if κ = 0 then a else if κ = 1 then b else if κ = 2 then p else if κ = 3 then s else vnil, fun κ => if κ = 0 then 64 else if κ = 1 then 6 else if κ = 2 then 3 else if κ = 3 then 4 else 0,
  fun κ=>if κ=0 then z64.flatMap rowI else if κ=1 then z6.flatMap rowI else if κ=2 then z3.flatMap rowP else if κ=3 then z4.flatMap rowS else[],fun _=>[],⟨⟨fun κ hκ=>?_,fun κ μ hκ hμ hne=>?_⟩,?_,rfl,fun κ hκ x hx=>by cases hx⟩,rfl,rfl,rfl,rfl,rfl⟩
 ·rcases κ with _|_|_|_|κ
  ·exact h.oa
  ·exact h.ob
  ·exact h.op
  ·exact h.os
  ·exact nil _ _
 ·rcases κ with _|_|_|_|κ <;> rcases μ with _|_|_|_|μ <;> first|exact absurd rfl hne|exact an _|exact na _|exact h.dab|exact h.dab.symm|exact h.dap|exact h.dap.symm|exact h.das|exact h.das.symm|exact h.dbp|exact h.dbp.symm|exact h.dbs|exact h.dbs.symm|exact h.dps|exact h.dps.symm
 ·have q:∀i:Nat,((5+i=0)=False∧(5+i=1)=False∧(5+i=2)=False∧(5+i=3)=False)∧((8+i=0)=False∧(8+i=1)=False∧(8+i=2)=False∧(8+i=3)=False)∧((11+i=0)=False∧(11+i=1)=False∧(11+i=2)=False∧(11+i=3)=False)∧((15+i=0)=False∧(15+i=1)=False∧(15+i=2)=False∧(15+i=3)=False):=fun i=>by
   refine⟨⟨?_,?_,?_,?_⟩,⟨?_,?_,?_,?_⟩,⟨?_,?_,?_,?_⟩,⟨?_,?_,?_,?_⟩⟩ <;> exact eq_false (by omega)
  refine⟨rfl,rfl,rfl,rfl,rfl,rfl,rfl,rfl,rfl,rfl,rfl,fun i hi=>?_,fun i hi=>?_,fun i hi=>?_,fun i hi=>?_,fun i hi=>?_,fun i hi=>?_,fun i hi=>?_,fun i hi=>?_,fun i hi=>rfl,rfl,rfl⟩ <;> simp[q i,cy0]
theorem i64_z64:∀x∈z64,I64 x:=by intro x hx;obtain⟨_,rfl⟩:=List.mem_replicate.1 hx;exact⟨by omega,by omega⟩
theorem i64_z6:∀x∈z6,I64 x:=by intro x hx;obtain⟨_,rfl⟩:=List.mem_replicate.1 hx;exact⟨by omega,by omega⟩
theorem small_zero:SmallC cy0:=⟨by simp[cy0],by simp[cy0],⟨by simp[cy0],by simp[cy0]⟩,fun i _=>by simp[cy0],fun i _=>by simp[cy0],fun s _=>by simp[cy0],fun s _=>⟨by simp[cy0],by simp[cy0]⟩⟩
theorem CyO.toV {w:World} {lo:Nat} {a b p s:Value} (h:CyO w lo a b p s z64 z6 z3 z4):∃P Q,CyV w w.heap.size a b p s vnil cy0 P Q:=by
 obtain⟨V,N,C,D,hr,rfl,rfl,rfl,rfl,e4⟩:=h.toR;rw[←e4];exact cyV_raw hr.raw hr.con (fun κ hκ x hx=>(hr.dat κ hκ x hx).to fun b hb=>hb.2.1) small_zero i64_z64 i64_z6
theorem CopP.sl {st:Cy} {w:World} {e:Ending} {w':World} (h:CopP st w e w'):∃V N C D b0 b1 b2 b3 b4 n0 n1 n2 n3 n4 k0 k1 k2 k3 k4,(V 0=.slice b0 n0 k0∧V 1=.slice b1 n1 k1∧V 2=.slice b2 n2 k2∧V 3=.slice b3 n3 k3∧V 4=.slice b4 n4 k4)∧e=.returned (.agg #[.slice b0 n0 k0,.slice b1 n1 k1,.slice b2 n2 k2,.slice b3 n3 k3,.slice b4 n4 k4])∧CyR w' w.heap.size st V N C D∧Below w.heap.size w w':=by
 obtain⟨V,N,C,D,rfl,hr,hbl⟩:=h;obtain⟨A,n,K,e0,e1,e2,e3,e4⟩:=hr.raw.sl;exact⟨V,N,C,D,_,_,_,_,_,_,_,_,_,_,_,_,_,_,_,⟨e0,e1,e2,e3,e4⟩,by rw[e0,e1,e2,e3,e4],hr,hbl⟩
theorem CopP.out {st : Cy} {w wa : World} {V : Nat → Value} {N : Nat → Nat} {C : Nat → List Value} {D : Nat → List TJV} {b0 b1 b2 b3 b4 : Option Addr} {n0 n1 n2 n3 n4 k0 k1 k2 k3 k4 base : Nat} (hE : V 0 = .slice b0 n0 k0 ∧ V 1 = .slice b1 n1 k1 ∧ V 2 = .slice b2 n2 k2 ∧ V 3 = .slice b3 n3 k3 ∧ V 4 = .slice b4 n4 k4) (hr : CyR wa base st V N C D) (hw : Below w.heap.size w wa) (g : Nat) (hg : g < base) (hg2 : w.heap.size ≤ g) :
  CopP st w (.returned (.agg #[.slice b0 n0 k0,.slice b1 n1 k1,.slice b2 n2 k2,.slice b3 n3 k3,.slice b4 n4 k4])) (((((wa.setCell ⟨g,0,none⟩ (.slice b0 n0 k0)).setCell ⟨g,1,none⟩ (.slice b1 n1 k1)).setCell ⟨g,2,none⟩ (.slice b2 n2 k2)).setCell ⟨g,3,none⟩ (.slice b3 n3 k3)).setCell ⟨g,4,none⟩ (.slice b4 n4 k4)):=by
 obtain⟨e0,e1,e2,e3,e4⟩:=hE;refine⟨V,N,C,D,by rw[e0,e1,e2,e3,e4],(hr.kept (fun b h1 h2=>(touchC g _ _ _ _ _ _).block b h2 (by omega)) (touchC g _ _ _ _ _ _).size).rebase (by omega),?_⟩;exact((((hw.setCell (p:=⟨g,_,none⟩) hg2 _).setCell (p:=⟨g,_,none⟩) hg2 _).setCell (p:=⟨g,_,none⟩) hg2 _).setCell (p:=⟨g,_,none⟩) hg2 _).setCell (p:=⟨g,_,none⟩) hg2 _
set_option maxRecDepth 8000 in
theorem cycNew_any (w:World):Calls Tryz.prog 10 #[] w (CopP cy0 w):=by
 go_enter Tryz.func10,Tryz.ntmps10
 go_wp2_with fail
 refine(implAtmNewW_any _).mono ?_;rintro e w1 ⟨wa,wc,g,ga,go,gc,rfl,o1,o2,_,_,hap,hb⟩;have HR:=hid ((Bx.new w #[vnil,vnil,vnil,vnil,vnil] 39 (by simp)).below hb (by simp));have HB1:=hid ((bx1 w _).trans (hb.mono (by simp)));have O1:=hid o1;have O2:=hid o2;have AP:=hid hap;clear o1 o2 hap hb;obtain⟨⟨r0,r1,r2,r3,r4⟩,f0,f1,f2,f3,f4⟩:=HR.out.five;have hz1:=HR.out.lt
 go_wp2_with fail
 clear r0 r1 r2 r3 r4 f0 f1 f2 f3 f4;obtain⟨W2,hW2⟩:∃W2,W2=w1.alloc (.cells #[.slice (some ⟨g,wa,none⟩) 64 wc,.slice (some ⟨ga,go,none⟩) 6 gc,.slice none 0 0,.slice none 0 0,.slice none 0 0] 39):=⟨_,rfl⟩
 rw[←hW2];have hb2:Below w1.heap.size w1 W2:=by rw[hW2];exact bx1 _ _
 have hz2:W2.heap.size=w1.heap.size+1:=by rw[hW2];simp
 have HS:=hid (show Bx W2 w1.heap.size [.slice (some ⟨g,wa,none⟩) 64 wc,.slice (some ⟨ga,go,none⟩) 6 gc,vnil,vnil,vnil] by rw[hW2];exact Bx.new w1 #[.slice (some ⟨g,wa,none⟩) 64 wc,.slice (some ⟨ga,go,none⟩) 6 gc,vnil,vnil,vnil] _ (by simp));have HR2:=hid (HR.out.below hb2 hz1);have HB2:=hid hb2;have HZ2:=hid hz2;clear hW2 hb2 HR hz2
 go_loopw [4] (fun i wr=>∃(k:Nat) (u:Value),i=.int .i64 k∧k≤3∧Owns wr (w1.heap.size+1) 48 4 rowP u (List.replicate k ((0,3):Int×Int))∧Below w1.heap.size W2 wr∧Bx wr w.heap.size [vnil,vnil,vnil,vnil,vnil]∧Bx wr w1.heap.size [.slice (some ⟨g,wa,none⟩) 64 wc,.slice (some ⟨ga,go,none⟩) 6 gc,u,vnil,vnil]∧w1.heap.size+1≤wr.heap.size) (fun i _=>3 - (intOf i).toNat)
 case atStart=>exact⟨0,_,rfl,by omega,Owns.zero,Below.refl _ _,HR2.out,HS.out,by have:=HZ2.out;omega⟩
 case round=>
  clear HS HR2;obtain⟨k,u,rfl,hk3,hown,hbl,hr,hs,hsz⟩:=hrel;have HOW:=hid hown;have HBL:=hid hbl;have HR:=hid hr;have HS:=hid hs;have HSZ:=hid hsz;clear hown hbl hr hs hsz;have hrep:=hid (show List.replicate k ((0,3):Int×Int)++[(0,3)]=List.replicate (k+1) (0,3) from by rw[List.replicate_succ']);have hlr:=hid (show(List.replicate k ((0,3):Int×Int)).length=k from by simp);obtain⟨⟨s0,s1,s2,s3,s4⟩,e0,e1,e2,e3,e4⟩:=HS.out.five;have hsl:=HS.out.lt;by_cases hlt:k<3
  ·go_wp2_with (at_builtin;go_must (refine wpList_push elem_portY rowP rowP_len rowP_one wr rfl _ _ rfl (w1.heap.size+1) _ _ (0,3) (by rfl) HOW.out _ (by rfl) (by rfl) (by rw[hlr.out];omega) (by rw[hlr.out];omega) HSZ.out ?_);intro v' w3 hown1 hb1;rw[hrep.out]at hown1;obtain⟨va,vc,hv', hvc1,hvc2⟩:=hown1.shape;rw[List.length_replicate]at hv';subst hv';have HS3:=hid (HS.out.below hb1 (by omega));have HR3:=hid (HR.out.below hb1 (by omega));obtain⟨⟨s0,s1,s2,s3,s4⟩,e0,e1,e2,e3,e4⟩:=HS3.out.five;have hsl3:=HS3.out.lt;have HO1:=hid hown1;have HB1':=hid hb1;clear hown1 hb1)
   go_roundw
   case rel=>exact⟨k+1,_,by go_num,by omega,HO1.out.set' _ _ _ (fun j hj=>by have:=(OwnR.lt HO1.out j hj).1;omega),(HBL.out.trans (HB1'.out.mono (by omega))).setCell (by exact Nat.le_refl _) _,HR3.out.kept (Below.heap_setCell _ _ _ _ (by show w.heap.size≠w1.heap.size;omega)),HS3.out.set 2 (by simp) _,by have:=HB1'.out.size;have:=HSZ.out;simp[World.setCell];omega⟩
   case measure=>simp[intOf];omega
  ·obtain rfl:k=3:=by omega
   go_wp2_with fail
   obtain⟨wo,hwo⟩:∃W,W=wr:=⟨_,rfl⟩
   subst hwo;have hz3:w1.heap.size<wo.heap.size:=hsl;clear s0 s1 s2 s3 s4 e0 e1 e2 e3 e4;have hc3:((3:Nat):Int)=3:=rfl;simp only[hc3];clear hc3
   go_loopw [13] (fun i wx=>∃(k:Nat) (v:Value),i=.int .i64 k∧k≤4∧Owns wx wo.heap.size 94 3 rowS v (List.replicate k (2:Int))∧Owns wx (w1.heap.size+1) 48 4 rowP u (List.replicate 3 ((0,3):Int×Int))∧Below w1.heap.size W2 wx∧Bx wx w.heap.size [vnil,vnil,vnil,vnil,vnil]∧Bx wx w1.heap.size [.slice (some ⟨g,wa,none⟩) 64 wc,.slice (some ⟨ga,go,none⟩) 6 gc,u,v,vnil]∧wo.heap.size≤wx.heap.size) (fun i _=>4 - (intOf i).toNat)
   case atStart=>exact⟨0,_,rfl,by omega,Owns.zero,HOW.out,HBL.out,HR.out,HS.out,Nat.le_refl _⟩
   case round=>
    have hul:=hid (fun j hj=>(OwnR.lt HOW.out j hj).2);clear HBL HR HS;obtain⟨k,v,rfl,hk4,hown,hop,hbl,hr,hs,hsz⟩:=hrel;have HOS:=hid hown;have HOP:=hid hop;have HBL:=hid hbl;have HR:=hid hr;have HS:=hid hs;have HSZ2:=hid hsz;clear hown hop hbl hr hs hsz;have hrep:=hid (show List.replicate k (2:Int)++[2]=List.replicate (k+1) 2 from by rw[List.replicate_succ']);have hlr:=hid (show(List.replicate k (2:Int)).length=k from by simp);obtain⟨⟨s0,s1,s2,s3,s4⟩,e0,e1,e2,e3,e4⟩:=HS.out.five;have hsl:=HS.out.lt;by_cases hlt4:k<4
    ·have hle3:(k:Int)≤3:=by omega
     go_wp2_with (at_builtin;go_must (refine wpList_push elem_slaveY rowS rowS_len rowS_one _ rfl _ _ rfl wo.heap.size _ _ 2 (by rfl) HOS.out _ (by rfl) (by rfl) (by rw[hlr.out];omega) (by rw[hlr.out];omega) HSZ2.out ?_);intro v' w3 hown1 hb1;rw[hrep.out]at hown1;obtain⟨va,vc,hv', hvc1,hvc2⟩:=hown1.shape;rw[List.length_replicate]at hv';subst hv';have HS3:=hid (HS.out.below hb1 (by omega));have HR3:=hid (HR.out.below hb1 (by omega));have HOP3:=hid (OwnR.below HOP.out hb1 (fun j hj=>hul.out j hj));obtain⟨⟨s0,s1,s2,s3,s4⟩,e0,e1,e2,e3,e4⟩:=HS3.out.five;have hsl3:=HS3.out.lt;have HO1:=hid hown1;have HB1':=hid hb1;clear hown1 hb1)
     go_roundw
     case rel=>exact⟨k+1,_,by go_num,by omega,HO1.out.set' _ _ _ (fun j hj=>by have:=(OwnR.lt HO1.out j hj).1;omega),Owns.set' HOP3.out _ _ _ (fun j hj=>by have:=(OwnR.lt HOP3.out j hj).1;omega),(HBL.out.trans (HB1'.out.mono (by omega))).setCell (by exact Nat.le_refl _) _,HR3.out.kept (Below.heap_setCell _ _ _ _ (by show w.heap.size≠w1.heap.size;omega)),HS3.out.set 3 (by simp) _,by have:=HB1'.out.size;have:=HSZ2.out;simp[World.setCell];omega⟩
     case measure=>simp[intOf];omega
    ·obtain rfl:k=4:=by omega
     obtain⟨pa,pc,rfl,_,_⟩:=HOP.out.shape;obtain⟨sa,sc,rfl,_,_⟩:=HOS.out.shape;simp only[List.length_replicate]at *;have O1W:=hid (OwnR.below (O1.out.below HB2.out) HBL.out (fun j hj=>(OwnR.lt O1.out j hj).2));have O2W:=hid (OwnR.below (O2.out.below HB2.out) HBL.out (fun j hj=>(OwnR.lt O2.out j hj).2));have hg1:∀j,(Value.slice (some ⟨g,wa,none⟩) 64 wc).ownBlock=some j→w.heap.size+1≤j∧j<w1.heap.size:=fun j hj=>by have:=OwnR.lt O1.out j hj;simpa using this
     have hg2:∀j,(Value.slice (some ⟨ga,go,none⟩) 6 gc).ownBlock=some j→w.heap.size+1≤j∧j<w1.heap.size:=fun j hj=>by have:=OwnR.lt O2.out j hj;simpa using this
     have hg3:∀j,(Value.slice pa 3 pc).ownBlock=some j→w1.heap.size+1≤j∧j<wo.heap.size:=fun j hj=>⟨(OwnR.lt HOP.out j hj).1,hul.out j hj⟩
     have hg4:∀j,(Value.slice sa 4 sc).ownBlock=some j→wo.heap.size≤j:=fun j hj=>(OwnR.lt HOS.out j hj).1
     have HCY := hid (show CyO _ w.heap.size (.slice (some ⟨g, wa, none⟩) 64 wc) (.slice (some ⟨ga, go, none⟩) 6 gc) (.slice pa 3 pc) (.slice sa 4 sc) z64 z6 z3 z4 from
      ⟨OwnR.rebase O1W.out (show w.heap.size ≤ _ by simp), OwnR.rebase O2W.out (show w.heap.size ≤ _ by simp), OwnR.rebase HOP.out (show w.heap.size ≤ w1.heap.size + 1 by omega), OwnR.rebase HOS.out (show w.heap.size ≤ wo.heap.size by omega),
       AP.out,Apart.of_lt (m:=w1.heap.size) (fun j hj=>(hg1 j hj).2) (fun j hj=>by have:=hg3 j hj;omega),Apart.of_lt (m:=w1.heap.size) (fun j hj=>(hg1 j hj).2) (fun j hj=>by have:=hg4 j hj;omega),
       Apart.of_lt (m:=w1.heap.size) (fun j hj=>(hg2 j hj).2) (fun j hj=>by have:=hg3 j hj;omega),Apart.of_lt (m:=w1.heap.size) (fun j hj=>(hg2 j hj).2) (fun j hj=>by have:=hg4 j hj;omega),Apart.of_lt (m:=wo.heap.size) (fun j hj=>(hg3 j hj).2) (fun j hj=>hg4 j hj)⟩)
     clear hg1 hg2 hg3 hg4;obtain⟨⟨s0,s1,s2,s3,s4⟩,_⟩:=HS.out.five
     go_wp2_with fail
     clear s0 s1 s2 s3 s4;obtain⟨PP,QQ,hvv⟩:=HCY.out.toV;refine(cycCopyV_any hvv (Nat.le_refl _) small_zero).mono ?_;rintro e w5 hcop;obtain⟨V,N,C,D,y0,y1,y2,y3,y4,m0,m1,m2,m3,m4,j0,j1,j2,j3,j4,hE,rfl,hC,hb5⟩:=hcop.sl;have HC5:=hid hC;have HB5:=hid hb5;have HE:=hid hE;clear hC hb5 hcop hE hvv;have HR5:=hid (HR.out.below HB5.out HR.out.lt);obtain⟨⟨r0,r1,r2,r3,r4⟩,f0,f1,f2,f3,f4⟩:=HR5.out.five;have hrl:=HR.out.lt;have hr5:=HR5.out.lt;have hbE:Below w.heap.size w w5:=((HB1.out.trans (HB2.out.mono (by omega))).trans (HBL.out.mono (by omega))).trans (HB5.out.mono (by omega));have HBE:=hid hbE;clear hbE
     go_wp2_with fail
     refine bodyPost_ret (zA5 Tryz.results10 _ _ ⟨w.heap.size,0,none⟩ (.agg #[.slice y0 m0 j0,.slice y1 m1 j1,.slice y2 m2 j2,.slice y3 m3 j3,.slice y4 m4 j4]) rfl (loadVar_cyc _ _ _ _ _ _ _ (by simp[go_sem, *]) (by simp[go_sem, *]) (by simp[go_sem, *]) (by simp[go_sem, *]) (by simp[go_sem, *]))) rfl ?_;exact CopP.out HE.out HC5.out HBE.out w.heap.size (by omega) (Nat.le_refl _)
theorem CopP.view {c:Cfg} (hb:Bus c) {st:Cy} (hg:Good c st) {w:World} {e:Ending} {w':World} (h:CopP st w e w'):∃b0 b1 b2 b3 b4 n0 n1 n2 n3 n4 k0 k1 k2 k3 k4 P Q,e=.returned (.agg #[.slice b0 n0 k0,.slice b1 n1 k1,.slice b2 n2 k2,.slice b3 n3 k3,.slice b4 n4 k4])∧CyV w' w'.heap.size (.slice b0 n0 k0) (.slice b1 n1 k1) (.slice b2 n2 k2) (.slice b3 n3 k3) (.slice b4 n4 k4) st P Q∧Below w.heap.size w w':=by
 obtain⟨V,N,C,D,rfl,hr,hbl⟩:=h;obtain⟨P,Q,hv⟩:=hr.toV hb hg;obtain⟨b0,b1,b2,b3,b4,n0,n1,n2,n3,n4,k0,k1,k2,k3,k4,e0,e1,e2,e3,e4⟩:=hv.sl;rw[e0,e1,e2,e3,e4]at hv;exact⟨b0,b1,b2,b3,b4,n0,n1,n2,n3,n4,k0,k1,k2,k3,k4,P,Q,by rw[e0,e1,e2,e3,e4],hv,hbl⟩
theorem BusI.toV {w:World} {B:Nat} {v:Value} {c:Cfg} (h:BusI w B v c.ms (c.lat.map fun(n:Nat)=>(n:Int)) c.progs):BusV w B v c:=by
 obtain⟨mv,lv,pv,rfl,h1,h2,h3⟩:=h;obtain⟨ma,mc,rfl,_⟩:=h1.opened;obtain⟨ao,cap,rfl,_⟩:=h3.opened;obtain⟨hl,_⟩:=h2;rw[List.map_map]at hl;have hl2:Arr w B 1 lv (c.lat.map rowN):=hl;obtain⟨la,lc,rfl⟩:∃la lc,lv=.slice la c.lat.length lc:=by
  obtain⟨la,lc,e,_⟩:=hl2;exact⟨la,lc,by rw[e,List.length_map]⟩
 obtain⟨vs,k1,k2,k3⟩:=h3;refine⟨_,_,_,_,_,_,fun i=>vs.getD i undef,rfl,h1,hl2,?_,fun i hi=>?_⟩
 ·have e:(List.range c.progs.length).map (fun i=>[vs.getD i undef])=vs.map fun u=>u.cells.toList:=by
   apply List.ext_getElem
   ·simp[k2]
   ·intro i h1 h2;have hi:i<c.progs.length:=by simpa using h1
    have hv:i<vs.length:=by omega
    obtain⟨a,k,e,_⟩:=(k3 i hi []).opened;have e2:vs.getD i undef=vs[i]:=by simp[List.getD,hv]
    rw[e2]at e;simp only[List.getElem_map,List.getElem_range,e2];rw[e];rfl
  rw[e];exact k1
 ·have:=k3 i hi [];exact this
def aloneC (c:Cfg) (who:Nat):Cfg:=⟨c.ms,c.lat,aloneK c.progs who 3⟩
theorem aloneC_prog {c:Cfg} (hb:Bus c) (who:Nat) {i:Nat} (hi:i<3):(aloneC c who).prog i=if i=who then c.prog who else[]:=by
 have h:=aloneK_get (pss:=c.progs) (who:=(who:Int)) (k:=3) (j:=i) (by rw[hb.progs];exact hi);show(aloneK c.progs who 3).getD i []=_;rw[h];by_cases e:i=who
 ·subst e;rw[if_pos rfl,if_neg (by simp)];rfl
 ·rw[if_neg e,if_pos ⟨hi,by omega⟩]
def oneC (c:Cfg) (who:Nat):Cfg:=⟨c.ms,c.lat,(aloneK c.progs who 3).set who ((c.prog who).take 1)⟩
theorem oneC_prog {c:Cfg} (hb:Bus c) {who:Nat} (hw:who<3) {i:Nat} (hi:i<3):(oneC c who).prog i=if i=who then(c.prog who).take 1 else[]:=by
 have hl:(aloneK c.progs who 3).length=3:=(aloneK_len _ _ _).trans hb.progs;show((aloneK c.progs who 3).set who ((c.prog who).take 1)).getD i []=_;by_cases e:i=who
 ·subst e;rw[if_pos rfl,getD_set_eq (by omega)]
 ·rw[if_neg e,getD_set_ne' e];have:=aloneC_prog hb who hi;rw[if_neg e]at this;exact this
theorem oneC_mem {c:Cfg} (hb:Bus c) {who:Nat} (hw:who<3):∀p∈(oneC c who).progs,p.length≤12∧∀r∈p,reqOk r=true:=by
 intro p hp;have hl:(oneC c who).progs.length=3:=(List.length_set ..).trans ((aloneK_len _ _ _).trans hb.progs);obtain⟨i,hi,rfl⟩:=List.mem_iff_getElem.1 hp;have e:(oneC c who).progs[i]=(oneC c who).prog i:=by unfold Cfg.prog;simp[List.getD,hi]
 rw[e,oneC_prog hb hw (by omega)]
 split
 ·refine⟨by rw[List.length_take];omega,fun r hr=>hb.reqs _ (hb.prog hw) r (List.mem_of_mem_take hr)⟩
 ·exact⟨by simp,fun r hr=>by simp at hr⟩
theorem Bus.one {c:Cfg} (hb:Bus c) {who:Nat} (hw:who<3):Bus (oneC c who) :=
 ⟨hb.ms,hb.lat,hb.lat3,(List.length_set ..).trans ((aloneK_len _ _ _).trans hb.progs),fun p hp=>(oneC_mem hb hw p hp).1,fun p hp=>(oneC_mem hb hw p hp).2⟩
def PlayP (w:World) (e:Ending) (w':World):Prop:=∃u v c ins,e=.returned (.tuple #[u,v])∧Bus c∧BusV w' w'.heap.size u c∧Ins w' w'.heap.size v ins∧ins.length≤89∧Below w.heap.size w w'
def DrawPl:Prop:=∀(v:Value) (bs:List Nat) (B:Nat) (w:World),Bytes w B v bs→B≤w.heap.size→Calls Tryz.prog 9 #[v] w (PlayP w)
def CyBox (w:World) (gs:Nat) (st:Cy):Prop:=∃(V:Nat→Value) (N:Nat→Nat) (C:Nat→List Value) (D:Nat→List TJV),Bx w gs [V 0,V 1,V 2,V 3,V 4]∧Raw w 0 V N C∧Cont st [] V N C D∧Free V gs∧∀κ,κ<20→∀x∈D κ,IntsD w (fun b=>b<w.heap.size∧b≠gs) x.2 x.1.rsp.data
theorem CyBox.below {w w':World} {gs:Nat} {st:Cy} (h:CyBox w gs st) (hb:Below w.heap.size w w'):CyBox w' gs st:=by
 obtain⟨V,N,C,D,h1,h2,h3,h4,h5⟩:=h;exact⟨V,N,C,D,h1.below hb h1.lt,h2.below hb,h3,h4,fun κ hκ x hx=>((h5 κ hκ x hx).kept fun b hb2=>hb.block b hb2.1).weak fun b hb2=>⟨Nat.lt_of_lt_of_le hb2.1 hb.size,hb2.2⟩⟩
theorem CyBox.lt {w:World} {gs:Nat} {st:Cy} (h:CyBox w gs st):gs<w.heap.size:=by obtain⟨V,N,C,D,h1,_⟩:=h;exact h1.lt
theorem raw_zero {w:World} {base:Nat} {V:Nat→Value} {N:Nat→Nat} {C:Nat→List Value} (h:Raw w base V N C):Raw w 0 V N C:=⟨fun κ hκ=>OwnR.rebase (h.own κ hκ) (Nat.zero_le _),h.ap⟩
theorem CyBox.new {w w':World} {base gs:Nat} {st:Cy} {V:Nat→Value} {N:Nat→Nat} {C:Nat→List Value} {D:Nat→List TJV} (h:CyR w base st V N C D) (hb:Below w.heap.size w w') (hg:w.heap.size≤gs) (hx:Bx w' gs [V 0,V 1,V 2,V 3,V 4]):CyBox w' gs st :=
 ⟨V,N,C,D,hx,raw_zero (h.raw.below hb),h.con,fun κ hκ e=>by have:=(h.raw.lt hκ e).2;omega,fun κ hκ x hx2=>((h.dat κ hκ x hx2).kept fun b hb2=>hb.block b hb2.2.1).weak fun b hb2=>⟨Nat.lt_of_lt_of_le hb2.2.1 hb.size,by have:=hb2.2.1;omega⟩⟩
theorem CyBox.set {w w':World} {base gs:Nat} {st:Cy} {V:Nat→Value} {N:Nat→Nat} {C:Nat→List Value} {D:Nat→List TJV} (h:CyR w base st V N C D) (hk:∀b,b≠gs→w'.heap[b]? = w.heap[b]?) (hz:w'.heap.size=w.heap.size) (hg:gs<base) (hx:Bx w' gs [V 0,V 1,V 2,V 3,V 4]):CyBox w' gs st:=by
 have hf:Free V gs:=fun κ hκ e=>by have:=(h.raw.lt hκ e).1;omega
 exact⟨V,N,C,D,hx,raw_zero (h.raw.kept fun b _ hb=>hk b fun e=>hb (e▸hf)),h.con,hf,fun κ hκ x hx2=>((h.dat κ hκ x hx2).kept fun b hb2=>hk b (by have:=hb2.1;omega)).weak fun b hb2=>⟨by rw[hz];exact hb2.2.1,by have:=hb2.1;omega⟩⟩
theorem CyBox.view {c:Cfg} (hb:Bus c) {w:World} {gs:Nat} {st:Cy} (h:CyBox w gs st) (hg:Good c st):∃b0 b1 b2 b3 b4 n0 n1 n2 n3 n4 k0 k1 k2 k3 k4 P Q,Bx w gs [.slice b0 n0 k0,.slice b1 n1 k1,.slice b2 n2 k2,.slice b3 n3 k3,.slice b4 n4 k4]∧CyV w w.heap.size (.slice b0 n0 k0) (.slice b1 n1 k1) (.slice b2 n2 k2) (.slice b3 n3 k3) (.slice b4 n4 k4) st P Q:=by
 obtain⟨V,N,C,D,h1,h2,h3,h4,h5⟩:=h;obtain⟨P,Q,hv⟩:=cyV_raw h2 h3 (fun κ hκ x hx=>(h5 κ hκ x hx).to fun b hb=>hb.1) (smallC_of hb hg) (atm_i64 hg.atm).1 (atm_i64 hg.atm).2;obtain⟨b0,b1,b2,b3,b4,n0,n1,n2,n3,n4,k0,k1,k2,k3,k4,e0,e1,e2,e3,e4⟩:=hv.sl;rw[e0,e1,e2,e3,e4]at hv h1;exact⟨b0,b1,b2,b3,b4,n0,n1,n2,n3,n4,k0,k1,k2,k3,k4,P,Q,h1,hv⟩
theorem Bx.put5 {w:World} {g:Nat} {a b c d e:Value} (h:Bx w g [a,b,c,d,e]) (a' b' c' d' e':Value):Bx (((((w.setCell ⟨g,0,none⟩ a').setCell ⟨g,1,none⟩ b').setCell ⟨g,2,none⟩ c').setCell ⟨g,3,none⟩ d').setCell ⟨g,4,none⟩ e') g [a', b', c', d', e']:=by
 have:=((((h.set 0 (by simp) a').set 1 (by simp) b').set 2 (by simp) c').set 3 (by simp) d').set 4 (by simp) e';simpa using this
theorem put5_other {w:World} {g:Nat} {a' b' c' d' e':Value} (b:Nat) (hb:b≠g):(((((w.setCell ⟨g,0,none⟩ a').setCell ⟨g,1,none⟩ b').setCell ⟨g,2,none⟩ c').setCell ⟨g,3,none⟩ d').setCell ⟨g,4,none⟩ e').heap[b]? = w.heap[b]?:=by
 rw[Below.heap_setCell _ _ _ _ hb,Below.heap_setCell _ _ _ _ hb,Below.heap_setCell _ _ _ _ hb,Below.heap_setCell _ _ _ _ hb,Below.heap_setCell _ _ _ _ hb]
theorem CopP.store {st st' : Cy} {w wa : World} {e : Ending} {gs : Nat} (hs : CyBox w gs st) (h : CopP st' w e wa) : ∃ b0 b1 b2 b3 b4 n0 n1 n2 n3 n4 k0 k1 k2 k3 k4, e = .returned (.agg #[.slice b0 n0 k0, .slice b1 n1 k1, .slice b2 n2 k2, .slice b3 n3 k3, .slice b4 n4 k4]) ∧ (∃ a b c d f, Bx wa gs [a, b, c, d, f]) ∧ Below w.heap.size w wa ∧
  CyBox (((((wa.setCell ⟨gs,0,none⟩ (.slice b0 n0 k0)).setCell ⟨gs,1,none⟩ (.slice b1 n1 k1)).setCell ⟨gs,2,none⟩ (.slice b2 n2 k2)).setCell ⟨gs,3,none⟩ (.slice b3 n3 k3)).setCell ⟨gs,4,none⟩ (.slice b4 n4 k4)) gs st':=by
 obtain⟨V,N,C,D,b0,b1,b2,b3,b4,n0,n1,n2,n3,n4,k0,k1,k2,k3,k4,⟨e0,e1,e2,e3,e4⟩,he,hr,hb⟩:=h.sl;obtain⟨V0,N0,C0,D0,hx,_⟩:=hs;have hx2:=hx.below hb hx.lt;refine⟨b0,b1,b2,b3,b4,n0,n1,n2,n3,n4,k0,k1,k2,k3,k4,he,⟨_,_,_,_,_,hx2⟩,hb,CyBox.set hr put5_other (by simp) hx.lt ?_⟩;rw[e0,e1,e2,e3,e4];exact hx2.put5 _ _ _ _ _
theorem CyBox.rows {c : Cfg} (hb : Bus c) {w : World} {gs : Nat} {st : Cy} (h : CyBox w gs st) (hg : Good c st) : ∃ (b0 b1 b4 : Option Addr) (n0 n1 k0 k1 k4 pg po pc tg tp tc : Nat) (P : List PS) (Q : List SS), Bx w gs [.slice b0 n0 k0, .slice b1 n1 k1, .slice (some ⟨pg, po, none⟩) 3 pc, .slice (some ⟨tg, tp, none⟩) 4 tc, .slice b4 st.told.length k4] ∧
  CyV w w.heap.size (.slice b0 n0 k0) (.slice b1 n1 k1) (.slice (some ⟨pg,po,none⟩) 3 pc) (.slice (some ⟨tg,tp,none⟩) 4 tc) (.slice b4 st.told.length k4) st P Q ∧
  (∀k,k<3→∀j,j<4→w.cell? ⟨pg,po+k * 4+j,none⟩=(rowPS (P.getD k default))[j]?)∧(∀k,k<4→∀j,j<3→w.cell? ⟨tg,tp+k * 3+j,none⟩=(rowSS (Q.getD k default))[j]?) ∧
  (∀k,k<3→∃qa qc oa oc,P.getD k default=⟨(st.ports k).next,(qa,(st.ports k).queue.length,qc),(oa,(st.ports k).out.length,oc),(st.ports k).last⟩) ∧
  (∀k,k<4→∃qa qc oa oc,Q.getD k default=⟨(qa,(st.slaves k).pipe.length,qc),(oa,(st.slaves k).done.length,oc),(st.slaves k).last⟩):=by
 obtain⟨b0,b1,b2,b3,b4,n0,n1,n2,n3,n4,k0,k1,k2,k3,k4,P,Q,hx,hv⟩:=h.view hb hg;obtain⟨pg,po,pc,e2,_,_,_,hpc⟩:=hv.ps.at (by rw[hv.lp];omega)
 obtain⟨tg,tp,tc,e3,_,_,_,htc⟩:=hv.ss.at (by rw[hv.lq];omega)
 rw[hv.lp]at e2 hpc;rw[hv.lq]at e3 htc;have e4:=hv.told.len;rw[e2,e3,e4]at hx hv;refine⟨b0,b1,b4,n0,n1,k0,k1,k4,pg,po,pc,tg,tp,tc,P,Q,hx,hv,fun k hk j hj=>hpc k default hk j hj,fun k hk j hj=>htc k default hk j hj,fun k hk=>?_,fun k hk=>?_⟩
 ·have h1:=hv.pn k hk;have h2:=hv.q k hk;have h3:=hv.o k hk;obtain⟨x,hx⟩:∃x,x=P.getD k default:=⟨_,rfl⟩
  rw[←hx]at h1 h2 h3 ⊢;obtain⟨nx,⟨qa,qn,qc⟩,⟨oa,on,oc⟩,la⟩:=x;simp only[sl]at h1 h2 h3;rw[←h1.1,←h1.2,←h2.len,←h3.len];exact⟨_,_,_,_,rfl⟩
 ·have h1:=hv.sn k hk;have h2:=hv.p k hk;have h3:=hv.d k hk;obtain⟨x,hx⟩:∃x,x=Q.getD k default:=⟨_,rfl⟩
  rw[←hx]at h1 h2 h3 ⊢;obtain⟨⟨qa,qn,qc⟩,⟨oa,on,oc⟩,la⟩:=x;simp only[sl]at h1 h2 h3;rw[←h1,←h2.len,←h3.len];exact⟨_,_,_,_,rfl⟩
theorem RepI.ins {w0 W:World} {g N:Nat} {ra ta sa:Option Addr} {inp:Inp} (h:RepI w0 g N [.slice ra 3 3,.slice ta 4 4,.slice sa 3 3] N W) (hN:N≤1000) (hg:g<W.heap.size) (hi:InV W W.heap.size (.agg #[.slice ra 3 3,.slice ta 4 4,.slice sa 3 3]) inp):Ins W W.heap.size (.slice (some ⟨g,0,none⟩) N N) (List.replicate N inp):=by
 refine⟨List.replicate N (.agg #[.slice ra 3 3,.slice ta 4 4,.slice sa 3 3]),?_,by simp,fun k hk d=>?_⟩
 ·have:=h.arr hN hg;rw[List.map_replicate];exact this
 ·rw[List.length_replicate]at hk;have e1:(List.replicate N (Value.agg #[.slice ra 3 3,.slice ta 4 4,.slice sa 3 3])).getD k undef=.agg #[.slice ra 3 3,.slice ta 4 4,.slice sa 3 3]:=by simp[List.getD,hk]
  have e2:(List.replicate N inp).getD k d=inp:=by simp[List.getD,hk]
  rw[e1,e2];exact hi
theorem JobsV.cells {w : World} {B : Nat} {v : Value} {js : List TJ} (h : JobsV w B v js) :
  ∃ ao cap, v = .slice ao js.length cap ∧ js.length ≤ cap ∧ cap ≤ 9223372036854775807 ∧ js.length ≤ 140737488351232 ∧
   (js.length≠0→∃b off,ao=some ⟨b,off,none⟩∧b<B∧∀t,t<js.length→∃da dn dc,w.cell? ⟨b,off+t * 5,none⟩=some (.int .i64 ((js.getD t default).who:Nat))∧w.cell? ⟨b,off+t * 5+1,none⟩=some (.int .i64 ((js.getD t default).n:Nat))∧w.cell? ⟨b,off+t * 5+2,none⟩=some (.int .i64 (js.getD t default).rsp.id)∧w.cell? ⟨b,off+t * 5+3,none⟩=some (.int .i64 (js.getD t default).rsp.code)∧w.cell? ⟨b,off+t * 5+4,none⟩=some (.slice da dn dc)∧Ints w B (.slice da dn dc) (js.getD t default).rsp.data):=by
 obtain⟨D,⟨ao,cap,hv,h1,h2,h0,h9,h3⟩,rfl,hd⟩:=h;simp only[List.length_map]at hv h1 h0 h3 ⊢;refine⟨ao,cap,hv,h1,h2,h0,fun hn=>?_⟩;obtain⟨b,off,ha,hlt,hc⟩:=h3 hn;refine⟨b,off,ha,hlt,fun t ht=>?_⟩;have e:(D.map tjRow).getD t []=tjRow (D[t]):=by simp[List.getD,ht]
 have e2:(D.map (·.1)).getD t default=(D[t]).1:=by simp[List.getD,ht]
 have c0:=hc t ht 0 (by omega);have c1:=hc t ht 1 (by omega);have c2:=hc t ht 2 (by omega);have c3:=hc t ht 3 (by omega);have c4:=hc t ht 4 (by omega);have hi:=hd _ (List.getElem_mem ht);obtain⟨da,dc,he,_⟩:=hi.opened;rw[e]at c0 c1 c2 c3 c4;rw[e2];rw[he]at hi;exact⟨da,_,dc,by simpa[tjRow]using c0,by simpa[tjRow]using c1,by simpa[tjRow]using c2,by simpa[tjRow]using c3,by simpa[tjRow,he]using c4,hi⟩
theorem Nats.ints {w:World} {B:Nat} {v:Value} {xs:List Nat} (h:Nats w B v xs) (hx:∀x∈xs,x<1000):Ints w B v (xs.map fun(x:Nat)=>(x:Int)) :=
 ⟨by rw[List.map_map];exact h,fun x hx2=>by obtain⟨y,hy,rfl⟩:=List.mem_map.1 hx2;have:=hx y hy;unfold I64;omega⟩
theorem CyV.rows {w : World} {B : Nat} {a0 a1 a2 a3 a4 : Value} {st : Cy} {P : List PS} {Q : List SS} (hv : CyV w B a0 a1 a2 a3 a4 st P Q) : ∃ (d0 d1 d4 : Option Addr) (c0 c1 c4 pg po pc tg tp tc : Nat), a0 = .slice d0 st.ws.length c0 ∧ a1 = .slice d1 st.hs.length c1 ∧ a2 = .slice (some ⟨pg, po, none⟩) 3 pc ∧ a3 = .slice (some ⟨tg, tp, none⟩) 4 tc ∧ a4 = .slice d4 st.told.length c4 ∧ pg < B ∧ tg < B ∧
  (∀k,k<3→∃qa qc oa oc,w.cell? ⟨pg,po+k * 4,none⟩=some (.int .i64 ((st.ports k).next:Nat))∧w.cell? ⟨pg,po+k * 4+1,none⟩=some (.slice qa (st.ports k).queue.length qc)∧w.cell? ⟨pg,po+k * 4+2,none⟩=some (.slice oa (st.ports k).out.length oc)∧w.cell? ⟨pg,po+k * 4+3,none⟩=some (.int .i64 ((st.ports k).last:Nat))∧Nats w B (.slice qa (st.ports k).queue.length qc) (st.ports k).queue∧Jbs w B (.slice oa (st.ports k).out.length oc) (st.ports k).out) ∧
  (∀k,k<4→∃qa qc oa oc,w.cell? ⟨tg,tp+k * 3,none⟩=some (.slice qa (st.slaves k).pipe.length qc)∧w.cell? ⟨tg,tp+k * 3+1,none⟩=some (.slice oa (st.slaves k).done.length oc)∧w.cell? ⟨tg,tp+k * 3+2,none⟩=some (.int .i64 ((st.slaves k).last:Nat))∧Jbs w B (.slice qa (st.slaves k).pipe.length qc) (st.slaves k).pipe∧JobsV w B (.slice oa (st.slaves k).done.length oc) (st.slaves k).done):=by
 obtain⟨d0,c0,e0,_⟩:=hv.ws.opened;obtain⟨d1,c1,e1,_⟩:=hv.hs.opened;obtain⟨pg,po,pc,e2,_,_,hpg,hpc⟩:=hv.ps.at (by rw[hv.lp];omega)
 obtain⟨tg,tp,tc,e3,_,_,htg,htc⟩:=hv.ss.at (by rw[hv.lq];omega)
 obtain⟨d4,c4,e4,_⟩:=hv.told.cells;rw[hv.lp]at e2 hpc;rw[hv.lq]at e3 htc;refine⟨d0,d1,d4,c0,c1,c4,pg,po,pc,tg,tp,tc,e0,e1,e2,e3,e4,hpg,htg,fun k hk=>?_,fun k hk=>?_⟩
 ·have h1:=hv.pn k hk;have h2:=hv.q k hk;have h3:=hv.o k hk;have h4:=hpc k default hk;obtain⟨x,hx⟩:∃x,x=P.getD k default:=⟨_,rfl⟩
  rw[←hx]at h1 h2 h3 h4;obtain⟨nx,⟨qa,qn,qc⟩,⟨oa,on,oc⟩,la⟩:=x;simp only[sl]at h1 h2 h3;obtain rfl:=h2.len;obtain rfl:=h3.len;have g0:=h4 0 (by omega);have g1:=h4 1 (by omega);have g2:=h4 2 (by omega);have g3:=h4 3 (by omega);rw[←h1.1,←h1.2];exact⟨qa,qc,oa,oc,by simp only[rowPS,List.getElem?_cons_zero,List.getElem?_cons_succ]at g0;exact g0,by simp only[rowPS,List.getElem?_cons_zero,List.getElem?_cons_succ]at g1;exact g1,by simp only[rowPS,List.getElem?_cons_zero,List.getElem?_cons_succ]at g2;exact g2,by simp only[rowPS,List.getElem?_cons_zero,List.getElem?_cons_succ]at g3;exact g3,h2,h3⟩
 ·have h1:=hv.sn k hk;have h2:=hv.p k hk;have h3:=hv.d k hk;have h4:=htc k default hk;obtain⟨x,hx⟩:∃x,x=Q.getD k default:=⟨_,rfl⟩
  rw[←hx]at h1 h2 h3 h4;obtain⟨⟨qa,qn,qc⟩,⟨oa,on,oc⟩,la⟩:=x;simp only[sl]at h1 h2 h3;obtain rfl:=h2.len;obtain rfl:=h3.len;have g0:=h4 0 (by omega);have g1:=h4 1 (by omega);have g2:=h4 2 (by omega);rw[←h1];exact⟨qa,qc,oa,oc,by simp only[rowSS,List.getElem?_cons_zero,List.getElem?_cons_succ]at g0;exact g0,by simp only[rowSS,List.getElem?_cons_zero,List.getElem?_cons_succ]at g1;exact g1,by simp only[rowSS,List.getElem?_cons_zero,List.getElem?_cons_succ]at g2;exact g2,h2,h3⟩
theorem JobsV.take {w:World} {B:Nat} {a:Option Addr} {n k m:Nat} {js:List TJ} (h:JobsV w B (.slice a n k) js) (hm:m≤n):JobsV w B (.slice a m k) (js.take m):=by
 obtain⟨D,⟨ao,cap,hv,h1,h2,h0,h9,h3⟩,rfl,hd⟩:=h;simp only[List.length_map,Value.slice.injEq]at hv h1 h0 h3;obtain⟨rfl,rfl,rfl⟩:=hv;have hl:(D.take m).length=m:=by rw[List.length_take];omega
 refine⟨D.take m,⟨a,k,by rw[List.length_map,hl],by rw[List.length_map,hl];omega,h2,by rw[List.length_map,hl];omega,h9,fun hn=>?_⟩,by rw[List.map_take],fun x hx=>hd x (List.mem_of_mem_take hx)⟩;rw[List.length_map,hl]at hn;obtain⟨b,off,ha,hlt,hc⟩:=h3 (by omega);refine⟨b,off,ha,hlt,fun t ht j hj=>?_⟩;rw[List.length_map,hl]at ht;rw[hc t (by omega) j hj];simp[List.getD,List.getElem?_take,ht]
theorem InV.bits {w:World} {B:Nat} {ra ta sa:Option Addr} {rc tc sc:Nat} {inp:Inp} (h:InV w B (.agg #[.slice ra 3 rc,.slice ta 4 tc,.slice sa 3 sc]) inp):∃rb ro sb so,ra=some ⟨rb,ro,none⟩∧sa=some ⟨sb,so,none⟩∧rb<B∧sb<B∧(∀j,j<3→w.cell? ⟨rb,ro+j,none⟩=some (.bool (inp.ready.getD j false)))∧(∀j,j<3→w.cell? ⟨sb,so+j,none⟩=some (.bool (inp.send.getD j false))):=by
 obtain⟨⟨ra', rc', ta', tc', sa', sc', e,k1,_,k3⟩,l1,_,l3⟩:=h;simp only[Value.agg.injEq,Array.mk.injEq,List.cons.injEq,Value.slice.injEq,and_true]at e;obtain⟨⟨rfl,_,rfl⟩,_,⟨rfl,_,rfl⟩⟩:=e;obtain⟨a1,c1,e1,_,_,_,_,h1⟩:=k1.opened;obtain⟨a3,c3,e3,_,_,_,_,h3⟩:=k3.opened;simp only[Value.slice.injEq,true_and]at e1 e3;obtain⟨rb,ro,rfl,q1,q2⟩:=h1 (by omega);obtain⟨sb,so,rfl,q3,q4⟩:=h3 (by omega);exact⟨rb,ro,sb,so,e1.1,e3.1,q1,q3,fun j hj=>q2 j (by omega),fun j hj=>q4 j (by omega)⟩
theorem evs_len (c:Cfg) (inp:Inp) (st:Cy):(evs c inp st).length≤10:=by
 have h1:=tellAll_len inp (st,[]);have h2:=workAll_len c inp (zB0 inp (st,[]));have h3:∀x:Cy×List Ev,(zE4 c inp x).2.length≤x.2.length+3:=fun x=>by
  have g0:=ask1_len c inp 0 x;have g1:=ask1_len c inp 1 (ask1 c inp 0 x);have g2:=ask1_len c inp 2 (ask1 c inp 1 (ask1 c inp 0 x));show(ask1 c inp 2 (ask1 c inp 1 (ask1 c inp 0 x))).2.length≤_;omega
 have h4:=h3 ((zC4 c (zA8 c inp (zB0 inp (st,[]))).1).st,(zA8 c inp (zB0 inp (st,[]))).2);show(zE4 c inp ((zC4 c (zA8 c inp (zB0 inp (st,[]))).1).st,(zA8 c inp (zB0 inp (st,[]))).2)).2.length≤10;simp only[List.length_nil]at h1;simp only at h4;omega
end Go.Proofs.YtgkdoehkmbhfiaaGreat
