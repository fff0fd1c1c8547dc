/- CycTrace: all that happens in cycles (printed by wip/gen_tr.py). -/
import Derived.Test.YthnlalffjepdaaaGreatGAb0
import Derived.Test.YthnlalffjepdaaaGreatGDo6
import Derived.Test.YthnlalffjepdaaaGreatGCs
import Derived.Test.YthnlalffjepdaaaGreatGMq
set_option linter.unusedVariables false
set_option linter.unusedSimpArgs false
namespace Go.Proofs.YthnlalffjepdaaaGreat
def doneK (st:Cy) (w n:Nat):Prop:=∃s,s<4∧∃j∈(st.slaves s).done,j.who=w∧j.n=n
def toldK (st:Cy) (w n:Nat):Prop:=∃j∈st.told,j.who=w∧j.n=n
theorem doneK.mem {st:Cy} {w n:Nat} (h:doneK st w n):(w,n)∈kDone st:=by
 obtain⟨s,hs,j,hj,rfl,rfl⟩:=h;have hm:(j.who,j.n)∈kD st s:=List.mem_map.2 ⟨j,hj,rfl⟩;unfold kDone;simp only[List.mem_append];obtain rfl|rfl|rfl|rfl:s=0∨s=1∨s=2∨s=3:=by omega
 all_goals simp[hm]
theorem toldK.mem {st:Cy} {w n:Nat} (h:toldK st w n):(w,n)∈kTold st:=by
 obtain⟨j,hj,rfl,rfl⟩:=h;exact List.mem_map.2 ⟨j,hj,rfl⟩
theorem pipe_mem {st:Cy} {s:Nat} {j:Jb} (hs:s<4) (h:j∈(st.slaves s).pipe):(j.who,j.n)∈kWait st:=by
 have hm:(j.who,j.n)∈kP st s:=List.mem_map.2 ⟨j,h,rfl⟩;unfold kWait;simp only[List.mem_append];obtain rfl|rfl|rfl|rfl:s=0∨s=1∨s=2∨s=3:=by omega
 all_goals simp[hm]
theorem apart_keys {c:Cfg} (hb:Bus c) {st:Cy} (hg:Good c st):(∀k∈kWait st,k ∉ kDone st∧k ∉ kTold st)∧∀k∈kDone st,k ∉ kTold st:=by
 have h:=hg.nodup hb;unfold kAll at h;rw[List.nodup_append]at h;obtain⟨h1,_,h3⟩:=h;rw[List.nodup_append]at h1;obtain⟨_,_,h2⟩:=h1;exact⟨fun k hk=>⟨fun hd=>h2 k hk k hd rfl,fun ht=>h3 k (List.mem_append_left _ hk) k ht rfl⟩,fun k hk ht=>h3 k (List.mem_append_right _ hk) k ht rfl⟩
def Ahead (E:List Ev):Prop:=∀i,i<E.length→(E.getD i default).kind=1∨∃j,j<i∧E.getD j default=⟨(E.getD i default).kind - 1,(E.getD i default).who,(E.getD i default).n⟩
theorem getD_left {E F:List Ev} {i:Nat} (h:i<E.length):(E++F).getD i default=E.getD i default:=by simp[List.getD,List.getElem?_append_left h]
theorem Ahead.snoc {E:List Ev} {e:Ev} (h:Ahead E) (he:e.kind=1∨(⟨e.kind - 1,e.who,e.n⟩:Ev)∈E):Ahead (E++[e]):=by
 intro i hi;by_cases hlt:i<E.length
 ·rw[getD_left hlt];rcases h i hlt with h1|⟨j,hj,h2⟩
  ·exact .inl h1
  ·exact .inr ⟨j,hj,by rw[getD_left (by omega)];exact h2⟩
 ·have hie:i=E.length:=by rw[List.length_append,List.length_singleton]at hi;omega
  subst hie;have e1:(E++[e]).getD E.length default=e:=by simp[List.getD]
  rw[e1];rcases he with h1|h1
  ·exact .inl h1
  ·obtain⟨j,hj,h2⟩:=List.mem_iff_getElem.1 h1;exact .inr ⟨j,hj,by rw[getD_left hj,←h2];simp[List.getD,hj]⟩
structure OnceI (st:Cy) (E:List Ev):Prop where
 kd:∀e∈E,(1≤e.kind∧e.kind≤3)∧e.who<3
 a:∀w n,w<3→((⟨1,w,n⟩:Ev)∈E↔n<(st.ports w).next)
 d:∀w n,((⟨2,w,n⟩:Ev)∈E↔doneK st w n∨toldK st w n)
 t:∀w n,((⟨3,w,n⟩:Ev)∈E↔toldK st w n)
 nd:E.Nodup
 ah:Ahead E
theorem nodup_snoc {E:List Ev} {e:Ev} (h:E.Nodup) (he:e ∉ E):(E++[e]).Nodup:=by
 rw[List.nodup_append];exact⟨h,by simp,fun a ha b hb=>by rw[List.mem_singleton]at hb;subst hb;exact fun e2=>he (e2▸ha)⟩
theorem mem_snoc {E:List Ev} {e x:Ev}:x∈E++[e]↔x∈E∨x=e:=by rw[List.mem_append,List.mem_singleton]
theorem once_tell1 {c:Cfg} (hb:Bus c) {inp:Inp} {E:List Ev} {x:Cy×List Ev} {w:Nat} (hw:w<3) (hg:Good c x.1) (h:OnceI x.1 (E++x.2)):OnceI (tell1 inp w x).1 (E++(tell1 inp w x).2):=by
 unfold tell1
 split
 ·split
  ·exact h
  ·rename_i k hk;obtain⟨_,_,hmm⟩:=firstK_some hk
   split
   ·exact h
   ·rename_i j rest hd;have hj:j.who=w:=by
     unfold tellM at hmm;rw[hd]at hmm;simpa using hmm
    obtain⟨s,hs⟩:∃s,s=((x.1.ports w).last+k) % 4:=⟨_,rfl⟩
    have hs4:s<4:=by omega
    rw[←hs]at hd ⊢;have hdk:doneK x.1 w j.n:=⟨s,hs4,j,by rw[hd];exact List.mem_cons_self ..,hj,rfl⟩
    have hnt:¬toldK x.1 w j.n:=fun ht=>(apart_keys hb hg).2 _ hdk.mem ht.mem
    have hT:∀v n,toldK (tellDo w s j rest x).1 v n↔toldK x.1 v n∨(v=w∧n=j.n):=fun v n=>by
     simp only[tellDo,toldK,List.mem_append,List.mem_singleton]
     constructor
     ·rintro⟨i,hi|rfl,rfl,rfl⟩
      ·exact .inl ⟨i,hi,rfl,rfl⟩
      ·exact .inr ⟨hj,rfl⟩
     ·rintro(⟨i,hi,rfl,rfl⟩|⟨rfl,rfl⟩)
      ·exact⟨i,.inl hi,rfl,rfl⟩
      ·exact⟨j,.inr rfl,hj,rfl⟩
    have hD:∀v n,doneK (tellDo w s j rest x).1 v n∨toldK (tellDo w s j rest x).1 v n↔doneK x.1 v n∨toldK x.1 v n:=fun v n=>by
     rw[hT]
     constructor
     ·rintro(⟨s', hs', i,hi,rfl,rfl⟩|hi|⟨rfl,rfl⟩)
      ·simp only[tellDo]at hi;by_cases e:s' = s
       ·subst e;rw[upd_same]at hi;exact .inl ⟨s', hs', i,by rw[hd];exact List.mem_cons_of_mem _ hi,rfl,rfl⟩
       ·rw[upd_other _ _ e]at hi;exact .inl ⟨s', hs', i,hi,rfl,rfl⟩
      ·exact .inr hi
      ·exact .inl hdk
     ·rintro(⟨s', hs', i,hi,rfl,rfl⟩|hi)
      ·by_cases e:s' = s
       ·subst e;rw[hd]at hi;rcases List.mem_cons.1 hi with rfl|hi
        ·exact .inr (.inr ⟨hj,rfl⟩)
        ·exact .inl ⟨s', hs', i,by simp only[tellDo];rw[upd_same];exact hi,rfl,rfl⟩
       ·exact .inl ⟨s', hs', i,by simp only[tellDo];rw[upd_other _ _ e];exact hi,rfl,rfl⟩
      ·exact .inr (.inl hi)
    have hE:E++(tellDo w s j rest x).2=(E++x.2)++[⟨3,w,j.n⟩]:=by simp[tellDo]
    rw[hE];refine⟨fun e he=>?_,fun v n hv=>?_,fun v n=>?_,fun v n=>?_,nodup_snoc h.nd fun he=>hnt ((h.t w j.n).1 he),h.ah.snoc (.inr ?_)⟩
    ·rcases mem_snoc.1 he with he|rfl
     ·exact h.kd e he
     ·exact⟨⟨by simp,by simp⟩,hw⟩
    ·rw[mem_snoc];have hnx:((tellDo w s j rest x).1.ports v).next=(x.1.ports v).next:=by
      simp only[tellDo];by_cases e:v=w
      ·rw[e,upd_same]
      ·rw[upd_other _ _ e]
     rw[hnx,←h.a v n hv];simp
    ·rw[mem_snoc,hD,←h.d v n];simp
    ·rw[mem_snoc,hT,←h.t v n];simp
    ·exact(h.d w j.n).2 (.inl hdk)
 ·exact h
theorem once_work1 {c:Cfg} (hb:Bus c) {inp:Inp} {E:List Ev} {x:Cy×List Ev} {s:Nat} (hs:s<4) (hg:Good c x.1) (h:OnceI x.1 (E++x.2)):OnceI (work1 c inp s x).1 (E++(work1 c inp s x).2):=by
 unfold work1
 split
 ·exact h
 ·split
  ·exact h
  ·rename_i j rest hp
   split
   ·have hD:∀v n,doneK (workDec s j rest x.1) v n↔doneK x.1 v n:=fun v n=>by
     have e:∀i,((workDec s j rest x.1).slaves i).done=(x.1.slaves i).done:=fun i=>by
      simp only[workDec];by_cases e:i=s
      ·rw[e,upd_same]
      ·rw[upd_other _ _ e]
     simp only[doneK,e]
    exact⟨h.kd,h.a,fun v n=>by rw[hD];exact h.d v n,h.t,h.nd,h.ah⟩
   ·split
    ·have hjm:j∈(x.1.slaves s).pipe:=by rw[hp];exact List.mem_cons_self ..
     have hwt:=pipe_mem hs hjm;have hap:=(apart_keys hb hg).1 _ hwt;have hkin:j.who<3∧j.n<(x.1.ports j.who).next:=hg.kin hb (List.mem_append_left _ (List.mem_append_left _ hwt));have hD:∀v n,doneK (workDo c s j rest x).1 v n↔doneK x.1 v n∨(v=j.who∧n=j.n):=fun v n=>by
      constructor
      ·rintro⟨s', hs', i,hi,rfl,rfl⟩;simp only[workDo]at hi;by_cases e:s' = s
       ·subst e;rw[upd_same]at hi;rcases List.mem_append.1 hi with hi|hi
        ·exact .inl ⟨s', hs', i,hi,rfl,rfl⟩
        ·rw[List.mem_singleton.1 hi];exact .inr ⟨rfl,rfl⟩
       ·rw[upd_other _ _ e]at hi;exact .inl ⟨s', hs', i,hi,rfl,rfl⟩
      ·rintro(⟨s', hs', i,hi,rfl,rfl⟩|⟨rfl,rfl⟩)
       ·refine⟨s', hs', i,?_,rfl,rfl⟩;simp only[workDo];by_cases e:s' = s
        ·subst e;rw[upd_same];exact List.mem_append_left _ hi
        ·rw[upd_other _ _ e];exact hi
       ·refine⟨s,hs,⟨j.who,j.n,(doReq c.ms x.1.ws x.1.hs j.who (c.req j.who j.n)).2.2⟩,?_,rfl,rfl⟩;simp only[workDo];rw[upd_same];exact List.mem_append_right _ (List.mem_singleton.2 rfl)
     have hE:E++(workDo c s j rest x).2=(E++x.2)++[⟨2,j.who,j.n⟩]:=by simp[workDo]
     rw[hE];refine⟨fun e he=>?_,fun v n hv=>?_,fun v n=>?_,fun v n=>?_,nodup_snoc h.nd fun he=>?_,h.ah.snoc (.inr ?_)⟩
     ·rcases mem_snoc.1 he with he|rfl
      ·exact h.kd e he
      ·exact⟨⟨by simp,by simp⟩,hkin.1⟩
     ·rw[mem_snoc];show _↔n<(x.1.ports v).next;rw[←h.a v n hv];simp
     ·rw[mem_snoc,hD];show _↔(doneK x.1 v n∨v=j.who∧n=j.n)∨toldK x.1 v n;rw[or_right_comm,←h.d v n];simp
     ·rw[mem_snoc];show _↔toldK x.1 v n;rw[←h.t v n];simp
     ·rcases(h.d j.who j.n).1 he with hd|ht
      ·exact hap.1 hd.mem
      ·exact hap.2 ht.mem
     ·exact(h.a j.who j.n hkin.1).2 hkin.2
    ·exact h
def SameK (st st':Cy):Prop:=(∀s,(st'.slaves s).done=(st.slaves s).done)∧st'.told=st.told∧∀w,(st'.ports w).next=(st.ports w).next
theorem OnceI.same {st st':Cy} {E:List Ev} (h:OnceI st E) (hs:SameK st st'):OnceI st' E:=by
 obtain⟨h1,h2,h3⟩:=hs;refine⟨h.kd,fun w n hw=>by rw[h3];exact h.a w n hw,fun w n=>?_,fun w n=>?_,h.nd,h.ah⟩
 ·simp only[doneK,toldK,h1,h2];exact h.d w n
 ·simp only[toldK,h2];exact h.t w n
theorem sameK_let1 {c:Cfg} {st:Cy} {y:Lt} {s:Nat} (h:SameK st y.st):SameK st (let1 c s y).st:=by
 unfold let1
 split
 ·split
  ·exact h
  ·rename_i k hk
   split
   ·exact h
   ·obtain⟨v,hv⟩:∃v,v=((y.st.slaves s).last+k) % 3:=⟨_,rfl⟩
    rw[←hv];refine⟨fun i=>?_,h.2.1,fun w=>?_⟩
    ·rw[←h.1 i];simp only[letDo];by_cases e:i=s
     ·rw[e,upd_same]
     ·rw[upd_other _ _ e]
    ·rw[←h.2.2 w];simp only[letDo];by_cases e:w=v
     ·rw[e,upd_same]
     ·rw[upd_other _ _ e]
 ·exact h
theorem once_ask1 {c:Cfg} {inp:Inp} {E:List Ev} {x:Cy×List Ev} {w:Nat} (hw:w<3) (h:OnceI x.1 (E++x.2)):OnceI (ask1 c inp w x).1 (E++(ask1 c inp w x).2):=by
 unfold ask1
 split
 ·have hE:E++(askDo w x).2=(E++x.2)++[⟨1,w,(x.1.ports w).next⟩]:=by simp[askDo]
  rw[hE];refine⟨fun e he=>?_,fun v n hv=>?_,fun v n=>?_,fun v n=>?_,nodup_snoc h.nd fun he=>?_,h.ah.snoc (.inl rfl)⟩
  ·rcases mem_snoc.1 he with he|rfl
   ·exact h.kd e he
   ·exact⟨⟨by simp,by simp⟩,hw⟩
  ·rw[mem_snoc,h.a v n hv];simp only[askDo,Ev.mk.injEq,true_and];by_cases e:v=w
   ·subst e;rw[upd_same];simp only[true_and];omega
   ·rw[upd_other _ _ e];simp[e]
  ·rw[mem_snoc,h.d v n];simp[askDo,doneK,toldK]
  ·rw[mem_snoc,h.t v n];simp[askDo,toldK]
  ·have:=(h.a w _ hw).1 he;omega
 ·exact h
theorem once_step {c:Cfg} (hb:Bus c) {inp:Inp} {st:Cy} (hg:Good c st) {E:List Ev} (h:OnceI st E):OnceI (cyc c inp st) (E++evs c inp st):=by
 have h1:Good c (tellAll inp (st,[])).1∧OnceI (tellAll inp (st,[])).1 (E++(tellAll inp (st,[])).2) :=
  foldN_keep (P:=fun x:Cy×List Ev=>Good c x.1∧OnceI x.1 (E++x.2)) 3 (st,[]) ⟨hg,by simpa using h⟩ fun i x hi hx=>⟨good_tell1 hx.1 hi,once_tell1 hb hi hx.1 hx.2⟩
 obtain⟨x1,hx1⟩:∃x,x=tellAll inp (st,[]):=⟨_,rfl⟩
 rw[←hx1]at h1;have h2:Good c (workAll c inp x1).1∧OnceI (workAll c inp x1).1 (E++(workAll c inp x1).2) :=
  foldN_keep (P:=fun x:Cy×List Ev=>Good c x.1∧OnceI x.1 (E++x.2)) 4 x1 h1 fun i x hi hx=>⟨good_work1 hb hx.1 hi,once_work1 hb hi hx.1 hx.2⟩
 obtain⟨x2,hx2⟩:∃x,x=workAll c inp x1:=⟨_,rfl⟩
 rw[←hx2]at h2;have h3:SameK x2.1 (letAll c x2.1).st:=foldN_keep (P:=fun y:Lt=>SameK x2.1 y.st) 4 ⟨x2.1,fun _=>false,fun _=>0⟩ ⟨fun _=>rfl,rfl,fun _=>rfl⟩ fun _ _ _ hx=>sameK_let1 hx
 have h4:OnceI (askAll c inp ((letAll c x2.1).st,x2.2)).1 (E++(askAll c inp ((letAll c x2.1).st,x2.2)).2) :=
  foldN_keep (P:=fun x:Cy×List Ev=>OnceI x.1 (E++x.2)) 3 ((letAll c x2.1).st,x2.2) (h2.2.same h3) fun i x hi hx=>once_ask1 hi hx
 have e:step c inp st=askAll c inp ((letAll c x2.1).st,x2.2):=by rw[hx2,hx1];rfl
 show OnceI (step c inp st).1 (E++(step c inp st).2);rw[e];exact h4
def trace (c : Cfg) : List Inp → Cy → List Ev
 |[],_=>[]
 |i::rest,st=>evs c i st++trace c rest (cyc c i st)
theorem once_run {c : Cfg} (hb : Bus c) : ∀ (ins : List Inp) {st : Cy} {E : List Ev}, Good c st → OnceI st E → OnceI (runC c ins st) (E ++ trace c ins st)
 |[],st,E,_,h=>by
  show OnceI st (E++[]);rw[List.append_nil];exact h
 |i::rest,st,E,hg,h=>by
  have:=once_run hb rest (good_step hb (inp:=i) hg) (once_step hb (inp:=i) hg h);rw[List.append_assoc]at this;exact this
theorem once_zero:OnceI cy0 []:=⟨by simp,by simp[cy0],by simp[doneK,toldK,cy0],by simp[toldK,cy0],List.Pairwise.nil,fun i hi=>absurd hi (Nat.not_lt_zero _)⟩
theorem once_law {c:Cfg} (hb:Bus c) (ins:List Inp):OnceI (runC c ins cy0) (trace c ins cy0):=by
 have:=once_run hb ins (good_zero c) once_zero;simpa using this
theorem trace_app (c : Cfg) : ∀ (a b : List Inp) (st : Cy), trace c (a ++ b) st = trace c a st ++ trace c b (runC c a st)
 |[],_,_=>rfl
 |i::a,b,st=>by
  show evs c i st++trace c (a++b) (cyc c i st)=(evs c i st++trace c a (cyc c i st))++_;rw[trace_app c a b,List.append_assoc];rfl
theorem trace_snoc (c:Cfg) (ins:List Inp) (k:Nat) (hk:k<ins.length) [Inhabited Inp] (st:Cy):trace c (ins.take (k+1)) st=trace c (ins.take k) st++evs c (ins.getD k default) (runC c (ins.take k) st):=by
 rw[List.take_add_one,trace_app];have:ins[k]?.toList=[ins.getD k default]:=by simp[List.getD,hk]
 rw[this];simp[trace]
end Go.Proofs.YthnlalffjepdaaaGreat
namespace Go.Proofs.YthnlalffjepdaaaGreat
open Go.RowKit
def OutB (V:Nat→Value) (S:Nat) (X:Nat→Prop) (w:World) (o:Value):Prop:=∀b,o.ownBlock=some b→DFreeS V S w b∧¬X b
theorem CyB.grow {w w' : World} {base S : Nat} {X : Nat → Prop} {st : Cy} {V : Nat → Value} {N : Nat → Nat} {C : Nat → List Value} {D : Nat → List TJV} {o o' : Value} (h : CyB w base S X st V N C D) (ho : OutB V S X w o) (hk : ∀ k, k < w.heap.size → some k ≠ o.ownBlock → w'.heap[k]? = w.heap[k]?) (hz : w.heap.size ≤ w'.heap.size) (hn : ∀ k, o'.ownBlock = some k → o.ownBlock = some k ∨ w.heap.size ≤ k) (hl : ∀ b, o'.ownBlock = some b → b < w'.heap.size) :
  CyB w' base S (fun b=>X b∧o'.ownBlock≠some b) st V N C D∧OutB V S (fun b=>X b∧o'.ownBlock≠some b) w' o':=by
 have hk2:∀b,b<w.heap.size→X b∨¬Free V b∨b=S→w'.heap[b]? = w.heap[b]?:=fun b hb hx=>hk b hb fun e=>by
  obtain⟨⟨_,h1,h2⟩,h3⟩:=ho b e.symm;rcases hx with hx|hx|hx
  ·exact h3 hx
  ·exact hx h1
  ·exact h2 hx
 have h2:=h.keep hk2 hz;refine⟨⟨h2.raw,h2.con,h2.v19,h2.bs,h2.fs,h2.s0,fun b hb=>?_,fun κ hκ x hx=>?_⟩,fun b hb=>⟨?_,fun hx=>hx.2 hb⟩⟩
 ·by_cases e:o'.ownBlock=some b
  ·exact hl b e
  ·exact h2.lx b fun hx=>hb ⟨hx,e⟩
 ·exact ((h.dat κ hκ x hx).kept fun b hb => hk2 b hb.1.1 (.inl hb.2)).weak fun b hb => ⟨⟨Nat.lt_of_lt_of_le hb.1.1 hz, hb.1.2⟩, hb.2, fun e => by
   rcases hn b e with e2|e2
   ·exact(ho b e2).2 hb.2
   ·have:=hb.1.1;omega⟩
 ·rcases hn b hb with e|e
  ·obtain⟨⟨h3,h4,h5⟩,_⟩:=ho b e;exact⟨Nat.lt_of_lt_of_le h3 hz,h4,h5⟩
  ·exact⟨hl b hb,fun κ hκ e2=>by have:=(h.raw.lt hκ e2).2;omega,by have:=heap_lt' h.bs;omega⟩
theorem fieldHapI (ve:Value) (a b c d:Int) (w:World):(Instr.field 116 (.agg #[ve,.int .i64 a,.int .i64 b,.int .i64 c,.int .i64 d]) 0).run Tryz.prog w=.ok ve w:=by
 simp[go_sem,Instr.field,asAgg]
theorem elem_evT:Elem 54 66 3 24:=elem_TlmEvent
def TrP (es:List Ev) (w:World) (e:Ending) (w':World):Prop:=∃a n k,e=.returned (.slice a n k)∧Arr w' w'.heap.size 3 (.slice a n k) (es.map evRow)∧Below w.heap.size w w'
set_option maxRecDepth 8000 in
set_option maxHeartbeats 8000000 in
theorem cycTrace_any {c : Cfg} (hbus : Bus c) {w : World} {B : Nat} {u v : Value} (hc : BusV w B u c) {a0 a1 a2 a3 a4 : Value} {st : Cy} {P : List PS} {Q : List SS} (h : CyV w B a0 a1 a2 a3 a4 st P Q) {ins : List Inp} (hi : Ins w B v ins) (hB : B ≤ w.heap.size) (hg : Good c st) (hl : ins.length ≤ 300) :
  Calls Tryz.prog 22 #[u,.agg #[a0,a1,a2,a3,a4],v] w (TrP (trace c ins st) w):=by
 obtain⟨mv,lb,lo,lc,pb,po,pc,QQ,K,rfl,⟨ma,mn,mk,rfl⟩,_,_,_,_,_,_⟩:=hc.opened hbus;obtain⟨z0,z1,z2,z3,z4,n0,n1,n2,n3,n4,k0,k1,k2,k3,k4,rfl,rfl,rfl,rfl,rfl⟩:=h.sl;obtain⟨ia,ic,rfl,ic1,ic2,ic3,_,hcell⟩:=hi.opened;have HRN:=hid (fun(W:World) (hW:Below w.heap.size w W)=>runs_any hbus (hc.below (hW.mono hB)) (h.below (hW.mono hB)) (hi.below (hW.mono hB)) (Nat.le_trans hB hW.size) hg hl);have HCP:=hid (fun(W:World) (hW:Below w.heap.size w W)=>cycCopyV_any (h.below (hW.mono hB)) (Nat.le_trans hB hW.size) (smallC_of hbus hg));have HBV:=hid hc;have HCELL:=hid hcell;obtain⟨il,hil⟩:∃x,x=ins.length:=⟨_,rfl⟩
 rw[←hil]at HRN HCELL ic1 ic3 hl ⊢;have HIL:=hid hil;obtain⟨w0,hw0⟩:∃W,W=(w.alloc (.cells #[.slice ma mn mk,.slice (some ⟨lb,lo,none⟩) 4 lc,.slice (some ⟨pb,po,none⟩) 3 pc] 27)).alloc (.cells #[.slice z0 n0 k0,.slice z1 n1 k1,.slice z2 n2 k2,.slice z3 n3 k3,.slice z4 n4 k4] 46):=⟨_,rfl⟩
 have hb0:Below w.heap.size w w0:=by rw[hw0];exact((Below.refl _ _).alloc (Nat.le_refl _) _).alloc (by simp) _
 obtain⟨g1,hg1⟩:∃g,g=w.heap.size+1:=⟨_,rfl⟩
 have X0 := hid (show Bx w0 w.heap.size [.slice ma mn mk, .slice (some ⟨lb, lo, none⟩) 4 lc, .slice (some ⟨pb, po, none⟩) 3 pc] by
  rw[hw0];exact(Bx.new w #[.slice ma mn mk,.slice (some ⟨lb,lo,none⟩) 4 lc,.slice (some ⟨pb,po,none⟩) 3 pc] 27 (by simp)).below ((Below.refl _ _).alloc (Nat.le_refl _) _) (by simp))
 have X1 := hid (show Bx w0 g1 [.slice z0 n0 k0, .slice z1 n1 k1, .slice z2 n2 k2, .slice z3 n3 k3, .slice z4 n4 k4] by
  rw[hw0,hg1];have:=Bx.new (w.alloc (.cells #[.slice ma mn mk,.slice (some ⟨lb,lo,none⟩) 4 lc,.slice (some ⟨pb,po,none⟩) 3 pc] 27)) #[.slice z0 n0 k0,.slice z1 n1 k1,.slice z2 n2 k2,.slice z3 n3 k3,.slice z4 n4 k4] 46 (by simp);simpa using this)
 have HB0:=hid hb0;have HSZ:=hid (show w.heap.size<w0.heap.size by rw[hw0];simp;omega);obtain⟨b0,b1,b2⟩:=X0.out.three.1;obtain⟨t0,t1,t2,t3,t4⟩:=X1.out.five.1;clear hc h hi hb0 hcell hil
 go_enter Tryz.func22,Tryz.ntmps22
 go_upto_region 1 with fail
 rw[←hw0,←hg1];clear hw0 hg1
 go_upto_region 3 with(go_at_call 58;go_loud ((with_reducible refine(HRN.out _ HB0.out).mono ?_));rintro e w2 ⟨rfl,hb2⟩;have HQ2:=hid hb2;have HB2:=hid (HB0.out.trans (hb2.mono HB0.out.size));clear hb2 t0 t1 t2 t3 t4 b0 b1 b2)
 obtain⟨t0,t1,t2,t3,t4⟩:=(X1.out.below HQ2.out X1.out.lt).five.1
 go_upto_region 4 with(go_at_call 65;go_loud ((with_reducible refine(HCP.out _ HB2.out).mono ?_));rintro e w3 ⟨V,N,C,D,rfl,hcr,hb3⟩;have HQ3:=hid (HQ2.out.trans (hb3.mono HQ2.out.size));have HB3:=hid (HB2.out.trans (hb3.mono HB2.out.size));have HQ23:=hid hb3;obtain⟨A,m,KK,e0,e1,e2,e3,e4⟩:=hcr.raw.sl;have HE:=hid (show V 0=.slice (A 0) (m 0) (KK 0)∧V 1=.slice (A 1) (m 1) (KK 1)∧V 2=.slice (A 2) (m 2) (KK 2)∧V 3=.slice (A 3) (m 3) (KK 3)∧V 4=.slice (A 4) (m 4) (KK 4) from⟨e0,e1,e2,e3,e4⟩);rw[e0,e1,e2,e3,e4];have HCR:=hid hcr;clear hcr hb3 e0 e1 e2 e3 e4 t0 t1 t2 t3 t4)
 obtain⟨w4,hw4⟩:∃W,W=w3.alloc (.cells #[.slice (A 0) (m 0) (KK 0),.slice (A 1) (m 1) (KK 1),.slice (A 2) (m 2) (KK 2),.slice (A 3) (m 3) (KK 3),.slice (A 4) (m 4) (KK 4)] 46):=⟨_,rfl⟩
 obtain⟨S,hS⟩:∃g,g=w3.heap.size:=⟨_,rfl⟩
 rw[←hw4,←hS];have hb4:Below w3.heap.size w3 w4:=by rw[hw4];exact(Below.refl _ _).alloc (Nat.le_refl _) _
 have HCB:=hid (HCR.out.box (S:=S) hb4 (by omega) (by rw[HE.out.1,HE.out.2.1,HE.out.2.2.1,HE.out.2.2.2.1,HE.out.2.2.2.2,hw4];exact alloc_at _ _ hS) HQ23.out.size);have HQ4:=hid (HQ3.out.trans (hb4.mono HQ3.out.size));have HB4:=hid (HB3.out.trans (hb4.mono HB3.out.size));have HX03:=hid (show w0.heap.size≤w2.heap.size from HQ2.out.size);clear hw4 hS hb4
 go_wp2_with fail
 go_loopw [8,20] (fun o i wr=>∃k:Nat,i=.int .i64 k∧k≤il∧(∃X V N C D,CyB wr w2.heap.size S X (runC c (ins.take k) st) V N C D∧Owns wr w2.heap.size 66 3 evRow o (trace c (ins.take k) st)∧OutB V S X wr o)∧Below w2.heap.size w4 wr∧(trace c (ins.take k) st).length≤10 * k) (fun _ i _=>il - (intOf i).toNat)
 case atStart=>exact⟨0,by go_num,Nat.zero_le _,⟨_,V,N,C,D,by simpa[runC]using HCB.out,Owns.zero,fun b hb=>by simp[Value.ownBlock]at hb⟩,Below.refl _ _,by simp[trace]⟩
 case round=>
  obtain⟨k,rfl,hk,⟨X,V1,N1,C1,D1,hcb,hown,hout⟩,hbr,hlen⟩:=hrel;have HCBR:=hid hcb;have HBR:=hid hbr;have HOW:=hid hown;have HOB:=hid hout;have HLN:=hid hlen;have HBW:=hid (HB4.out.trans (hbr.mono HB2.out.size));have HQR:=hid (HQ4.out.trans (hbr.mono HX03.out));have HGR:=hid (show Good c (runC c (ins.take k) st) from good_run hbus _ hg);obtain⟨wo,hwo⟩:∃W,W=wr:=⟨_,rfl⟩
  subst hwo;clear hcb hbr hown hout hlen;by_cases hlt:k<il
  ·have hki:(k:Int)<(il:Int):=by omega
   obtain⟨b,off,rfl,hbB,hrow⟩:=HCELL.out (by omega);obtain⟨ra,rc,ta,tc,sa,sc,hiv,c0,c1,c2⟩:=hrow k hlt;rw[←HBW.out.cell (p:=⟨b,_,none⟩) (Nat.lt_of_lt_of_le hbB hB)]at c0 c1 c2;have HIV:=hid hiv;have HSN:=hid (runC_snoc c ins k (by rw[←HIL.out];exact hlt) st);have HTN:=hid (trace_snoc c ins k (by rw[←HIL.out];exact hlt) st);clear hrow hiv
   go_upto_region 8 with fail
   clear c0 c1 c2;obtain⟨w5,hw5⟩:∃W,W=wo.alloc (.cells #[.slice ra 3 rc,.slice ta 4 tc,.slice sa 3 sc] 64):=⟨_,rfl⟩
   obtain⟨gi,hgi⟩:∃g,g=wo.heap.size:=⟨_,rfl⟩
   rw[←hw5,←hgi];have hb5:Below wo.heap.size wo w5:=by rw[hw5];exact(Below.refl _ _).alloc (Nat.le_refl _) _
   have X5:=hid (show Bx w5 gi [.slice ra 3 rc,.slice ta 4 tc,.slice sa 3 sc] by rw[hw5,hgi];exact Bx.new wo #[.slice ra 3 rc,.slice ta 4 tc,.slice sa 3 sc] 64 (by simp));have HB5:=hid hb5;have HGI:=hid hgi;have HBW5:=hid (HBW.out.trans (hb5.mono HBW.out.size));have HCB5:=hid (HCBR.out.below hb5);have HST:=hid (step_any hbus HCB5.out HGR.out (HBV.out.below (HBW5.out.mono hB)) (HIV.out.below (HBW5.out.mono hB)) (Nat.le_trans hB HB2.out.size));obtain⟨i0,i1,i2⟩:=X5.out.three.1;obtain⟨b0,b1,b2⟩:=(X0.out.below (HQR.out.trans (hb5.mono HQR.out.size)) X0.out.lt).three.1;clear hw5 hgi hb5;obtain⟨st1,hst1⟩:∃s,s=runC c (ins.take k) st:=⟨_,rfl⟩
   obtain⟨E,hE⟩:∃E,E=trace c (ins.take k) st:=⟨_,rfl⟩
   obtain⟨es,hes⟩:∃E,E=evs c (ins.getD k default) st1:=⟨_,rfl⟩
   rw[←hst1]at HST HSN HTN HCBR HCB5;rw[←hE]at HTN HOW HLN;rw[←hes]at HTN;have HES:=hid hes;have hel:es.length≤10:=by rw[hes];exact evs_len _ _ _
   have HEL:=hid hel;clear hst1 hE hes hel
   go_upto_region 9 with (first
    |(go_at_call 66;go_loud ((with_reducible refine(HST.out).mono ?_));rintro e w6 ⟨V', N', C', D', ve,rfl,hcb,hfr,hb6,hov,hvf⟩;have hfi:=fieldHapI ve;have HC6:=hid hcb;have HFR:=hid hfr;have HB6:=hid hb6;have HOV:=hid hov;clear hcb hfr hb6 hov hvf b0 b1 b2 i0 i1 i2;rw[←HES.out]at HOV;have HOF:=hid (show ∀b,u8.ownBlock=some b→DFreeS V1 S w5 b from fun b hb=>⟨Nat.lt_of_lt_of_le (HOB.out b hb).1.1 HB5.out.size,(HOB.out b hb).1.2⟩);have HO6:=hid (show Owns w6 w2.heap.size 66 3 evRow u8 E from OwnR.kept (w:=wo) HOW.out (fun b hb=>((HFR.out b (HOF.out b hb)).1).trans (HB5.out.block b (HOB.out b hb).1.1)));have HOB6:=hid (show OutB V' S X w6 u8 from fun b hb=>⟨(HFR.out b (HOF.out b hb)).2.1,(HOB.out b hb).2⟩);have h1:=HLN.out;have h2:=HEL.out;have hbs:=Nat.le_of_lt (Nat.lt_of_le_of_lt HC6.out.s0 (heap_lt' HC6.out.bs)))
    |(at_builtin;go_must (refine wpList_catL elem_evT evRow (fun _=>rfl) w6 rfl _ _ rfl w2.heap.size u8 E (by rfl) HO6.out ve es w6.heap.size (by rfl) (HOV.out.arr (fun _=>rfl) (by omega)) (fun y _=>evRow_one y) (by omega) (by omega) hbs ?_);intro v' w7 ho' hb' hk' hn';have HCG:=hid (HC6.out.grow HOB6.out hk' hb'.size hn' (fun b hb=>(OwnR.lt ho' b hb).2));have HO2:=hid ho';have HB7:=hid hb';clear ho' hb' hk' hn'))
   have HBD:=hid (HBR.out.trans ((HB5.out.mono (Nat.le_trans HCBR.out.s0 (Nat.le_of_lt (heap_lt' HCBR.out.bs)))).trans (HB6.out.trans HB7.out)))
   go_wp2_with fail
   go_roundw
   case rel=>exact⟨k+1,by go_num,by omega,⟨_,V', N', C', D', by rw[HSN.out];exact HCG.out.1,by rw[HTN.out];exact HO2.out,HCG.out.2⟩,HBD.out,by rw[HTN.out,List.length_append];have:=HLN.out;have:=HEL.out;omega⟩
   case measure=>simp[intOf];omega
  ·obtain rfl:k=il:=by omega
   have hki2:decide ((k:Int)<(k:Int))=false:=by simp
   have hend:ins.take k=ins:=List.take_of_length_le (by rw[HIL.out];exact Nat.le_refl _);rw[hend]at HOW HLN;obtain⟨oa,oc,hu,hoc1,hoc2⟩:=HOW.out.shape;have HA:=hid (HOW.out.arr (fun _=>rfl) (by have:=HLN.out;omega));subst hu;clear hend
   go_wp2_with (go_at_call 67;go_loud ((with_reducible refine(sClip_TlmEvent _ _ _ _ hoc1 hoc2).mono ?_));rintro e w6 ⟨rfl,rfl⟩)
   go_ret
   refine⟨_,_,_,rfl,?_,HBW.out⟩;obtain⟨ao,cap,e,h1,h2,h3,h4,h5⟩:=HA.out;simp only[Value.slice.injEq]at e;obtain⟨rfl,e2,rfl⟩:=e;exact⟨oa,_,by rw[←e2],by rw[e2];exact Nat.le_refl _,by omega,h3,fun hn=>by have:=h4 hn;omega,h5⟩
end Go.Proofs.YthnlalffjepdaaaGreat
