/- slices.Clone, slices.Clip and clone at element type CycJob: a copy in new memory. -/
import Derived.Test.YtgkdoehkmbhfiaaGreatPCr1
import Derived.Test.YtgkdoehkmbhfiaaGreatPMs
import Derived.Test.YtgkdoehkmbhfiaaGreatPCloneP
set_option linter.unusedVariables false
set_option linter.unusedSimpArgs false
set_option maxHeartbeats 16000000
namespace Go.Proofs.YtgkdoehkmbhfiaaGreat
open Go.RowKit
abbrev Sl:=Option Addr×Nat×Nat
def sl (x:Sl):Value:=.slice x.1 x.2.1 x.2.2
structure PS where
 next:Nat
 q:Sl
 o:Sl
 last:Nat
deriving Inhabited
structure SS where
 p:Sl
 d:Sl
 last:Nat
deriving Inhabited
def rowPS (x:PS):List Value:=[.int .i64 x.next,sl x.q,sl x.o,.int .i64 x.last]
def rowSS (x:SS):List Value:=[sl x.p,sl x.d,.int .i64 x.last]
theorem rowPS_len (x:PS):(rowPS x).length=4:=rfl
theorem rowSS_len (x:SS):(rowSS x).length=3:=rfl
theorem rowPS_one (x:PS):∀u∈rowPS x,u.oneCell' = true:=by
 intro u hu;simp only[rowPS,sl,List.mem_cons,List.not_mem_nil,or_false]at hu;rcases hu with rfl|rfl|rfl|rfl <;> rfl
theorem rowSS_one (x:SS):∀u∈rowSS x,u.oneCell' = true:=by
 intro u hu;simp only[rowSS,sl,List.mem_cons,List.not_mem_nil,or_false]at hu;rcases hu with rfl|rfl|rfl <;> rfl
def JobsV (w:World) (B:Nat) (v:Value) (js:List TJ):Prop:=∃D:List TJV,Arr w B 5 v (D.map tjRow)∧D.map (·.1)=js∧∀x∈D,Ints w B x.2 x.1.rsp.data
theorem JobsV.below {w w':World} {B:Nat} {v:Value} {js:List TJ} (h:JobsV w B v js) (hb:Below B w w'):JobsV w' B v js:=by
 obtain⟨D,h1,h2,h3⟩:=h;exact⟨D,h1.below hb,h2,fun x hx=>(h3 x hx).below hb⟩
theorem JobsV.mono {w:World} {B B':Nat} {v:Value} {js:List TJ} (h:JobsV w B v js) (hb:B≤B'):JobsV w B' v js:=by
 obtain⟨D,h1,h2,h3⟩:=h;exact⟨D,h1.mono hb,h2,fun x hx=>(h3 x hx).mono hb⟩
def Nats (w:World) (B:Nat) (v:Value) (xs:List Nat):Prop:=Arr w B 1 v (xs.map rowN)
structure CyV (w:World) (B:Nat) (a0 a1 a2 a3 a4:Value) (st:Cy) (P:List PS) (Q:List SS):Prop where
 ws:Ints w B a0 st.ws
 hs:Ints w B a1 st.hs
 ps:Arr w B 4 a2 (P.map rowPS)
 ss:Arr w B 3 a3 (Q.map rowSS)
 told:JobsV w B a4 st.told
 lp:P.length=3
 lq:Q.length=4
 pn:∀i,i<3→(P.getD i default).next=(st.ports i).next∧(P.getD i default).last=(st.ports i).last
 q:∀i,i<3→Nats w B (sl (P.getD i default).q) (st.ports i).queue
 o:∀i,i<3→Jbs w B (sl (P.getD i default).o) (st.ports i).out
 sn:∀s,s<4→(Q.getD s default).last=(st.slaves s).last
 p:∀s,s<4→Jbs w B (sl (Q.getD s default).p) (st.slaves s).pipe
 d:∀s,s<4→JobsV w B (sl (Q.getD s default).d) (st.slaves s).done
theorem CyV.below {w w':World} {B:Nat} {a0 a1 a2 a3 a4:Value} {st:Cy} {P:List PS} {Q:List SS} (h:CyV w B a0 a1 a2 a3 a4 st P Q) (hb:Below B w w'):CyV w' B a0 a1 a2 a3 a4 st P Q :=
 ⟨h.ws.below hb,h.hs.below hb,h.ps.below hb,h.ss.below hb,h.told.below hb,h.lp,h.lq,h.pn,fun i hi=>(h.q i hi).below hb,fun i hi=>(h.o i hi).below hb,h.sn,fun i hi=>(h.p i hi).below hb,fun i hi=>(h.d i hi).below hb⟩
theorem CyV.mono {w:World} {B B':Nat} {a0 a1 a2 a3 a4:Value} {st:Cy} {P:List PS} {Q:List SS} (h:CyV w B a0 a1 a2 a3 a4 st P Q) (hb:B≤B'):CyV w B' a0 a1 a2 a3 a4 st P Q :=
 ⟨h.ws.mono hb,h.hs.mono hb,h.ps.mono hb,h.ss.mono hb,h.told.mono hb,h.lp,h.lq,h.pn,fun i hi=>(h.q i hi).mono hb,fun i hi=>(h.o i hi).mono hb,h.sn,fun i hi=>(h.p i hi).mono hb,fun i hi=>(h.d i hi).mono hb⟩
structure CyR (w:World) (base:Nat) (st:Cy) (V:Nat→Value) (N:Nat→Nat) (C:Nat→List Value) (D:Nat→List TJV):Prop where
 raw:Raw w base V N C
 con:Cont st [] V N C D
 v19:V 19=vnil
 dat:∀κ,κ<20→∀x∈D κ,IntsD w (fun b=>base≤b∧b<w.heap.size∧Free V b) x.2 x.1.rsp.data
theorem CyR.kept {w w':World} {base:Nat} {st:Cy} {V:Nat→Value} {N:Nat→Nat} {C:Nat→List Value} {D:Nat→List TJV} (h:CyR w base st V N C D) (hk:∀b,base≤b→b<w.heap.size→w'.heap[b]? = w.heap[b]?) (hz:w.heap.size≤w'.heap.size):CyR w' base st V N C D :=
 ⟨⟨fun κ hκ=>(h.raw.own κ hκ).kept fun k hk2=>hk k (h.raw.lt hκ hk2).1 (h.raw.lt hκ hk2).2,h.raw.ap⟩,h.con,h.v19,fun κ hκ x hx=>((h.dat κ hκ x hx).kept fun b hb=>hk b hb.1 hb.2.1).weak fun b hb=>⟨hb.1,Nat.lt_of_lt_of_le hb.2.1 hz,hb.2.2⟩⟩
theorem CyR.below {w w':World} {base:Nat} {st:Cy} {V:Nat→Value} {N:Nat→Nat} {C:Nat→List Value} {D:Nat→List TJV} (h:CyR w base st V N C D) (hb:Below w.heap.size w w'):CyR w' base st V N C D:=h.kept (fun b _ hlt=>hb.block b hlt) hb.size
theorem Raw.two {w w' : World} {base : Nat} {V : Nat → Value} {N : Nat → Nat} {C : Nat → List Value} (h : Raw w base V N C) {κ ρ μ g n1 n2 : Nat} {v1 v2 : Value} {c c1 c2 : List Value} (hκ : κ < 20) (hρ : ρ < 20) (hμ : μ < 20) (hne : κ ≠ ρ) (hκμ : κ ≠ μ) (hρμ : ρ ≠ μ) (hg : (V μ).ownBlock = some g)
  (hk:∀b,b<w.heap.size→b≠g→w'.heap[b]? = w.heap[b]?) (hm:OwnR w' base (ety μ) (esz μ) (V μ) (N μ) c) (h1:OwnR w' base (ety κ) (esz κ) v1 n1 c1) (h2:OwnR w' base (ety ρ) (esz ρ) v2 n2 c2)
  (e1:∀k,v1.ownBlock=some k→w.heap.size≤k) (e2:∀k,v2.ownBlock=some k→w.heap.size≤k) (ap:Apart v1 v2):Raw w' base (upd (upd V κ v1) ρ v2) (upd (upd N κ n1) ρ n2) (upd (upd (upd C κ c1) ρ c2) μ c):=by
 refine⟨fun ν hν=>?_,fun ν π hν hπ hn=>?_⟩
 ·by_cases a:ν=μ
  ·subst a;simp only[zA1,zA0 _ _ (Ne.symm hρμ),zA0 _ _ (Ne.symm hκμ)];exact hm
  ·by_cases b:ν=ρ
   ·subst b;simp only[zA1,zA0 _ _ a];exact h2
   ·by_cases d:ν=κ
    ·subst d;simp only[zA1,zA0 _ _ a,zA0 _ _ b];exact h1
    ·simp only[zA0 _ _ a,zA0 _ _ b,zA0 _ _ d];exact(h.own ν hν).kept fun k hk2=>hk k (h.lt hν hk2).2 fun e=>h.ap ν μ hν hμ a g (by rw[hk2,e]) hg
 ·have old1:∀{σ:Nat},σ<20→Apart (V σ) v1:=fun hσ k hk1 hk2=>by have:=(h.lt hσ hk1).2;have:=e1 k hk2;omega
  have old2:∀{σ:Nat},σ<20→Apart (V σ) v2:=fun hσ k hk1 hk2=>by have:=(h.lt hσ hk1).2;have:=e2 k hk2;omega
  by_cases b:ν=ρ
  ·subst b;simp only[zA1,zA0 _ _ (Ne.symm hn)];by_cases d:π=κ
   ·subst d;simp only[zA1];exact ap.symm
   ·simp only[zA0 _ _ d];exact(old2 hπ).symm
  ·simp only[zA0 _ _ b];by_cases b2:π=ρ
   ·subst b2;simp only[zA1];by_cases d:ν=κ
    ·subst d;simp only[zA1];exact ap
    ·simp only[zA0 _ _ d];exact old2 hν
   ·simp only[zA0 _ _ b2];by_cases d:ν=κ
    ·subst d;simp only[zA1,zA0 _ _ (Ne.symm hn)];exact(old1 hπ).symm
    ·simp only[zA0 _ _ d];by_cases d2:π=κ
     ·subst d2;simp only[zA1];exact old1 hν
     ·simp only[zA0 _ _ d2];exact h.ap ν π hν hπ hn
def BoxC (w:World) (s:Nat) (a b p d t:Value):Prop:=w.heap[s]? = some (.cells #[a,b,p,d,t] 39 (0,0))
theorem BoxC.lt {w:World} {s:Nat} {a b p d t:Value} (h:BoxC w s a b p d t):s<w.heap.size:=heap_lt h
theorem BoxC.keep {w w':World} {s:Nat} {a b p d t:Value} (h:BoxC w s a b p d t) (e:w'.heap[s]? = w.heap[s]?):BoxC w' s a b p d t:=by unfold BoxC at h ⊢;rw[e];exact h
theorem BoxC.touch {w w':World} {s x:Nat} {a b p d t:Value} (h:BoxC w s a b p d t) (ht:Touch x w w') (hx:s≠x):BoxC w' s a b p d t:=h.keep (ht.block s h.lt hx)
theorem BoxC.below {w w':World} {s C:Nat} {a b p d t:Value} (h:BoxC w s a b p d t) (hb:Below C w w') (hx:s<C):BoxC w' s a b p d t:=h.keep (hb.block s hx)
theorem BoxC.bx {w:World} {s:Nat} {a b p d t:Value} (h:BoxC w s a b p d t):Bx w s [a,b,p,d,t]:=by
 unfold BoxC at h;exact⟨fun j hj=>by simp[World.cell?,h],fun j hj=>by simp[World.frozen?,h],by simp⟩
theorem BoxC.put {w:World} {s:Nat} {a b p d t:Value} (h:BoxC w s a b p d t) (a' b' p' d' t':Value):BoxC (((((w.setCell ⟨s,0,none⟩ a').setCell ⟨s,1,none⟩ b').setCell ⟨s,2,none⟩ p').setCell ⟨s,3,none⟩ d').setCell ⟨s,4,none⟩ t') s a' b' p' d' t':=by
 unfold BoxC at h ⊢;simp[World.setCell,Array.getElem?_modify,h]
theorem BoxC.new (w:World) (a b p d t:Value):BoxC (w.alloc (.cells #[a,b,p,d,t] 39)) w.heap.size a b p d t:=by
 show(w.heap.push _)[w.heap.size]? = _;simp
theorem touchC (s:Nat) (w:World) (a b p d t:Value):Touch s w (((((w.setCell ⟨s,0,none⟩ a).setCell ⟨s,1,none⟩ b).setCell ⟨s,2,none⟩ p).setCell ⟨s,3,none⟩ d).setCell ⟨s,4,none⟩ t) :=
 ((((Touch.setCell _ _ _ _).trans (Touch.setCell _ _ _ _)).trans (Touch.setCell _ _ _ _)).trans (Touch.setCell _ _ _ _)).trans (Touch.setCell _ _ _ _)
theorem Owns.boxC {α:Type} {f:α→List Value} {w w':World} {base e sz g:Nat} {v a b p d t:Value} {xs:List α} (h:Owns w base e sz f v xs) (hB:BoxC w g a b p d t) (hT:39≠e) (ht:Touch g w w'):Owns w' base e sz f v xs :=
 OwnR.kept h fun k hk => ht.block k (OwnR.lt h k hk).2 (by
  intro e2;subst e2;obtain⟨_,h2⟩:=h;rcases h2 with⟨rfl,_⟩|⟨g', off,cap,cur,rfl,_,hh,_⟩
  ·simp[Value.ownBlock]at hk
  ·simp[Value.ownBlock]at hk;subst hk;unfold BoxC at hB;rw[hh]at hB;simp only[Option.some.injEq,Obj.cells.injEq]at hB;exact hT hB.2.1.symm)
theorem CyO.heap {W W':World} {lo:Nat} {a b p s:Value} {xs ys:List Int} {ps:List (Int×Int)} {ss:List Int} (h:CyO W lo a b p s xs ys ps ss) (hh:W'.heap=W.heap):CyO W' lo a b p s xs ys ps ss:=h.kept fun k _ _=>by rw[hh]
theorem elem_CycPort:Elem 35 48 4 64:=zE9 Tryz.underlying35 (z:=(.agg #[.int .i64 0,.slice none 0 0,.slice none 0 0,.int .i64 0])) (by kernel_rfl) rfl (by omega)
theorem sClone_CycPort {α : Type} (f : α → List Value) (hf : ∀ x, (f x).length = 4) (h1 : ∀ x, ∀ u ∈ f x, u.oneCell' = true) (v : Value) (ys : List α) (B : Nat) (w : World) (ha : Arr w B 4 v (ys.map f)) (hlen : ys.length * 64 ≤ 140737488355328) :
  Calls Tryz.prog 135 #[v] w (CloneP f 48 4 ys w):=by
 have ha0:=hid ha;obtain⟨ao,cap,rfl,g1,g2,g0,g9,g3⟩:=ha;simp only[List.length_map]at g1 g2 g0 ⊢;clear g3;cases ao with
 |none=>
  obtain rfl:=g9 rfl;have hy:ys=[]:=by
   rcases ys with _|⟨y,ys⟩
   ·rfl
   ·simp at g1
  subst hy;have he:=fun w=>Lib.run_eql_slice_nil (P:=Tryz.prog) w 35 48 none 0 0 0 0 Tryz.underlying35
  go_enter Tryz.func135,Tryz.ntmps135
  go_wp2_with fail
  go_ret
  exact⟨_,rfl,Owns.zero,Below.refl _ _⟩
 |some ad=>
  have he:=fun w=>Lib.run_eql_slice_nil (P:=Tryz.prog) w 35 48 (some ad) ys.length cap 0 0 Tryz.underlying35
  clear g9
  go_enter Tryz.func135,Tryz.ntmps135
  go_wp2_with (at_builtin;go_must (refine zH2 elem_CycPort f hf h1 _ rfl _ _ rfl w.heap.size _ [] (by rfl) (Owns.lit (Nat.le_refl _)) _ ys (min B w.heap.size) (by rfl) (by have:=(ha0.out).fit (by omega) (by intro r hr;obtain⟨y,_,rfl⟩:=List.mem_map.1 hr;exact hf y);simp only[List.length_map]at this;exact this.below ((Below.refl _ _).alloc (Nat.min_le_right _ _) _)) (by simpa using hlen) (by simp;omega) (by simp) ?_);intro v' w1 hown1 hb1 _)
  go_ret
  exact⟨v', rfl,by simpa using hown1,((Below.refl _ _).alloc (Nat.le_refl _) _).trans hb1⟩
theorem sClip_CycPort (a:Option Addr) (n c:Nat) (w:World) (hc:n≤c) (hm:c≤9223372036854775807):Calls Tryz.prog 134 #[.slice a n c] w fun e w' => e=.returned (.slice a n n)∧w=w':=by
 go_enter Tryz.func134,Tryz.ntmps134
 go_wp2_with fail
 go_ret
 exact⟨rfl,rfl⟩
theorem clone_CycPort {α : Type} (f : α → List Value) (hf : ∀ x, (f x).length = 4) (h1 : ∀ x, ∀ u ∈ f x, u.oneCell' = true) (v : Value) (ys : List α) (B : Nat) (w : World) (ha : Arr w B 4 v (ys.map f)) (hlen : ys.length * 64 ≤ 140737488355328) :
  Calls Tryz.prog 85 #[v] w (CloneP f 48 4 ys w):=by
 go_enter Tryz.func85,Tryz.ntmps85
 go_wp2_with fail
 refine(sClone_CycPort f hf h1 v ys B w ha hlen).mono ?_;rintro e w1 ⟨u,rfl,hown,hb⟩;obtain⟨a,c,rfl,hc1,hc2⟩:=hown.shape
 go_wp2_with fail
 refine(sClip_CycPort a ys.length c _ hc1 hc2).mono ?_;rintro e w2 ⟨rfl,rfl⟩
 go_wp2_with fail
 go_ret
 exact⟨_,rfl,hown.clip,hb⟩
theorem elem_CycSlave:Elem 36 94 3 56:=zE9 Tryz.underlying36 (z:=(.agg #[.slice none 0 0,.slice none 0 0,.int .i64 0])) (by kernel_rfl) rfl (by omega)
theorem sClone_CycSlave {α : Type} (f : α → List Value) (hf : ∀ x, (f x).length = 3) (h1 : ∀ x, ∀ u ∈ f x, u.oneCell' = true) (v : Value) (ys : List α) (B : Nat) (w : World) (ha : Arr w B 3 v (ys.map f)) (hlen : ys.length * 56 ≤ 140737488355328) :
  Calls Tryz.prog 137 #[v] w (CloneP f 94 3 ys w):=by
 have ha0:=hid ha;obtain⟨ao,cap,rfl,g1,g2,g0,g9,g3⟩:=ha;simp only[List.length_map]at g1 g2 g0 ⊢;clear g3;cases ao with
 |none=>
  obtain rfl:=g9 rfl;have hy:ys=[]:=by
   rcases ys with _|⟨y,ys⟩
   ·rfl
   ·simp at g1
  subst hy;have he:=fun w=>Lib.run_eql_slice_nil (P:=Tryz.prog) w 36 94 none 0 0 0 0 Tryz.underlying36
  go_enter Tryz.func137,Tryz.ntmps137
  go_wp2_with fail
  go_ret
  exact⟨_,rfl,Owns.zero,Below.refl _ _⟩
 |some ad=>
  have he:=fun w=>Lib.run_eql_slice_nil (P:=Tryz.prog) w 36 94 (some ad) ys.length cap 0 0 Tryz.underlying36
  clear g9
  go_enter Tryz.func137,Tryz.ntmps137
  go_wp2_with (at_builtin;go_must (refine zH2 elem_CycSlave f hf h1 _ rfl _ _ rfl w.heap.size _ [] (by rfl) (Owns.lit (Nat.le_refl _)) _ ys (min B w.heap.size) (by rfl) (by have:=(ha0.out).fit (by omega) (by intro r hr;obtain⟨y,_,rfl⟩:=List.mem_map.1 hr;exact hf y);simp only[List.length_map]at this;exact this.below ((Below.refl _ _).alloc (Nat.min_le_right _ _) _)) (by simpa using hlen) (by simp;omega) (by simp) ?_);intro v' w1 hown1 hb1 _)
  go_ret
  exact⟨v', rfl,by simpa using hown1,((Below.refl _ _).alloc (Nat.le_refl _) _).trans hb1⟩
theorem sClip_CycSlave (a:Option Addr) (n c:Nat) (w:World) (hc:n≤c) (hm:c≤9223372036854775807):Calls Tryz.prog 136 #[.slice a n c] w fun e w' => e=.returned (.slice a n n)∧w=w':=by
 go_enter Tryz.func136,Tryz.ntmps136
 go_wp2_with fail
 go_ret
 exact⟨rfl,rfl⟩
theorem clone_CycSlave {α : Type} (f : α → List Value) (hf : ∀ x, (f x).length = 3) (h1 : ∀ x, ∀ u ∈ f x, u.oneCell' = true) (v : Value) (ys : List α) (B : Nat) (w : World) (ha : Arr w B 3 v (ys.map f)) (hlen : ys.length * 56 ≤ 140737488355328) :
  Calls Tryz.prog 86 #[v] w (CloneP f 94 3 ys w):=by
 go_enter Tryz.func86,Tryz.ntmps86
 go_wp2_with fail
 refine(sClone_CycSlave f hf h1 v ys B w ha hlen).mono ?_;rintro e w1 ⟨u,rfl,hown,hb⟩;obtain⟨a,c,rfl,hc1,hc2⟩:=hown.shape
 go_wp2_with fail
 refine(sClip_CycSlave a ys.length c _ hc1 hc2).mono ?_;rintro e w2 ⟨rfl,rfl⟩
 go_wp2_with fail
 go_ret
 exact⟨_,rfl,hown.clip,hb⟩
end Go.Proofs.YtgkdoehkmbhfiaaGreat
namespace Go.Proofs.YtgkdoehkmbhfiaaGreat
open Go.RowKit
attribute [local go_sem ↓] Go.wp_at_zero Go.wp_at_succ
def Low (m:Nat) (v:Value):Prop:=∀k,v.ownBlock=some k→k<m
theorem IntsD.notC {w:World} {P:Nat→Prop} {v:Value} {xs:List Int} {g:Nat} (h:IntsD w P v xs) (hB:BoxC w g vnil vnil vnil vnil vnil):IntsD w (fun b=>P b∧b≠g) v xs:=by
 obtain⟨⟨ao,cap,hv,h1,h2,h0,h9,h3⟩,hx⟩:=h;refine⟨⟨ao,cap,hv,h1,h2,h0,h9,fun hn=>?_⟩,hx⟩;obtain⟨b,off,ha,hP,hc⟩:=h3 hn;refine⟨b,off,ha,⟨hP,?_⟩,hc⟩;rintro rfl;have e:=hc 0 (by omega) 0 (by omega);rcases xs with _|⟨x,xs⟩
 ·simp at hn
 ·unfold BoxC at hB;simp[World.cell?,hB,rowI,List.getD]at e;rcases(show off=0∨off=1∨off=2∨off=3∨off=4∨5≤off by omega)with rfl|rfl|rfl|rfl|rfl|h5
  ·simp at e
  ·simp at e
  ·simp at e
  ·simp at e
  ·simp at e
  ·obtain⟨m,rfl⟩:∃m,off=m+5:=⟨off - 5,by omega⟩
   simp at e
def cp1A (i0 i2 i4 i5 i6 i7 i21 i22 i23 i24 i25 i26 i27 i28 i29 i30 i31 i32 i33 i34 i35 i36 i37 i38 i39 i40 i41 i42 i43 i44 i45 i46 i47 i48 i49 i50 i51 i52 i53 i54 i55 i56 i57 i58 i59 i60 i61 i62 i63 i64 i65 i66 i67 i68 i69 i70 i71:Value) (gS:Nat) (u3 u8 u9 u10 u11 u12 u13 u14 u15 u16 u17 u18 u19 u20:Value):Act:={ tmps:=#[i0,.pointer (some ⟨gS,0,none⟩),i2,u3,i4,i5,i6,i7,u8,u9,u10,u11,u12,u13,u14,u15,u16,u17,u18,u19,u20,i21,i22,i23,i24,i25,i26,i27,i28,i29,i30,i31,i32,i33,i34,i35,i36,i37,i38,i39,i40,i41,i42,i43,i44,i45,i46,i47,i48,i49,i50,i51,i52,i53,i54,i55,i56,i57,i58,i59,i60,i61,i62,i63,i64,i65,i66,i67,i68,i69,i70,i71],defers:=[] }
def cp1I (i0 i2 i4 i5 i6 i7 i21 i22 i23 i24 i25 i26 i27 i28 i29 i30 i31 i32 i33 i34 i35 i36 i37 i38 i39 i40 i41 i42 i43 i44 i45 i46 i47 i48 i49 i50 i51 i52 i53 i54 i55 i56 i57 i58 i59 i60 i61 i62 i63 i64 i65 i66 i67 i68 i69 i70 i71:Value) (gS:Nat) (va:Value) (vb:Value) (vp:Value) (vs:Value) (vt:Value) (xs:List Int) (ys:List Int) (ps:List PS) (ss:List SS) (js:List TJ) (D0:List TJV) (wq:World) (listed:Array Bool) (a:Act) (w':World):Prop :=
 ∃ u3 u8 u9 u10 u11 u12 u13 u14 u15 u16 u17 u18 u19 u20 : Value, a = cp1A i0 i2 i4 i5 i6 i7 i21 i22 i23 i24 i25 i26 i27 i28 i29 i30 i31 i32 i33 i34 i35 i36 i37 i38 i39 i40 i41 i42 i43 i44 i45 i46 i47 i48 i49 i50 i51 i52 i53 i54 i55 i56 i57 i58 i59 i60 i61 i62 i63 i64 i65 i66 i67 i68 i69 i70 i71 gS u3 u8 u9 u10 u11 u12 u13 u14 u15 u16 u17 u18 u19 u20 ∧
   (listed.getD 0 false=true→u8=.pointer (some ⟨gS,0,none⟩)) ∧
   (listed.getD 1 false=true→u9=.agg #[va,vb]) ∧
   (listed.getD 2 false=true→∃qa qb,u10=.agg #[qa,qb]∧Owns w' wq.heap.size 3 1 rowI qa xs∧Owns w' wq.heap.size 3 1 rowI qb ys∧Apart qa qb) ∧
   (listed.getD 3 false=true→u11=.pointer (some ⟨gS,2,none⟩)) ∧
   (listed.getD 4 false=true→u12=vp) ∧
   (listed.getD 5 false=true→Owns w' wq.heap.size 48 4 rowPS u13 ps∧∃qa qb,u10=.agg #[qa,qb]∧Apart qa u13∧Apart qb u13) ∧
   (listed.getD 6 false=true→u14=.pointer (some ⟨gS,3,none⟩)) ∧
   (listed.getD 7 false=true→u15=vs) ∧
   (listed.getD 8 false=true→Owns w' wq.heap.size 94 3 rowSS u16 ss∧Apart u13 u16∧∃qa qb,u10=.agg #[qa,qb]∧Apart qa u16∧Apart qb u16) ∧
   (listed.getD 9 false=true→u17=.pointer (some ⟨gS,4,none⟩)) ∧
   (listed.getD 10 false=true→u18=vt) ∧
   (listed.getD 11 false=true→∃m,∃D1:List TJV,wq.heap.size≤m∧Owns w' m 65 5 tjRow u19 D1∧D1.map (·.1)=js∧(∀x∈D1,IntsD w' (fun b=>m≤b∧b<w'.heap.size∧u19.ownBlock≠some b) x.2 x.1.rsp.data)∧Low m u16∧Low m u13∧∃qa qb,u10=.agg #[qa,qb]∧Low m qa∧Low m qb) ∧
   (listed.getD 12 false=true→∃qa qb,u10=.agg #[qa,qb]∧u20=.agg #[qa,qb,u13,u16,u19]) ∧
   (listed.getD 13 false=true→listed.getD 14 false=false→∃g,u3=.pointer (some ⟨g,0,none⟩)∧wq.heap.size≤g∧BoxC w' g vnil vnil vnil vnil vnil) ∧
   (listed.getD 14 false=true→∃g qa qb,u3=.pointer (some ⟨g,0,none⟩)∧wq.heap.size≤g∧u10=.agg #[qa,qb]∧BoxC w' g qa qb u13 u16 u19) ∧
   Below wq.heap.size wq w'
noncomputable def cp1Code:Code:=(Tryz.f45.body.bind (zI6 1)).getD .skip
structure CpO (w:World) (base:Nat) (a b p s:Value) (xs ys:List Int) (ps:List PS) (ss:List SS):Prop where
 oa:Owns w base 3 1 rowI a xs
 ob:Owns w base 3 1 rowI b ys
 op:Owns w base 48 4 rowPS p ps
 os:Owns w base 94 3 rowSS s ss
 ab:Apart a b
 pq:Apart p s
 ap:Apart a p
 aq:Apart a s
 bp:Apart b p
 bq:Apart b s
def CpP (u:Value) (xs ys:List Int) (ps:List PS) (ss:List SS) (js:List TJ) (wq w':World):Prop :=
 ∃g a b p s t m,∃D1:List TJV,u=.pointer (some ⟨g,0,none⟩)∧wq.heap.size≤g∧BoxC w' g a b p s t∧CpO w' wq.heap.size a b p s xs ys ps ss∧wq.heap.size≤m∧Owns w' m 65 5 tjRow t D1∧D1.map (·.1)=js∧(∀x∈D1,IntsD w' (fun b=>m≤b∧b<w'.heap.size∧t.ownBlock≠some b) x.2 x.1.rsp.data)∧(Low m a∧Low m b∧Low m p∧Low m s)∧Below wq.heap.size wq w'
set_option maxRecDepth 100000 in
theorem cp1_region (i0 i2 i4 i5 i6 i7 i21 i22 i23 i24 i25 i26 i27 i28 i29 i30 i31 i32 i33 i34 i35 i36 i37 i38 i39 i40 i41 i42 i43 i44 i45 i46 i47 i48 i49 i50 i51 i52 i53 i54 i55 i56 i57 i58 i59 i60 i61 i62 i63 i64 i65 i66 i67 i68 i69 i70 i71 j3 j8 j9 j10 j11 j12 j13 j14 j15 j16 j17 j18 j19 j20 : Value) (gS : Nat) (va : Value) (vb : Value) (vp : Value) (vs : Value) (vt : Value) (xs : List Int) (ys : List Int) (ps : List PS) (ss : List SS) (js : List TJ) (D0 : List TJV) (wq : World)
  (hS:Bx wq gS [va,vb,vp,vs,vt]) (hA:AtmV wq wq.heap.size (.agg #[va,vb]) xs ys) (hP:Arr wq wq.heap.size 4 vp (ps.map rowPS)) (hT:Arr wq wq.heap.size 3 vs (ss.map rowSS)) (hJ1:Arr wq wq.heap.size 5 vt (D0.map tjRow)) (hJ2:D0.map (·.1)=js) (hJ3:∀x∈D0,Ints wq wq.heap.size x.2 x.1.rsp.data) (hl1:xs.length≤1048576) (hl2:ys.length≤1048576) (hl3:ps.length≤1048576) (hl4:ss.length≤1048576) (hl5:D0.length≤1000) (hl6:∀x∈D0,x.1.rsp.data.length≤1000)
  {Q:Exit→Act→World→Prop}
  (hK:∀(u3 u8 u9 u10 u11 u12 u13 u14 u15 u16 u17 u18 u19 u20:Value) w', CpP u3 xs ys ps ss js wq w' → Q .normal (cp1A i0 i2 i4 i5 i6 i7 i21 i22 i23 i24 i25 i26 i27 i28 i29 i30 i31 i32 i33 i34 i35 i36 i37 i38 i39 i40 i41 i42 i43 i44 i45 i46 i47 i48 i49 i50 i51 i52 i53 i54 i55 i56 i57 i58 i59 i60 i61 i62 i63 i64 i65 i66 i67 i68 i69 i70 i71 gS u3 u8 u9 u10 u11 u12 u13 u14 u15 u16 u17 u18 u19 u20) w'):cp1Code.wp Tryz.prog Q (cp1A i0 i2 i4 i5 i6 i7 i21 i22 i23 i24 i25 i26 i27 i28 i29 i30 i31 i32 i33 i34 i35 i36 i37 i38 i39 i40 i41 i42 i43 i44 i45 i46 i47 i48 i49 i50 i51 i52 i53 i54 i55 i56 i57 i58 i59 i60 i61 i62 i63 i64 i65 i66 i67 i68 i69 i70 i71 gS j3 j8 j9 j10 j11 j12 j13 j14 j15 j16 j17 j18 j19 j20) wq:=by
 conv=>arg 2;whnf
 refine zF6 (cp1I i0 i2 i4 i5 i6 i7 i21 i22 i23 i24 i25 i26 i27 i28 i29 i30 i31 i32 i33 i34 i35 i36 i37 i38 i39 i40 i41 i42 i43 i44 i45 i46 i47 i48 i49 i50 i51 i52 i53 i54 i55 i56 i57 i58 i59 i60 i61 i62 i63 i64 i65 i66 i67 i68 i69 i70 i71 gS va vb vp vs vt xs ys ps ss js D0 wq) (by kernel_rfl) (by kernel_rfl) ?_ ?_ ?_
 ·exact⟨_,_,_,_,_,_,_,_,_,_,_,_,_,_,rfl,(fun h=>absurd h (by rw[getD_replicate_false];simp)),(fun h=>absurd h (by rw[getD_replicate_false];simp)),(fun h=>absurd h (by rw[getD_replicate_false];simp)),(fun h=>absurd h (by rw[getD_replicate_false];simp)),(fun h=>absurd h (by rw[getD_replicate_false];simp)),(fun h=>absurd h (by rw[getD_replicate_false];simp)),(fun h=>absurd h (by rw[getD_replicate_false];simp)),(fun h=>absurd h (by rw[getD_replicate_false];simp)),(fun h=>absurd h (by rw[getD_replicate_false];simp)),(fun h=>absurd h (by rw[getD_replicate_false];simp)),(fun h=>absurd h (by rw[getD_replicate_false];simp)),(fun h=>absurd h (by rw[getD_replicate_false];simp)),(fun h=>absurd h (by rw[getD_replicate_false];simp)),(fun h _=>absurd h (by rw[getD_replicate_false];simp)),(fun h=>absurd h (by rw[getD_replicate_false];simp)),(Below.refl _ _).drew⟩
 ·intro listed a w' i o hI hsz ho hl he hcl;have hi:i<15:=(Array.getElem?_eq_some_iff.1 ho).1;have e:i=0∨i=1∨i=2∨i=3∨i=4∨i=5∨i=6∨i=7∨i=8∨i=9∨i=10∨i=11∨i=12∨i=13∨i=14:=by omega
  clear hi;rcases e with rfl|rfl|rfl|rfl|rfl|rfl|rfl|rfl|rfl|rfl|rfl|rfl|rfl|rfl|rfl
  all_goals (have ho2:=ho;obtain rfl:=Option.some.inj ho2.symm;clear ho2)
  ·as_aux_lemma=>
    obtain⟨u3,u8,u9,u10,u11,u12,u13,u14,u15,u16,u17,u18,u19,u20,rfl,F0,F1,F2,F3,F4,F5,F6,F7,F8,F9,F10,F11,F12,F13,F14,hx⟩:=hI;refine zA3 ho rfl (fun K hK=>?_);unfold cp1A;go_simp;exact hK _ _ ⟨_,_,_,_,_,_,_,_,_,_,_,_,_,_,rfl,fun _=>rfl,cy F1 rfl,cy F2 rfl,cy F3 rfl,cy F4 rfl,cy F5 rfl,cy F6 rfl,cy F7 rfl,cy F8 rfl,cy F9 rfl,cy F10 rfl,cy F11 rfl,cy F12 rfl,cyu F13 rfl rfl,cy F14 rfl,hx⟩
  ·as_aux_lemma=>
    obtain⟨u3,u8,u9,u10,u11,u12,u13,u14,u15,u16,u17,u18,u19,u20,rfl,F0,F1,F2,F3,F4,F5,F6,F7,F8,F9,F10,F11,F12,F13,F14,hx⟩:=hI;have l0:=he ⟨0,.data⟩ (by simp) rfl;have e:=F0 l0;subst e;obtain⟨⟨c0,c1,c2,c3,c4⟩,_⟩:=(hS.below hx hS.lt).five;refine zA3 ho rfl (fun K hK=>?_);unfold cp1A;go_simp;exact hK _ _ ⟨_,_,_,_,_,_,_,_,_,_,_,_,_,_,rfl,cy F0 rfl,fun _=>rfl,cy F2 rfl,cy F3 rfl,cy F4 rfl,cy F5 rfl,cy F6 rfl,cy F7 rfl,cy F8 rfl,cy F9 rfl,cy F10 rfl,cy F11 rfl,cy F12 rfl,cyu F13 rfl rfl,cy F14 rfl,hx⟩
  ·as_aux_lemma=>
    obtain⟨u3,u8,u9,u10,u11,u12,u13,u14,u15,u16,u17,u18,u19,u20,rfl,F0,F1,F2,F3,F4,F5,F6,F7,F8,F9,F10,F11,F12,F13,F14,hx⟩:=hI;have l1:=he ⟨1,.data⟩ (by simp) rfl;have e:=F1 l1;subst e;refine zA3 ho rfl (fun K hK=>?_);unfold cp1A;go_simp
    (with_reducible refine(atmCopy_any _ xs ys w'.heap.size w' ((hA.below hx).mono hx.size) (Nat.le_refl _) hl1 hl2).mono ?_)
    rintro e w'' ⟨qa,qb,rfl,o1,o2,ap,hb1⟩
    go_wp2_with fail
    exact⟨_,_,_,_,_,_,_,_,_,_,_,_,_,_,rfl,cy F0 rfl,fun _=>rfl,fun _=>⟨qa,qb,rfl,o1.rebase hx.size,o2.rebase hx.size,ap⟩,cy F3 rfl,cy F4 rfl,fun hj=>absurd (hcl 5 _ rfl (by rwa [sgx (by decide)]at hj) ⟨2,.chain⟩ (by simp) rfl) (by rw[getD_both hl];simp),cy F6 rfl,cy F7 rfl,fun hj=>absurd (hcl 5 _ rfl (hcl 8 _ rfl (by rwa [sgx (by decide)]at hj) ⟨5,.chain⟩ (by simp) rfl) ⟨2,.chain⟩ (by simp) rfl) (by rw[getD_both hl];simp),cy F9 rfl,cy F10 rfl,fun hj=>absurd (hcl 5 _ rfl (hcl 8 _ rfl (hcl 11 _ rfl (by rwa [sgx (by decide)]at hj) ⟨8,.chain⟩ (by simp) rfl) ⟨5,.chain⟩ (by simp) rfl) ⟨2,.chain⟩ (by simp) rfl) (by rw[getD_both hl];simp),fun hj=>absurd (hcl 12 _ rfl (by rwa [sgx (by decide)]at hj) ⟨2,.data⟩ (by simp) rfl) (by rw[getD_both hl];simp),fun hj hu=>(let ⟨g,e1,e2,e3⟩:=(cyu F13 rfl rfl hj hu);⟨g,e1,e2,e3.below hb1 e3.lt⟩),fun hj=>absurd (hcl 14 _ rfl (by rwa [sgx (by decide)]at hj) ⟨2,.phase⟩ (by simp) rfl) (by rw[getD_both hl];simp),hx.trans (hb1.mono hx.size)⟩
  ·as_aux_lemma=>
    obtain⟨u3,u8,u9,u10,u11,u12,u13,u14,u15,u16,u17,u18,u19,u20,rfl,F0,F1,F2,F3,F4,F5,F6,F7,F8,F9,F10,F11,F12,F13,F14,hx⟩:=hI;refine zA3 ho rfl (fun K hK=>?_);unfold cp1A;go_simp;exact hK _ _ ⟨_,_,_,_,_,_,_,_,_,_,_,_,_,_,rfl,cy F0 rfl,cy F1 rfl,cy F2 rfl,fun _=>rfl,cy F4 rfl,cy F5 rfl,cy F6 rfl,cy F7 rfl,cy F8 rfl,cy F9 rfl,cy F10 rfl,cy F11 rfl,cy F12 rfl,cyu F13 rfl rfl,cy F14 rfl,hx⟩
  ·as_aux_lemma=>
    obtain⟨u3,u8,u9,u10,u11,u12,u13,u14,u15,u16,u17,u18,u19,u20,rfl,F0,F1,F2,F3,F4,F5,F6,F7,F8,F9,F10,F11,F12,F13,F14,hx⟩:=hI;have l3:=he ⟨3,.data⟩ (by simp) rfl;have e:=F3 l3;subst e;obtain⟨⟨c0,c1,c2,c3,c4⟩,_⟩:=(hS.below hx hS.lt).five;refine zA3 ho rfl (fun K hK=>?_);unfold cp1A;go_simp;exact hK _ _ ⟨_,_,_,_,_,_,_,_,_,_,_,_,_,_,rfl,cy F0 rfl,cy F1 rfl,cy F2 rfl,cy F3 rfl,fun _=>rfl,cy F5 rfl,cy F6 rfl,cy F7 rfl,cy F8 rfl,cy F9 rfl,cy F10 rfl,cy F11 rfl,cy F12 rfl,cyu F13 rfl rfl,cy F14 rfl,hx⟩
  ·as_aux_lemma=>
    obtain⟨u3,u8,u9,u10,u11,u12,u13,u14,u15,u16,u17,u18,u19,u20,rfl,F0,F1,F2,F3,F4,F5,F6,F7,F8,F9,F10,F11,F12,F13,F14,hx⟩:=hI;have l4:=he ⟨4,.data⟩ (by simp) rfl;have l2:=he ⟨2,.chain⟩ (by simp) rfl;have e:=F4 l4;subst e;obtain⟨qa,qb,hq,oa,ob,ap⟩:=F2 l2;have HQ:=hid hq;clear hq;refine zA3 ho rfl (fun K hK=>?_);unfold cp1A;go_simp
    (with_reducible refine(clone_CycPort rowPS rowPS_len rowPS_one _ ps w'.heap.size w' ((hP.below hx).mono hx.size) (by omega)).mono ?_)
    rintro e w'' ⟨q,rfl,o1,hb1⟩
    go_wp2_with fail
    exact⟨_,_,_,_,_,_,_,_,_,_,_,_,_,_,rfl,cy F0 rfl,cy F1 rfl,fun hj=>(let ⟨qa,qb,e,o1,o2,ap⟩:=(cy F2 rfl hj);⟨qa,qb,e,OwnR.below o1 hb1 (fun k hk=>(OwnR.lt o1 k hk).2),OwnR.below o2 hb1 (fun k hk=>(OwnR.lt o2 k hk).2),ap⟩),cy F3 rfl,fun _=>rfl,fun _=>⟨o1.rebase hx.size,qa,qb,HQ.out,zL8 oa o1,zL8 ob o1⟩,cy F6 rfl,cy F7 rfl,fun hj=>absurd (hcl 8 _ rfl (by rwa [sgx (by decide)]at hj) ⟨5,.chain⟩ (by simp) rfl) (by rw[getD_both hl];simp),cy F9 rfl,cy F10 rfl,fun hj=>absurd (hcl 8 _ rfl (hcl 11 _ rfl (by rwa [sgx (by decide)]at hj) ⟨8,.chain⟩ (by simp) rfl) ⟨5,.chain⟩ (by simp) rfl) (by rw[getD_both hl];simp),fun hj=>absurd (hcl 12 _ rfl (by rwa [sgx (by decide)]at hj) ⟨5,.data⟩ (by simp) rfl) (by rw[getD_both hl];simp),fun hj hu=>(let ⟨g,e1,e2,e3⟩:=(cyu F13 rfl rfl hj hu);⟨g,e1,e2,e3.below hb1 e3.lt⟩),fun hj=>absurd (hcl 14 _ rfl (by rwa [sgx (by decide)]at hj) ⟨5,.phase⟩ (by simp) rfl) (by rw[getD_both hl];simp),hx.trans (hb1.mono hx.size)⟩
  ·as_aux_lemma=>
    obtain⟨u3,u8,u9,u10,u11,u12,u13,u14,u15,u16,u17,u18,u19,u20,rfl,F0,F1,F2,F3,F4,F5,F6,F7,F8,F9,F10,F11,F12,F13,F14,hx⟩:=hI;refine zA3 ho rfl (fun K hK=>?_);unfold cp1A;go_simp;exact hK _ _ ⟨_,_,_,_,_,_,_,_,_,_,_,_,_,_,rfl,cy F0 rfl,cy F1 rfl,cy F2 rfl,cy F3 rfl,cy F4 rfl,cy F5 rfl,fun _=>rfl,cy F7 rfl,cy F8 rfl,cy F9 rfl,cy F10 rfl,cy F11 rfl,cy F12 rfl,cyu F13 rfl rfl,cy F14 rfl,hx⟩
  ·as_aux_lemma=>
    obtain⟨u3,u8,u9,u10,u11,u12,u13,u14,u15,u16,u17,u18,u19,u20,rfl,F0,F1,F2,F3,F4,F5,F6,F7,F8,F9,F10,F11,F12,F13,F14,hx⟩:=hI;have l6:=he ⟨6,.data⟩ (by simp) rfl;have e:=F6 l6;subst e;obtain⟨⟨c0,c1,c2,c3,c4⟩,_⟩:=(hS.below hx hS.lt).five;refine zA3 ho rfl (fun K hK=>?_);unfold cp1A;go_simp;exact hK _ _ ⟨_,_,_,_,_,_,_,_,_,_,_,_,_,_,rfl,cy F0 rfl,cy F1 rfl,cy F2 rfl,cy F3 rfl,cy F4 rfl,cy F5 rfl,cy F6 rfl,fun _=>rfl,cy F8 rfl,cy F9 rfl,cy F10 rfl,cy F11 rfl,cy F12 rfl,cyu F13 rfl rfl,cy F14 rfl,hx⟩
  ·as_aux_lemma=>
    obtain⟨u3,u8,u9,u10,u11,u12,u13,u14,u15,u16,u17,u18,u19,u20,rfl,F0,F1,F2,F3,F4,F5,F6,F7,F8,F9,F10,F11,F12,F13,F14,hx⟩:=hI;have l7:=he ⟨7,.data⟩ (by simp) rfl;have l5:=he ⟨5,.chain⟩ (by simp) rfl;have e:=F7 l7;subst e;obtain⟨op,qa,qb,hq,a1,a2⟩:=F5 l5;obtain⟨qa2,qb2,hq2,oa,ob,_⟩:=F2 (hcl 5 _ rfl l5 ⟨2,.chain⟩ (by simp) rfl);have HQ2:=hid hq2;clear hq hq2;refine zA3 ho rfl (fun K hK=>?_);unfold cp1A;go_simp
    (with_reducible refine(clone_CycSlave rowSS rowSS_len rowSS_one _ ss w'.heap.size w' ((hT.below hx).mono hx.size) (by omega)).mono ?_)
    rintro e w'' ⟨q,rfl,o1,hb1⟩
    go_wp2_with fail
    exact⟨_,_,_,_,_,_,_,_,_,_,_,_,_,_,rfl,cy F0 rfl,cy F1 rfl,fun hj=>(let ⟨qa,qb,e,o1,o2,ap⟩:=(cy F2 rfl hj);⟨qa,qb,e,OwnR.below o1 hb1 (fun k hk=>(OwnR.lt o1 k hk).2),OwnR.below o2 hb1 (fun k hk=>(OwnR.lt o2 k hk).2),ap⟩),cy F3 rfl,cy F4 rfl,fun hj=>⟨OwnR.below (cy F5 rfl hj).1 hb1 (fun k hk=>(OwnR.lt (cy F5 rfl hj).1 k hk).2),(cy F5 rfl hj).2⟩,cy F6 rfl,fun _=>rfl,fun _=>⟨o1.rebase hx.size,zL8 op o1,qa2,qb2,HQ2.out,zL8 oa o1,zL8 ob o1⟩,cy F9 rfl,cy F10 rfl,fun hj=>absurd (hcl 11 _ rfl (by rwa [sgx (by decide)]at hj) ⟨8,.chain⟩ (by simp) rfl) (by rw[getD_both hl];simp),fun hj=>absurd (hcl 12 _ rfl (by rwa [sgx (by decide)]at hj) ⟨8,.data⟩ (by simp) rfl) (by rw[getD_both hl];simp),fun hj hu=>(let ⟨g,e1,e2,e3⟩:=(cyu F13 rfl rfl hj hu);⟨g,e1,e2,e3.below hb1 e3.lt⟩),fun hj=>absurd (hcl 14 _ rfl (by rwa [sgx (by decide)]at hj) ⟨8,.phase⟩ (by simp) rfl) (by rw[getD_both hl];simp),hx.trans (hb1.mono hx.size)⟩
  ·as_aux_lemma=>
    obtain⟨u3,u8,u9,u10,u11,u12,u13,u14,u15,u16,u17,u18,u19,u20,rfl,F0,F1,F2,F3,F4,F5,F6,F7,F8,F9,F10,F11,F12,F13,F14,hx⟩:=hI;refine zA3 ho rfl (fun K hK=>?_);unfold cp1A;go_simp;exact hK _ _ ⟨_,_,_,_,_,_,_,_,_,_,_,_,_,_,rfl,cy F0 rfl,cy F1 rfl,cy F2 rfl,cy F3 rfl,cy F4 rfl,cy F5 rfl,cy F6 rfl,cy F7 rfl,cy F8 rfl,fun _=>rfl,cy F10 rfl,cy F11 rfl,cy F12 rfl,cyu F13 rfl rfl,cy F14 rfl,hx⟩
  ·as_aux_lemma=>
    obtain⟨u3,u8,u9,u10,u11,u12,u13,u14,u15,u16,u17,u18,u19,u20,rfl,F0,F1,F2,F3,F4,F5,F6,F7,F8,F9,F10,F11,F12,F13,F14,hx⟩:=hI;have l9:=he ⟨9,.data⟩ (by simp) rfl;have e:=F9 l9;subst e;obtain⟨⟨c0,c1,c2,c3,c4⟩,_⟩:=(hS.below hx hS.lt).five;refine zA3 ho rfl (fun K hK=>?_);unfold cp1A;go_simp;exact hK _ _ ⟨_,_,_,_,_,_,_,_,_,_,_,_,_,_,rfl,cy F0 rfl,cy F1 rfl,cy F2 rfl,cy F3 rfl,cy F4 rfl,cy F5 rfl,cy F6 rfl,cy F7 rfl,cy F8 rfl,cy F9 rfl,fun _=>rfl,cy F11 rfl,cy F12 rfl,cyu F13 rfl rfl,cy F14 rfl,hx⟩
  ·as_aux_lemma=>
    obtain⟨u3,u8,u9,u10,u11,u12,u13,u14,u15,u16,u17,u18,u19,u20,rfl,F0,F1,F2,F3,F4,F5,F6,F7,F8,F9,F10,F11,F12,F13,F14,hx⟩:=hI;have l10:=he ⟨10,.data⟩ (by simp) rfl;have l8:=he ⟨8,.chain⟩ (by simp) rfl;have e:=F10 l10;subst e;obtain⟨o8,_,qa8,qb8,hq8,_⟩:=F8 l8;obtain⟨o5,qa5,qb5,hq5,_⟩:=F5 (hcl 8 _ rfl l8 ⟨5,.chain⟩ (by simp) rfl);obtain⟨qa2,qb2,hq2,oa,ob,_⟩:=F2 (hcl 5 _ rfl (hcl 8 _ rfl l8 ⟨5,.chain⟩ (by simp) rfl) ⟨2,.chain⟩ (by simp) rfl);have HQ2:=hid hq2;clear hq2 hq5 hq8;refine zA3 ho rfl (fun K hK=>?_);unfold cp1A;go_simp
    (with_reducible refine(zG3 D0 _ wq.heap.size w' (hJ1.below hx) (fun x hx2=>(hJ3 x hx2).below hx) hx.size hl5 hl6).mono ?_)
    rintro e w'' ⟨q,D1,rfl,o1,hm1,hd1,hb1⟩
    go_wp2_with fail
    exact⟨_,_,_,_,_,_,_,_,_,_,_,_,_,_,rfl,cy F0 rfl,cy F1 rfl,fun hj=>(let ⟨qa,qb,e,o1,o2,ap⟩:=(cy F2 rfl hj);⟨qa,qb,e,OwnR.below o1 hb1 (fun k hk=>(OwnR.lt o1 k hk).2),OwnR.below o2 hb1 (fun k hk=>(OwnR.lt o2 k hk).2),ap⟩),cy F3 rfl,cy F4 rfl,fun hj=>⟨OwnR.below (cy F5 rfl hj).1 hb1 (fun k hk=>(OwnR.lt (cy F5 rfl hj).1 k hk).2),(cy F5 rfl hj).2⟩,cy F6 rfl,cy F7 rfl,fun hj=>⟨OwnR.below (cy F8 rfl hj).1 hb1 (fun k hk=>(OwnR.lt (cy F8 rfl hj).1 k hk).2),(cy F8 rfl hj).2⟩,cy F9 rfl,fun _=>rfl,fun _=>⟨w'.heap.size,D1,hx.size,o1,hm1.trans hJ2,hd1,(fun k hk=>(OwnR.lt o8 k hk).2),(fun k hk=>(OwnR.lt o5 k hk).2),qa2,qb2,HQ2.out,(fun k hk=>(OwnR.lt oa k hk).2),(fun k hk=>(OwnR.lt ob k hk).2)⟩,fun hj=>absurd (hcl 12 _ rfl (by rwa [sgx (by decide)]at hj) ⟨11,.data⟩ (by simp) rfl) (by rw[getD_both hl];simp),fun hj hu=>(let ⟨g,e1,e2,e3⟩:=(cyu F13 rfl rfl hj hu);⟨g,e1,e2,e3.below hb1 e3.lt⟩),fun hj=>absurd (hcl 14 _ rfl (by rwa [sgx (by decide)]at hj) ⟨11,.phase⟩ (by simp) rfl) (by rw[getD_both hl];simp),hx.trans (hb1.mono hx.size)⟩
  ·as_aux_lemma=>
    obtain⟨u3,u8,u9,u10,u11,u12,u13,u14,u15,u16,u17,u18,u19,u20,rfl,F0,F1,F2,F3,F4,F5,F6,F7,F8,F9,F10,F11,F12,F13,F14,hx⟩:=hI;have l2:=he ⟨2,.data⟩ (by simp) rfl;have l5:=he ⟨5,.data⟩ (by simp) rfl;have l8:=he ⟨8,.data⟩ (by simp) rfl;have l11:=he ⟨11,.data⟩ (by simp) rfl;have F2':=F2 l2;obtain⟨qa,qb,hq,oa,ob,ap⟩:=F2';have F5':=F5 l5;have F8':=F8 l8;have F11':=F11 l11;obtain⟨m,D1,m1,o11,h11⟩:=F11';obtain⟨y1,y2,e1,_,_⟩:=oa.shape;obtain⟨z1,z2,e2,_,_⟩:=ob.shape;obtain⟨s1,s2,e3,_,_⟩:=F5'.1.shape;obtain⟨t1,t2,e4,_,_⟩:=F8'.1.shape;obtain⟨v1,v2,e5,_,_⟩:=o11.shape;subst e1 e2 hq e3 e4 e5;clear F5' F8' oa ob ap o11 h11;refine zA3 ho rfl (fun K hK=>?_);unfold cp1A;go_simp;exact hK _ _ ⟨_,_,_,_,_,_,_,_,_,_,_,_,_,_,rfl,cy F0 rfl,cy F1 rfl,fun hj=>F2 l2,cy F3 rfl,cy F4 rfl,fun hj=>F5 l5,cy F6 rfl,cy F7 rfl,fun hj=>F8 l8,cy F9 rfl,cy F10 rfl,fun hj=>F11 l11,fun _=>⟨_,_,rfl,rfl⟩,cyu F13 rfl rfl,cy F14 rfl,hx⟩
  ·as_aux_lemma=>
    obtain⟨u3,u8,u9,u10,u11,u12,u13,u14,u15,u16,u17,u18,u19,u20,rfl,F0,F1,F2,F3,F4,F5,F6,F7,F8,F9,F10,F11,F12,F13,F14,hx⟩:=hI;refine zA3 ho rfl (fun K hK=>?_);unfold cp1A;have hb1:Below w'.heap.size w' (w'.alloc (.cells #[.slice none 0 0,.slice none 0 0,.slice none 0 0,.slice none 0 0,.slice none 0 0] 39)):=(Below.refl _ _).alloc (Nat.le_refl _) _;go_simp;exact hK _ _ ⟨_,_,_,_,_,_,_,_,_,_,_,_,_,_,rfl,cy F0 rfl,cy F1 rfl,fun hj=>(let ⟨qa,qb,e,o1,o2,ap⟩:=(cy F2 rfl hj);⟨qa,qb,e,OwnR.below o1 hb1 (fun k hk=>(OwnR.lt o1 k hk).2),OwnR.below o2 hb1 (fun k hk=>(OwnR.lt o2 k hk).2),ap⟩),cy F3 rfl,cy F4 rfl,fun hj=>⟨OwnR.below (cy F5 rfl hj).1 hb1 (fun k hk=>(OwnR.lt (cy F5 rfl hj).1 k hk).2),(cy F5 rfl hj).2⟩,cy F6 rfl,cy F7 rfl,fun hj=>⟨OwnR.below (cy F8 rfl hj).1 hb1 (fun k hk=>(OwnR.lt (cy F8 rfl hj).1 k hk).2),(cy F8 rfl hj).2⟩,cy F9 rfl,cy F10 rfl,fun hj=>(let ⟨m,D1,m1,o,h2,h3,r⟩:=(cy F11 rfl hj);⟨m,D1,m1,OwnR.below o hb1 (fun k hk=>(OwnR.lt o k hk).2),h2,fun x hx2=>((h3 x hx2).kept fun b hb=>hb1.block b hb.2.1).weak fun b hb=>⟨hb.1,Nat.lt_of_lt_of_le hb.2.1 hb1.size,hb.2.2⟩,r⟩),cy F12 rfl,fun _ _=>⟨_,rfl,hx.size,BoxC.new _ _ _ _ _ _⟩,fun hj=>absurd (hcl 14 _ rfl (by rwa [sgx (by decide)]at hj) ⟨13,.data⟩ (by simp) rfl) (by rw[getD_both hl];simp),hx.trans (hb1.mono hx.size)⟩
  ·as_aux_lemma=>
    obtain⟨u3,u8,u9,u10,u11,u12,u13,u14,u15,u16,u17,u18,u19,u20,rfl,F0,F1,F2,F3,F4,F5,F6,F7,F8,F9,F10,F11,F12,F13,F14,hx⟩:=hI;have l13:=he ⟨13,.data⟩ (by simp) rfl;have l12:=he ⟨12,.data⟩ (by simp) rfl;have l11:=he ⟨11,.chain⟩ (by simp) rfl;obtain⟨g,rfl,g1,hB⟩:=F13 l13 (getD_both hl);obtain⟨qa,qb,hq,e12⟩:=F12 l12;have l2:=hcl 12 _ rfl l12 ⟨2,.data⟩ (by simp) rfl;have l5:=hcl 12 _ rfl l12 ⟨5,.data⟩ (by simp) rfl;have l8:=hcl 12 _ rfl l12 ⟨8,.data⟩ (by simp) rfl;obtain⟨qa2,qb2,hq2,oa,ob,ap⟩:=F2 l2;rw[hq]at hq2;simp only[Value.agg.injEq,Array.mk.injEq,List.cons.injEq,and_true]at hq2;obtain⟨rfl,rfl⟩:=hq2;obtain⟨op,F5'⟩:=F5 l5;obtain⟨os,F8'⟩:=F8 l8;obtain⟨m,D1,m1,o11,hm11,hd11,r11⟩:=F11 l11;obtain⟨y1,y2,e1,_,_⟩:=oa.shape;obtain⟨z1,z2,e2,_,_⟩:=ob.shape;obtain⟨s1,s2,e3,_,_⟩:=op.shape;obtain⟨t1,t2,e4,_,_⟩:=os.shape;obtain⟨v1,v2,e5,_,_⟩:=o11.shape;subst e1 e2 hq e3 e4 e5 e12;obtain⟨⟨k0,k1,k2,k3,k4⟩,m0,m1', m2,m3,m4⟩:=hB.bx.five;have HD11:=hid hd11;have R11:=hid r11;have HM11:=hid hm11;clear hd11 r11 hm11;refine zA3 ho rfl (fun K hK=>?_);unfold cp1A;have ht:=touchC g w' (.slice y1 xs.length y2) (.slice z1 ys.length z2) (.slice s1 ps.length s2) (.slice t1 ss.length t2) (.slice v1 D1.length v2);go_simp;exact hK _ _ ⟨_,_,_,_,_,_,_,_,_,_,_,_,_,_,rfl,cy F0 rfl,cy F1 rfl,fun hj=>⟨_,_,rfl,oa.boxC hB (by decide) ht,ob.boxC hB (by decide) ht,ap⟩,cy F3 rfl,cy F4 rfl,fun hj=>⟨op.boxC hB (by decide) ht,F5'⟩,cy F6 rfl,cy F7 rfl,fun hj=>⟨os.boxC hB (by decide) ht,F8'⟩,cy F9 rfl,cy F10 rfl,fun hj=>⟨m,D1,m1,o11.boxC hB (by decide) ht,HM11.out,fun x hx2=>(((HD11.out x hx2).notC hB).kept fun b hb=>ht.block b hb.1.2.1 hb.2).weak fun b hb=>⟨hb.1.1,Nat.lt_of_lt_of_le hb.1.2.1 ht.size,hb.1.2.2⟩,R11.out⟩,fun hj=>⟨_,_,rfl,rfl⟩,fun _ hu=>absurd hu (by rw[sgix hl];simp),fun _=>⟨g,_,_,rfl,g1,rfl,hB.put _ _ _ _ _⟩,Below.touchN hx ht g1 (Nat.le_refl _)⟩
 ·intro listed a w' hI hd;obtain⟨u3,u8,u9,u10,u11,u12,u13,u14,u15,u16,u17,u18,u19,u20,rfl,F0,F1,F2,F3,F4,F5,F6,F7,F8,F9,F10,F11,F12,F13,F14,hx⟩:=hI;obtain⟨g,qa,qb,h3,g1,hq,hB⟩:=F14 (hd 14 (by show 14<15;omega));obtain⟨qa2,qb2,hq2,oa,ob,ap⟩:=F2 (hd 2 (by show 2<15;omega));obtain⟨op,qa3,qb3,hq3,a1,a2⟩:=F5 (hd 5 (by show 5<15;omega));obtain⟨os,a3,qa4,qb4,hq4,a4,a5⟩:=F8 (hd 8 (by show 8<15;omega));obtain⟨m,D1,m1,o11,hm11,hd11,r1,r2,qa6,qb6,hq6,r3,r4⟩:=F11 (hd 11 (by show 11<15;omega));rw[hq]at hq2 hq3 hq4 hq6;simp only[Value.agg.injEq,Array.mk.injEq,List.cons.injEq,and_true]at hq2 hq3 hq4 hq6;obtain⟨rfl,rfl⟩:=hq2;obtain⟨rfl,rfl⟩:=hq3;obtain⟨rfl,rfl⟩:=hq4;obtain⟨rfl,rfl⟩:=hq6;exact hK _ _ _ _ _ _ _ _ _ _ _ _ _ _ w' ⟨g,qa,qb,_,_,_,m,D1,h3,g1,hB,⟨oa,ob,op,os,ap,a3,a1,a4,a2,a5⟩,m1,o11,hm11,hd11,⟨r3,r4,r2,r1⟩,hx⟩
end Go.Proofs.YtgkdoehkmbhfiaaGreat
namespace Go.Proofs.YtgkdoehkmbhfiaaGreat
open Go.RowKit
theorem elem_CycJob:Elem 46 101 3 24:=zE9 Tryz.underlying46 (z:=.agg #[.int .i64 0,.int .i64 0,.int .i64 0]) (by kernel_rfl) rfl (by omega)
theorem sClone_CycJob {α : Type} (f : α → List Value) (hf : ∀ x, (f x).length = 3) (h1 : ∀ x, ∀ u ∈ f x, u.oneCell' = true) (v : Value) (ys : List α) (B : Nat) (w : World) (ha : Arr w B 3 v (ys.map f)) (hlen : ys.length * 24 ≤ 140737488355328) :
  Calls Tryz.prog 142 #[v] w (CloneP f 101 3 ys w):=by
 have ha0:=hid ha;obtain⟨ao,cap,rfl,g1,g2,g0,g9,g3⟩:=ha;simp only[List.length_map]at g1 g2 g0 ⊢;clear g3;cases ao with
 |none=>
  obtain rfl:=g9 rfl;have hy:ys=[]:=by
   rcases ys with _|⟨y,ys⟩
   ·rfl
   ·simp at g1
  subst hy;have he:=fun w=>Lib.run_eql_slice_nil (P:=Tryz.prog) w 46 101 none 0 0 0 0 Tryz.underlying46
  go_enter Tryz.func142,Tryz.ntmps142
  go_wp2_with fail
  go_ret
  exact⟨_,rfl,Owns.zero,Below.refl _ _⟩
 |some ad=>
  have he:=fun w=>Lib.run_eql_slice_nil (P:=Tryz.prog) w 46 101 (some ad) ys.length cap 0 0 Tryz.underlying46
  clear g9
  go_enter Tryz.func142,Tryz.ntmps142
  go_wp2_with (at_builtin;go_must (refine zH2 elem_CycJob f hf h1 _ rfl _ _ rfl w.heap.size _ [] (by rfl) (Owns.lit (Nat.le_refl _)) _ ys (min B w.heap.size) (by rfl) (by have:=(ha0.out).fit (by omega) (by intro r hr;obtain⟨y,_,rfl⟩:=List.mem_map.1 hr;exact hf y);simp only[List.length_map]at this;exact this.below ((Below.refl _ _).alloc (Nat.min_le_right _ _) _)) (by simpa using hlen) (by simp;omega) (by simp) ?_);intro v' w1 hown1 hb1 _)
  go_ret
  exact⟨v', rfl,by simpa using hown1,((Below.refl _ _).alloc (Nat.le_refl _) _).trans hb1⟩
theorem sClip_CycJob (a:Option Addr) (n c:Nat) (w:World) (hc:n≤c) (hm:c≤9223372036854775807):Calls Tryz.prog 141 #[.slice a n c] w fun e w' => e=.returned (.slice a n n)∧w=w':=by
 go_enter Tryz.func141,Tryz.ntmps141
 go_wp2_with fail
 go_ret
 exact⟨rfl,rfl⟩
theorem clone_CycJob {α : Type} (f : α → List Value) (hf : ∀ x, (f x).length = 3) (h1 : ∀ x, ∀ u ∈ f x, u.oneCell' = true) (v : Value) (ys : List α) (B : Nat) (w : World) (ha : Arr w B 3 v (ys.map f)) (hlen : ys.length * 24 ≤ 140737488355328) :
  Calls Tryz.prog 89 #[v] w (CloneP f 101 3 ys w):=by
 go_enter Tryz.func89,Tryz.ntmps89
 go_wp2_with fail
 refine(sClone_CycJob f hf h1 v ys B w ha hlen).mono ?_;rintro e w1 ⟨u,rfl,hown,hb⟩;obtain⟨a,c,rfl,hc1,hc2⟩:=hown.shape
 go_wp2_with fail
 refine(sClip_CycJob a ys.length c _ hc1 hc2).mono ?_;rintro e w2 ⟨rfl,rfl⟩
 go_wp2_with fail
 go_ret
 exact⟨_,rfl,hown.clip,hb⟩
end Go.Proofs.YtgkdoehkmbhfiaaGreat
