/- slices.Clone, slices.Clip and clone at element type CycSlave: a copy in new memory. -/
import Derived.Test.YtenjbhbcacocjaaGreatGCat
import Derived.Test.YtenjbhbcacocjaaGreatGReq
import Derived.Test.YtenjbhbcacocjaaGreatGKc
import Derived.Test.YtenjbhbcacocjaaGreatGMq
import Derived.Test.YtenjbhbcacocjaaGreatGMap1
import Derived.BigGuardPart
import Derived.Deep.QuietTactic
import Derived.BigQuiet
import Derived.Deep.RegionHeld3
set_option linter.unusedVariables false
set_option linter.unusedSimpArgs false
namespace Go.Proofs.YtenjbhbcacocjaaGreat
open Go.RowKit
structure BusO (w:World) (B:Nat) (c:Cfg) (ma:Option Addr) (mn mk lb lo lc pb po pc:Nat) (Q:Nat → Option Addr) (K:Nat → Nat):Prop where
 ms:Maps w B (.slice ma mn mk) c.ms
 hlb:lb < B
 hpb:pb < B
 lat:∀ s,s < 4 → w.cell? ⟨lb,lo + s,none⟩ = some (.int .i64 (c.lt s:Nat))
 prog:∀ i,i < 3 → w.cell? ⟨pb,po + i,none⟩ = some (.slice (Q i) (c.prog i).length (K i))
 req:∀ i,i < 3 → Reqs w B (.slice (Q i) (c.prog i).length (K i)) (c.prog i)
theorem BusO.below {w w':World} {B:Nat} {c:Cfg} {ma:Option Addr} {mn mk lb lo lc pb po pc:Nat} {Q:Nat → Option Addr} {K:Nat → Nat} (h:BusO w B c ma mn mk lb lo lc pb po pc Q K) (hb:Below B w w'):BusO w' B c ma mn mk lb lo lc pb po pc Q K :=
 ⟨h.ms.below hb,h.hlb,h.hpb,fun s hs => (hb.cell (p:=⟨lb,_,none⟩) h.hlb).trans (h.lat s hs),fun i hi => (hb.cell (p:=⟨pb,_,none⟩) h.hpb).trans (h.prog i hi),fun i hi => (h.req i hi).below hb⟩
theorem BusO.at {w:World} {B:Nat} {c:Cfg} {ma:Option Addr} {mn mk lb lo lc pb po pc:Nat} {Q:Nat → Option Addr} {K:Nat → Nat} (h:BusO w B c ma mn mk lb lo lc pb po pc Q K) {who n:Nat} (hw:who < 3) (hn:n < (c.prog who).length) :
  ∃ qb qo da dc la lc', Q who = some ⟨qb,qo,none⟩ ∧ qb < B ∧ ReqV w B (.agg #[.int .i64 (c.req who n).id,.int .i64 (c.req who n).kind,.int .i64 (c.req who n).addr,.int .i64 (c.req who n).many,.bool (c.req who n).wrap,.slice da (c.req who n).data.length dc,.slice la (c.req who n).lanes.length lc']) (c.req who n) ∧
   w.cell? ⟨qb,qo + n * 7,none⟩ = some (.int .i64 (c.req who n).id) ∧ w.cell? ⟨qb,qo + n * 7 + 1,none⟩ = some (.int .i64 (c.req who n).kind) ∧ w.cell? ⟨qb,qo + n * 7 + 2,none⟩ = some (.int .i64 (c.req who n).addr) ∧ w.cell? ⟨qb,qo + n * 7 + 3,none⟩ = some (.int .i64 (c.req who n).many) ∧
   w.cell? ⟨qb,qo + n * 7 + 4,none⟩ = some (.bool (c.req who n).wrap) ∧ w.cell? ⟨qb,qo + n * 7 + 5,none⟩ = some (.slice da (c.req who n).data.length dc) ∧ w.cell? ⟨qb,qo + n * 7 + 6,none⟩ = some (.slice la (c.req who n).lanes.length lc'):=by
 obtain ⟨ao,cap,e,_,_,_,_,ho⟩:=(h.req who hw).opened
 simp only [Value.slice.injEq] at e
 obtain ⟨b,off,ha,hb,hc⟩:=ho (by omega)
 obtain ⟨da,dc,la,lc', h1,h2⟩:=hc n hn
 exact ⟨b,off,da,dc,la,lc', e.1.trans ha,hb,h1,h2⟩
set_option maxHeartbeats 1000000 in
theorem id_any {c:Cfg} (hbus:Bus c) {w:World} {B:Nat} {ma:Option Addr} {mn mk lb lo lc pb po pc:Nat} {Q:Nat → Option Addr} {K:Nat → Nat} (h:BusO w B c ma mn mk lb lo lc pb po pc Q K) (hB:B ≤ w.heap.size) {who n:Nat} (hw:who < 3) (hn:n < (c.prog who).length) :
  Calls Tryz.prog 97 #[.agg #[.slice ma mn mk,.slice (some ⟨lb,lo,none⟩) 4 lc,.slice (some ⟨pb,po,none⟩) 3 pc],.int .i64 who,.int .i64 n] w fun e w' => e = .returned (.int .i64 (c.id who n)) ∧ Below w.heap.size w w':=by
 obtain ⟨qb,qo,da,dc,la,lc', hq,hqb,_,c0,_⟩:=h.at hw hn
 have hp:=h.prog who hw
 rw [hq] at hp
 have hpb:pb < w.heap.size:=Nat.lt_of_lt_of_le h.hpb hB
 have hqz:qb < w.heap.size:=Nat.lt_of_lt_of_le hqb hB
 have hwi:(who:Int) < 3:=by omega
 have hni:(n:Int) < ((c.prog who).length:Int):=by omega
 obtain ⟨y,hy⟩:∃ y,y = (c.req who n).id:=⟨_,rfl⟩
 rw [← hy] at c0
 have HY:=hid (show c.id who n = y by rw [hy];rfl)
 have HBX:=hid ((Below.refl w.heap.size w).alloc (Nat.le_refl _) (.cells #[.slice ma mn mk,.slice (some ⟨lb,lo,none⟩) 4 lc,.slice (some ⟨pb,po,none⟩) 3 pc] 27))
 clear hy hq
 go_enter Tryz.func97,Tryz.ntmps97
 go_wp2_with fail
 go_ret
 exact ⟨by rw [HY.out];rfl,HBX.out⟩
def BusB (w:World) (g:Nat) (ma:Option Addr) (mn mk lb lo lc pb po pc:Nat):Prop:=w.heap[g]? = some (.cells #[.slice ma mn mk,.slice (some ⟨lb,lo,none⟩) 4 lc,.slice (some ⟨pb,po,none⟩) 3 pc] 27 (0,0))
theorem BusB.below {w w':World} {g C:Nat} {ma:Option Addr} {mn mk lb lo lc pb po pc:Nat} (h:BusB w g ma mn mk lb lo lc pb po pc) (hb:Below C w w') (hg:g < C):BusB w' g ma mn mk lb lo lc pb po pc:=(hb.block g hg).trans h
theorem BusB.cells {w:World} {g:Nat} {ma:Option Addr} {mn mk lb lo lc pb po pc:Nat} (h:BusB w g ma mn mk lb lo lc pb po pc):w.cell? ⟨g,0,none⟩ = some (.slice ma mn mk) ∧ w.cell? ⟨g,1,none⟩ = some (.slice (some ⟨lb,lo,none⟩) 4 lc) ∧ w.cell? ⟨g,2,none⟩ = some (.slice (some ⟨pb,po,none⟩) 3 pc) ∧ g < w.heap.size:=by
 have:=heap_lt' h
 unfold BusB at h
 refine ⟨?_,?_,?_,this⟩ <;> simp [World.cell?,h]
def IntB (w:World) (g:Nat) (n:Int):Prop:=w.heap[g]? = some (.cells #[.int .i64 n] 3 (0,0))
theorem IntB.below {w w':World} {g C:Nat} {n:Int} (h:IntB w g n) (hb:Below C w w') (hg:g < C):IntB w' g n:=(hb.block g hg).trans h
theorem IntB.cells {w:World} {g:Nat} {n:Int} (h:IntB w g n):w.cell? ⟨g,0,none⟩ = some (.int .i64 n) ∧ g < w.heap.size:=by
 have:=heap_lt' h
 unfold IntB at h
 exact ⟨by simp [World.cell?,h],this⟩
def mayB (c:Cfg) (who s:Nat) (id:Int) (j:Jb):Bool:=c.id who j.n == id && j.left != s
abbrev Sl:=Option Addr × Nat × Nat
def sl (x:Sl):Value:=.slice x.1 x.2.1 x.2.2
structure PS where
 next:Nat
 q:Sl
 o:Sl
 last:Nat
deriving Inhabited
structure SS where
 p:Sl
 d:Sl
 last:Nat
deriving Inhabited
def rowPS (x:PS):List Value:=[.int .i64 x.next,sl x.q,sl x.o,.int .i64 x.last]
def rowSS (x:SS):List Value:=[sl x.p,sl x.d,.int .i64 x.last]
theorem rowPS_len (x:PS):(rowPS x).length = 4:=rfl
theorem rowSS_len (x:SS):(rowSS x).length = 3:=rfl
theorem rowPS_one (x:PS):∀ u ∈ rowPS x,u.oneCell' = true:=by
 intro u hu
 simp only [rowPS,sl,List.mem_cons,List.not_mem_nil,or_false] at hu
 rcases hu with rfl | rfl | rfl | rfl <;> rfl
theorem rowSS_one (x:SS):∀ u ∈ rowSS x,u.oneCell' = true:=by
 intro u hu
 simp only [rowSS,sl,List.mem_cons,List.not_mem_nil,or_false] at hu
 rcases hu with rfl | rfl | rfl <;> rfl
def JobsV (w:World) (B:Nat) (v:Value) (js:List TJ):Prop:=∃ D:List TJV,Arr w B 5 v (D.map tjRow) ∧ D.map (·.1) = js ∧ ∀ x ∈ D,Ints w B x.2 x.1.rsp.data
theorem JobsV.below {w w':World} {B:Nat} {v:Value} {js:List TJ} (h:JobsV w B v js) (hb:Below B w w'):JobsV w' B v js:=by
 obtain ⟨D,h1,h2,h3⟩:=h
 exact ⟨D,h1.below hb,h2,fun x hx => (h3 x hx).below hb⟩
theorem JobsV.mono {w:World} {B B':Nat} {v:Value} {js:List TJ} (h:JobsV w B v js) (hb:B ≤ B'):JobsV w B' v js:=by
 obtain ⟨D,h1,h2,h3⟩:=h
 exact ⟨D,h1.mono hb,h2,fun x hx => (h3 x hx).mono hb⟩
def Nats (w:World) (B:Nat) (v:Value) (xs:List Nat):Prop:=Arr w B 1 v (xs.map rowN)
structure CyV (w:World) (B:Nat) (a0 a1 a2 a3 a4:Value) (st:Cy) (P:List PS) (Q:List SS):Prop where
 ws:Ints w B a0 st.ws
 hs:Ints w B a1 st.hs
 ps:Arr w B 4 a2 (P.map rowPS)
 ss:Arr w B 3 a3 (Q.map rowSS)
 told:JobsV w B a4 st.told
 lp:P.length = 3
 lq:Q.length = 4
 pn:∀ i,i < 3 → (P.getD i default).next = (st.ports i).next ∧ (P.getD i default).last = (st.ports i).last
 q:∀ i,i < 3 → Nats w B (sl (P.getD i default).q) (st.ports i).queue
 o:∀ i,i < 3 → Jbs w B (sl (P.getD i default).o) (st.ports i).out
 sn:∀ s,s < 4 → (Q.getD s default).last = (st.slaves s).last
 p:∀ s,s < 4 → Jbs w B (sl (Q.getD s default).p) (st.slaves s).pipe
 d:∀ s,s < 4 → JobsV w B (sl (Q.getD s default).d) (st.slaves s).done
theorem CyV.below {w w':World} {B:Nat} {a0 a1 a2 a3 a4:Value} {st:Cy} {P:List PS} {Q:List SS} (h:CyV w B a0 a1 a2 a3 a4 st P Q) (hb:Below B w w'):CyV w' B a0 a1 a2 a3 a4 st P Q :=
 ⟨h.ws.below hb,h.hs.below hb,h.ps.below hb,h.ss.below hb,h.told.below hb,h.lp,h.lq,h.pn,fun i hi => (h.q i hi).below hb,fun i hi => (h.o i hi).below hb,h.sn,fun i hi => (h.p i hi).below hb,fun i hi => (h.d i hi).below hb⟩
theorem CyV.mono {w:World} {B B':Nat} {a0 a1 a2 a3 a4:Value} {st:Cy} {P:List PS} {Q:List SS} (h:CyV w B a0 a1 a2 a3 a4 st P Q) (hb:B ≤ B'):CyV w B' a0 a1 a2 a3 a4 st P Q :=
 ⟨h.ws.mono hb,h.hs.mono hb,h.ps.mono hb,h.ss.mono hb,h.told.mono hb,h.lp,h.lq,h.pn,fun i hi => (h.q i hi).mono hb,fun i hi => (h.o i hi).mono hb,h.sn,fun i hi => (h.p i hi).mono hb,fun i hi => (h.d i hi).mono hb⟩
structure CyR (w:World) (base:Nat) (st:Cy) (V:Nat → Value) (N:Nat → Nat) (C:Nat → List Value) (D:Nat → List TJV):Prop where
 raw:Raw w base V N C
 con:Cont st [] V N C D
 v19:V 19 = vnil
 dat:∀ κ,κ < 20 → ∀ x ∈ D κ,IntsD w (fun b => base ≤ b ∧ b < w.heap.size ∧ Free V b) x.2 x.1.rsp.data
theorem CyR.kept {w w':World} {base:Nat} {st:Cy} {V:Nat → Value} {N:Nat → Nat} {C:Nat → List Value} {D:Nat → List TJV} (h:CyR w base st V N C D) (hk:∀ b,base ≤ b → b < w.heap.size → w'.heap[b]? = w.heap[b]?) (hz:w.heap.size ≤ w'.heap.size):CyR w' base st V N C D :=
 ⟨⟨fun κ hκ => (h.raw.own κ hκ).kept fun k hk2 => hk k (h.raw.lt hκ hk2).1 (h.raw.lt hκ hk2).2,h.raw.ap⟩,h.con,h.v19,fun κ hκ x hx => ((h.dat κ hκ x hx).kept fun b hb => hk b hb.1 hb.2.1).weak fun b hb => ⟨hb.1,Nat.lt_of_lt_of_le hb.2.1 hz,hb.2.2⟩⟩
theorem CyR.below {w w':World} {base:Nat} {st:Cy} {V:Nat → Value} {N:Nat → Nat} {C:Nat → List Value} {D:Nat → List TJV} (h:CyR w base st V N C D) (hb:Below w.heap.size w w'):CyR w' base st V N C D:=h.kept (fun b _ hlt => hb.block b hlt) hb.size
theorem Raw.two {w w':World} {base:Nat} {V:Nat → Value} {N:Nat → Nat} {C:Nat → List Value} (h:Raw w base V N C) {κ ρ μ g n1 n2:Nat} {v1 v2:Value} {c c1 c2:List Value} (hκ:κ < 20) (hρ:ρ < 20) (hμ:μ < 20) (hne:κ ≠ ρ) (hκμ:κ ≠ μ) (hρμ:ρ ≠ μ) (hg:(V μ).ownBlock = some g)
  (hk:∀ b,b < w.heap.size → b ≠ g → w'.heap[b]? = w.heap[b]?) (hm:OwnR w' base (ety μ) (esz μ) (V μ) (N μ) c) (h1:OwnR w' base (ety κ) (esz κ) v1 n1 c1) (h2:OwnR w' base (ety ρ) (esz ρ) v2 n2 c2)
  (e1:∀ k,v1.ownBlock = some k → w.heap.size ≤ k) (e2:∀ k,v2.ownBlock = some k → w.heap.size ≤ k) (ap:Apart v1 v2):Raw w' base (upd (upd V κ v1) ρ v2) (upd (upd N κ n1) ρ n2) (upd (upd (upd C κ c1) ρ c2) μ c):=by
 refine ⟨fun ν hν => ?_,fun ν π hν hπ hn => ?_⟩
 ·by_cases a:ν = μ
  ·subst a;simp only [upd_same,upd_other _ _ (Ne.symm hρμ),upd_other _ _ (Ne.symm hκμ)];exact hm
  ·by_cases b:ν = ρ
   ·subst b;simp only [upd_same,upd_other _ _ a];exact h2
   ·by_cases d:ν = κ
    ·subst d;simp only [upd_same,upd_other _ _ a,upd_other _ _ b];exact h1
    ·simp only [upd_other _ _ a,upd_other _ _ b,upd_other _ _ d]
     exact (h.own ν hν).kept fun k hk2 => hk k (h.lt hν hk2).2 fun e => h.ap ν μ hν hμ a g (by rw [hk2,e]) hg
 ·have old1:∀ {σ:Nat},σ < 20 → Apart (V σ) v1:=fun hσ k hk1 hk2 => by have:=(h.lt hσ hk1).2;have:=e1 k hk2;omega
  have old2:∀ {σ:Nat},σ < 20 → Apart (V σ) v2:=fun hσ k hk1 hk2 => by have:=(h.lt hσ hk1).2;have:=e2 k hk2;omega
  by_cases b:ν = ρ
  ·subst b
   simp only [upd_same,upd_other _ _ (Ne.symm hn)]
   by_cases d:π = κ
   ·subst d;simp only [upd_same];exact ap.symm
   ·simp only [upd_other _ _ d];exact (old2 hπ).symm
  ·simp only [upd_other _ _ b]
   by_cases b2:π = ρ
   ·subst b2
    simp only [upd_same]
    by_cases d:ν = κ
    ·subst d;simp only [upd_same];exact ap
    ·simp only [upd_other _ _ d];exact old2 hν
   ·simp only [upd_other _ _ b2]
    by_cases d:ν = κ
    ·subst d;simp only [upd_same,upd_other _ _ (Ne.symm hn)];exact (old1 hπ).symm
    ·simp only [upd_other _ _ d]
     by_cases d2:π = κ
     ·subst d2;simp only [upd_same];exact old1 hν
     ·simp only [upd_other _ _ d2];exact h.ap ν π hν hπ hn
theorem elem_CycPort:Elem 35 49 4 64:=elem_of Tryz.underlying35 (z:=(.agg #[.int .i64 0,.slice none 0 0,.slice none 0 0,.int .i64 0])) (by kernel_rfl) rfl (by omega)
set_option maxHeartbeats 1000000 in
theorem sClone_CycPort {α:Type} (f:α → List Value) (hf:∀ x,(f x).length = 4) (h1:∀ x,∀ u ∈ f x,u.oneCell' = true) (v:Value) (ys:List α) (B:Nat) (w:World) (ha:Arr w B 4 v (ys.map f)) (hlen:ys.length * 64 ≤ 140737488355328) :
  Calls Tryz.prog 128 #[v] w (CloneP f 49 4 ys w):=by
 have ha0:=hid ha
 obtain ⟨ao,cap,rfl,g1,g2,g0,g9,g3⟩:=ha
 simp only [List.length_map] at g1 g2 g0 ⊢
 clear g3
 cases ao with
 | none =>
  obtain rfl:=g9 rfl
  have hy:ys = []:=by
   rcases ys with _ | ⟨y,ys⟩
   ·rfl
   ·simp at g1
  subst hy
  have he:=fun w => Lib.run_eql_slice_nil (P:=Tryz.prog) w 35 49 none 0 0 0 0 Tryz.underlying35
  go_enter Tryz.func128,Tryz.ntmps128
  go_wp2_with fail
  go_ret
  exact ⟨_,rfl,Owns.zero,Below.refl _ _⟩
 | some ad =>
  have he:=fun w => Lib.run_eql_slice_nil (P:=Tryz.prog) w 35 49 (some ad) ys.length cap 0 0 Tryz.underlying35
  clear g9
  go_enter Tryz.func128,Tryz.ntmps128
  go_wp2_with (at_builtin;go_must (refine wpList_cat elem_CycPort f hf h1 _ rfl _ _ rfl w.heap.size _ [] (by rfl) (Owns.lit (Nat.le_refl _)) _ ys (min B w.heap.size) (by rfl) (by have:=(ha0.out).fit (by omega) (by intro r hr;obtain ⟨y,_,rfl⟩:=List.mem_map.1 hr;exact hf y);simp only [List.length_map] at this;exact this.below ((Below.refl _ _).alloc (Nat.min_le_right _ _) _)) (by simpa using hlen) (by simp;omega) (by simp) ?_);intro v' w1 hown1 hb1 _)
  go_ret
  exact ⟨v', rfl,by simpa using hown1,((Below.refl _ _).alloc (Nat.le_refl _) _).trans hb1⟩
set_option maxHeartbeats 1000000 in
theorem sClip_CycPort (a:Option Addr) (n c:Nat) (w:World) (hc:n ≤ c) (hm:c ≤ 9223372036854775807):Calls Tryz.prog 127 #[.slice a n c] w fun e w' => e = .returned (.slice a n n) ∧ w = w':=by
 go_enter Tryz.func127,Tryz.ntmps127
 go_wp2_with fail
 go_ret
 exact ⟨rfl,rfl⟩
set_option maxHeartbeats 1000000 in
theorem clone_CycPort {α:Type} (f:α → List Value) (hf:∀ x,(f x).length = 4) (h1:∀ x,∀ u ∈ f x,u.oneCell' = true) (v:Value) (ys:List α) (B:Nat) (w:World) (ha:Arr w B 4 v (ys.map f)) (hlen:ys.length * 64 ≤ 140737488355328) :
  Calls Tryz.prog 86 #[v] w (CloneP f 49 4 ys w):=by
 go_enter Tryz.func86,Tryz.ntmps86
 go_wp2_with fail
 refine (sClone_CycPort f hf h1 v ys B w ha hlen).mono ?_
 rintro e w1 ⟨u,rfl,hown,hb⟩
 obtain ⟨a,c,rfl,hc1,hc2⟩:=hown.shape
 go_wp2_with fail
 refine (sClip_CycPort a ys.length c _ hc1 hc2).mono ?_
 rintro e w2 ⟨rfl,rfl⟩
 go_wp2_with fail
 go_ret
 exact ⟨_,rfl,hown.clip,hb⟩
theorem elem_CycSlave:Elem 36 62 3 56:=elem_of Tryz.underlying36 (z:=(.agg #[.slice none 0 0,.slice none 0 0,.int .i64 0])) (by kernel_rfl) rfl (by omega)
set_option maxHeartbeats 1000000 in
theorem sClone_CycSlave {α:Type} (f:α → List Value) (hf:∀ x,(f x).length = 3) (h1:∀ x,∀ u ∈ f x,u.oneCell' = true) (v:Value) (ys:List α) (B:Nat) (w:World) (ha:Arr w B 3 v (ys.map f)) (hlen:ys.length * 56 ≤ 140737488355328) :
  Calls Tryz.prog 130 #[v] w (CloneP f 62 3 ys w):=by
 have ha0:=hid ha
 obtain ⟨ao,cap,rfl,g1,g2,g0,g9,g3⟩:=ha
 simp only [List.length_map] at g1 g2 g0 ⊢
 clear g3
 cases ao with
 | none =>
  obtain rfl:=g9 rfl
  have hy:ys = []:=by
   rcases ys with _ | ⟨y,ys⟩
   ·rfl
   ·simp at g1
  subst hy
  have he:=fun w => Lib.run_eql_slice_nil (P:=Tryz.prog) w 36 62 none 0 0 0 0 Tryz.underlying36
  go_enter Tryz.func130,Tryz.ntmps130
  go_wp2_with fail
  go_ret
  exact ⟨_,rfl,Owns.zero,Below.refl _ _⟩
 | some ad =>
  have he:=fun w => Lib.run_eql_slice_nil (P:=Tryz.prog) w 36 62 (some ad) ys.length cap 0 0 Tryz.underlying36
  clear g9
  go_enter Tryz.func130,Tryz.ntmps130
  go_wp2_with (at_builtin;go_must (refine wpList_cat elem_CycSlave f hf h1 _ rfl _ _ rfl w.heap.size _ [] (by rfl) (Owns.lit (Nat.le_refl _)) _ ys (min B w.heap.size) (by rfl) (by have:=(ha0.out).fit (by omega) (by intro r hr;obtain ⟨y,_,rfl⟩:=List.mem_map.1 hr;exact hf y);simp only [List.length_map] at this;exact this.below ((Below.refl _ _).alloc (Nat.min_le_right _ _) _)) (by simpa using hlen) (by simp;omega) (by simp) ?_);intro v' w1 hown1 hb1 _)
  go_ret
  exact ⟨v', rfl,by simpa using hown1,((Below.refl _ _).alloc (Nat.le_refl _) _).trans hb1⟩
set_option maxHeartbeats 1000000 in
theorem sClip_CycSlave (a:Option Addr) (n c:Nat) (w:World) (hc:n ≤ c) (hm:c ≤ 9223372036854775807):Calls Tryz.prog 129 #[.slice a n c] w fun e w' => e = .returned (.slice a n n) ∧ w = w':=by
 go_enter Tryz.func129,Tryz.ntmps129
 go_wp2_with fail
 go_ret
 exact ⟨rfl,rfl⟩
set_option maxHeartbeats 1000000 in
theorem clone_CycSlave {α:Type} (f:α → List Value) (hf:∀ x,(f x).length = 3) (h1:∀ x,∀ u ∈ f x,u.oneCell' = true) (v:Value) (ys:List α) (B:Nat) (w:World) (ha:Arr w B 3 v (ys.map f)) (hlen:ys.length * 56 ≤ 140737488355328) :
  Calls Tryz.prog 87 #[v] w (CloneP f 62 3 ys w):=by
 go_enter Tryz.func87,Tryz.ntmps87
 go_wp2_with fail
 refine (sClone_CycSlave f hf h1 v ys B w ha hlen).mono ?_
 rintro e w1 ⟨u,rfl,hown,hb⟩
 obtain ⟨a,c,rfl,hc1,hc2⟩:=hown.shape
 go_wp2_with fail
 refine (sClip_CycSlave a ys.length c _ hc1 hc2).mono ?_
 rintro e w2 ⟨rfl,rfl⟩
 go_wp2_with fail
 go_ret
 exact ⟨_,rfl,hown.clip,hb⟩
end Go.Proofs.YtenjbhbcacocjaaGreat
