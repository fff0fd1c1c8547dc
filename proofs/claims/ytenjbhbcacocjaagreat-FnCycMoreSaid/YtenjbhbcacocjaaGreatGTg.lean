/- A cycle: whether one who asks may be let in at a store. -/
import Derived.Test.YtenjbhbcacocjaaGreatGAm
import Derived.Test.YtenjbhbcacocjaaGreatGQ1
import Derived.Test.YtenjbhbcacocjaaGreatGCat
import Derived.Test.YtenjbhbcacocjaaGreatGMx
import Derived.Test.YtenjbhbcacocjaaGreatGDr3
set_option linter.unusedVariables false
set_option linter.unusedSimpArgs false
namespace Go.Proofs.YtenjbhbcacocjaaGreat
open Go.RowKit
theorem strict_of {l:List TJ} (h:l.Pairwise kLe) (hn:(l.map kOf).Nodup):∀ i,i + 1 < l.length → kLt (l.getD i default) (l.getD (i + 1) default) = true:=by
 intro i hi
 rw [List.pairwise_iff_getElem] at h
 have h1:=h i (i + 1) (by omega) hi (by omega)
 unfold List.Nodup at hn
 rw [List.pairwise_map,List.pairwise_iff_getElem] at hn
 have h2:=hn i (i + 1) (by omega) hi (by omega)
 have e1:l.getD i default = l[i]:=by simp [List.getD,show i < l.length by omega]
 have e2:l.getD (i + 1) default = l[i + 1]:=by simp [List.getD,hi]
 rw [e1,e2,kLt_iff]
 rcases h1 with h1 | ⟨h1,h3⟩
 ·exact .inl h1
 ·refine .inr ⟨h1,Nat.lt_of_le_of_ne h3 fun e => h2 ?_⟩
  simp only [kOf,h1,e]
theorem nexts_at (st:Cy) {i:Nat} (hi:i < 3):(nexts st 3).getD i 0 = (st.ports i).next:=by
 rcases (show i = 0 ∨ i = 1 ∨ i = 2 by omega) with rfl | rfl | rfl <;> rfl
def three (a b c:List TJ) (k:Nat):List TJ:=if k = 0 then a else if k = 1 then b else c
theorem kAll_perm {st:Cy} {wj dj:List TJ} (hw:wj.Perm (waits st)) (hd:dj.Perm (dones st)):((wj ++ dj ++ st.told).map kOf).Perm (kAll st):=by
 rw [List.map_append,List.map_append]
 unfold kAll
 exact ((waits_keys st ▸ hw.map kOf).append (dones_keys st ▸ hd.map kOf)).append (List.Perm.refl _)
theorem tlG_of {c:Cfg} (hb:Bus c) {st:Cy} (hg:Good c st) {wj dj:List TJ} (hw:wj.Perm (waits st)) (hw2:wj.Pairwise kLe) (hd:dj.Perm (dones st)) (hd2:dj.Pairwise kLe):TlG c (nexts st 3) (three wj dj st.told):=by
 have hp:=kAll_perm hw hd
 have hnd:((wj ++ dj ++ st.told).map kOf).Nodup:=hp.nodup_iff.2 (hg.nodup hb)
 have hlen:(wj ++ dj ++ st.told).length = (st.ports 0).next + (st.ports 1).next + (st.ports 2).next:=by
  rw [← hg.many hb,← hp.length_eq,List.length_map]
 have hmem:∀ k,k < 3 → ∀ j ∈ three wj dj st.told k,kOf j ∈ kAll st:=fun k hk j hj => hp.subset (List.mem_map.2 ⟨j,by
  rcases (show k = 0 ∨ k = 1 ∨ k = 2 by omega) with rfl | rfl | rfl
  ·exact List.mem_append_left _ (List.mem_append_left _ hj)
  ·exact List.mem_append_left _ (List.mem_append_right _ hj)
  ·exact List.mem_append_right _ hj,rfl⟩)
 have hnx:∀ i,i < 3 → (st.ports i).next ≤ 12:=fun i hi => Nat.le_trans (hg.p i hi).nx (hb.twelve hi)
 have n0:=hnx 0 (by omega);have n1:=hnx 1 (by omega);have n2:=hnx 2 (by omega)
 have hall:wj.length + dj.length + st.told.length = (st.ports 0).next + (st.ports 1).next + (st.ports 2).next:=by
  rw [← hlen,List.length_append,List.length_append]
 rw [List.map_append,List.map_append,List.nodup_append,List.nodup_append] at hnd
 refine ⟨rfl,fun i hi => ?_,fun k hk => ?_,?_,fun k hk j hj => ?_,fun j hj => waits_none st j (hw.subset hj),fun k hk hk0 j hj => ?_,?_,fun k hk => ?_⟩
 ·rw [nexts_at st hi];exact (hg.p i hi).nx
 ·rcases (show k = 0 ∨ k = 1 by omega) with rfl | rfl
  ·exact strict_of hw2 hnd.1.1
  ·exact strict_of hd2 hnd.1.2.1
 ·exact hp.nodup_iff.2 (hg.nodup hb)
 ·obtain ⟨h1,h2⟩:=hg.kin hb (hmem k hk j hj)
  exact ⟨h1,by rw [nexts_at st (i:=j.who) h1];exact h2⟩
 ·rcases (show k = 1 ∨ k = 2 by omega) with rfl | rfl
  ·obtain ⟨s,hs,hj2⟩:=dones_mem (hd.subset hj)
   exact (hg.s s hs).dr j hj2
  ·exact (hg.t j hj).2
 ·exact hlen
 ·rcases (show k = 0 ∨ k = 1 ∨ k = 2 by omega) with rfl | rfl | rfl
  ·show wj.length ≤ 100;omega
  ·show dj.length ≤ 100;omega
  ·show st.told.length ≤ 100;omega
theorem tlmAbs_any {c:Cfg} (hbus:Bus c) {w:World} {B:Nat} {u:Value} (hc:BusV w B u c) {st:Cy} (hg:Good c st) {y0 y1 y2 y3 y4 y5:Value} {wj dj:List TJ} (hw:wj.Perm (waits st)) (hw2:wj.Pairwise kLe) (hd:dj.Perm (dones st)) (hd2:dj.Pairwise kLe)
  (h0:Ints w B y0 st.ws) (h1:Ints w B y1 st.hs) (h2:Nats w B y2 (nexts st 3)) (h3:JobsV w B y3 wj) (h4:JobsV w B y4 dj) (h5:JobsV w B y5 st.told) (hB:B ≤ w.heap.size) :
  Calls Tryz.prog 53 #[u,.agg #[y0,y1,y2,y3,y4,y5]] w fun e w' => e = .returned (.bool true) ∧ Below w.heap.size w w' :=
 tlmOk_any hbus hc (Y:=fun k => if k = 0 then y3 else if k = 1 then y4 else y5) h0 h1 h2 (fun k hk => by
  rcases (show k = 0 ∨ k = 1 ∨ k = 2 by omega) with rfl | rfl | rfl
  ·exact h3
  ·exact h4
  ·exact h5) hB hg.atm (tlG_of hbus hg hw hw2 hd hd2)
theorem outs4 (l:List Jb) (h:∀ j ∈ l,j.left < 4):(l.filter (fun j => j.left == 0)).length + (l.filter (fun j => j.left == 1)).length + (l.filter (fun j => j.left == 2)).length + (l.filter (fun j => j.left == 3)).length = l.length:=by
 have:=(filter4 l h).length_eq
 simp only [List.length_append] at this
 exact this
theorem held_len (v:Sv):(keysOf v).length = v.pipe.length + v.done.length:=by
 unfold keysOf;rw [List.length_append,List.length_map,List.length_map];omega
theorem Good.sums {c:Cfg} (hb:Bus c) {st:Cy} (hg:Good c st):(st.ports 0).out.length + (st.ports 1).out.length + (st.ports 2).out.length =
  ((st.slaves 0).pipe.length + (st.slaves 0).done.length) + ((st.slaves 1).pipe.length + (st.slaves 1).done.length) + ((st.slaves 2).pipe.length + (st.slaves 2).done.length) + ((st.slaves 3).pipe.length + (st.slaves 3).done.length):=by
 have hl:∀ s,s < 4 → (st.slaves s).pipe.length + (st.slaves s).done.length = ((st.ports 0).out.filter (fun j => j.left == s)).length + ((st.ports 1).out.filter (fun j => j.left == s)).length + ((st.ports 2).out.filter (fun j => j.left == s)).length:=fun s hs => by
  rw [← held_len,len_of_ns _ (hg.s s hs).w3,hg.link s 0 hs (by omega),hg.link s 1 hs (by omega),hg.link s 2 hs (by omega)]
  simp only [List.length_map]
 have ho:∀ w,w < 3 → ∀ j ∈ (st.ports w).out,j.left < 4:=fun w hw j hj => by
  rw [((hg.p w hw).o j hj).2.1];exact slv_lt4 hb.ms (c.req w j.n)
 rw [hl 0 (by omega),hl 1 (by omega),hl 2 (by omega),hl 3 (by omega),← outs4 _ (ho 0 (by omega)),← outs4 _ (ho 1 (by omega)),← outs4 _ (ho 2 (by omega))]
 omega
theorem BusV.int {w:World} {B:Nat} {v:Value} {c:Cfg} (h:BusV w B v c) (hb:Bus c):BusI w B v c.ms (c.lat.map fun (n:Nat) => (n:Int)) c.progs:=by
 obtain ⟨ma,la,pa,mc,lc,pc,Q,e,h1,h2,h3,h4⟩:=h
 refine ⟨_,_,_,e,h1,⟨?_,fun x hx => ?_⟩,?_⟩
 ·rw [List.map_map];exact h2
 ·obtain ⟨n,hn,rfl⟩:=List.mem_map.1 hx
  have:=hb.lat3 n hn
  constructor <;> omega
 ·refine ⟨(List.range c.progs.length).map Q,?_,by simp,fun k hk d => ?_⟩
  ·rw [List.map_map]
   have:(List.range c.progs.length).map ((fun u:Value => u.cells.toList) ∘ Q) = (List.range c.progs.length).map fun i => [Q i]:=List.map_congr_left fun i hi => by
    obtain ⟨ao,cap,e,_⟩:=(h4 i (List.mem_range.1 hi)).opened
    simp only [Function.comp,e]
    rfl
   rw [this];exact h3
  ·have h:=h4 k hk
   have e1:((List.range c.progs.length).map Q).getD k undef = Q k:=by simp [List.getD,hk]
   have e2:c.progs.getD k d = c.prog k:=by unfold Cfg.prog;simp [List.getD,hk]
   rw [e1,e2];exact h
theorem busOk_yes {c:Cfg} (hb:Bus c):busOk c.ms (c.lat.map fun (n:Nat) => (n:Int)) c.progs = true:=by
 unfold busOk
 simp only [Bool.and_eq_true,decide_eq_true_eq,List.all_eq_true,List.length_map]
 refine ⟨⟨⟨⟨hb.ms,hb.lat⟩,fun x hx => ?_⟩,hb.progs⟩,fun p hp => ?_⟩
 ·obtain ⟨n,hn,rfl⟩:=List.mem_map.1 hx
  have:=hb.lat3 n hn
  simp [inB];omega
 ·simp only [progOk,Bool.and_eq_true,decide_eq_true_eq,List.all_eq_true]
  exact ⟨hb.most p hp,hb.reqs p hp⟩
theorem busOk_good {c:Cfg} (hb:Bus c) {w:World} {B:Nat} {v:Value} (h:BusV w B v c) (hB:B ≤ w.heap.size):Calls Tryz.prog 26 #[v] w fun e w' => e = .returned (.bool true) ∧ Below w.heap.size w w':=by
 have:=implBusOk_any v _ _ _ B w (h.int hb) hB
 rw [busOk_yes hb] at this;exact this
theorem wpOp_skip {P:Program} {ops:Array Oper} {Q:Exit → Act → World → Prop} {i:Nat} {o:Oper} {K:Act → World → Prop} {a:Act} {w:World} (ho:ops[i]? = some o) (hw:Region.wanted o (yielded ops a.tmps) = false) (h:K (a.put o.dst undef) w):wpOp P ops Q i K a w:=by
 unfold wpOp
 simp only [ho]
 rw [if_neg (by simp [hw])]
 exact h
def myA (jv:Value) (g1 g2 g3 g4 G:Nat) (u6 u7 u8 u9 u10 u11 u12 u13 u14 u15 u16 u17 u18 u19:Value):Act:={ tmps:=#[jv,.pointer (some ⟨g1,0,none⟩),.pointer (some ⟨g2,0,none⟩),.pointer (some ⟨g3,0,none⟩),.pointer (some ⟨g4,0,none⟩),.pointer (some ⟨G,0,none⟩),u6,u7,u8,u9,u10,u11,u12,u13,u14,u15,u16,u17,u18,u19],defers:=[] }
def myI (jv:Value) (g1 g2 g3 g4 G:Nat) (ma:Option Addr) (mn mk lb lo lc pb po pc who n:Nat) (id y:Int) (wq:World) (listed:Array Bool) (a:Act) (w':World):Prop :=
 ∃ u6 u7 u8 u9 u10 u11 u12 u13 u14 u15 u16 u17 u18 u19:Value,a = myA jv g1 g2 g3 g4 G u6 u7 u8 u9 u10 u11 u12 u13 u14 u15 u16 u17 u18 u19 ∧
   (listed.getD 0 false = true → u7 = .agg #[.slice ma mn mk,.slice (some ⟨lb,lo,none⟩) 4 lc,.slice (some ⟨pb,po,none⟩) 3 pc]) ∧
   (listed.getD 1 false = true → u8 = .int .i64 who) ∧
   (listed.getD 2 false = true → u9 = .pointer (some ⟨G,1,none⟩)) ∧
   (listed.getD 3 false = true → u10 = .int .i64 n) ∧
   (listed.getD 4 false = true → u11 = .int .i64 y) ∧
   (listed.getD 5 false = true → u12 = .int .i64 id) ∧
   (listed.getD 6 false = true → u13 = .bool false) ∧
   (listed.getD 7 false = true → u14 = .bool false) ∧
   (listed.getD 12 false = true → u19 = .bool false) ∧
   (listed.getD 13 false = true → u6 = .bool false) ∧
   Below wq.heap.size wq w'
set_option maxRecDepth 100000 in
set_option maxHeartbeats 8000000 in
theorem mayTestF_any {c:Cfg} (hbus:Bus c) {w w0:World} {B:Nat} {ma:Option Addr} {mn mk lb lo lc pb po pc:Nat} {Q:Nat → Option Addr} {K:Nat → Nat} (HO:BusO w0 B c ma mn mk lb lo lc pb po pc Q K) (HB0:Below w.heap.size w w0) (hBw:B ≤ w0.heap.size) {who s:Nat} {id y:Int} {j:Jb} {g1 g2 g3 g4:Nat}
  (hj:w0.heap[w.heap.size]? = some (.cells #[.int .i64 j.who,.int .i64 j.n,.int .i64 j.left] 64 (0,0)))
  (x0:w0.cell? ⟨g1,0,none⟩ = some (.slice ma mn mk)) (x1:w0.cell? ⟨g1,1,none⟩ = some (.slice (some ⟨lb,lo,none⟩) 4 lc)) (x2:w0.cell? ⟨g1,2,none⟩ = some (.slice (some ⟨pb,po,none⟩) 3 pc)) (x3:g1 < w0.heap.size)
  (y0:w0.cell? ⟨g2,0,none⟩ = some (.int .i64 who)) (y1:g2 < w0.heap.size) (z0:w0.cell? ⟨g3,0,none⟩ = some (.int .i64 id)) (z1:g3 < w0.heap.size)
  (hwi:who < 3) (hni:j.n < (c.prog who).length) (hy:y = c.id who j.n) (he1:(y == id) = false) (HM:Hid (mayB c who s id j = false))
  (hw0:w0 = w.alloc (.cells #[.int .i64 j.who,.int .i64 j.n,.int .i64 j.left] 64)) :
  Calls Tryz.prog 161 #[.agg #[.int .i64 j.who,.int .i64 j.n,.int .i64 j.left],.pointer (some ⟨g1,0,none⟩),.pointer (some ⟨g2,0,none⟩),.pointer (some ⟨g3,0,none⟩),.pointer (some ⟨g4,0,none⟩)] w fun e w' => e = .returned (.bool (mayB c who s id j)) ∧ Below w.heap.size w w':=by
 have HY:=hid hy;have HE:=hid he1
 have hG:w.heap.size < w0.heap.size:=heap_lt' hj
 have j1:w0.cell? ⟨w.heap.size,1,none⟩ = some (.int .i64 j.n):=by simp [World.cell?,hj]
 clear hy he1 hj
 go_enter Tryz.func161,Tryz.ntmps161
 go_upto_region 1 with fail
 rw [← hw0]
 clear hw0
 generalize hg:w.heap.size = G at hG j1
 have hgs:G ≤ w.heap.size:=Nat.le_of_eq hg.symm
 have HGS:=hid hg
 clear hg
 refine wp_region_inv3 (myI (.agg #[.int .i64 j.who,.int .i64 j.n,.int .i64 j.left]) g1 g2 g3 g4 G ma mn mk lb lo lc pb po pc who j.n id y w0) (by kernel_rfl) (by kernel_rfl) ?_ ?_ ?_
 ·exact ⟨_,_,_,_,_,_,_,_,_,_,_,_,_,_,rfl,(fun h => absurd h (by rw [getD_replicate_false];simp)),(fun h => absurd h (by rw [getD_replicate_false];simp)),(fun h => absurd h (by rw [getD_replicate_false];simp)),(fun h => absurd h (by rw [getD_replicate_false];simp)),(fun h => absurd h (by rw [getD_replicate_false];simp)),(fun h => absurd h (by rw [getD_replicate_false];simp)),(fun h => absurd h (by rw [getD_replicate_false];simp)),(fun h => absurd h (by rw [getD_replicate_false];simp)),(fun h => absurd h (by rw [getD_replicate_false];simp)),(fun h => absurd h (by rw [getD_replicate_false];simp)),(Below.refl _ _).drew⟩
 ·intro listed a w' i o hI hsz ho hl he hcl
  have hi:i < 14:=(Array.getElem?_eq_some_iff.1 ho).1
  have e:i = 0 ∨ i = 1 ∨ i = 2 ∨ i = 3 ∨ i = 4 ∨ i = 5 ∨ i = 6 ∨ i = 7 ∨ i = 8 ∨ i = 9 ∨ i = 10 ∨ i = 11 ∨ i = 12 ∨ i = 13:=by omega
  clear hi
  rcases e with rfl | rfl | rfl | rfl | rfl | rfl | rfl | rfl | rfl | rfl | rfl | rfl | rfl | rfl
  all_goals (have ho2:=ho;obtain rfl:=Option.some.inj ho2.symm;clear ho2)
  ·as_aux_lemma =>
    obtain ⟨u6,u7,u8,u9,u10,u11,u12,u13,u14,u15,u16,u17,u18,u19,rfl,F0,F1,F2,F3,F4,F5,F6,F7,F12,F13,hx⟩:=hI
    have q0:=(hx.cell (p:=⟨g1,0,none⟩) x3).trans x0
    have q1:=(hx.cell (p:=⟨g1,1,none⟩) x3).trans x1
    have q2:=(hx.cell (p:=⟨g1,2,none⟩) x3).trans x2
    refine wpOp_stepy ho rfl (fun K hK => ?_)
    unfold myA
    go_simp
    exact hK _ _ ⟨_,_,_,_,_,_,_,_,_,_,_,_,_,_,rfl,fun _ => rfl,cy F1 rfl,cy F2 rfl,cy F3 rfl,cy F4 rfl,cy F5 rfl,cy F6 rfl,cy F7 rfl,cy F12 rfl,cy F13 rfl,hx⟩
  ·as_aux_lemma =>
    obtain ⟨u6,u7,u8,u9,u10,u11,u12,u13,u14,u15,u16,u17,u18,u19,rfl,F0,F1,F2,F3,F4,F5,F6,F7,F12,F13,hx⟩:=hI
    have q0:=(hx.cell (p:=⟨g2,0,none⟩) y1).trans y0
    refine wpOp_stepy ho rfl (fun K hK => ?_)
    unfold myA
    go_simp
    exact hK _ _ ⟨_,_,_,_,_,_,_,_,_,_,_,_,_,_,rfl,cy F0 rfl,fun _ => rfl,cy F2 rfl,cy F3 rfl,cy F4 rfl,cy F5 rfl,cy F6 rfl,cy F7 rfl,cy F12 rfl,cy F13 rfl,hx⟩
  ·as_aux_lemma =>
    obtain ⟨u6,u7,u8,u9,u10,u11,u12,u13,u14,u15,u16,u17,u18,u19,rfl,F0,F1,F2,F3,F4,F5,F6,F7,F12,F13,hx⟩:=hI
    refine wpOp_stepy ho rfl (fun K hK => ?_)
    unfold myA
    go_simp
    exact hK _ _ ⟨_,_,_,_,_,_,_,_,_,_,_,_,_,_,rfl,cy F0 rfl,cy F1 rfl,fun _ => rfl,cy F3 rfl,cy F4 rfl,cy F5 rfl,cy F6 rfl,cy F7 rfl,cy F12 rfl,cy F13 rfl,hx⟩
  ·as_aux_lemma =>
    obtain ⟨u6,u7,u8,u9,u10,u11,u12,u13,u14,u15,u16,u17,u18,u19,rfl,F0,F1,F2,F3,F4,F5,F6,F7,F12,F13,hx⟩:=hI
    have l2:=he ⟨2,.data⟩ (by simp) rfl
    have e:=F2 l2;subst e
    have q0:=(hx.cell (p:=⟨G,1,none⟩) hG).trans j1
    refine wpOp_stepy ho rfl (fun K hK => ?_)
    unfold myA
    go_simp
    exact hK _ _ ⟨_,_,_,_,_,_,_,_,_,_,_,_,_,_,rfl,cy F0 rfl,cy F1 rfl,cy F2 rfl,fun _ => rfl,cy F4 rfl,cy F5 rfl,cy F6 rfl,cy F7 rfl,cy F12 rfl,cy F13 rfl,hx⟩
  ·as_aux_lemma =>
    obtain ⟨u6,u7,u8,u9,u10,u11,u12,u13,u14,u15,u16,u17,u18,u19,rfl,F0,F1,F2,F3,F4,F5,F6,F7,F12,F13,hx⟩:=hI
    have l0:=he ⟨0,.data⟩ (by simp) rfl
    have l1:=he ⟨1,.data⟩ (by simp) rfl
    have l3:=he ⟨3,.data⟩ (by simp) rfl
    have e:=F0 l0;subst e
    have e:=F1 l1;subst e
    have e:=F3 l3;subst e
    refine wpOp_stepy ho rfl (fun K hK => ?_)
    unfold myA
    go_simp
    (with_reducible refine (id_any hbus (B:=B) (HO.below (hx.mono hBw)) (Nat.le_trans hBw hx.size) hwi hni).mono ?_)
    rw [← HY.out]
    rintro e w'' ⟨rfl,hb1⟩
    go_wp2_with fail
    exact ⟨_,_,_,_,_,_,_,_,_,_,_,_,_,_,rfl,fun _ => rfl,fun _ => rfl,cy F2 rfl,fun _ => rfl,fun _ => rfl,cy F5 rfl,cy F6 rfl,cy F7 rfl,cy F12 rfl,cy F13 rfl,hx.trans (hb1.mono hx.size)⟩
  ·as_aux_lemma =>
    obtain ⟨u6,u7,u8,u9,u10,u11,u12,u13,u14,u15,u16,u17,u18,u19,rfl,F0,F1,F2,F3,F4,F5,F6,F7,F12,F13,hx⟩:=hI
    have q0:=(hx.cell (p:=⟨g3,0,none⟩) z1).trans z0
    refine wpOp_stepy ho rfl (fun K hK => ?_)
    unfold myA
    go_simp
    exact hK _ _ ⟨_,_,_,_,_,_,_,_,_,_,_,_,_,_,rfl,cy F0 rfl,cy F1 rfl,cy F2 rfl,cy F3 rfl,cy F4 rfl,fun _ => rfl,cy F6 rfl,cy F7 rfl,cy F12 rfl,cy F13 rfl,hx⟩
  ·as_aux_lemma =>
    obtain ⟨u6,u7,u8,u9,u10,u11,u12,u13,u14,u15,u16,u17,u18,u19,rfl,F0,F1,F2,F3,F4,F5,F6,F7,F12,F13,hx⟩:=hI
    have l4:=he ⟨4,.data⟩ (by simp) rfl
    have l5:=he ⟨5,.data⟩ (by simp) rfl
    have e:=F4 l4;subst e
    have e:=F5 l5;subst e
    have e1:=HE.out
    refine wpOp_stepy ho rfl (fun K hK => ?_)
    unfold myA
    go_simp
    exact hK _ _ ⟨_,_,_,_,_,_,_,_,_,_,_,_,_,_,rfl,cy F0 rfl,cy F1 rfl,cy F2 rfl,cy F3 rfl,cy F4 rfl,cy F5 rfl,fun _ => (by first | rfl | rw [e1]),cy F7 rfl,cy F12 rfl,cy F13 rfl,hx⟩
  ·as_aux_lemma =>
    obtain ⟨u6,u7,u8,u9,u10,u11,u12,u13,u14,u15,u16,u17,u18,u19,rfl,F0,F1,F2,F3,F4,F5,F6,F7,F12,F13,hx⟩:=hI
    have l6:=he ⟨6,.data⟩ (by simp) rfl
    have e:=F6 l6;subst e
    refine wpOp_stepy ho rfl (fun K hK => ?_)
    unfold myA
    go_simp
    exact hK _ _ ⟨_,_,_,_,_,_,_,_,_,_,_,_,_,_,rfl,cy F0 rfl,cy F1 rfl,cy F2 rfl,cy F3 rfl,cy F4 rfl,cy F5 rfl,cy F6 rfl,fun _ => rfl,cy F12 rfl,cy F13 rfl,hx⟩
  ·as_aux_lemma =>
    obtain ⟨u6,u7,u8,u9,u10,u11,u12,u13,u14,u15,u16,u17,u18,u19,rfl,F0,F1,F2,F3,F4,F5,F6,F7,F12,F13,hx⟩:=hI
    have l7:=he ⟨7,.guard⟩ (by simp) rfl
    have e:=F7 l7;subst e
    refine wpOp_skip ho rfl ?_
    exact ⟨_,_,_,_,_,_,_,_,_,_,_,_,_,_,rfl,cy F0 rfl,cy F1 rfl,cy F2 rfl,cy F3 rfl,cy F4 rfl,cy F5 rfl,cy F6 rfl,cy F7 rfl,cy F12 rfl,cy F13 rfl,hx⟩
  ·as_aux_lemma =>
    obtain ⟨u6,u7,u8,u9,u10,u11,u12,u13,u14,u15,u16,u17,u18,u19,rfl,F0,F1,F2,F3,F4,F5,F6,F7,F12,F13,hx⟩:=hI
    have l7:=he ⟨7,.guard⟩ (by simp) rfl
    have e:=F7 l7;subst e
    refine wpOp_skip ho rfl ?_
    exact ⟨_,_,_,_,_,_,_,_,_,_,_,_,_,_,rfl,cy F0 rfl,cy F1 rfl,cy F2 rfl,cy F3 rfl,cy F4 rfl,cy F5 rfl,cy F6 rfl,cy F7 rfl,cy F12 rfl,cy F13 rfl,hx⟩
  ·as_aux_lemma =>
    obtain ⟨u6,u7,u8,u9,u10,u11,u12,u13,u14,u15,u16,u17,u18,u19,rfl,F0,F1,F2,F3,F4,F5,F6,F7,F12,F13,hx⟩:=hI
    have l7:=he ⟨7,.guard⟩ (by simp) rfl
    have e:=F7 l7;subst e
    refine wpOp_skip ho rfl ?_
    exact ⟨_,_,_,_,_,_,_,_,_,_,_,_,_,_,rfl,cy F0 rfl,cy F1 rfl,cy F2 rfl,cy F3 rfl,cy F4 rfl,cy F5 rfl,cy F6 rfl,cy F7 rfl,cy F12 rfl,cy F13 rfl,hx⟩
  ·as_aux_lemma =>
    obtain ⟨u6,u7,u8,u9,u10,u11,u12,u13,u14,u15,u16,u17,u18,u19,rfl,F0,F1,F2,F3,F4,F5,F6,F7,F12,F13,hx⟩:=hI
    have l7:=he ⟨7,.guard⟩ (by simp) rfl
    have e:=F7 l7;subst e
    refine wpOp_skip ho rfl ?_
    exact ⟨_,_,_,_,_,_,_,_,_,_,_,_,_,_,rfl,cy F0 rfl,cy F1 rfl,cy F2 rfl,cy F3 rfl,cy F4 rfl,cy F5 rfl,cy F6 rfl,cy F7 rfl,cy F12 rfl,cy F13 rfl,hx⟩
  ·as_aux_lemma =>
    obtain ⟨u6,u7,u8,u9,u10,u11,u12,u13,u14,u15,u16,u17,u18,u19,rfl,F0,F1,F2,F3,F4,F5,F6,F7,F12,F13,hx⟩:=hI
    have l7:=he ⟨7,.data⟩ (by simp) rfl
    have e:=F7 l7;subst e
    refine wpOp_stepy ho rfl (fun K hK => ?_)
    unfold myA
    go_simp
    exact hK _ _ ⟨_,_,_,_,_,_,_,_,_,_,_,_,_,_,rfl,cy F0 rfl,cy F1 rfl,cy F2 rfl,cy F3 rfl,cy F4 rfl,cy F5 rfl,cy F6 rfl,cy F7 rfl,fun _ => rfl,cy F13 rfl,hx⟩
  ·as_aux_lemma =>
    obtain ⟨u6,u7,u8,u9,u10,u11,u12,u13,u14,u15,u16,u17,u18,u19,rfl,F0,F1,F2,F3,F4,F5,F6,F7,F12,F13,hx⟩:=hI
    have l12:=he ⟨12,.data⟩ (by simp) rfl
    have e:=F12 l12;subst e
    refine wpOp_stepy ho rfl (fun K hK => ?_)
    unfold myA
    go_simp
    exact hK _ _ ⟨_,_,_,_,_,_,_,_,_,_,_,_,_,_,rfl,cy F0 rfl,cy F1 rfl,cy F2 rfl,cy F3 rfl,cy F4 rfl,cy F5 rfl,cy F6 rfl,cy F7 rfl,cy F12 rfl,fun _ => rfl,hx⟩
 ·intro listed a w' hI hd
  obtain ⟨u6,u7,u8,u9,u10,u11,u12,u13,u14,u15,u16,u17,u18,u19,rfl,F0,F1,F2,F3,F4,F5,F6,F7,F12,F13,hx⟩:=hI
  have e6:=F13 (hd 13 (by show 13 < 14;omega))
  clear F0 F1 F2 F3 F4 F5 F6 F7 F12 F13 hd
  subst e6
  unfold myA
  have HX:=hid hx
  clear hx
  go_wp2_with fail
  go_ret
  exact ⟨by rw [HM.out];rfl,HB0.trans (HX.out.mono HB0.size)⟩
set_option maxHeartbeats 4000000 in
theorem mayTest_any {c:Cfg} (hbus:Bus c) {w:World} {B:Nat} {ma:Option Addr} {mn mk lb lo lc pb po pc:Nat} {Q:Nat → Option Addr} {K:Nat → Nat} (h:BusO w B c ma mn mk lb lo lc pb po pc Q K) (hB:B ≤ w.heap.size) {who s:Nat} {id:Int} {j:Jb} (hw:who < 3) (hn:j.n < (c.prog who).length)
  {g1 g2 g3 g4:Nat} (b1:BusB w g1 ma mn mk lb lo lc pb po pc) (b2:IntB w g2 who) (b3:IntB w g3 id) (b4:IntB w g4 s) :
  Calls Tryz.prog 161 #[.agg #[.int .i64 j.who,.int .i64 j.n,.int .i64 j.left],.pointer (some ⟨g1,0,none⟩),.pointer (some ⟨g2,0,none⟩),.pointer (some ⟨g3,0,none⟩),.pointer (some ⟨g4,0,none⟩)] w fun e w' => e = .returned (.bool (mayB c who s id j)) ∧ Below w.heap.size w w':=by
 obtain ⟨w0,hw0⟩:∃ W,W = w.alloc (.cells #[.int .i64 j.who,.int .i64 j.n,.int .i64 j.left] 64):=⟨_,rfl⟩
 have hb0:Below w.heap.size w w0:=by rw [hw0];exact (Below.refl _ _).alloc (Nat.le_refl _) _
 have hj:w0.heap[w.heap.size]? = some (.cells #[.int .i64 j.who,.int .i64 j.n,.int .i64 j.left] 64 (0,0)):=by rw [hw0];exact alloc_at _ _ rfl
 have hz0:w.heap.size < w0.heap.size:=heap_lt' hj
 have HO:=hid (h.below (hb0.mono hB))
 have B1:=hid (b1.below hb0 (heap_lt' b1));have B2:=hid (b2.below hb0 (heap_lt' b2));have B3:=hid (b3.below hb0 (heap_lt' b3));have B4:=hid (b4.below hb0 (heap_lt' b4))
 obtain ⟨x0,x1,x2,x3⟩:=B1.out.cells
 obtain ⟨y0,y1⟩:=B2.out.cells
 obtain ⟨z0,z1⟩:=B3.out.cells
 obtain ⟨u0,u1⟩:=B4.out.cells
 obtain ⟨j0,j1,j2⟩:w0.cell? ⟨w.heap.size,0,none⟩ = some (.int .i64 j.who) ∧ w0.cell? ⟨w.heap.size,1,none⟩ = some (.int .i64 j.n) ∧ w0.cell? ⟨w.heap.size,2,none⟩ = some (.int .i64 j.left):=by refine ⟨?_,?_,?_⟩ <;> simp [World.cell?,hj]
 have HB0:=hid hb0;have HBZ:=hid hB;have HJ:=hid hj
 obtain ⟨y,hy⟩:∃ y,y = c.id who j.n:=⟨_,rfl⟩
 have HY:=hid hy
 have hwi:=hid hw;have hni:=hid hn
 by_cases hq:y = id
 ·have e1:(y == id) = true:=by simpa using hq
  have HM:=hid (show mayB c who s id j = (j.left != s) by unfold mayB;rw [← hy,e1];rfl)
  have e2:((j.left:Int) != (s:Int)) = (j.left != s):=by rw [Bool.eq_iff_iff];simp only [bne_iff_ne];omega
  clear hy hq hj hb0
  go_enter Tryz.func161,Tryz.ntmps161
  go_upto_region 1 with fail
  rw [← hw0]
  clear hw0
  go_region_held3 (fun w' => (w'.cell? ⟨g1,0,none⟩ = some (.slice ma mn mk) ∧ w'.cell? ⟨g1,1,none⟩ = some (.slice (some ⟨lb,lo,none⟩) 4 lc) ∧ w'.cell? ⟨g1,2,none⟩ = some (.slice (some ⟨pb,po,none⟩) 3 pc)) ∧ w'.cell? ⟨g2,0,none⟩ = some (.int .i64 who) ∧ w'.cell? ⟨g3,0,none⟩ = some (.int .i64 id) ∧ w'.cell? ⟨g4,0,none⟩ = some (.int .i64 s) ∧ w'.cell? ⟨w.heap.size,1,none⟩ = some (.int .i64 j.n) ∧ w'.cell? ⟨w.heap.size,2,none⟩ = some (.int .i64 j.left))
   (first | exact s6 | go_keep)
   (first
    | (go_at_call 97;(with_reducible refine (id_any hbus (B:=B) (HO.out.below (Below.refl _ _).drew) (le_drew' (Nat.le_trans HBZ.out HB0.out.size)) hwi.out hni.out).mono ?_);rw [← HY.out];rintro e w5 ⟨rfl,hb5⟩;have hb5':=(show Below w0.heap.size w0 w0.drew from (Below.refl _ _).drew).trans hb5;have HB5:=hid hb5';have s6:=And.intro (And.intro ((hb5'.cell (p:=⟨g1,_,none⟩) x3).trans x0) (And.intro ((hb5'.cell (p:=⟨g1,_,none⟩) x3).trans x1) ((hb5'.cell (p:=⟨g1,_,none⟩) x3).trans x2))) (And.intro ((hb5'.cell (p:=⟨g2,_,none⟩) y1).trans y0) (And.intro ((hb5'.cell (p:=⟨g3,_,none⟩) z1).trans z0) (And.intro ((hb5'.cell (p:=⟨g4,_,none⟩) u1).trans u0) (And.intro ((hb5'.cell (p:=⟨w.heap.size,_,none⟩) hz0).trans j1) ((hb5'.cell (p:=⟨w.heap.size,_,none⟩) hz0).trans j2)))));clear hb5 hb5'))
  go_wp2_with fail
  go_ret
  exact ⟨by rw [HM.out];rfl,HB0.out.trans (HB5.out.mono HB0.out.size)⟩
 ·have e1:(y == id) = false:=by simpa using hq
  have HM:=hid (show mayB c who s id j = false by unfold mayB;rw [← hy,e1];rfl)
  exact mayTestF_any hbus HO.out HB0.out (Nat.le_trans hB hb0.size) HJ.out x0 x1 x2 x3 y0 y1 z0 z1 hwi.out hni.out hy e1 HM hw0
end Go.Proofs.YtenjbhbcacocjaaGreat
