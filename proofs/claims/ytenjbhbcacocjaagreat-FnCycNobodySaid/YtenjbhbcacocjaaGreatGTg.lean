/- BusOk of a bus that stands as it may. -/
import Derived.Test.YtenjbhbcacocjaaGreatGTk
import Derived.Test.YtenjbhbcacocjaaGreatGAb0
import Derived.Test.YtenjbhbcacocjaaGreatGClInt
import Derived.Test.YtenjbhbcacocjaaGreatGFind
import Derived.Test.YtenjbhbcacocjaaGreatGXt
import Derived.Test.YtenjbhbcacocjaaGreatGDl
import Derived.BigGuardPart
set_option linter.unusedVariables false
set_option linter.unusedSimpArgs false
namespace Go.Proofs.YtenjbhbcacocjaaGreat
open Go.RowKit
theorem strict_of {l:List TJ} (h:l.Pairwise kLe) (hn:(l.map kOf).Nodup):∀ i,i + 1 < l.length → kLt (l.getD i default) (l.getD (i + 1) default) = true:=by
 intro i hi
 rw [List.pairwise_iff_getElem] at h
 have h1:=h i (i + 1) (by omega) hi (by omega)
 unfold List.Nodup at hn
 rw [List.pairwise_map,List.pairwise_iff_getElem] at hn
 have h2:=hn i (i + 1) (by omega) hi (by omega)
 have e1:l.getD i default = l[i]:=by simp [List.getD,show i < l.length by omega]
 have e2:l.getD (i + 1) default = l[i + 1]:=by simp [List.getD,hi]
 rw [e1,e2,kLt_iff]
 rcases h1 with h1 | ⟨h1,h3⟩
 ·exact .inl h1
 ·refine .inr ⟨h1,Nat.lt_of_le_of_ne h3 fun e => h2 ?_⟩
  simp only [kOf,h1,e]
theorem nexts_at (st:Cy) {i:Nat} (hi:i < 3):(nexts st 3).getD i 0 = (st.ports i).next:=by
 rcases (show i = 0 ∨ i = 1 ∨ i = 2 by omega) with rfl | rfl | rfl <;> rfl
def three (a b c:List TJ) (k:Nat):List TJ:=if k = 0 then a else if k = 1 then b else c
theorem kAll_perm {st:Cy} {wj dj:List TJ} (hw:wj.Perm (waits st)) (hd:dj.Perm (dones st)):((wj ++ dj ++ st.told).map kOf).Perm (kAll st):=by
 rw [List.map_append,List.map_append]
 unfold kAll
 exact ((waits_keys st ▸ hw.map kOf).append (dones_keys st ▸ hd.map kOf)).append (List.Perm.refl _)
theorem tlG_of {c:Cfg} (hb:Bus c) {st:Cy} (hg:Good c st) {wj dj:List TJ} (hw:wj.Perm (waits st)) (hw2:wj.Pairwise kLe) (hd:dj.Perm (dones st)) (hd2:dj.Pairwise kLe):TlG c (nexts st 3) (three wj dj st.told):=by
 have hp:=kAll_perm hw hd
 have hnd:((wj ++ dj ++ st.told).map kOf).Nodup:=hp.nodup_iff.2 (hg.nodup hb)
 have hlen:(wj ++ dj ++ st.told).length = (st.ports 0).next + (st.ports 1).next + (st.ports 2).next:=by
  rw [← hg.many hb,← hp.length_eq,List.length_map]
 have hmem:∀ k,k < 3 → ∀ j ∈ three wj dj st.told k,kOf j ∈ kAll st:=fun k hk j hj => hp.subset (List.mem_map.2 ⟨j,by
  rcases (show k = 0 ∨ k = 1 ∨ k = 2 by omega) with rfl | rfl | rfl
  ·exact List.mem_append_left _ (List.mem_append_left _ hj)
  ·exact List.mem_append_left _ (List.mem_append_right _ hj)
  ·exact List.mem_append_right _ hj,rfl⟩)
 have hnx:∀ i,i < 3 → (st.ports i).next ≤ 12:=fun i hi => Nat.le_trans (hg.p i hi).nx (hb.twelve hi)
 have n0:=hnx 0 (by omega);have n1:=hnx 1 (by omega);have n2:=hnx 2 (by omega)
 have hall:wj.length + dj.length + st.told.length = (st.ports 0).next + (st.ports 1).next + (st.ports 2).next:=by
  rw [← hlen,List.length_append,List.length_append]
 rw [List.map_append,List.map_append,List.nodup_append,List.nodup_append] at hnd
 refine ⟨rfl,fun i hi => ?_,fun k hk => ?_,?_,fun k hk j hj => ?_,fun j hj => waits_none st j (hw.subset hj),fun k hk hk0 j hj => ?_,?_,fun k hk => ?_⟩
 ·rw [nexts_at st hi];exact (hg.p i hi).nx
 ·rcases (show k = 0 ∨ k = 1 by omega) with rfl | rfl
  ·exact strict_of hw2 hnd.1.1
  ·exact strict_of hd2 hnd.1.2.1
 ·exact hp.nodup_iff.2 (hg.nodup hb)
 ·obtain ⟨h1,h2⟩:=hg.kin hb (hmem k hk j hj)
  exact ⟨h1,by rw [nexts_at st (i:=j.who) h1];exact h2⟩
 ·rcases (show k = 1 ∨ k = 2 by omega) with rfl | rfl
  ·obtain ⟨s,hs,hj2⟩:=dones_mem (hd.subset hj)
   exact (hg.s s hs).dr j hj2
  ·exact (hg.t j hj).2
 ·exact hlen
 ·rcases (show k = 0 ∨ k = 1 ∨ k = 2 by omega) with rfl | rfl | rfl
  ·show wj.length ≤ 100;omega
  ·show dj.length ≤ 100;omega
  ·show st.told.length ≤ 100;omega
theorem tlmAbs_any {c:Cfg} (hbus:Bus c) {w:World} {B:Nat} {u:Value} (hc:BusV w B u c) {st:Cy} (hg:Good c st) {y0 y1 y2 y3 y4 y5:Value} {wj dj:List TJ} (hw:wj.Perm (waits st)) (hw2:wj.Pairwise kLe) (hd:dj.Perm (dones st)) (hd2:dj.Pairwise kLe)
  (h0:Ints w B y0 st.ws) (h1:Ints w B y1 st.hs) (h2:Nats w B y2 (nexts st 3)) (h3:JobsV w B y3 wj) (h4:JobsV w B y4 dj) (h5:JobsV w B y5 st.told) (hB:B ≤ w.heap.size) :
  Calls Tryz.prog 53 #[u,.agg #[y0,y1,y2,y3,y4,y5]] w fun e w' => e = .returned (.bool true) ∧ Below w.heap.size w w' :=
 tlmOk_any hbus hc (Y:=fun k => if k = 0 then y3 else if k = 1 then y4 else y5) h0 h1 h2 (fun k hk => by
  rcases (show k = 0 ∨ k = 1 ∨ k = 2 by omega) with rfl | rfl | rfl
  ·exact h3
  ·exact h4
  ·exact h5) hB hg.atm (tlG_of hbus hg hw hw2 hd hd2)
theorem outs4 (l:List Jb) (h:∀ j ∈ l,j.left < 4):(l.filter (fun j => j.left == 0)).length + (l.filter (fun j => j.left == 1)).length + (l.filter (fun j => j.left == 2)).length + (l.filter (fun j => j.left == 3)).length = l.length:=by
 have:=(filter4 l h).length_eq
 simp only [List.length_append] at this
 exact this
theorem held_len (v:Sv):(keysOf v).length = v.pipe.length + v.done.length:=by
 unfold keysOf;rw [List.length_append,List.length_map,List.length_map];omega
theorem Good.sums {c:Cfg} (hb:Bus c) {st:Cy} (hg:Good c st):(st.ports 0).out.length + (st.ports 1).out.length + (st.ports 2).out.length =
  ((st.slaves 0).pipe.length + (st.slaves 0).done.length) + ((st.slaves 1).pipe.length + (st.slaves 1).done.length) + ((st.slaves 2).pipe.length + (st.slaves 2).done.length) + ((st.slaves 3).pipe.length + (st.slaves 3).done.length):=by
 have hl:∀ s,s < 4 → (st.slaves s).pipe.length + (st.slaves s).done.length = ((st.ports 0).out.filter (fun j => j.left == s)).length + ((st.ports 1).out.filter (fun j => j.left == s)).length + ((st.ports 2).out.filter (fun j => j.left == s)).length:=fun s hs => by
  rw [← held_len,len_of_ns _ (hg.s s hs).w3,hg.link s 0 hs (by omega),hg.link s 1 hs (by omega),hg.link s 2 hs (by omega)]
  simp only [List.length_map]
 have ho:∀ w,w < 3 → ∀ j ∈ (st.ports w).out,j.left < 4:=fun w hw j hj => by
  rw [((hg.p w hw).o j hj).2.1];exact slv_lt4 hb.ms (c.req w j.n)
 rw [hl 0 (by omega),hl 1 (by omega),hl 2 (by omega),hl 3 (by omega),← outs4 _ (ho 0 (by omega)),← outs4 _ (ho 1 (by omega)),← outs4 _ (ho 2 (by omega))]
 omega
def IdxRP (p:Rq → Bool) (rs:List Rq) (w:World) (e:Ending) (w':World):Prop:=e = .returned (.int .i64 (idxP p rs)) ∧ Below w.heap.size w w'
def HasRP (p:Rq → Bool) (rs:List Rq) (w:World) (e:Ending) (w':World):Prop:=e = .returned (.bool (rs.any p)) ∧ Below w.heap.size w w'
set_option maxHeartbeats 2000000 in
theorem idxReq_any (K:FuncId) (cap:Array Value) (hK:Callable K) (p:Rq → Bool) (v:Value) (rs:List Rq) (B:Nat) (w:World) (hv:Reqs w B v rs) (hB:B ≤ w.heap.size)
  (hf:∀ (r:Rq) (u:Value) (w1:World),Below w.heap.size w w1 → ReqV w1 B u r → Calls Tryz.prog K (#[u] ++ cap) w1 fun e w' => e = .returned (.bool (p r)) ∧ Below w1.heap.size w1 w') :
  Calls Tryz.prog 117 #[v,.func (.func K) #[] cap] w (IdxRP p rs w):=by
 obtain ⟨ao,cap', rfl,hlc,hcap,hln,hni,hr⟩:=hv.opened
 have HF:=hid hf;clear hf hv
 have hK2:=fun args w => hK args w
 go_enter Tryz.func117,Tryz.ntmps117
 go_wp2_with fail
 go_loopw [8] (fun i wr => ∃ k:Nat,k ≤ rs.length ∧ i = .int .i64 k ∧ Below w.heap.size w wr ∧ ∀ j,j < k → p (rs.getD j default) = false) (fun i _ => rs.length - (intOf i).toNat)
 case atStart => exact ⟨0,Nat.zero_le _,rfl,Below.refl _ _,by simp⟩
 case round =>
  obtain ⟨k,hk,rfl,hbl,hno⟩:=hrel
  have HN:=hid hno;clear hno
  by_cases hlt:k < rs.length
  ·obtain ⟨b,off,rfl,hb,hc⟩:=hr (by omega)
   obtain ⟨da,dc,la,lc,hu,c0,c1,c2,c3,c4,c5,c6⟩:=hc k hlt
   obtain ⟨x,hx⟩:∃ x,x = rs.getD k default:=⟨_,rfl⟩
   rw [← hx] at c0 c1 c2 c3 c4 c5 c6 hu
   rw [← hbl.cell (p:=⟨b,_,none⟩) (Nat.lt_of_lt_of_le hb hB)] at c0 c1 c2 c3 c4 c5 c6
   have HX:=hid hx;have HU:=hid (hu.below (hbl.mono hB));clear hx hc hr hu
   go_wp2_with fail
   refine (HF.out x _ _ hbl HU.out).mono ?_
   rintro e w' ⟨rfl,hb'⟩
   have hsz:=hbl.size
   have HB:=hid (hbl.trans (hb'.mono hsz))
   clear hbl
   rcases hp:p x with _ | _
   ·have HQ:=hid (all_step HN.out (show p (rs.getD k default) = false by rw [← HX.out];exact hp))
    go_wp2_with fail
    go_roundw
    case rel => exact ⟨k + 1,by omega,by go_num,HB.out,HQ.out⟩
    case measure => simp [intOf];omega
   ·have HQ:=hid (idxP_hit p rs k default hlt (by rw [← HX.out];exact hp) HN.out)
    go_wp2_with fail
    go_ret
    exact ⟨by rw [HQ.out];rfl,HB.out⟩
  ·have HF2:=hid (idxP_miss p rs default (fun j hj => HN.out j (by omega)))
   go_wp2_with fail
   go_ret
   exact ⟨by rw [HF2.out];rfl,hbl⟩
set_option maxHeartbeats 1000000 in
theorem hasReq_any (K:FuncId) (cap:Array Value) (hK:Callable K) (p:Rq → Bool) (v:Value) (rs:List Rq) (B:Nat) (w:World) (hv:Reqs w B v rs) (hB:B ≤ w.heap.size)
  (hf:∀ (r:Rq) (u:Value) (w1:World),Below w.heap.size w w1 → ReqV w1 B u r → Calls Tryz.prog K (#[u] ++ cap) w1 fun e w' => e = .returned (.bool (p r)) ∧ Below w1.heap.size w1 w') :
  Calls Tryz.prog 69 #[v,.func (.func K) #[] cap] w (HasRP p rs w):=by
 have HA:=hid (idxP_any p rs)
 go_enter Tryz.func69,Tryz.ntmps69
 go_wp2_with fail
 refine (idxReq_any K cap hK p v rs B _ hv hB hf).mono ?_
 rintro e w' ⟨rfl,hb⟩
 go_wp2_with fail
 go_ret
 exact ⟨by rw [← HA.out];rfl,hb⟩
def Progs (w:World) (B:Nat) (v:Value) (pss:List (List Rq)):Prop:=ArrV Reqs w B 1 v pss
theorem Progs.below {w w':World} {B:Nat} {v:Value} {pss:List (List Rq)} (h:Progs w B v pss) (hb:Below B w w'):Progs w' B v pss:=ArrV.below h hb fun _ _ h => h.below hb
theorem Progs.mono {w:World} {B B':Nat} {v:Value} {pss:List (List Rq)} (h:Progs w B v pss) (hb:B ≤ B'):Progs w B' v pss:=ArrV.mono h hb fun _ _ h => h.mono hb
theorem Progs.opened {w:World} {B:Nat} {v:Value} {pss:List (List Rq)} (h:Progs w B v pss) :
  ∃ ao cap,v = .slice ao pss.length cap ∧ pss.length ≤ cap ∧ cap ≤ 9223372036854775807 ∧ pss.length ≤ 140737488351232 ∧ (ao = none → cap = 0) ∧
   (pss.length ≠ 0 → ∃ b off,ao = some ⟨b,off,none⟩ ∧ b < B ∧ ∀ t,t < pss.length → ∃ da dc,Reqs w B (.slice da (pss.getD t []).length dc) (pss.getD t []) ∧ w.cell? ⟨b,off + t,none⟩ = some (.slice da (pss.getD t []).length dc)):=by
 obtain ⟨ao,cap,rfl,h1,h2,h0,h9⟩:=ArrV.shape h
 refine ⟨ao,cap,rfl,h1,h2,h0,h9,fun hn => ?_⟩
 obtain ⟨b,off,ha,hlt,hc⟩:=ArrV.at h hn
 refine ⟨b,off,ha,hlt,fun t ht => ?_⟩
 obtain ⟨u,hu,hcell⟩:=hc t ht
 have hu':=hu []
 obtain ⟨da,dc,rfl,_⟩:=Reqs.opened hu'
 refine ⟨da,dc,hu', ?_⟩
 have:=hcell 0 (by omega)
 simpa [Value.cells] using this
def BusI (w:World) (B:Nat) (v:Value) (ms:List MR) (lat:List Int) (pss:List (List Rq)):Prop:=∃ mv lv pv,v = .agg #[mv,lv,pv] ∧ Maps w B mv ms ∧ Ints w B lv lat ∧ Progs w B pv pss
theorem BusI.below {w w':World} {B:Nat} {v:Value} {ms:List MR} {lat:List Int} {pss:List (List Rq)} (h:BusI w B v ms lat pss) (hb:Below B w w'):BusI w' B v ms lat pss:=by
 obtain ⟨mv,lv,pv,e,h1,h2,h3⟩:=h;exact ⟨mv,lv,pv,e,h1.below hb,h2.below hb,h3.below hb⟩
theorem BusI.mono {w:World} {B B':Nat} {v:Value} {ms:List MR} {lat:List Int} {pss:List (List Rq)} (h:BusI w B v ms lat pss) (hb:B ≤ B'):BusI w B' v ms lat pss:=by
 obtain ⟨mv,lv,pv,e,h1,h2,h3⟩:=h;exact ⟨mv,lv,pv,e,h1.mono hb,h2.mono hb,h3.mono hb⟩
def progOk (p:List Rq):Bool:=decide (p.length ≤ 12) && p.all reqOk
def busOk (ms:List MR) (lat:List Int) (pss:List (List Rq)):Bool:=mapOk ms && decide (lat.length = 4) && lat.all (inB · 0 3) && decide (pss.length = 3) && pss.all progOk
def IdxPP (p:List Rq → Bool) (rs:List (List Rq)) (w:World) (e:Ending) (w':World):Prop:=e = .returned (.int .i64 (idxP p rs)) ∧ Below w.heap.size w w'
def HasPP (p:List Rq → Bool) (rs:List (List Rq)) (w:World) (e:Ending) (w':World):Prop:=e = .returned (.bool (rs.any p)) ∧ Below w.heap.size w w'
set_option maxHeartbeats 1000000 in
theorem idxProg_any (K:FuncId) (cap:Array Value) (hK:Callable K) (p:List Rq → Bool) (v:Value) (rs:List (List Rq)) (B:Nat) (w:World) (hv:Progs w B v rs) (hB:B ≤ w.heap.size)
  (hf:∀ (r:List Rq) (u:Value) (w1:World),Below w.heap.size w w1 → Reqs w1 B u r → Calls Tryz.prog K (#[u] ++ cap) w1 fun e w' => e = .returned (.bool (p r)) ∧ Below w1.heap.size w1 w') :
  Calls Tryz.prog 116 #[v,.func (.func K) #[] cap] w (IdxPP p rs w):=by
 obtain ⟨ao,cap', rfl,hlc,hcap,hln,hni,hr⟩:=hv.opened
 have HF:=hid hf;clear hf hv
 have hK2:=fun args w => hK args w
 go_enter Tryz.func116,Tryz.ntmps116
 go_wp2_with fail
 go_loopw [8] (fun i wr => ∃ k:Nat,k ≤ rs.length ∧ i = .int .i64 k ∧ Below w.heap.size w wr ∧ ∀ j,j < k → p (rs.getD j []) = false) (fun i _ => rs.length - (intOf i).toNat)
 case atStart => exact ⟨0,Nat.zero_le _,rfl,Below.refl _ _,by simp⟩
 case round =>
  obtain ⟨k,hk,rfl,hbl,hno⟩:=hrel
  have HN:=hid hno;clear hno
  by_cases hlt:k < rs.length
  ·obtain ⟨b,off,rfl,hb,hc⟩:=hr (by omega)
   obtain ⟨da,dc,hu,c0⟩:=hc k hlt
   obtain ⟨x,hx⟩:∃ x,x = rs.getD k []:=⟨_,rfl⟩
   rw [← hx] at c0 hu
   rw [← hbl.cell (p:=⟨b,_,none⟩) (Nat.lt_of_lt_of_le hb hB)] at c0
   have HX:=hid hx;have HU:=hid (hu.below (hbl.mono hB));clear hx hc hr hu
   go_wp2_with fail
   refine (HF.out x _ _ hbl HU.out).mono ?_
   rintro e w' ⟨rfl,hb'⟩
   have hsz:=hbl.size
   have HB:=hid (hbl.trans (hb'.mono hsz))
   clear hbl
   rcases hp:p x with _ | _
   ·have HQ:=hid (all_step HN.out (show p (rs.getD k []) = false by rw [← HX.out];exact hp))
    go_wp2_with fail
    go_roundw
    case rel => exact ⟨k + 1,by omega,by go_num,HB.out,HQ.out⟩
    case measure => simp [intOf];omega
   ·have HQ:=hid (idxP_hit p rs k [] hlt (by rw [← HX.out];exact hp) HN.out)
    go_wp2_with fail
    go_ret
    exact ⟨by rw [HQ.out];rfl,HB.out⟩
  ·have HF2:=hid (idxP_miss p rs [] (fun j hj => HN.out j (by omega)))
   go_wp2_with fail
   go_ret
   exact ⟨by rw [HF2.out];rfl,hbl⟩
set_option maxHeartbeats 1000000 in
theorem hasProg_any (K:FuncId) (cap:Array Value) (hK:Callable K) (p:List Rq → Bool) (v:Value) (rs:List (List Rq)) (B:Nat) (w:World) (hv:Progs w B v rs) (hB:B ≤ w.heap.size)
  (hf:∀ (r:List Rq) (u:Value) (w1:World),Below w.heap.size w w1 → Reqs w1 B u r → Calls Tryz.prog K (#[u] ++ cap) w1 fun e w' => e = .returned (.bool (p r)) ∧ Below w1.heap.size w1 w') :
  Calls Tryz.prog 67 #[v,.func (.func K) #[] cap] w (HasPP p rs w):=by
 have HA:=hid (idxP_any p rs)
 go_enter Tryz.func67,Tryz.ntmps67
 go_wp2_with fail
 refine (idxProg_any K cap hK p v rs B _ hv hB hf).mono ?_
 rintro e w' ⟨rfl,hb⟩
 go_wp2_with fail
 go_ret
 exact ⟨by rw [← HA.out];rfl,hb⟩
set_option maxHeartbeats 1000000 in
theorem busLat_any (x:Int) (w:World):Calls Tryz.prog 65 #[.int .i64 x] w fun e w' => e = .returned (.bool (!inB x 0 3)) ∧ w = w':=by
 rcases h:inB x 0 3 with _ | _
 all_goals
  go_enter Tryz.func65,Tryz.ntmps65
  go_wp2_with (go_at_call 66;refine (in_any _ _ _ _).mono ?_;rw [h];rintro e w' ⟨rfl,rfl⟩)
  go_ret
  exact ⟨rfl,rfl⟩
set_option maxHeartbeats 1000000 in
theorem busReq_any (r:Rq) (u:Value) (B:Nat) (w:World) (hu:ReqV w B u r) (hB:B ≤ w.heap.size) :
  Calls Tryz.prog 70 #[u] w fun e w' => e = .returned (.bool (!reqOk r)) ∧ Below w.heap.size w w':=by
 have HU:=hid hu
 obtain ⟨dv,lv,rfl,k1,k2,_⟩:=hu
 obtain ⟨da,dc,rfl,_⟩:=k1.opened
 obtain ⟨la,lc,rfl,_⟩:=k2.opened
 rcases h:reqOk r with _ | _
 all_goals
  have HR:=hid h;clear h
  go_enter Tryz.func70,Tryz.ntmps70
  go_wp2_with (first | (go_at_call 58;go_loud ((with_reducible refine (implReqOk_any _ r B _ (HU.out.below ((Below.refl _ _).alloc hB _)) (by simp;omega)).mono ?_);rw [HR.out];rintro e w1 ⟨rfl,hb1⟩)))
  go_ret
  exact ⟨rfl,((Below.refl _ _).alloc (Nat.le_refl _) _).trans (hb1.mono (by simp))⟩
theorem all_not_any {α:Type} (p:α → Bool) (xs:List α):xs.any (fun x => !p x) = !xs.all p:=by induction xs <;> simp_all [Bool.not_and]
set_option maxHeartbeats 1000000 in
theorem busProg_any (p:List Rq) (u:Value) (B:Nat) (w:World) (hu:Reqs w B u p) (hB:B ≤ w.heap.size) :
  Calls Tryz.prog 68 #[u] w fun e w' => e = .returned (.bool (!progOk p)) ∧ Below w.heap.size w w':=by
 have HU:=hid hu
 obtain ⟨ao,cap,rfl,hlc,hcap,hln,hni,hr⟩:=hu.opened
 clear hr hu
 have HE:=hid (all_not_any reqOk p)
 by_cases h12:(12:Int) < (p.length:Int)
 ·have hd:progOk p = false:=by unfold progOk;rw [decide_eq_false (by omega)];rfl
  rw [hd]
  go_enter Tryz.func68,Tryz.ntmps68
  go_wp2_with fail
  go_ret
  exact ⟨rfl,Below.refl _ _⟩
 ·have hd:progOk p = p.all reqOk:=by unfold progOk;rw [decide_eq_true (by omega)];rfl
  have h12':decide ((12:Int) < (p.length:Int)) = false:=decide_eq_false h12
  rw [hd]
  rcases hq:p.all reqOk with _ | _
  all_goals
   rw [hq] at HE
   go_enter Tryz.func68,Tryz.ntmps68
   go_wp2_with (first
    | (go_at_call 69;refine (hasReq_any 70 _ (callable_of Tryz.func70 (by kernel_rfl) (by kernel_rfl)) (fun r => !reqOk r) _ p B _ HU.out hB (fun r u' w1 hb hu' => by simpa using busReq_any r u' B w1 hu' (Nat.le_trans hB hb.size))).mono ?_;unfold HasRP;rw [HE.out];rintro e w1 ⟨rfl,hb1⟩))
   go_ret
   exact ⟨rfl,hb1⟩
theorem busOk_cases (ms:List MR) (lat:List Int) (pss:List (List Rq)) :
  (busOk ms lat pss = false ∧ mapOk ms = false) ∨ (busOk ms lat pss = false ∧ mapOk ms = true ∧ ¬ lat.length = 4) ∨ (busOk ms lat pss = false ∧ mapOk ms = true ∧ lat.length = 4 ∧ lat.all (inB · 0 3) = false) ∨
  (busOk ms lat pss = false ∧ mapOk ms = true ∧ lat.length = 4 ∧ lat.all (inB · 0 3) = true ∧ ¬ pss.length = 3) ∨ (∃ y,busOk ms lat pss = y ∧ pss.all progOk = y ∧ mapOk ms = true ∧ lat.length = 4 ∧ lat.all (inB · 0 3) = true ∧ pss.length = 3):=by
 unfold busOk
 by_cases h2:lat.length = 4 <;> by_cases h4:pss.length = 3 <;> rcases h1:mapOk ms with _ | _ <;> rcases h3:lat.all (inB · 0 3) with _ | _ <;> simp_all
set_option maxRecDepth 4000 in
set_option maxHeartbeats 8000000 in
theorem implBusOk_any (v:Value) (ms:List MR) (lat:List Int) (pss:List (List Rq)) (B:Nat) (w:World) (h:BusI w B v ms lat pss) (hB:B ≤ w.heap.size) :
  Calls Tryz.prog 26 #[v] w fun e w' => e = .returned (.bool (busOk ms lat pss)) ∧ Below w.heap.size w w':=by
 obtain ⟨mv,lv,pv,rfl,hm,hl,hp⟩:=h
 have HM:=hid hm;have HL:=hid hl;have HP:=hid hp
 obtain ⟨ma,mc,rfl,_⟩:=hm.opened
 obtain ⟨la,lc,rfl,_⟩:=hl.opened
 obtain ⟨pa,pc,rfl,_⟩:=hp.opened
 clear hm hl hp
 have HS:=hid (fun T => show Bx (w.alloc (.cells #[.slice ma ms.length mc,.slice la lat.length lc,.slice pa pss.length pc] T)) w.heap.size [.slice ma ms.length mc,.slice la lat.length lc,.slice pa pss.length pc] from Bx.new w #[.slice ma ms.length mc,.slice la lat.length lc,.slice pa pss.length pc] T (by simp))
 have HB:=hid (bx1 w)
 have HL2:=hid (all_not_any (inB · 0 3) lat)
 have HP2:=hid (all_not_any progOk pss)
 rcases busOk_cases ms lat pss with ⟨hy,h1⟩ | ⟨hy,h1,h2⟩ | ⟨hy,h1,h2,h3⟩ | ⟨hy,h1,h2,h3,h4⟩ | ⟨y,hy,h5,h1,h2,h3,h4⟩
 case inr.inr.inr.inr =>
  rcases y with _ | _
  all_goals
   rw [hy]
   rw [h3] at HL2
   rw [h5] at HP2
   have q2:((lat.length:Int) == 4) = true:=by simp;omega
   have q4:((pss.length:Int) == 3) = true:=by simp;omega
   have H1:=hid h1
   clear h1 h2 h3 h4 h5 hy
   go_enter Tryz.func26,Tryz.ntmps26
   go_wp2_with (first
    | (go_at_call 57;refine (implMapOk_any _ ms B _ (HM.out.below ((HB.out _).mono hB)) (Nat.le_trans hB (HB.out _).size)).mono ?_;rw [H1.out];rintro e w1 ⟨rfl,hb⟩;have HS1:=hid ((HS.out _).below hb (by simp));obtain ⟨⟨c0,c1,c2⟩,_⟩:=HS1.out.three;have HB1:=hid ((HB.out _).trans (hb.mono (by simp)));clear hb)
    | (go_at_call 64;refine (hasInt_any 65 #[] (callable_of Tryz.func65 (by kernel_rfl) (by kernel_rfl)) (fun n => !inB n 0 3) _ lat B _ (HL.out.below (HB1.out.mono hB)) (fun x _ => by simpa using busLat_any x _)).mono ?_;rw [HL2.out];rintro e w2 ⟨rfl,hw⟩;subst hw)
    | (go_at_call 67;refine (hasProg_any 68 #[] (callable_of Tryz.func68 (by kernel_rfl) (by kernel_rfl)) (fun p => !progOk p) _ pss B _ (HP.out.below (HB1.out.mono hB)) (Nat.le_trans hB HB1.out.size) (fun r u' w1 hb hu' => by simpa using busProg_any r u' B w1 hu' (Nat.le_trans (Nat.le_trans hB HB1.out.size) hb.size))).mono ?_;unfold HasPP;rw [HP2.out];rintro e w2 ⟨rfl,hb⟩;have HB2:=hid (HB1.out.trans (hb.mono HB1.out.size));clear hb))
   go_ret
   exact ⟨rfl,HB2.out⟩
 case inl =>
  rw [hy]
  have H1:=hid h1
  clear h1 hy
  go_enter Tryz.func26,Tryz.ntmps26
  go_wp2_with (first
   | (go_at_call 57;refine (implMapOk_any _ ms B _ (HM.out.below ((HB.out _).mono hB)) (Nat.le_trans hB (HB.out _).size)).mono ?_;rw [H1.out];rintro e w1 ⟨rfl,hb⟩;have HS1:=hid ((HS.out _).below hb (by simp));obtain ⟨⟨c0,c1,c2⟩,_⟩:=HS1.out.three;have HB1:=hid ((HB.out _).trans (hb.mono (by simp)));clear hb))
  go_ret
  exact ⟨rfl,HB1.out⟩
 case inr.inl =>
  rw [hy]
  have H1:=hid h1
  have q2:((lat.length:Int) == 4) = false:=by simp;omega
  clear h1 h2 hy
  go_enter Tryz.func26,Tryz.ntmps26
  go_wp2_with (first
   | (go_at_call 57;refine (implMapOk_any _ ms B _ (HM.out.below ((HB.out _).mono hB)) (Nat.le_trans hB (HB.out _).size)).mono ?_;rw [H1.out];rintro e w1 ⟨rfl,hb⟩;have HS1:=hid ((HS.out _).below hb (by simp));obtain ⟨⟨c0,c1,c2⟩,_⟩:=HS1.out.three;have HB1:=hid ((HB.out _).trans (hb.mono (by simp)));clear hb))
  go_ret
  exact ⟨rfl,HB1.out⟩
 case inr.inr.inl =>
  rw [hy]
  have H1:=hid h1
  rw [h3] at HL2
  have q2:((lat.length:Int) == 4) = true:=by simp;omega
  clear h1 h2 h3 hy
  go_enter Tryz.func26,Tryz.ntmps26
  go_wp2_with (first
   | (go_at_call 57;refine (implMapOk_any _ ms B _ (HM.out.below ((HB.out _).mono hB)) (Nat.le_trans hB (HB.out _).size)).mono ?_;rw [H1.out];rintro e w1 ⟨rfl,hb⟩;have HS1:=hid ((HS.out _).below hb (by simp));obtain ⟨⟨c0,c1,c2⟩,_⟩:=HS1.out.three;have HB1:=hid ((HB.out _).trans (hb.mono (by simp)));clear hb)
   | (go_at_call 64;refine (hasInt_any 65 #[] (callable_of Tryz.func65 (by kernel_rfl) (by kernel_rfl)) (fun n => !inB n 0 3) _ lat B _ (HL.out.below (HB1.out.mono hB)) (fun x _ => by simpa using busLat_any x _)).mono ?_;rw [HL2.out];rintro e w2 ⟨rfl,hw⟩;subst hw))
  go_ret
  exact ⟨rfl,HB1.out⟩
 case inr.inr.inr.inl =>
  rw [hy]
  have H1:=hid h1
  rw [h3] at HL2
  have q2:((lat.length:Int) == 4) = true:=by simp;omega
  have q4:((pss.length:Int) == 3) = false:=by simp;omega
  clear h1 h2 h3 h4 hy
  go_enter Tryz.func26,Tryz.ntmps26
  go_wp2_with (first
   | (go_at_call 57;refine (implMapOk_any _ ms B _ (HM.out.below ((HB.out _).mono hB)) (Nat.le_trans hB (HB.out _).size)).mono ?_;rw [H1.out];rintro e w1 ⟨rfl,hb⟩;have HS1:=hid ((HS.out _).below hb (by simp));obtain ⟨⟨c0,c1,c2⟩,_⟩:=HS1.out.three;have HB1:=hid ((HB.out _).trans (hb.mono (by simp)));clear hb)
   | (go_at_call 64;refine (hasInt_any 65 #[] (callable_of Tryz.func65 (by kernel_rfl) (by kernel_rfl)) (fun n => !inB n 0 3) _ lat B _ (HL.out.below (HB1.out.mono hB)) (fun x _ => by simpa using busLat_any x _)).mono ?_;rw [HL2.out];rintro e w2 ⟨rfl,hw⟩;subst hw))
  go_ret
  exact ⟨rfl,HB1.out⟩
theorem BusV.int {w:World} {B:Nat} {v:Value} {c:Cfg} (h:BusV w B v c) (hb:Bus c):BusI w B v c.ms (c.lat.map fun (n:Nat) => (n:Int)) c.progs:=by
 obtain ⟨ma,la,pa,mc,lc,pc,Q,e,h1,h2,h3,h4⟩:=h
 refine ⟨_,_,_,e,h1,⟨?_,fun x hx => ?_⟩,?_⟩
 ·rw [List.map_map];exact h2
 ·obtain ⟨n,hn,rfl⟩:=List.mem_map.1 hx
  have:=hb.lat3 n hn
  constructor <;> omega
 ·refine ⟨(List.range c.progs.length).map Q,?_,by simp,fun k hk d => ?_⟩
  ·rw [List.map_map]
   have:(List.range c.progs.length).map ((fun u:Value => u.cells.toList) ∘ Q) = (List.range c.progs.length).map fun i => [Q i]:=List.map_congr_left fun i hi => by
    obtain ⟨ao,cap,e,_⟩:=(h4 i (List.mem_range.1 hi)).opened
    simp only [Function.comp,e]
    rfl
   rw [this];exact h3
  ·have h:=h4 k hk
   have e1:((List.range c.progs.length).map Q).getD k undef = Q k:=by simp [List.getD,hk]
   have e2:c.progs.getD k d = c.prog k:=by unfold Cfg.prog;simp [List.getD,hk]
   rw [e1,e2];exact h
theorem busOk_yes {c:Cfg} (hb:Bus c):busOk c.ms (c.lat.map fun (n:Nat) => (n:Int)) c.progs = true:=by
 unfold busOk
 simp only [Bool.and_eq_true,decide_eq_true_eq,List.all_eq_true,List.length_map]
 refine ⟨⟨⟨⟨hb.ms,hb.lat⟩,fun x hx => ?_⟩,hb.progs⟩,fun p hp => ?_⟩
 ·obtain ⟨n,hn,rfl⟩:=List.mem_map.1 hx
  have:=hb.lat3 n hn
  simp [inB];omega
 ·simp only [progOk,Bool.and_eq_true,decide_eq_true_eq,List.all_eq_true]
  exact ⟨hb.most p hp,hb.reqs p hp⟩
theorem busOk_good {c:Cfg} (hb:Bus c) {w:World} {B:Nat} {v:Value} (h:BusV w B v c) (hB:B ≤ w.heap.size):Calls Tryz.prog 26 #[v] w fun e w' => e = .returned (.bool true) ∧ Below w.heap.size w w':=by
 have:=implBusOk_any v _ _ _ B w (h.int hb) hB
 rw [busOk_yes hb] at this;exact this
end Go.Proofs.YtenjbhbcacocjaaGreat
