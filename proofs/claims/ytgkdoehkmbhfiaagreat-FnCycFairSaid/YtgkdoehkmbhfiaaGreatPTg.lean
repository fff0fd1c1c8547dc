/- Draws: what is asked: the block in which it lies. -/
import Derived.Test.YtgkdoehkmbhfiaaGreatPTm
import Derived.Test.YtgkdoehkmbhfiaaGreatPE1
import Derived.Test.YtgkdoehkmbhfiaaGreatPCloneP
import Derived.Test.YtgkdoehkmbhfiaaGreatPCr1
import Derived.Test.YtgkdoehkmbhfiaaGreatPMs
import Derived.Test.YtgkdoehkmbhfiaaGreatPDat
import Derived.BigGuardPart
set_option linter.unusedVariables false
set_option linter.unusedSimpArgs false
set_option maxHeartbeats 16000000
namespace Go.Proofs.YtgkdoehkmbhfiaaGreat
open Go.RowKit
theorem strict_of {l:List TJ} (h:l.Pairwise kLe) (hn:(l.map kOf).Nodup):∀i,i+1<l.length→kLt (l.getD i default) (l.getD (i+1) default)=true:=by
 intro i hi;rw[List.pairwise_iff_getElem]at h;have h1:=h i (i+1) (by omega) hi (by omega);unfold List.Nodup at hn;rw[List.pairwise_map,List.pairwise_iff_getElem]at hn;have h2:=hn i (i+1) (by omega) hi (by omega);have e1:l.getD i default=l[i]:=by simp[List.getD,show i<l.length by omega]
 have e2:l.getD (i+1) default=l[i+1]:=by simp[List.getD,hi]
 rw[e1,e2,kLt_iff];rcases h1 with h1|⟨h1,h3⟩
 ·exact .inl h1
 ·refine .inr ⟨h1,Nat.lt_of_le_of_ne h3 fun e=>h2 ?_⟩;simp only[kOf,h1,e]
theorem nexts_at (st:Cy) {i:Nat} (hi:i<3):(nexts st 3).getD i 0=(st.ports i).next:=by
 rcases(show i=0∨i=1∨i=2 by omega)with rfl|rfl|rfl <;> rfl
def three (a b c:List TJ) (k:Nat):List TJ:=if k=0 then a else if k=1 then b else c
theorem kAll_perm {st:Cy} {wj dj:List TJ} (hw:wj.Perm (waits st)) (hd:dj.Perm (dones st)):((wj++dj++st.told).map kOf).Perm (kAll st):=by
 rw[List.map_append,List.map_append];unfold kAll;exact((waits_keys st▸hw.map kOf).append (dones_keys st▸hd.map kOf)).append (List.Perm.refl _)
theorem tlG_of {c:Cfg} (hb:Bus c) {st:Cy} (hg:Good c st) {wj dj:List TJ} (hw:wj.Perm (waits st)) (hw2:wj.Pairwise kLe) (hd:dj.Perm (dones st)) (hd2:dj.Pairwise kLe):TlG c (nexts st 3) (three wj dj st.told):=by
 have hp:=kAll_perm hw hd;have hnd:((wj++dj++st.told).map kOf).Nodup:=hp.nodup_iff.2 (hg.nodup hb);have hlen:(wj++dj++st.told).length=(st.ports 0).next+(st.ports 1).next+(st.ports 2).next:=by
  rw[←hg.many hb,←hp.length_eq,List.length_map]
 have hmem : ∀ k, k < 3 → ∀ j ∈ three wj dj st.told k, kOf j ∈ kAll st := fun k hk j hj => hp.subset (List.mem_map.2 ⟨j, by
  rcases(show k=0∨k=1∨k=2 by omega)with rfl|rfl|rfl
  ·exact List.mem_append_left _ (List.mem_append_left _ hj)
  ·exact List.mem_append_left _ (List.mem_append_right _ hj)
  ·exact List.mem_append_right _ hj,rfl⟩)
 have hnx:∀i,i<3→(st.ports i).next≤12:=fun i hi=>Nat.le_trans (hg.p i hi).nx (hb.twelve hi)
 have n0:=hnx 0 (by omega);have n1:=hnx 1 (by omega);have n2:=hnx 2 (by omega);have hall:wj.length+dj.length+st.told.length=(st.ports 0).next+(st.ports 1).next+(st.ports 2).next:=by
  rw[←hlen,List.length_append,List.length_append]
 rw[List.map_append,List.map_append,List.nodup_append,List.nodup_append]at hnd;refine⟨rfl,fun i hi=>?_,fun k hk=>?_,?_,fun k hk j hj=>?_,fun j hj=>waits_none st j (hw.subset hj),fun k hk hk0 j hj=>?_,?_,fun k hk=>?_⟩
 ·rw[nexts_at st hi];exact(hg.p i hi).nx
 ·rcases(show k=0∨k=1 by omega)with rfl|rfl
  ·exact strict_of hw2 hnd.1.1
  ·exact strict_of hd2 hnd.1.2.1
 ·exact hp.nodup_iff.2 (hg.nodup hb)
 ·obtain⟨h1,h2⟩:=hg.kin hb (hmem k hk j hj);exact⟨h1,by rw[nexts_at st (i:=j.who) h1];exact h2⟩
 ·rcases(show k=1∨k=2 by omega)with rfl|rfl
  ·obtain⟨s,hs,hj2⟩:=dones_mem (hd.subset hj);exact(hg.s s hs).dr j hj2
  ·exact(hg.t j hj).2
 ·exact hlen
 ·rcases(show k=0∨k=1∨k=2 by omega)with rfl|rfl|rfl
  ·show wj.length≤100;omega
  ·show dj.length≤100;omega
  ·show st.told.length≤100;omega
theorem tlmAbs_any {c : Cfg} (hbus : Bus c) {w : World} {B : Nat} {u : Value} (hc : BusV w B u c) {st : Cy} (hg : Good c st) {y0 y1 y2 y3 y4 y5 : Value} {wj dj : List TJ} (hw : wj.Perm (waits st)) (hw2 : wj.Pairwise kLe) (hd : dj.Perm (dones st)) (hd2 : dj.Pairwise kLe)
  (h0:Ints w B y0 st.ws) (h1:Ints w B y1 st.hs) (h2:Nats w B y2 (nexts st 3)) (h3:JobsV w B y3 wj) (h4:JobsV w B y4 dj) (h5:JobsV w B y5 st.told) (hB:B≤w.heap.size) :
  Calls Tryz.prog 54 #[u,.agg #[y0,y1,y2,y3,y4,y5]] w fun e w' => e=.returned (.bool true)∧Below w.heap.size w w' :=
 tlmOk_any hbus hc (Y := fun k => if k = 0 then y3 else if k = 1 then y4 else y5) h0 h1 h2 (fun k hk => by
  rcases(show k=0∨k=1∨k=2 by omega)with rfl|rfl|rfl
  ·exact h3
  ·exact h4
  ·exact h5) hB hg.atm (tlG_of hbus hg hw hw2 hd hd2)
theorem outs4 (l:List Jb) (h:∀j∈l,j.left<4):(l.filter (fun j=>j.left==0)).length+(l.filter (fun j=>j.left==1)).length+(l.filter (fun j=>j.left==2)).length+(l.filter (fun j=>j.left==3)).length=l.length:=by
 have:=(filter4 l h).length_eq;simp only[List.length_append]at this;exact this
theorem held_len (v:Sv):(zA9 v).length=v.pipe.length+v.done.length:=by
 unfold zA9;rw[List.length_append,List.length_map,List.length_map];omega
theorem Good.sums {c : Cfg} (hb : Bus c) {st : Cy} (hg : Good c st) : (st.ports 0).out.length + (st.ports 1).out.length + (st.ports 2).out.length =
  ((st.slaves 0).pipe.length+(st.slaves 0).done.length)+((st.slaves 1).pipe.length+(st.slaves 1).done.length)+((st.slaves 2).pipe.length+(st.slaves 2).done.length)+((st.slaves 3).pipe.length+(st.slaves 3).done.length):=by
 have hl:∀s,s<4→(st.slaves s).pipe.length+(st.slaves s).done.length=((st.ports 0).out.filter (fun j=>j.left==s)).length+((st.ports 1).out.filter (fun j=>j.left==s)).length+((st.ports 2).out.filter (fun j=>j.left==s)).length:=fun s hs=>by
  rw[←held_len,len_of_ns _ (hg.s s hs).w3,hg.link s 0 hs (by omega),hg.link s 1 hs (by omega),hg.link s 2 hs (by omega)];simp only[List.length_map]
 have ho:∀w,w<3→∀j∈(st.ports w).out,j.left<4:=fun w hw j hj=>by
  rw[((hg.p w hw).o j hj).2.1];exact slv_lt4 hb.ms (c.req w j.n)
 rw[hl 0 (by omega),hl 1 (by omega),hl 2 (by omega),hl 3 (by omega),←outs4 _ (ho 0 (by omega)),←outs4 _ (ho 1 (by omega)),←outs4 _ (ho 2 (by omega))];omega
def IdxRP (p:Rq→Bool) (rs:List Rq) (w:World) (e:Ending) (w':World):Prop:=e=.returned (.int .i64 (idxP p rs))∧Below w.heap.size w w'
def HasRP (p:Rq→Bool) (rs:List Rq) (w:World) (e:Ending) (w':World):Prop:=e=.returned (.bool (rs.any p))∧Below w.heap.size w w'
theorem idxReq_any (K : FuncId) (cap : Array Value) (hK : zF0 K) (p : Rq → Bool) (v : Value) (rs : List Rq) (B : Nat) (w : World) (hv : Reqs w B v rs) (hB : B ≤ w.heap.size)
  (hf:∀(r:Rq) (u:Value) (w1:World),Below w.heap.size w w1→ReqV w1 B u r→Calls Tryz.prog K (#[u]++cap) w1 fun e w' => e=.returned (.bool (p r))∧Below w1.heap.size w1 w') :
  Calls Tryz.prog 128 #[v,.func (.func K) #[] cap] w (IdxRP p rs w):=by
 obtain⟨ao,cap', rfl,hlc,hcap,hln,hni,hr⟩:=hv.opened;have HF:=hid hf;clear hf hv;have hK2:=fun args w=>hK args w
 go_enter Tryz.func128,Tryz.ntmps128
 go_wp2_with fail
 go_loopw [8] (fun i wr=>∃k:Nat,k≤rs.length∧i=.int .i64 k∧Below w.heap.size w wr∧∀j,j<k→p (rs.getD j default)=false) (fun i _=>rs.length - (intOf i).toNat)
 case atStart=>exact⟨0,Nat.zero_le _,rfl,Below.refl _ _,by simp⟩
 case round=>
  obtain⟨k,hk,rfl,hbl,hno⟩:=hrel;have HN:=hid hno;clear hno;by_cases hlt:k<rs.length
  ·obtain⟨b,off,rfl,hb,hc⟩:=hr (by omega);obtain⟨da,dc,la,lc,hu,c0,c1,c2,c3,c4,c5,c6⟩:=hc k hlt;obtain⟨x,hx⟩:∃x,x=rs.getD k default:=⟨_,rfl⟩
   rw[←hx]at c0 c1 c2 c3 c4 c5 c6 hu;rw[←hbl.cell (p:=⟨b,_,none⟩) (Nat.lt_of_lt_of_le hb hB)]at c0 c1 c2 c3 c4 c5 c6;have HX:=hid hx;have HU:=hid (hu.below (hbl.mono hB));clear hx hc hr hu
   go_wp2_with fail
   refine(HF.out x _ _ hbl HU.out).mono ?_;rintro e w' ⟨rfl,hb'⟩;have hsz:=hbl.size;have HB:=hid (hbl.trans (hb'.mono hsz));clear hbl;rcases hp:p x with _|_
   ·have HQ:=hid (zH1 HN.out (show p (rs.getD k default)=false by rw[←HX.out];exact hp))
    go_wp2_with fail
    go_roundw
    case rel=>exact⟨k+1,by omega,by go_num,HB.out,HQ.out⟩
    case measure=>simp[intOf];omega
   ·have HQ:=hid (zL0 p rs k default hlt (by rw[←HX.out];exact hp) HN.out)
    go_wp2_with fail
    go_ret
    exact⟨by rw[HQ.out];rfl,HB.out⟩
  ·have HF2:=hid (zK0 p rs default (fun j hj=>HN.out j (by omega)))
   go_wp2_with fail
   go_ret
   exact⟨by rw[HF2.out];rfl,hbl⟩
theorem hasReq_any (K : FuncId) (cap : Array Value) (hK : zF0 K) (p : Rq → Bool) (v : Value) (rs : List Rq) (B : Nat) (w : World) (hv : Reqs w B v rs) (hB : B ≤ w.heap.size)
  (hf:∀(r:Rq) (u:Value) (w1:World),Below w.heap.size w w1→ReqV w1 B u r→Calls Tryz.prog K (#[u]++cap) w1 fun e w' => e=.returned (.bool (p r))∧Below w1.heap.size w1 w') :
  Calls Tryz.prog 77 #[v,.func (.func K) #[] cap] w (HasRP p rs w):=by
 have HA:=hid (idxP_any p rs)
 go_enter Tryz.func77,Tryz.ntmps77
 go_wp2_with fail
 refine(idxReq_any K cap hK p v rs B _ hv hB hf).mono ?_;rintro e w' ⟨rfl,hb⟩
 go_wp2_with fail
 go_ret
 exact⟨by rw[←HA.out];rfl,hb⟩
def Progs (w:World) (B:Nat) (v:Value) (pss:List (List Rq)):Prop:=ArrV Reqs w B 1 v pss
theorem Progs.below {w w':World} {B:Nat} {v:Value} {pss:List (List Rq)} (h:Progs w B v pss) (hb:Below B w w'):Progs w' B v pss:=ArrV.below h hb fun _ _ h=>h.below hb
theorem Progs.mono {w:World} {B B':Nat} {v:Value} {pss:List (List Rq)} (h:Progs w B v pss) (hb:B≤B'):Progs w B' v pss:=ArrV.mono h hb fun _ _ h=>h.mono hb
theorem Progs.opened {w : World} {B : Nat} {v : Value} {pss : List (List Rq)} (h : Progs w B v pss) :
  ∃ ao cap, v = .slice ao pss.length cap ∧ pss.length ≤ cap ∧ cap ≤ 9223372036854775807 ∧ pss.length ≤ 140737488351232 ∧ (ao = none → cap = 0) ∧
   (pss.length≠0→∃b off,ao=some ⟨b,off,none⟩∧b<B∧∀t,t<pss.length→∃da dc,Reqs w B (.slice da (pss.getD t []).length dc) (pss.getD t [])∧w.cell? ⟨b,off+t,none⟩=some (.slice da (pss.getD t []).length dc)):=by
 obtain⟨ao,cap,rfl,h1,h2,h0,h9⟩:=ArrV.shape h;refine⟨ao,cap,rfl,h1,h2,h0,h9,fun hn=>?_⟩;obtain⟨b,off,ha,hlt,hc⟩:=ArrV.at h hn;refine⟨b,off,ha,hlt,fun t ht=>?_⟩;obtain⟨u,hu,hcell⟩:=hc t ht;have hu':=hu [];obtain⟨da,dc,rfl,_⟩:=Reqs.opened hu';refine⟨da,dc,hu', ?_⟩;have:=hcell 0 (by omega);simpa[Value.cells]using this
def BusI (w:World) (B:Nat) (v:Value) (ms:List MR) (lat:List Int) (pss:List (List Rq)):Prop:=∃mv lv pv,v=.agg #[mv,lv,pv]∧Maps w B mv ms∧Ints w B lv lat∧Progs w B pv pss
theorem BusI.below {w w':World} {B:Nat} {v:Value} {ms:List MR} {lat:List Int} {pss:List (List Rq)} (h:BusI w B v ms lat pss) (hb:Below B w w'):BusI w' B v ms lat pss:=by
 obtain⟨mv,lv,pv,e,h1,h2,h3⟩:=h;exact⟨mv,lv,pv,e,h1.below hb,h2.below hb,h3.below hb⟩
theorem BusI.mono {w:World} {B B':Nat} {v:Value} {ms:List MR} {lat:List Int} {pss:List (List Rq)} (h:BusI w B v ms lat pss) (hb:B≤B'):BusI w B' v ms lat pss:=by
 obtain⟨mv,lv,pv,e,h1,h2,h3⟩:=h;exact⟨mv,lv,pv,e,h1.mono hb,h2.mono hb,h3.mono hb⟩
def progOk (p:List Rq):Bool:=decide (p.length≤12)&&p.all reqOk
def busOk (ms:List MR) (lat:List Int) (pss:List (List Rq)):Bool:=mapOk ms&&decide (lat.length=4)&&lat.all (inB · 0 3)&&decide (pss.length=3)&&pss.all progOk
def IdxPP (p:List Rq→Bool) (rs:List (List Rq)) (w:World) (e:Ending) (w':World):Prop:=e=.returned (.int .i64 (idxP p rs))∧Below w.heap.size w w'
def HasPP (p:List Rq→Bool) (rs:List (List Rq)) (w:World) (e:Ending) (w':World):Prop:=e=.returned (.bool (rs.any p))∧Below w.heap.size w w'
theorem idxProg_any (K : FuncId) (cap : Array Value) (hK : zF0 K) (p : List Rq → Bool) (v : Value) (rs : List (List Rq)) (B : Nat) (w : World) (hv : Progs w B v rs) (hB : B ≤ w.heap.size)
  (hf:∀(r:List Rq) (u:Value) (w1:World),Below w.heap.size w w1→Reqs w1 B u r→Calls Tryz.prog K (#[u]++cap) w1 fun e w' => e=.returned (.bool (p r))∧Below w1.heap.size w1 w') :
  Calls Tryz.prog 151 #[v,.func (.func K) #[] cap] w (IdxPP p rs w):=by
 obtain⟨ao,cap', rfl,hlc,hcap,hln,hni,hr⟩:=hv.opened;have HF:=hid hf;clear hf hv;have hK2:=fun args w=>hK args w
 go_enter Tryz.func151,Tryz.ntmps151
 go_wp2_with fail
 go_loopw [8] (fun i wr=>∃k:Nat,k≤rs.length∧i=.int .i64 k∧Below w.heap.size w wr∧∀j,j<k→p (rs.getD j [])=false) (fun i _=>rs.length - (intOf i).toNat)
 case atStart=>exact⟨0,Nat.zero_le _,rfl,Below.refl _ _,by simp⟩
 case round=>
  obtain⟨k,hk,rfl,hbl,hno⟩:=hrel;have HN:=hid hno;clear hno;by_cases hlt:k<rs.length
  ·obtain⟨b,off,rfl,hb,hc⟩:=hr (by omega);obtain⟨da,dc,hu,c0⟩:=hc k hlt;obtain⟨x,hx⟩:∃x,x=rs.getD k []:=⟨_,rfl⟩
   rw[←hx]at c0 hu;rw[←hbl.cell (p:=⟨b,_,none⟩) (Nat.lt_of_lt_of_le hb hB)]at c0;have HX:=hid hx;have HU:=hid (hu.below (hbl.mono hB));clear hx hc hr hu
   go_wp2_with fail
   refine(HF.out x _ _ hbl HU.out).mono ?_;rintro e w' ⟨rfl,hb'⟩;have hsz:=hbl.size;have HB:=hid (hbl.trans (hb'.mono hsz));clear hbl;rcases hp:p x with _|_
   ·have HQ:=hid (zH1 HN.out (show p (rs.getD k [])=false by rw[←HX.out];exact hp))
    go_wp2_with fail
    go_roundw
    case rel=>exact⟨k+1,by omega,by go_num,HB.out,HQ.out⟩
    case measure=>simp[intOf];omega
   ·have HQ:=hid (zL0 p rs k [] hlt (by rw[←HX.out];exact hp) HN.out)
    go_wp2_with fail
    go_ret
    exact⟨by rw[HQ.out];rfl,HB.out⟩
  ·have HF2:=hid (zK0 p rs [] (fun j hj=>HN.out j (by omega)))
   go_wp2_with fail
   go_ret
   exact⟨by rw[HF2.out];rfl,hbl⟩
theorem hasProg_any (K : FuncId) (cap : Array Value) (hK : zF0 K) (p : List Rq → Bool) (v : Value) (rs : List (List Rq)) (B : Nat) (w : World) (hv : Progs w B v rs) (hB : B ≤ w.heap.size)
  (hf:∀(r:List Rq) (u:Value) (w1:World),Below w.heap.size w w1→Reqs w1 B u r→Calls Tryz.prog K (#[u]++cap) w1 fun e w' => e=.returned (.bool (p r))∧Below w1.heap.size w1 w') :
  Calls Tryz.prog 102 #[v,.func (.func K) #[] cap] w (HasPP p rs w):=by
 have HA:=hid (idxP_any p rs)
 go_enter Tryz.func102,Tryz.ntmps102
 go_wp2_with fail
 refine(idxProg_any K cap hK p v rs B _ hv hB hf).mono ?_;rintro e w' ⟨rfl,hb⟩
 go_wp2_with fail
 go_ret
 exact⟨by rw[←HA.out];rfl,hb⟩
theorem busLat_any (x:Int) (w:World):Calls Tryz.prog 101 #[.int .i64 x] w fun e w' => e=.returned (.bool (!inB x 0 3))∧w=w':=by
 rcases h:inB x 0 3 with _|_
 all_goals
  go_enter Tryz.func101,Tryz.ntmps101
  go_wp2_with (go_at_call 63;refine(zG1 _ _ _ _).mono ?_;rw[h];rintro e w' ⟨rfl,rfl⟩)
  go_ret
  exact⟨rfl,rfl⟩
theorem busReq_any (r : Rq) (u : Value) (B : Nat) (w : World) (hu : ReqV w B u r) (hB : B ≤ w.heap.size) :
  Calls Tryz.prog 104 #[u] w fun e w' => e=.returned (.bool (!reqOk r))∧Below w.heap.size w w':=by
 have HU:=hid hu;obtain⟨dv,lv,rfl,k1,k2,_⟩:=hu;obtain⟨da,dc,rfl,_⟩:=k1.opened;obtain⟨la,lc,rfl,_⟩:=k2.opened;rcases h:reqOk r with _|_
 all_goals
  have HR:=hid h;clear h
  go_enter Tryz.func104,Tryz.ntmps104
  go_wp2_with (first|(go_at_call 48;go_loud ((with_reducible refine(implReqOk_any _ r B _ (HU.out.below ((Below.refl _ _).alloc hB _)) (by simp;omega)).mono ?_);rw[HR.out];rintro e w1 ⟨rfl,hb1⟩)))
  go_ret
  exact⟨rfl,((Below.refl _ _).alloc (Nat.le_refl _) _).trans (hb1.mono (by simp))⟩
theorem all_not_any {α:Type} (p:α→Bool) (xs:List α):xs.any (fun x=>!p x)=!xs.all p:=by induction xs <;> simp_all [Bool.not_and]
theorem busProg_any (p : List Rq) (u : Value) (B : Nat) (w : World) (hu : Reqs w B u p) (hB : B ≤ w.heap.size) :
  Calls Tryz.prog 103 #[u] w fun e w' => e=.returned (.bool (!progOk p))∧Below w.heap.size w w':=by
 have HU:=hid hu;obtain⟨ao,cap,rfl,hlc,hcap,hln,hni,hr⟩:=hu.opened;clear hr hu;have HE:=hid (all_not_any reqOk p);by_cases h12:(12:Int)<(p.length:Int)
 ·have hd:progOk p=false:=by unfold progOk;rw[decide_eq_false (by omega)];rfl
  rw[hd]
  go_enter Tryz.func103,Tryz.ntmps103
  go_wp2_with fail
  go_ret
  exact⟨rfl,Below.refl _ _⟩
 ·have hd:progOk p=p.all reqOk:=by unfold progOk;rw[decide_eq_true (by omega)];rfl
  have h12':decide ((12:Int)<(p.length:Int))=false:=decide_eq_false h12;rw[hd];rcases hq:p.all reqOk with _|_
  all_goals
   rw[hq]at HE
   go_enter Tryz.func103,Tryz.ntmps103
   go_wp2_with (first
    |(go_at_call 77;refine(hasReq_any 104 _ (zB5 Tryz.func104 (by kernel_rfl) (by kernel_rfl)) (fun r=>!reqOk r) _ p B _ HU.out hB (fun r u' w1 hb hu' => by simpa using busReq_any r u' B w1 hu' (Nat.le_trans hB hb.size))).mono ?_;unfold HasRP;rw[HE.out];rintro e w1 ⟨rfl,hb1⟩))
   go_ret
   exact⟨rfl,hb1⟩
theorem busOk_cases (ms : List MR) (lat : List Int) (pss : List (List Rq)) :
  (busOk ms lat pss=false∧mapOk ms=false)∨(busOk ms lat pss=false∧mapOk ms=true∧¬lat.length=4)∨(busOk ms lat pss=false∧mapOk ms=true∧lat.length=4∧lat.all (inB · 0 3)=false) ∨
  (busOk ms lat pss=false∧mapOk ms=true∧lat.length=4∧lat.all (inB · 0 3)=true∧¬pss.length=3)∨(∃y,busOk ms lat pss=y∧pss.all progOk=y∧mapOk ms=true∧lat.length=4∧lat.all (inB · 0 3)=true∧pss.length=3):=by
 unfold busOk;by_cases h2:lat.length=4 <;> by_cases h4:pss.length=3 <;> rcases h1:mapOk ms with _|_ <;> rcases h3:lat.all (inB · 0 3)with _|_ <;> simp_all
set_option maxRecDepth 4000 in
theorem implBusOk_any (v : Value) (ms : List MR) (lat : List Int) (pss : List (List Rq)) (B : Nat) (w : World) (h : BusI w B v ms lat pss) (hB : B ≤ w.heap.size) :
  Calls Tryz.prog 50 #[v] w fun e w' => e=.returned (.bool (busOk ms lat pss))∧Below w.heap.size w w':=by
 obtain⟨mv,lv,pv,rfl,hm,hl,hp⟩:=h;have HM:=hid hm;have HL:=hid hl;have HP:=hid hp;obtain⟨ma,mc,rfl,_⟩:=hm.opened;obtain⟨la,lc,rfl,_⟩:=hl.opened;obtain⟨pa,pc,rfl,_⟩:=hp.opened;clear hm hl hp;have HS:=hid (fun T=>show Bx (w.alloc (.cells #[.slice ma ms.length mc,.slice la lat.length lc,.slice pa pss.length pc] T)) w.heap.size [.slice ma ms.length mc,.slice la lat.length lc,.slice pa pss.length pc] from Bx.new w #[.slice ma ms.length mc,.slice la lat.length lc,.slice pa pss.length pc] T (by simp));have HB:=hid (bx1 w);have HL2:=hid (all_not_any (inB · 0 3) lat);have HP2:=hid (all_not_any progOk pss);rcases busOk_cases ms lat pss with⟨hy,h1⟩|⟨hy,h1,h2⟩|⟨hy,h1,h2,h3⟩|⟨hy,h1,h2,h3,h4⟩|⟨y,hy,h5,h1,h2,h3,h4⟩
 case inr.inr.inr.inr=>
  rcases y with _|_
  all_goals
   rw[hy];rw[h3]at HL2;rw[h5]at HP2;have q2:((lat.length:Int)==4)=true:=by simp;omega
   have q4:((pss.length:Int)==3)=true:=by simp;omega
   have H1:=hid h1;clear h1 h2 h3 h4 h5 hy
   go_enter Tryz.func50,Tryz.ntmps50
   go_wp2_with (first
    |(go_at_call 47;refine(zD1 _ ms B _ (HM.out.below ((HB.out _).mono hB)) (Nat.le_trans hB (HB.out _).size)).mono ?_;rw[H1.out];rintro e w1 ⟨rfl,hb⟩;have HS1:=hid ((HS.out _).below hb (by simp));obtain⟨⟨c0,c1,c2⟩,_⟩:=HS1.out.three;have HB1:=hid ((HB.out _).trans (hb.mono (by simp)));clear hb)
    |(go_at_call 98;refine(zH3 101 #[] (zB5 Tryz.func101 (by kernel_rfl) (by kernel_rfl)) (fun n=>!inB n 0 3) _ lat B _ (HL.out.below (HB1.out.mono hB)) (fun x _=>by simpa using busLat_any x _)).mono ?_;rw[HL2.out];rintro e w2 ⟨rfl,hw⟩;subst hw)
    |(go_at_call 102;refine(hasProg_any 103 #[] (zB5 Tryz.func103 (by kernel_rfl) (by kernel_rfl)) (fun p=>!progOk p) _ pss B _ (HP.out.below (HB1.out.mono hB)) (Nat.le_trans hB HB1.out.size) (fun r u' w1 hb hu' => by simpa using busProg_any r u' B w1 hu' (Nat.le_trans (Nat.le_trans hB HB1.out.size) hb.size))).mono ?_;unfold HasPP;rw[HP2.out];rintro e w2 ⟨rfl,hb⟩;have HB2:=hid (HB1.out.trans (hb.mono HB1.out.size));clear hb))
   go_ret
   exact⟨rfl,HB2.out⟩
 case inl=>
  rw[hy];have H1:=hid h1;clear h1 hy
  go_enter Tryz.func50,Tryz.ntmps50
  go_wp2_with (first
   |(go_at_call 47;refine(zD1 _ ms B _ (HM.out.below ((HB.out _).mono hB)) (Nat.le_trans hB (HB.out _).size)).mono ?_;rw[H1.out];rintro e w1 ⟨rfl,hb⟩;have HS1:=hid ((HS.out _).below hb (by simp));obtain⟨⟨c0,c1,c2⟩,_⟩:=HS1.out.three;have HB1:=hid ((HB.out _).trans (hb.mono (by simp)));clear hb))
  go_ret
  exact⟨rfl,HB1.out⟩
 case inr.inl=>
  rw[hy];have H1:=hid h1;have q2:((lat.length:Int)==4)=false:=by simp;omega
  clear h1 h2 hy
  go_enter Tryz.func50,Tryz.ntmps50
  go_wp2_with (first
   |(go_at_call 47;refine(zD1 _ ms B _ (HM.out.below ((HB.out _).mono hB)) (Nat.le_trans hB (HB.out _).size)).mono ?_;rw[H1.out];rintro e w1 ⟨rfl,hb⟩;have HS1:=hid ((HS.out _).below hb (by simp));obtain⟨⟨c0,c1,c2⟩,_⟩:=HS1.out.three;have HB1:=hid ((HB.out _).trans (hb.mono (by simp)));clear hb))
  go_ret
  exact⟨rfl,HB1.out⟩
 case inr.inr.inl=>
  rw[hy];have H1:=hid h1;rw[h3]at HL2;have q2:((lat.length:Int)==4)=true:=by simp;omega
  clear h1 h2 h3 hy
  go_enter Tryz.func50,Tryz.ntmps50
  go_wp2_with (first
   |(go_at_call 47;refine(zD1 _ ms B _ (HM.out.below ((HB.out _).mono hB)) (Nat.le_trans hB (HB.out _).size)).mono ?_;rw[H1.out];rintro e w1 ⟨rfl,hb⟩;have HS1:=hid ((HS.out _).below hb (by simp));obtain⟨⟨c0,c1,c2⟩,_⟩:=HS1.out.three;have HB1:=hid ((HB.out _).trans (hb.mono (by simp)));clear hb)
   |(go_at_call 98;refine(zH3 101 #[] (zB5 Tryz.func101 (by kernel_rfl) (by kernel_rfl)) (fun n=>!inB n 0 3) _ lat B _ (HL.out.below (HB1.out.mono hB)) (fun x _=>by simpa using busLat_any x _)).mono ?_;rw[HL2.out];rintro e w2 ⟨rfl,hw⟩;subst hw))
  go_ret
  exact⟨rfl,HB1.out⟩
 case inr.inr.inr.inl=>
  rw[hy];have H1:=hid h1;rw[h3]at HL2;have q2:((lat.length:Int)==4)=true:=by simp;omega
  have q4:((pss.length:Int)==3)=false:=by simp;omega
  clear h1 h2 h3 h4 hy
  go_enter Tryz.func50,Tryz.ntmps50
  go_wp2_with (first
   |(go_at_call 47;refine(zD1 _ ms B _ (HM.out.below ((HB.out _).mono hB)) (Nat.le_trans hB (HB.out _).size)).mono ?_;rw[H1.out];rintro e w1 ⟨rfl,hb⟩;have HS1:=hid ((HS.out _).below hb (by simp));obtain⟨⟨c0,c1,c2⟩,_⟩:=HS1.out.three;have HB1:=hid ((HB.out _).trans (hb.mono (by simp)));clear hb)
   |(go_at_call 98;refine(zH3 101 #[] (zB5 Tryz.func101 (by kernel_rfl) (by kernel_rfl)) (fun n=>!inB n 0 3) _ lat B _ (HL.out.below (HB1.out.mono hB)) (fun x _=>by simpa using busLat_any x _)).mono ?_;rw[HL2.out];rintro e w2 ⟨rfl,hw⟩;subst hw))
  go_ret
  exact⟨rfl,HB1.out⟩
theorem BusV.int {w:World} {B:Nat} {v:Value} {c:Cfg} (h:BusV w B v c) (hb:Bus c):BusI w B v c.ms (c.lat.map fun(n:Nat)=>(n:Int)) c.progs:=by
 obtain⟨ma,la,pa,mc,lc,pc,Q,e,h1,h2,h3,h4⟩:=h;refine⟨_,_,_,e,h1,⟨?_,fun x hx=>?_⟩,?_⟩
 ·rw[List.map_map];exact h2
 ·obtain⟨n,hn,rfl⟩:=List.mem_map.1 hx;have:=hb.lat3 n hn
  constructor <;> omega
 ·refine⟨(List.range c.progs.length).map Q,?_,by simp,fun k hk d=>?_⟩
  ·rw[List.map_map];have:(List.range c.progs.length).map ((fun u:Value=>u.cells.toList) ∘ Q)=(List.range c.progs.length).map fun i=>[Q i]:=List.map_congr_left fun i hi=>by
    obtain⟨ao,cap,e,_⟩:=(h4 i (List.mem_range.1 hi)).opened;simp only[Function.comp,e]
    rfl
   rw[this];exact h3
  ·have h:=h4 k hk;have e1:((List.range c.progs.length).map Q).getD k undef=Q k:=by simp[List.getD,hk]
   have e2:c.progs.getD k d=c.prog k:=by unfold Cfg.prog;simp[List.getD,hk]
   rw[e1,e2];exact h
theorem busOk_yes {c:Cfg} (hb:Bus c):busOk c.ms (c.lat.map fun(n:Nat)=>(n:Int)) c.progs=true:=by
 unfold busOk;simp only[Bool.and_eq_true,decide_eq_true_eq,List.all_eq_true,List.length_map];refine⟨⟨⟨⟨hb.ms,hb.lat⟩,fun x hx=>?_⟩,hb.progs⟩,fun p hp=>?_⟩
 ·obtain⟨n,hn,rfl⟩:=List.mem_map.1 hx;have:=hb.lat3 n hn;simp[inB];omega
 ·simp only[progOk,Bool.and_eq_true,decide_eq_true_eq,List.all_eq_true];exact⟨hb.most p hp,hb.reqs p hp⟩
theorem busOk_good {c:Cfg} (hb:Bus c) {w:World} {B:Nat} {v:Value} (h:BusV w B v c) (hB:B≤w.heap.size):Calls Tryz.prog 50 #[v] w fun e w' => e=.returned (.bool true)∧Below w.heap.size w w':=by
 have:=implBusOk_any v _ _ _ B w (h.int hb) hB;rw[busOk_yes hb]at this;exact this
theorem wpOp_skip {P:Program} {ops:Array Oper} {Q:Exit→Act→World→Prop} {i:Nat} {o:Oper} {K:Act→World→Prop} {a:Act} {w:World} (ho:ops[i]? = some o) (hw:Region.wanted o (yielded ops a.tmps)=false) (h:K (a.put o.dst undef) w):wpOp P ops Q i K a w:=by
 unfold wpOp;simp only[ho];rw[if_neg (by simp[hw])];exact h
def myA (jv:Value) (g1 g2 g3 g4 G:Nat) (u6 u7 u8 u9 u10 u11 u12 u13 u14 u15 u16 u17 u18 u19:Value):Act:={ tmps:=#[jv,.pointer (some ⟨g1,0,none⟩),.pointer (some ⟨g2,0,none⟩),.pointer (some ⟨g3,0,none⟩),.pointer (some ⟨g4,0,none⟩),.pointer (some ⟨G,0,none⟩),u6,u7,u8,u9,u10,u11,u12,u13,u14,u15,u16,u17,u18,u19],defers:=[] }
def myI (jv:Value) (g1 g2 g3 g4 G:Nat) (ma:Option Addr) (mn mk lb lo lc pb po pc who n:Nat) (id y:Int) (wq:World) (listed:Array Bool) (a:Act) (w':World):Prop :=
 ∃ u6 u7 u8 u9 u10 u11 u12 u13 u14 u15 u16 u17 u18 u19 : Value, a = myA jv g1 g2 g3 g4 G u6 u7 u8 u9 u10 u11 u12 u13 u14 u15 u16 u17 u18 u19 ∧
   (listed.getD 0 false=true→u7=.agg #[.slice ma mn mk,.slice (some ⟨lb,lo,none⟩) 4 lc,.slice (some ⟨pb,po,none⟩) 3 pc]) ∧
   (listed.getD 1 false=true→u8=.int .i64 who) ∧
   (listed.getD 2 false=true→u9=.pointer (some ⟨G,1,none⟩)) ∧
   (listed.getD 3 false=true→u10=.int .i64 n) ∧
   (listed.getD 4 false=true→u11=.int .i64 y) ∧
   (listed.getD 5 false=true→u12=.int .i64 id) ∧
   (listed.getD 6 false=true→u13=.bool false) ∧
   (listed.getD 7 false=true→u14=.bool false) ∧
   (listed.getD 12 false=true→u19=.bool false) ∧
   (listed.getD 13 false=true→u6=.bool false) ∧
   Below wq.heap.size wq w'
set_option maxRecDepth 100000 in
theorem mayTestF_any {c : Cfg} (hbus : Bus c) {w w0 : World} {B : Nat} {ma : Option Addr} {mn mk lb lo lc pb po pc : Nat} {Q : Nat → Option Addr} {K : Nat → Nat} (HO : BusO w0 B c ma mn mk lb lo lc pb po pc Q K) (HB0 : Below w.heap.size w w0) (hBw : B ≤ w0.heap.size) {who s : Nat} {id y : Int} {j : Jb} {g1 g2 g3 g4 : Nat}
  (hj:w0.heap[w.heap.size]? = some (.cells #[.int .i64 j.who,.int .i64 j.n,.int .i64 j.left] 101 (0,0)))
  (x0:w0.cell? ⟨g1,0,none⟩=some (.slice ma mn mk)) (x1:w0.cell? ⟨g1,1,none⟩=some (.slice (some ⟨lb,lo,none⟩) 4 lc)) (x2:w0.cell? ⟨g1,2,none⟩=some (.slice (some ⟨pb,po,none⟩) 3 pc)) (x3:g1<w0.heap.size)
  (y0:w0.cell? ⟨g2,0,none⟩=some (.int .i64 who)) (y1:g2<w0.heap.size) (z0:w0.cell? ⟨g3,0,none⟩=some (.int .i64 id)) (z1:g3<w0.heap.size)
  (hwi:who<3) (hni:j.n<(c.prog who).length) (hy:y=c.id who j.n) (he1:(y==id)=false) (HM:Hid (mayB c who s id j=false))
  (hw0:w0=w.alloc (.cells #[.int .i64 j.who,.int .i64 j.n,.int .i64 j.left] 101)) :
  Calls Tryz.prog 171 #[.agg #[.int .i64 j.who,.int .i64 j.n,.int .i64 j.left],.pointer (some ⟨g1,0,none⟩),.pointer (some ⟨g2,0,none⟩),.pointer (some ⟨g3,0,none⟩),.pointer (some ⟨g4,0,none⟩)] w fun e w' => e=.returned (.bool (mayB c who s id j))∧Below w.heap.size w w':=by
 have HY:=hid hy;have HE:=hid he1;have hG:w.heap.size<w0.heap.size:=zA2 hj;have j1:w0.cell? ⟨w.heap.size,1,none⟩=some (.int .i64 j.n):=by simp[World.cell?,hj]
 clear hy he1 hj
 go_enter Tryz.func171,Tryz.ntmps171
 go_upto_region 1 with fail
 rw[←hw0];clear hw0;generalize hg:w.heap.size=G at hG j1;have hgs:G≤w.heap.size:=Nat.le_of_eq hg.symm;have HGS:=hid hg;clear hg;refine zF5 (myI (.agg #[.int .i64 j.who,.int .i64 j.n,.int .i64 j.left]) g1 g2 g3 g4 G ma mn mk lb lo lc pb po pc who j.n id y w0) (by kernel_rfl) (by kernel_rfl) ?_ ?_ ?_
 ·exact⟨_,_,_,_,_,_,_,_,_,_,_,_,_,_,rfl,(fun h=>absurd h (by rw[getD_replicate_false];simp)),(fun h=>absurd h (by rw[getD_replicate_false];simp)),(fun h=>absurd h (by rw[getD_replicate_false];simp)),(fun h=>absurd h (by rw[getD_replicate_false];simp)),(fun h=>absurd h (by rw[getD_replicate_false];simp)),(fun h=>absurd h (by rw[getD_replicate_false];simp)),(fun h=>absurd h (by rw[getD_replicate_false];simp)),(fun h=>absurd h (by rw[getD_replicate_false];simp)),(fun h=>absurd h (by rw[getD_replicate_false];simp)),(fun h=>absurd h (by rw[getD_replicate_false];simp)),(Below.refl _ _).drew⟩
 ·intro listed a w' i o hI hsz ho hl he hcl;have hi:i<14:=(Array.getElem?_eq_some_iff.1 ho).1;have e:i=0∨i=1∨i=2∨i=3∨i=4∨i=5∨i=6∨i=7∨i=8∨i=9∨i=10∨i=11∨i=12∨i=13:=by omega
  clear hi;rcases e with rfl|rfl|rfl|rfl|rfl|rfl|rfl|rfl|rfl|rfl|rfl|rfl|rfl|rfl
  all_goals (have ho2:=ho;obtain rfl:=Option.some.inj ho2.symm;clear ho2)
  ·as_aux_lemma=>
    obtain⟨u6,u7,u8,u9,u10,u11,u12,u13,u14,u15,u16,u17,u18,u19,rfl,F0,F1,F2,F3,F4,F5,F6,F7,F12,F13,hx⟩:=hI;have q0:=(hx.cell (p:=⟨g1,0,none⟩) x3).trans x0;have q1:=(hx.cell (p:=⟨g1,1,none⟩) x3).trans x1;have q2:=(hx.cell (p:=⟨g1,2,none⟩) x3).trans x2;refine zB2 ho rfl (fun K hK=>?_);unfold myA;go_simp;exact hK _ _ ⟨_,_,_,_,_,_,_,_,_,_,_,_,_,_,rfl,fun _=>rfl,cy F1 rfl,cy F2 rfl,cy F3 rfl,cy F4 rfl,cy F5 rfl,cy F6 rfl,cy F7 rfl,cy F12 rfl,cy F13 rfl,hx⟩
  ·as_aux_lemma=>
    obtain⟨u6,u7,u8,u9,u10,u11,u12,u13,u14,u15,u16,u17,u18,u19,rfl,F0,F1,F2,F3,F4,F5,F6,F7,F12,F13,hx⟩:=hI;have q0:=(hx.cell (p:=⟨g2,0,none⟩) y1).trans y0;refine zB2 ho rfl (fun K hK=>?_);unfold myA;go_simp;exact hK _ _ ⟨_,_,_,_,_,_,_,_,_,_,_,_,_,_,rfl,cy F0 rfl,fun _=>rfl,cy F2 rfl,cy F3 rfl,cy F4 rfl,cy F5 rfl,cy F6 rfl,cy F7 rfl,cy F12 rfl,cy F13 rfl,hx⟩
  ·as_aux_lemma=>
    obtain⟨u6,u7,u8,u9,u10,u11,u12,u13,u14,u15,u16,u17,u18,u19,rfl,F0,F1,F2,F3,F4,F5,F6,F7,F12,F13,hx⟩:=hI;refine zB2 ho rfl (fun K hK=>?_);unfold myA;go_simp;exact hK _ _ ⟨_,_,_,_,_,_,_,_,_,_,_,_,_,_,rfl,cy F0 rfl,cy F1 rfl,fun _=>rfl,cy F3 rfl,cy F4 rfl,cy F5 rfl,cy F6 rfl,cy F7 rfl,cy F12 rfl,cy F13 rfl,hx⟩
  ·as_aux_lemma=>
    obtain⟨u6,u7,u8,u9,u10,u11,u12,u13,u14,u15,u16,u17,u18,u19,rfl,F0,F1,F2,F3,F4,F5,F6,F7,F12,F13,hx⟩:=hI;have l2:=he ⟨2,.data⟩ (by simp) rfl;have e:=F2 l2;subst e;have q0:=(hx.cell (p:=⟨G,1,none⟩) hG).trans j1;refine zB2 ho rfl (fun K hK=>?_);unfold myA;go_simp;exact hK _ _ ⟨_,_,_,_,_,_,_,_,_,_,_,_,_,_,rfl,cy F0 rfl,cy F1 rfl,cy F2 rfl,fun _=>rfl,cy F4 rfl,cy F5 rfl,cy F6 rfl,cy F7 rfl,cy F12 rfl,cy F13 rfl,hx⟩
  ·as_aux_lemma=>
    obtain⟨u6,u7,u8,u9,u10,u11,u12,u13,u14,u15,u16,u17,u18,u19,rfl,F0,F1,F2,F3,F4,F5,F6,F7,F12,F13,hx⟩:=hI;have l0:=he ⟨0,.data⟩ (by simp) rfl;have l1:=he ⟨1,.data⟩ (by simp) rfl;have l3:=he ⟨3,.data⟩ (by simp) rfl;have e:=F0 l0;subst e;have e:=F1 l1;subst e;have e:=F3 l3;subst e;refine zB2 ho rfl (fun K hK=>?_);unfold myA;go_simp
    (with_reducible refine(id_any hbus (B:=B) (HO.below (hx.mono hBw)) (Nat.le_trans hBw hx.size) hwi hni).mono ?_)
    rw[←HY.out];rintro e w'' ⟨rfl,hb1⟩
    go_wp2_with fail
    exact⟨_,_,_,_,_,_,_,_,_,_,_,_,_,_,rfl,fun _=>rfl,fun _=>rfl,cy F2 rfl,fun _=>rfl,fun _=>rfl,cy F5 rfl,cy F6 rfl,cy F7 rfl,cy F12 rfl,cy F13 rfl,hx.trans (hb1.mono hx.size)⟩
  ·as_aux_lemma=>
    obtain⟨u6,u7,u8,u9,u10,u11,u12,u13,u14,u15,u16,u17,u18,u19,rfl,F0,F1,F2,F3,F4,F5,F6,F7,F12,F13,hx⟩:=hI;have q0:=(hx.cell (p:=⟨g3,0,none⟩) z1).trans z0;refine zB2 ho rfl (fun K hK=>?_);unfold myA;go_simp;exact hK _ _ ⟨_,_,_,_,_,_,_,_,_,_,_,_,_,_,rfl,cy F0 rfl,cy F1 rfl,cy F2 rfl,cy F3 rfl,cy F4 rfl,fun _=>rfl,cy F6 rfl,cy F7 rfl,cy F12 rfl,cy F13 rfl,hx⟩
  ·as_aux_lemma=>
    obtain⟨u6,u7,u8,u9,u10,u11,u12,u13,u14,u15,u16,u17,u18,u19,rfl,F0,F1,F2,F3,F4,F5,F6,F7,F12,F13,hx⟩:=hI;have l4:=he ⟨4,.data⟩ (by simp) rfl;have l5:=he ⟨5,.data⟩ (by simp) rfl;have e:=F4 l4;subst e;have e:=F5 l5;subst e;have e1:=HE.out;refine zB2 ho rfl (fun K hK=>?_);unfold myA;go_simp;exact hK _ _ ⟨_,_,_,_,_,_,_,_,_,_,_,_,_,_,rfl,cy F0 rfl,cy F1 rfl,cy F2 rfl,cy F3 rfl,cy F4 rfl,cy F5 rfl,fun _=>(by first|rfl|rw[e1]),cy F7 rfl,cy F12 rfl,cy F13 rfl,hx⟩
  ·as_aux_lemma=>
    obtain⟨u6,u7,u8,u9,u10,u11,u12,u13,u14,u15,u16,u17,u18,u19,rfl,F0,F1,F2,F3,F4,F5,F6,F7,F12,F13,hx⟩:=hI;have l6:=he ⟨6,.data⟩ (by simp) rfl;have e:=F6 l6;subst e;refine zB2 ho rfl (fun K hK=>?_);unfold myA;go_simp;exact hK _ _ ⟨_,_,_,_,_,_,_,_,_,_,_,_,_,_,rfl,cy F0 rfl,cy F1 rfl,cy F2 rfl,cy F3 rfl,cy F4 rfl,cy F5 rfl,cy F6 rfl,fun _=>rfl,cy F12 rfl,cy F13 rfl,hx⟩
  ·as_aux_lemma=>
    obtain⟨u6,u7,u8,u9,u10,u11,u12,u13,u14,u15,u16,u17,u18,u19,rfl,F0,F1,F2,F3,F4,F5,F6,F7,F12,F13,hx⟩:=hI;have l7:=he ⟨7,.guard⟩ (by simp) rfl;have e:=F7 l7;subst e;refine wpOp_skip ho rfl ?_;exact⟨_,_,_,_,_,_,_,_,_,_,_,_,_,_,rfl,cy F0 rfl,cy F1 rfl,cy F2 rfl,cy F3 rfl,cy F4 rfl,cy F5 rfl,cy F6 rfl,cy F7 rfl,cy F12 rfl,cy F13 rfl,hx⟩
  ·as_aux_lemma=>
    obtain⟨u6,u7,u8,u9,u10,u11,u12,u13,u14,u15,u16,u17,u18,u19,rfl,F0,F1,F2,F3,F4,F5,F6,F7,F12,F13,hx⟩:=hI;have l7:=he ⟨7,.guard⟩ (by simp) rfl;have e:=F7 l7;subst e;refine wpOp_skip ho rfl ?_;exact⟨_,_,_,_,_,_,_,_,_,_,_,_,_,_,rfl,cy F0 rfl,cy F1 rfl,cy F2 rfl,cy F3 rfl,cy F4 rfl,cy F5 rfl,cy F6 rfl,cy F7 rfl,cy F12 rfl,cy F13 rfl,hx⟩
  ·as_aux_lemma=>
    obtain⟨u6,u7,u8,u9,u10,u11,u12,u13,u14,u15,u16,u17,u18,u19,rfl,F0,F1,F2,F3,F4,F5,F6,F7,F12,F13,hx⟩:=hI;have l7:=he ⟨7,.guard⟩ (by simp) rfl;have e:=F7 l7;subst e;refine wpOp_skip ho rfl ?_;exact⟨_,_,_,_,_,_,_,_,_,_,_,_,_,_,rfl,cy F0 rfl,cy F1 rfl,cy F2 rfl,cy F3 rfl,cy F4 rfl,cy F5 rfl,cy F6 rfl,cy F7 rfl,cy F12 rfl,cy F13 rfl,hx⟩
  ·as_aux_lemma=>
    obtain⟨u6,u7,u8,u9,u10,u11,u12,u13,u14,u15,u16,u17,u18,u19,rfl,F0,F1,F2,F3,F4,F5,F6,F7,F12,F13,hx⟩:=hI;have l7:=he ⟨7,.guard⟩ (by simp) rfl;have e:=F7 l7;subst e;refine wpOp_skip ho rfl ?_;exact⟨_,_,_,_,_,_,_,_,_,_,_,_,_,_,rfl,cy F0 rfl,cy F1 rfl,cy F2 rfl,cy F3 rfl,cy F4 rfl,cy F5 rfl,cy F6 rfl,cy F7 rfl,cy F12 rfl,cy F13 rfl,hx⟩
  ·as_aux_lemma=>
    obtain⟨u6,u7,u8,u9,u10,u11,u12,u13,u14,u15,u16,u17,u18,u19,rfl,F0,F1,F2,F3,F4,F5,F6,F7,F12,F13,hx⟩:=hI;have l7:=he ⟨7,.data⟩ (by simp) rfl;have e:=F7 l7;subst e;refine zB2 ho rfl (fun K hK=>?_);unfold myA;go_simp;exact hK _ _ ⟨_,_,_,_,_,_,_,_,_,_,_,_,_,_,rfl,cy F0 rfl,cy F1 rfl,cy F2 rfl,cy F3 rfl,cy F4 rfl,cy F5 rfl,cy F6 rfl,cy F7 rfl,fun _=>rfl,cy F13 rfl,hx⟩
  ·as_aux_lemma=>
    obtain⟨u6,u7,u8,u9,u10,u11,u12,u13,u14,u15,u16,u17,u18,u19,rfl,F0,F1,F2,F3,F4,F5,F6,F7,F12,F13,hx⟩:=hI;have l12:=he ⟨12,.data⟩ (by simp) rfl;have e:=F12 l12;subst e;refine zB2 ho rfl (fun K hK=>?_);unfold myA;go_simp;exact hK _ _ ⟨_,_,_,_,_,_,_,_,_,_,_,_,_,_,rfl,cy F0 rfl,cy F1 rfl,cy F2 rfl,cy F3 rfl,cy F4 rfl,cy F5 rfl,cy F6 rfl,cy F7 rfl,cy F12 rfl,fun _=>rfl,hx⟩
 ·intro listed a w' hI hd;obtain⟨u6,u7,u8,u9,u10,u11,u12,u13,u14,u15,u16,u17,u18,u19,rfl,F0,F1,F2,F3,F4,F5,F6,F7,F12,F13,hx⟩:=hI;have e6:=F13 (hd 13 (by show 13<14;omega));clear F0 F1 F2 F3 F4 F5 F6 F7 F12 F13 hd;subst e6;unfold myA;have HX:=hid hx;clear hx
  go_wp2_with fail
  go_ret
  exact⟨by rw[HM.out];rfl,HB0.trans (HX.out.mono HB0.size)⟩
theorem mayTest_any {c : Cfg} (hbus : Bus c) {w : World} {B : Nat} {ma : Option Addr} {mn mk lb lo lc pb po pc : Nat} {Q : Nat → Option Addr} {K : Nat → Nat} (h : BusO w B c ma mn mk lb lo lc pb po pc Q K) (hB : B ≤ w.heap.size) {who s : Nat} {id : Int} {j : Jb} (hw : who < 3) (hn : j.n < (c.prog who).length)
  {g1 g2 g3 g4:Nat} (b1:BusB w g1 ma mn mk lb lo lc pb po pc) (b2:IntB w g2 who) (b3:IntB w g3 id) (b4:IntB w g4 s) :
  Calls Tryz.prog 171 #[.agg #[.int .i64 j.who,.int .i64 j.n,.int .i64 j.left],.pointer (some ⟨g1,0,none⟩),.pointer (some ⟨g2,0,none⟩),.pointer (some ⟨g3,0,none⟩),.pointer (some ⟨g4,0,none⟩)] w fun e w' => e=.returned (.bool (mayB c who s id j))∧Below w.heap.size w w':=by
 obtain⟨w0,hw0⟩:∃W,W=w.alloc (.cells #[.int .i64 j.who,.int .i64 j.n,.int .i64 j.left] 101):=⟨_,rfl⟩
 have hb0:Below w.heap.size w w0:=by rw[hw0];exact(Below.refl _ _).alloc (Nat.le_refl _) _
 have hj:w0.heap[w.heap.size]? = some (.cells #[.int .i64 j.who,.int .i64 j.n,.int .i64 j.left] 101 (0,0)):=by rw[hw0];exact zA8 _ _ rfl
 have hz0:w.heap.size<w0.heap.size:=zA2 hj;have HO:=hid (h.below (hb0.mono hB));have B1:=hid (b1.below hb0 (zA2 b1));have B2:=hid (b2.below hb0 (zA2 b2));have B3:=hid (b3.below hb0 (zA2 b3));have B4:=hid (b4.below hb0 (zA2 b4));obtain⟨x0,x1,x2,x3⟩:=B1.out.cells;obtain⟨y0,y1⟩:=B2.out.cells;obtain⟨z0,z1⟩:=B3.out.cells;obtain⟨u0,u1⟩:=B4.out.cells;obtain⟨j0,j1,j2⟩:w0.cell? ⟨w.heap.size,0,none⟩=some (.int .i64 j.who)∧w0.cell? ⟨w.heap.size,1,none⟩=some (.int .i64 j.n)∧w0.cell? ⟨w.heap.size,2,none⟩=some (.int .i64 j.left):=by refine⟨?_,?_,?_⟩ <;> simp[World.cell?,hj]
 have HB0:=hid hb0;have HBZ:=hid hB;have HJ:=hid hj;obtain⟨y,hy⟩:∃y,y=c.id who j.n:=⟨_,rfl⟩
 have HY:=hid hy;have hwi:=hid hw;have hni:=hid hn;by_cases hq:y=id
 ·have e1:(y==id)=true:=by simpa using hq
  have HM:=hid (show mayB c who s id j=(j.left != s) by unfold mayB;rw[←hy,e1];rfl);have e2:((j.left:Int) != (s:Int))=(j.left != s):=by rw[Bool.eq_iff_iff];simp only[bne_iff_ne];omega
  clear hy hq hj hb0
  go_enter Tryz.func171,Tryz.ntmps171
  go_upto_region 1 with fail
  rw[←hw0];clear hw0
  go_region_held3 (fun w' => (w'.cell? ⟨g1, 0, none⟩ = some (.slice ma mn mk) ∧ w'.cell? ⟨g1, 1, none⟩ = some (.slice (some ⟨lb, lo, none⟩) 4 lc) ∧ w'.cell? ⟨g1, 2, none⟩ = some (.slice (some ⟨pb, po, none⟩) 3 pc)) ∧ w'.cell? ⟨g2, 0, none⟩ = some (.int .i64 who) ∧ w'.cell? ⟨g3, 0, none⟩ = some (.int .i64 id) ∧ w'.cell? ⟨g4, 0, none⟩ = some (.int .i64 s) ∧ w'.cell? ⟨w.heap.size, 1, none⟩ = some (.int .i64 j.n) ∧ w'.cell? ⟨w.heap.size, 2, none⟩ = some (.int .i64 j.left))
   (first|exact s6|go_keep)
   (first
    |(go_at_call 107;(with_reducible refine(id_any hbus (B:=B) (HO.out.below (Below.refl _ _).drew) (le_drew' (Nat.le_trans HBZ.out HB0.out.size)) hwi.out hni.out).mono ?_);rw[←HY.out];rintro e w5 ⟨rfl,hb5⟩;have hb5':=(show Below w0.heap.size w0 w0.drew from(Below.refl _ _).drew).trans hb5;have HB5:=hid hb5';have s6:=And.intro (And.intro ((hb5'.cell (p:=⟨g1,_,none⟩) x3).trans x0) (And.intro ((hb5'.cell (p:=⟨g1,_,none⟩) x3).trans x1) ((hb5'.cell (p:=⟨g1,_,none⟩) x3).trans x2))) (And.intro ((hb5'.cell (p:=⟨g2,_,none⟩) y1).trans y0) (And.intro ((hb5'.cell (p:=⟨g3,_,none⟩) z1).trans z0) (And.intro ((hb5'.cell (p:=⟨g4,_,none⟩) u1).trans u0) (And.intro ((hb5'.cell (p:=⟨w.heap.size,_,none⟩) hz0).trans j1) ((hb5'.cell (p:=⟨w.heap.size,_,none⟩) hz0).trans j2)))));clear hb5 hb5'))
  go_wp2_with fail
  go_ret
  exact⟨by rw[HM.out];rfl,HB0.out.trans (HB5.out.mono HB0.out.size)⟩
 ·have e1:(y==id)=false:=by simpa using hq
  have HM:=hid (show mayB c who s id j=false by unfold mayB;rw[←hy,e1];rfl);exact mayTestF_any hbus HO.out HB0.out (Nat.le_trans hB hb0.size) HJ.out x0 x1 x2 x3 y0 y1 z0 z1 hwi.out hni.out hy e1 HM hw0
end Go.Proofs.YtgkdoehkmbhfiaaGreat
namespace Go.Proofs.YtgkdoehkmbhfiaaGreat
open Go.RowKit
attribute [local go_sem ↓] Go.wp_at_zero Go.wp_at_succ
theorem tab5 (a b c d e:Int) {n:Nat} (h:n<5):∃y:Int,([Value.int .i64 a,.int .i64 b,.int .i64 c,.int .i64 d,.int .i64 e]:List Value)[n]? = some (.int .i64 y)∧(y=a∨y=b∨y=c∨y=d∨y=e):=by
 rcases(show n=0∨n=1∨n=2∨n=3∨n=4 by omega)with rfl|rfl|rfl|rfl|rfl
 ·exact⟨a,rfl,.inl rfl⟩
 ·exact⟨b,rfl,.inr (.inl rfl)⟩
 ·exact⟨c,rfl,.inr (.inr (.inl rfl))⟩
 ·exact⟨d,rfl,.inr (.inr (.inr (.inl rfl)))⟩
 ·exact⟨e,rfl,.inr (.inr (.inr (.inr rfl)))⟩
end Go.Proofs.YtgkdoehkmbhfiaaGreat
namespace Go.Proofs.YtgkdoehkmbhfiaaGreat
open Go.RowKit
def QW (w:World) (g:Nat) (id kind addr many:Int) (wp:Bool) (dv lv:Value):Prop :=
 w.heap[g]? = some (.cells #[.int .i64 id,.int .i64 kind,.int .i64 addr,.int .i64 many,.bool wp,dv,lv] 52 (0,0))
theorem QW.lt {w:World} {g:Nat} {id kind addr many:Int} {wp:Bool} {dv lv:Value} (h:QW w g id kind addr many wp dv lv):g<w.heap.size:=lt_of_heap h
theorem QW.cells {w : World} {g : Nat} {id kind addr many : Int} {wp : Bool} {dv lv : Value} (h : QW w g id kind addr many wp dv lv) :
  w.cell? ⟨g,0,none⟩=some (.int .i64 id)∧w.cell? ⟨g,1,none⟩=some (.int .i64 kind)∧w.cell? ⟨g,2,none⟩=some (.int .i64 addr)∧w.cell? ⟨g,3,none⟩=some (.int .i64 many)∧w.cell? ⟨g,4,none⟩=some (.bool wp)∧w.cell? ⟨g,5,none⟩=some dv∧w.cell? ⟨g,6,none⟩=some lv:=by
 unfold QW at h;refine⟨?_,?_,?_,?_,?_,?_,?_⟩ <;> simp[World.cell?,h]
theorem QW.unfrozen {w : World} {g : Nat} {id kind addr many : Int} {wp : Bool} {dv lv : Value} (h : QW w g id kind addr many wp dv lv) :
  w.frozen? ⟨g,0,none⟩=false∧w.frozen? ⟨g,1,none⟩=false∧w.frozen? ⟨g,2,none⟩=false∧w.frozen? ⟨g,3,none⟩=false∧w.frozen? ⟨g,4,none⟩=false∧w.frozen? ⟨g,5,none⟩=false∧w.frozen? ⟨g,6,none⟩=false:=by
 unfold QW at h;refine⟨?_,?_,?_,?_,?_,?_,?_⟩ <;> simp[World.frozen?,h]
theorem QW.keep {w w':World} {g:Nat} {id kind addr many:Int} {wp:Bool} {dv lv:Value} (h:QW w g id kind addr many wp dv lv) (e:w'.heap[g]? = w.heap[g]?):QW w' g id kind addr many wp dv lv:=by
 unfold QW at h ⊢;rw[e];exact h
theorem QW.touch {w w':World} {r g:Nat} {id kind addr many:Int} {wp:Bool} {dv lv:Value} (h:QW w g id kind addr many wp dv lv) (ht:Touch r w w') (hr:g≠r):QW w' g id kind addr many wp dv lv:=h.keep (ht.block g h.lt hr)
theorem QW.below {w w':World} {C g:Nat} {id kind addr many:Int} {wp:Bool} {dv lv:Value} (h:QW w g id kind addr many wp dv lv) (hb:Below C w w') (hr:g<C):QW w' g id kind addr many wp dv lv:=h.keep (hb.block g hr)
theorem QW.alloc {w:World} {g:Nat} {id kind addr many:Int} {wp:Bool} {dv lv:Value} (h:QW w g id kind addr many wp dv lv) (o:Obj):QW (w.alloc o) g id kind addr many wp dv lv:=h.below ((Below.refl w.heap.size w).alloc (Nat.le_refl _) o) h.lt
theorem QW.drewd {w:World} {g:Nat} {id kind addr many:Int} {wp:Bool} {dv lv:Value} (h:QW w g id kind addr many wp dv lv):QW w.drew g id kind addr many wp dv lv:=h
theorem QW.setc {w:World} {g:Nat} {id kind addr many:Int} {wp:Bool} {dv lv:Value} (h:QW w g id kind addr many wp dv lv) (b o:Nat) (u:Value) (hr:g≠b):QW (w.setCell ⟨b,o,none⟩ u) g id kind addr many wp dv lv:=h.keep (Below.heap_setCell _ _ _ _ hr)
theorem QW.new (w:World) {id kind addr many:Int} {wp:Bool} {dv lv:Value}:QW (w.alloc (.cells #[.int .i64 id,.int .i64 kind,.int .i64 addr,.int .i64 many,.bool wp,dv,lv] 52)) w.heap.size id kind addr many wp dv lv:=by
 show(w.heap.push _)[w.heap.size]? = _;simp
theorem QW.set0 {w:World} {g:Nat} {id kind addr many:Int} {wp:Bool} {dv lv:Value} (h:QW w g id kind addr many wp dv lv) (x:Int):QW (w.setCell ⟨g,0,none⟩ (.int .i64 x)) g x kind addr many wp dv lv:=by
 unfold QW at h ⊢;simp[World.setCell,Array.getElem?_modify,h]
theorem QW.set1 {w:World} {g:Nat} {id kind addr many:Int} {wp:Bool} {dv lv:Value} (h:QW w g id kind addr many wp dv lv) (x:Int):QW (w.setCell ⟨g,1,none⟩ (.int .i64 x)) g id x addr many wp dv lv:=by
 unfold QW at h ⊢;simp[World.setCell,Array.getElem?_modify,h]
theorem QW.set2 {w:World} {g:Nat} {id kind addr many:Int} {wp:Bool} {dv lv:Value} (h:QW w g id kind addr many wp dv lv) (x:Int):QW (w.setCell ⟨g,2,none⟩ (.int .i64 x)) g id kind x many wp dv lv:=by
 unfold QW at h ⊢;simp[World.setCell,Array.getElem?_modify,h]
theorem QW.set3 {w:World} {g:Nat} {id kind addr many:Int} {wp:Bool} {dv lv:Value} (h:QW w g id kind addr many wp dv lv) (x:Int):QW (w.setCell ⟨g,3,none⟩ (.int .i64 x)) g id kind addr x wp dv lv:=by
 unfold QW at h ⊢;simp[World.setCell,Array.getElem?_modify,h]
theorem QW.set4 {w:World} {g:Nat} {id kind addr many:Int} {wp:Bool} {dv lv:Value} (h:QW w g id kind addr many wp dv lv) (x:Bool):QW (w.setCell ⟨g,4,none⟩ (.bool x)) g id kind addr many x dv lv:=by
 unfold QW at h ⊢;simp[World.setCell,Array.getElem?_modify,h]
theorem QW.set5 {w:World} {g:Nat} {id kind addr many:Int} {wp:Bool} {dv lv:Value} (h:QW w g id kind addr many wp dv lv) (x:Value):QW (w.setCell ⟨g,5,none⟩ x) g id kind addr many wp x lv:=by
 unfold QW at h ⊢;simp[World.setCell,Array.getElem?_modify,h]
theorem QW.set6 {w:World} {g:Nat} {id kind addr many:Int} {wp:Bool} {dv lv:Value} (h:QW w g id kind addr many wp dv lv) (x:Value):QW (w.setCell ⟨g,6,none⟩ x) g id kind addr many wp dv x:=by
 unfold QW at h ⊢;simp[World.setCell,Array.getElem?_modify,h]
theorem QW.ofNew {r:Nat} {w w':World} {id kind addr many:Int} {wp:Bool} {dv lv:Value} (ht:Touch r (w.alloc (.cells #[.int .i64 id,.int .i64 kind,.int .i64 addr,.int .i64 many,.bool wp,dv,lv] 52)) w') (hr:r<w.heap.size):QW w' w.heap.size id kind addr many wp dv lv:=(QW.new w).touch ht (by omega)
def TW (w:World) (g:Nat) (xs:Array Value):Prop:=w.heap[g]? = some (.cells xs 3 (0,0))
theorem TW.at_ {w:World} {g:Nat} {xs:Array Value} (h:TW w g xs) (i:Nat) (v:Value) (hv:xs[i]? = some v):w.cell? ⟨g,i,none⟩=some v:=by
 unfold TW at h;simp[World.cell?,h,hv]
theorem TW.touch {w w':World} {r g:Nat} {xs:Array Value} (h:TW w g xs) (ht:Touch r w w') (hr:g≠r):TW w' g xs:=by
 unfold TW at h ⊢;rw[ht.block g (lt_of_heap h) hr];exact h
theorem TW.ofNew {r:Nat} {w w':World} {xs:Array Value} (ht:Touch r (w.alloc (.cells xs 3)) w') (hr:r<w.heap.size):TW w' w.heap.size xs :=
 TW.touch (w:=w.alloc (.cells xs 3)) (by show(w.heap.push _)[w.heap.size]? = _;simp) ht (by omega)
theorem TW.alloc {w:World} {g:Nat} {xs:Array Value} (h:TW w g xs) (o:Obj):TW (w.alloc o) g xs:=by
 have hl:=lt_of_heap h;unfold TW at h ⊢;rw[((Below.refl w.heap.size w).alloc (Nat.le_refl _) o).block g hl];exact h
theorem tab4 (a b c d:Int) {n:Nat} (h:n<4):∃y:Int,([Value.int .i64 a,.int .i64 b,.int .i64 c,.int .i64 d]:List Value)[n]? = some (.int .i64 y)∧(y=a∨y=b∨y=c∨y=d):=by
 rcases(show n=0∨n=1∨n=2∨n=3 by omega)with rfl|rfl|rfl|rfl
 ·exact⟨a,rfl,.inl rfl⟩
 ·exact⟨b,rfl,.inr (.inl rfl)⟩
 ·exact⟨c,rfl,.inr (.inr (.inl rfl))⟩
 ·exact⟨d,rfl,.inr (.inr (.inr rfl))⟩
theorem loadVar_req (w : World) (g : Nat) (a b c d e f k : Value) (h0 : w.cell? ⟨g, 0, none⟩ = some a) (h1 : w.cell? ⟨g, 1, none⟩ = some b) (h2 : w.cell? ⟨g, 2, none⟩ = some c) (h3 : w.cell? ⟨g, 3, none⟩ = some d) (h4 : w.cell? ⟨g, 4, none⟩ = some e) (h5 : w.cell? ⟨g, 5, none⟩ = some f) (h6 : w.cell? ⟨g, 6, none⟩ = some k) :
  (loadVar 52 ⟨g,0,none⟩).run Tryz.prog w=.ok (.agg #[a,b,c,d,e,f,k]) w:=by
 simp[loadVar,go_sem,h0,h1,h2,h3,h4,h5,h6]
abbrev qz (w:World) (g:Nat):Prop:=QW w g 0 0 0 0 false (.slice none 0 0) (.slice none 0 0)
end Go.Proofs.YtgkdoehkmbhfiaaGreat
