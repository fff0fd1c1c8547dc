/- BusCfg.copyOf: its drawn region 1 (printed by wip/gen_qb.py). -/
import Derived.Test.YthnlalffjepdaaaGreatGDr2
import Derived.Test.YthnlalffjepdaaaGreatGY1
import Derived.Test.YthnlalffjepdaaaGreatGWrd
import Derived.Test.YthnlalffjepdaaaGreatGLib
import Derived.BigGuardPart
set_option linter.unusedVariables false
set_option linter.unusedSimpArgs false
set_option maxHeartbeats 16000000
namespace Go.Proofs.YthnlalffjepdaaaGreat
open Go.RowKit
structure QcO (w:World) (lo g o c n:Nat) (qs:List Rq) (vs:List (Value×Value)) (rest:List RqV):Prop where
 len:vs.length=qs.length
 le:qs.length+rest.length=n
 rows:Owns w lo 69 7 rowQ (.slice (some ⟨g,o,none⟩) n c) (zipQ qs vs++rest)
 d:∀j,j<qs.length→Owns w lo 3 1 rowI (vs.getD j default).1 (qs.getD j default).data
 l:∀j,j<qs.length→Owns w lo 3 1 rowI (vs.getD j default).2 (qs.getD j default).lanes
 n1:∀j,j<qs.length→(vs.getD j default).1.ownBlock≠some g
 n2:∀j,j<qs.length→(vs.getD j default).2.ownBlock≠some g
 a1:∀i j,i<qs.length→j<qs.length→i≠j→Apart (vs.getD i default).1 (vs.getD j default).1
 a2:∀i j,i<qs.length→j<qs.length→i≠j→Apart (vs.getD i default).2 (vs.getD j default).2
 a3:∀i j,i<qs.length→j<qs.length→Apart (vs.getD i default).1 (vs.getD j default).2
theorem QcO.g {w:World} {lo g o c n:Nat} {qs:List Rq} {vs:List (Value×Value)} {rest:List RqV} (h:QcO w lo g o c n qs vs rest):lo≤g∧g<w.heap.size:=OwnR.lt h.rows g rfl
theorem QcO.kept {w w':World} {lo g o c n:Nat} {qs:List Rq} {vs:List (Value×Value)} {rest:List RqV} (h:QcO w lo g o c n qs vs rest) (hk:∀k,lo≤k→k<w.heap.size→w'.heap[k]? = w.heap[k]?):QcO w' lo g o c n qs vs rest :=
  { h with rows := OwnR.kept h.rows fun k hk2 => hk k (OwnR.lt h.rows k hk2).1 (OwnR.lt h.rows k hk2).2
           d:=fun j hj=>OwnR.kept (h.d j hj) fun k hk2=>hk k (OwnR.lt (h.d j hj) k hk2).1 (OwnR.lt (h.d j hj) k hk2).2
           l:=fun j hj=>OwnR.kept (h.l j hj) fun k hk2=>hk k (OwnR.lt (h.l j hj) k hk2).1 (OwnR.lt (h.l j hj) k hk2).2 }
theorem QcO.below {w w':World} {lo g o c n:Nat} {qs:List Rq} {vs:List (Value×Value)} {rest:List RqV} (h:QcO w lo g o c n qs vs rest) (hb:Below w.heap.size w w'):QcO w' lo g o c n qs vs rest:=h.kept fun k _ hk=>hb.block k hk
theorem QcO.rebase {w:World} {lo lo' g o c n:Nat} {qs:List Rq} {vs:List (Value×Value)} {rest:List RqV} (h:QcO w lo g o c n qs vs rest) (hl:lo' ≤ lo):QcO w lo' g o c n qs vs rest :=
 { h with rows:=OwnR.rebase h.rows hl,d:=fun j hj=>OwnR.rebase (h.d j hj) hl,l:=fun j hj=>OwnR.rebase (h.l j hj) hl }
theorem QcO.bound {w:World} {lo g o c n:Nat} {qs:List Rq} {vs:List (Value×Value)} {rest:List RqV} (h:QcO w lo g o c n qs vs rest):QsB w.heap.size g qs.length vs :=
 ⟨h.g.2,fun j hj k hk=>(OwnR.lt (h.d j hj) k hk).2,fun j hj k hk=>(OwnR.lt (h.l j hj) k hk).2⟩
theorem QcO.reqs {w:World} {lo g o c n:Nat} {qs:List Rq} {vs:List (Value×Value)} (h:QcO w lo g o c n qs vs []) (hn:qs.length≤1048576) (hq:∀q∈qs,Rq20 q∧(∀y∈q.data,I64 y)∧(∀y∈q.lanes,I64 y)∧I64 q.id∧I64 q.kind∧I64 q.addr∧I64 q.many):Reqs w w.heap.size (.slice (some ⟨g,o,none⟩) n c) qs:=by
 have hr:=h.rows;rw[List.append_nil]at hr;have hl1:(zipQ qs vs).length=qs.length:=zC3 h.len;have key:=reqs_of (B:=w.heap.size) (P:=(·<w.heap.size)) (hr.arrD (P:=(·<w.heap.size)) (fun k hk=>(OwnR.lt hr k hk).2) zD0 (by omega)) (fun y hy=>?_) (fun b hb=>hb)
 ·have e:(zipQ qs vs).map (·.1)=qs:=by
   unfold zipQ;rw[List.map_zipWith];apply List.ext_getElem
   ·simp[h.len]
   ·intro i h1 h2;simp
  rw[e]at key;exact key
 ·obtain⟨k,hk,rfl⟩:=List.mem_iff_getElem.1 hy;have hk':k<qs.length:=by omega
  have e:(zipQ qs vs)[k]=(qs.getD k default,vs.getD k default):=by
   rw[←zipQ_get h.len hk' zQ];simp[List.getD,hk]
  rw[e];obtain⟨⟨b1,b2⟩,i1,i2,i3⟩:=hq _ (zB8 (d:=default) hk');exact⟨(h.d k hk').intsD (fun b hb=>(OwnR.lt (h.d k hk') b hb).2) (by omega) i1,(h.l k hk').intsD (fun b hb=>(OwnR.lt (h.l k hk') b hb).2) (by omega) i2,i3⟩
theorem QcO.snoc {w w' : World} {lo g o c n : Nat} {qs : List Rq} {vs : List (Value × Value)} {row : RqV} {rest : List RqV} (h : QcO w lo g o c n qs vs (row :: rest)) (hb : Below w.heap.size w w') {q : Rq} {u z : Value}
  (hu:Owns w' w.heap.size 3 1 rowI u q.data) (hz:Owns w' w.heap.size 3 1 rowI z q.lanes) (ha:Apart u z) :
  QcO (w'.setCells g (o+qs.length * 7) (rowQ (q,u,z))) lo g o c n (qs++[q]) (vs++[(u,z)]) rest:=by
 have hg:=h.g;have h':=h.below hb;have hloh:lo≤w.heap.size:=by omega
 have hul:∀k,u.ownBlock=some k→w.heap.size≤k:=fun k hk=>(OwnR.lt hu k hk).1
 have hzl:∀k,z.ownBlock=some k→w.heap.size≤k:=fun k hk=>(OwnR.lt hz k hk).1
 have hset:∀k,k≠g→(w'.setCells g (o+qs.length * 7) (rowQ (q,u,z))).heap[k]? = w'.heap[k]?:=fun k hk=>setCells_heap g _ _ _ _ hk
 have hl1:(zipQ qs vs).length=qs.length:=zC3 h.len;have dl:∀j,j<qs.length→∀k,(vs.getD j default).1.ownBlock=some k→k<w.heap.size:=fun j hj k hk=>(OwnR.lt (h.d j hj) k hk).2
 have ll:∀j,j<qs.length→∀k,(vs.getD j default).2.ownBlock=some k→k<w.heap.size:=fun j hj k hk=>(OwnR.lt (h.l j hj) k hk).2
 have ev:∀j,j<qs.length→(vs++[(u,z)]).getD j default=vs.getD j default:=fun j hj=>zB5 (by rw[h.len];exact hj)
 have ev2:(vs++[(u,z)]).getD qs.length default=(u,z):=by rw[←h.len];exact zC5
 have eq1:∀j,j<qs.length→(qs++[q]).getD j default=qs.getD j default:=fun j hj=>zB5 hj
 have eq2:(qs++[q]).getD qs.length default=q:=zC5;have cs:∀j,j<(qs++[q]).length→j<qs.length∨j=qs.length:=fun j hj=>by simp at hj;omega
 refine⟨by simp[h.len],by have:=h.le;simp at this ⊢;omega,?_,?_,?_,?_,?_,?_,?_,?_⟩
 ·have hk:qs.length<(zipQ qs vs++row::rest).length:=by simp[hl1]
  have r:=h'.rows.row7 (k:=qs.length) hk (q,u,z);rw[zipQ_snoc h.len];have e:(zipQ qs vs++row::rest).set qs.length (q,u,z)=zipQ qs vs++[(q,u,z)]++rest:=by
   rw[List.set_append_right _ _ (by omega),hl1,Nat.sub_self,List.set_cons_zero,List.append_assoc];rfl
  rw[e]at r;exact r
 ·intro j hj;rcases cs j hj with hj|rfl
  ·rw[ev j hj,eq1 j hj];exact OwnR.kept (h'.d j hj) fun k hk=>hset k fun e=>h.n1 j hj (e▸hk)
  ·rw[ev2,eq2];exact(hu.rebase hloh).kept fun k hk=>hset k (by have:=hul k hk;omega)
 ·intro j hj;rcases cs j hj with hj|rfl
  ·rw[ev j hj,eq1 j hj];exact OwnR.kept (h'.l j hj) fun k hk=>hset k fun e=>h.n2 j hj (e▸hk)
  ·rw[ev2,eq2];exact(hz.rebase hloh).kept fun k hk=>hset k (by have:=hzl k hk;omega)
 ·intro j hj;rcases cs j hj with hj|rfl
  ·rw[ev j hj];exact h.n1 j hj
  ·rw[ev2];intro e;have:=hul g e;omega
 ·intro j hj;rcases cs j hj with hj|rfl
  ·rw[ev j hj];exact h.n2 j hj
  ·rw[ev2];intro e;have:=hzl g e;omega
 ·intro i j hi hj hne;rcases cs i hi with hi|rfl <;> rcases cs j hj with hj|rfl
  ·rw[ev i hi,ev j hj];exact h.a1 i j hi hj hne
  ·rw[ev i hi,ev2];exact Apart.of_lt (dl i hi) hul
  ·rw[ev j hj,ev2];exact(Apart.of_lt (dl j hj) hul).symm
  ·exact absurd rfl hne
 ·intro i j hi hj hne;rcases cs i hi with hi|rfl <;> rcases cs j hj with hj|rfl
  ·rw[ev i hi,ev j hj];exact h.a2 i j hi hj hne
  ·rw[ev i hi,ev2];exact Apart.of_lt (ll i hi) hzl
  ·rw[ev j hj,ev2];exact(Apart.of_lt (ll j hj) hzl).symm
  ·exact absurd rfl hne
 ·intro i j hi hj;rcases cs i hi with hi|rfl <;> rcases cs j hj with hj|rfl
  ·rw[ev i hi,ev j hj];exact h.a3 i j hi hj
  ·rw[ev i hi,ev2];exact Apart.of_lt (dl i hi) hzl
  ·rw[ev j hj,ev2];exact(Apart.of_lt (ll j hj) hul).symm
  ·rw[ev2];exact ha
def Progs (w:World) (B:Nat) (v:Value) (pss:List (List Rq)):Prop:=ArrV Reqs w B 1 v pss
theorem Progs.below {w w':World} {B:Nat} {v:Value} {pss:List (List Rq)} (h:Progs w B v pss) (hb:Below B w w'):Progs w' B v pss:=ArrV.below h hb fun _ _ h=>h.below hb
theorem Progs.mono {w:World} {B B':Nat} {v:Value} {pss:List (List Rq)} (h:Progs w B v pss) (hb:B≤B'):Progs w B' v pss:=ArrV.mono h hb fun _ _ h=>h.mono hb
theorem Progs.opened {w : World} {B : Nat} {v : Value} {pss : List (List Rq)} (h : Progs w B v pss) :
  ∃ ao cap, v = .slice ao pss.length cap ∧ pss.length ≤ cap ∧ cap ≤ 9223372036854775807 ∧ pss.length ≤ 140737488351232 ∧ (ao = none → cap = 0) ∧
   (pss.length≠0→∃b off,ao=some ⟨b,off,none⟩∧b<B∧∀t,t<pss.length→∃da dc,Reqs w B (.slice da (pss.getD t []).length dc) (pss.getD t [])∧w.cell? ⟨b,off+t,none⟩=some (.slice da (pss.getD t []).length dc)):=by
 obtain⟨ao,cap,rfl,h1,h2,h0,h9⟩:=ArrV.shape h;refine⟨ao,cap,rfl,h1,h2,h0,h9,fun hn=>?_⟩;obtain⟨b,off,ha,hlt,hc⟩:=ArrV.at h hn;refine⟨b,off,ha,hlt,fun t ht=>?_⟩;obtain⟨u,hu,hcell⟩:=hc t ht;have hu':=hu [];obtain⟨da,dc,rfl,_⟩:=Reqs.opened hu';refine⟨da,dc,hu', ?_⟩;have:=hcell 0 (by omega);simpa[Value.cells]using this
def BusI (w:World) (B:Nat) (v:Value) (ms:List MR) (lat:List Int) (pss:List (List Rq)):Prop:=∃mv lv pv,v=.agg #[mv,lv,pv]∧Maps w B mv ms∧Ints w B lv lat∧Progs w B pv pss
theorem BusI.below {w w':World} {B:Nat} {v:Value} {ms:List MR} {lat:List Int} {pss:List (List Rq)} (h:BusI w B v ms lat pss) (hb:Below B w w'):BusI w' B v ms lat pss:=by
 obtain⟨mv,lv,pv,e,h1,h2,h3⟩:=h;exact⟨mv,lv,pv,e,h1.below hb,h2.below hb,h3.below hb⟩
theorem BusI.mono {w:World} {B B':Nat} {v:Value} {ms:List MR} {lat:List Int} {pss:List (List Rq)} (h:BusI w B v ms lat pss) (hb:B≤B'):BusI w B' v ms lat pss:=by
 obtain⟨mv,lv,pv,e,h1,h2,h3⟩:=h;exact⟨mv,lv,pv,e,h1.mono hb,h2.mono hb,h3.mono hb⟩
def progOk (p:List Rq):Bool:=decide (p.length≤12)&&p.all reqOk
def busOk (ms:List MR) (lat:List Int) (pss:List (List Rq)):Bool:=mapOk ms&&decide (lat.length=4)&&lat.all (inB · 0 3)&&decide (pss.length=3)&&pss.all progOk
def IdxPP (p:List Rq→Bool) (rs:List (List Rq)) (w:World) (e:Ending) (w':World):Prop:=e=.returned (.int .i64 (idxP p rs))∧Below w.heap.size w w'
def HasPP (p:List Rq→Bool) (rs:List (List Rq)) (w:World) (e:Ending) (w':World):Prop:=e=.returned (.bool (rs.any p))∧Below w.heap.size w w'
theorem idxProg_any (K : FuncId) (cap : Array Value) (hK : zE4 K) (p : List Rq → Bool) (v : Value) (rs : List (List Rq)) (B : Nat) (w : World) (hv : Progs w B v rs) (hB : B ≤ w.heap.size)
  (hf:∀(r:List Rq) (u:Value) (w1:World),Below w.heap.size w w1→Reqs w1 B u r→Calls Tryz.prog K (#[u]++cap) w1 fun e w' => e=.returned (.bool (p r))∧Below w1.heap.size w1 w') :
  Calls Tryz.prog 121 #[v,.func (.func K) #[] cap] w (IdxPP p rs w):=by
 obtain⟨ao,cap', rfl,hlc,hcap,hln,hni,hr⟩:=hv.opened;have HF:=hid hf;clear hf hv;have hK2:=fun args w=>hK args w
 go_enter Tryz.func121,Tryz.ntmps121
 go_wp2_with fail
 go_loopw [8] (fun i wr=>∃k:Nat,k≤rs.length∧i=.int .i64 k∧Below w.heap.size w wr∧∀j,j<k→p (rs.getD j [])=false) (fun i _=>rs.length - (intOf i).toNat)
 case atStart=>exact⟨0,Nat.zero_le _,rfl,Below.refl _ _,by simp⟩
 case round=>
  obtain⟨k,hk,rfl,hbl,hno⟩:=hrel;have HN:=hid hno;clear hno;by_cases hlt:k<rs.length
  ·obtain⟨b,off,rfl,hb,hc⟩:=hr (by omega);obtain⟨da,dc,hu,c0⟩:=hc k hlt;obtain⟨x,hx⟩:∃x,x=rs.getD k []:=⟨_,rfl⟩
   rw[←hx]at c0 hu;rw[←hbl.cell (p:=⟨b,_,none⟩) (Nat.lt_of_lt_of_le hb hB)]at c0;have HX:=hid hx;have HU:=hid (hu.below (hbl.mono hB));clear hx hc hr hu
   go_wp2_with fail
   refine(HF.out x _ _ hbl HU.out).mono ?_;rintro e w' ⟨rfl,hb'⟩;have hsz:=hbl.size;have HB:=hid (hbl.trans (hb'.mono hsz));clear hbl;rcases hp:p x with _|_
   ·have HQ:=hid (zK2 HN.out (show p (rs.getD k [])=false by rw[←HX.out];exact hp))
    go_wp2_with fail
    go_roundw
    case rel=>exact⟨k+1,by omega,by go_num,HB.out,HQ.out⟩
    case measure=>simp[intOf];omega
   ·have HQ:=hid (zM3 p rs k [] hlt (by rw[←HX.out];exact hp) HN.out)
    go_wp2_with fail
    go_ret
    exact⟨by rw[HQ.out];rfl,HB.out⟩
  ·have HF2:=hid (zL2 p rs [] (fun j hj=>HN.out j (by omega)))
   go_wp2_with fail
   go_ret
   exact⟨by rw[HF2.out];rfl,hbl⟩
theorem hasProg_any (K : FuncId) (cap : Array Value) (hK : zE4 K) (p : List Rq → Bool) (v : Value) (rs : List (List Rq)) (B : Nat) (w : World) (hv : Progs w B v rs) (hB : B ≤ w.heap.size)
  (hf:∀(r:List Rq) (u:Value) (w1:World),Below w.heap.size w w1→Reqs w1 B u r→Calls Tryz.prog K (#[u]++cap) w1 fun e w' => e=.returned (.bool (p r))∧Below w1.heap.size w1 w') :
  Calls Tryz.prog 71 #[v,.func (.func K) #[] cap] w (HasPP p rs w):=by
 have HA:=hid (idxP_any p rs)
 go_enter Tryz.func71,Tryz.ntmps71
 go_wp2_with fail
 refine(idxProg_any K cap hK p v rs B _ hv hB hf).mono ?_;rintro e w' ⟨rfl,hb⟩
 go_wp2_with fail
 go_ret
 exact⟨by rw[←HA.out];rfl,hb⟩
theorem busLat_any (x:Int) (w:World):Calls Tryz.prog 70 #[.int .i64 x] w fun e w' => e=.returned (.bool (!inB x 0 3))∧w=w':=by
 rcases h:inB x 0 3 with _|_
 all_goals
  go_enter Tryz.func70,Tryz.ntmps70
  go_wp2_with (go_at_call 60;refine(zH1 _ _ _ _).mono ?_;rw[h];rintro e w' ⟨rfl,rfl⟩)
  go_ret
  exact⟨rfl,rfl⟩
theorem busReq_any (r : Rq) (u : Value) (B : Nat) (w : World) (hu : ReqV w B u r) (hB : B ≤ w.heap.size) :
  Calls Tryz.prog 74 #[u] w fun e w' => e=.returned (.bool (!reqOk r))∧Below w.heap.size w w':=by
 have HU:=hid hu;obtain⟨dv,lv,rfl,k1,k2,_⟩:=hu;obtain⟨da,dc,rfl,_⟩:=k1.opened;obtain⟨la,lc,rfl,_⟩:=k2.opened;rcases h:reqOk r with _|_
 all_goals
  have HR:=hid h;clear h
  go_enter Tryz.func74,Tryz.ntmps74
  go_wp2_with (first|(go_at_call 75;go_loud ((with_reducible refine(implReqOk_any _ r B _ (HU.out.below ((Below.refl _ _).alloc hB _)) (by simp;omega)).mono ?_);rw[HR.out];rintro e w1 ⟨rfl,hb1⟩)))
  go_ret
  exact⟨rfl,((Below.refl _ _).alloc (Nat.le_refl _) _).trans (hb1.mono (by simp))⟩
theorem all_not_any {α:Type} (p:α→Bool) (xs:List α):xs.any (fun x=>!p x)=!xs.all p:=by induction xs <;> simp_all [Bool.not_and]
theorem busProg_any (p : List Rq) (u : Value) (B : Nat) (w : World) (hu : Reqs w B u p) (hB : B ≤ w.heap.size) :
  Calls Tryz.prog 72 #[u] w fun e w' => e=.returned (.bool (!progOk p))∧Below w.heap.size w w':=by
 have HU:=hid hu;obtain⟨ao,cap,rfl,hlc,hcap,hln,hni,hr⟩:=hu.opened;clear hr hu;have HE:=hid (all_not_any reqOk p);by_cases h12:(12:Int)<(p.length:Int)
 ·have hd:progOk p=false:=by unfold progOk;rw[decide_eq_false (by omega)];rfl
  rw[hd]
  go_enter Tryz.func72,Tryz.ntmps72
  go_wp2_with fail
  go_ret
  exact⟨rfl,Below.refl _ _⟩
 ·have hd:progOk p=p.all reqOk:=by unfold progOk;rw[decide_eq_true (by omega)];rfl
  have h12':decide ((12:Int)<(p.length:Int))=false:=decide_eq_false h12;rw[hd];rcases hq:p.all reqOk with _|_
  all_goals
   rw[hq]at HE
   go_enter Tryz.func72,Tryz.ntmps72
   go_wp2_with (first
    |(go_at_call 73;refine(hasReq_any 74 _ (zB4 Tryz.func74 (by kernel_rfl) (by kernel_rfl)) (fun r=>!reqOk r) _ p B _ HU.out hB (fun r u' w1 hb hu' => by simpa using busReq_any r u' B w1 hu' (Nat.le_trans hB hb.size))).mono ?_;unfold HasRP;rw[HE.out];rintro e w1 ⟨rfl,hb1⟩))
   go_ret
   exact⟨rfl,hb1⟩
theorem busOk_cases (ms : List MR) (lat : List Int) (pss : List (List Rq)) :
  (busOk ms lat pss=false∧mapOk ms=false)∨(busOk ms lat pss=false∧mapOk ms=true∧¬lat.length=4)∨(busOk ms lat pss=false∧mapOk ms=true∧lat.length=4∧lat.all (inB · 0 3)=false) ∨
  (busOk ms lat pss=false∧mapOk ms=true∧lat.length=4∧lat.all (inB · 0 3)=true∧¬pss.length=3)∨(∃y,busOk ms lat pss=y∧pss.all progOk=y∧mapOk ms=true∧lat.length=4∧lat.all (inB · 0 3)=true∧pss.length=3):=by
 unfold busOk;by_cases h2:lat.length=4 <;> by_cases h4:pss.length=3 <;> rcases h1:mapOk ms with _|_ <;> rcases h3:lat.all (inB · 0 3)with _|_ <;> simp_all
set_option maxRecDepth 4000 in
theorem zI0 (v : Value) (ms : List MR) (lat : List Int) (pss : List (List Rq)) (B : Nat) (w : World) (h : BusI w B v ms lat pss) (hB : B ≤ w.heap.size) :
  Calls Tryz.prog 25 #[v] w fun e w' => e=.returned (.bool (busOk ms lat pss))∧Below w.heap.size w w':=by
 obtain⟨mv,lv,pv,rfl,hm,hl,hp⟩:=h;have HM:=hid hm;have HL:=hid hl;have HP:=hid hp;obtain⟨ma,mc,rfl,_⟩:=hm.opened;obtain⟨la,lc,rfl,_⟩:=hl.opened;obtain⟨pa,pc,rfl,_⟩:=hp.opened;clear hm hl hp;have HS:=hid (fun T=>show Bx (w.alloc (.cells #[.slice ma ms.length mc,.slice la lat.length lc,.slice pa pss.length pc] T)) w.heap.size [.slice ma ms.length mc,.slice la lat.length lc,.slice pa pss.length pc] from Bx.new w #[.slice ma ms.length mc,.slice la lat.length lc,.slice pa pss.length pc] T (by simp));have HB:=hid (bx1 w);have HL2:=hid (all_not_any (inB · 0 3) lat);have HP2:=hid (all_not_any progOk pss);rcases busOk_cases ms lat pss with⟨hy,h1⟩|⟨hy,h1,h2⟩|⟨hy,h1,h2,h3⟩|⟨hy,h1,h2,h3,h4⟩|⟨y,hy,h5,h1,h2,h3,h4⟩
 case inr.inr.inr.inr=>
  rcases y with _|_
  all_goals
   rw[hy];rw[h3]at HL2;rw[h5]at HP2;have q2:((lat.length:Int)==4)=true:=by simp;omega
   have q4:((pss.length:Int)==3)=true:=by simp;omega
   have H1:=hid h1;clear h1 h2 h3 h4 h5 hy
   go_enter Tryz.func25,Tryz.ntmps25
   go_wp2_with (first
    |(go_at_call 68;refine(zD4 _ ms B _ (HM.out.below ((HB.out _).mono hB)) (Nat.le_trans hB (HB.out _).size)).mono ?_;rw[H1.out];rintro e w1 ⟨rfl,hb⟩;have HS1:=hid ((HS.out _).below hb (by simp));obtain⟨⟨c0,c1,c2⟩,_⟩:=HS1.out.three;have HB1:=hid ((HB.out _).trans (hb.mono (by simp)));clear hb)
    |(go_at_call 69;refine(zI3 70 #[] (zB4 Tryz.func70 (by kernel_rfl) (by kernel_rfl)) (fun n=>!inB n 0 3) _ lat B _ (HL.out.below (HB1.out.mono hB)) (fun x _=>by simpa using busLat_any x _)).mono ?_;rw[HL2.out];rintro e w2 ⟨rfl,hw⟩;subst hw)
    |(go_at_call 71;refine(hasProg_any 72 #[] (zB4 Tryz.func72 (by kernel_rfl) (by kernel_rfl)) (fun p=>!progOk p) _ pss B _ (HP.out.below (HB1.out.mono hB)) (Nat.le_trans hB HB1.out.size) (fun r u' w1 hb hu' => by simpa using busProg_any r u' B w1 hu' (Nat.le_trans (Nat.le_trans hB HB1.out.size) hb.size))).mono ?_;unfold HasPP;rw[HP2.out];rintro e w2 ⟨rfl,hb⟩;have HB2:=hid (HB1.out.trans (hb.mono HB1.out.size));clear hb))
   go_ret
   exact⟨rfl,HB2.out⟩
 case inl=>
  rw[hy];have H1:=hid h1;clear h1 hy
  go_enter Tryz.func25,Tryz.ntmps25
  go_wp2_with (first
   |(go_at_call 68;refine(zD4 _ ms B _ (HM.out.below ((HB.out _).mono hB)) (Nat.le_trans hB (HB.out _).size)).mono ?_;rw[H1.out];rintro e w1 ⟨rfl,hb⟩;have HS1:=hid ((HS.out _).below hb (by simp));obtain⟨⟨c0,c1,c2⟩,_⟩:=HS1.out.three;have HB1:=hid ((HB.out _).trans (hb.mono (by simp)));clear hb))
  go_ret
  exact⟨rfl,HB1.out⟩
 case inr.inl=>
  rw[hy];have H1:=hid h1;have q2:((lat.length:Int)==4)=false:=by simp;omega
  clear h1 h2 hy
  go_enter Tryz.func25,Tryz.ntmps25
  go_wp2_with (first
   |(go_at_call 68;refine(zD4 _ ms B _ (HM.out.below ((HB.out _).mono hB)) (Nat.le_trans hB (HB.out _).size)).mono ?_;rw[H1.out];rintro e w1 ⟨rfl,hb⟩;have HS1:=hid ((HS.out _).below hb (by simp));obtain⟨⟨c0,c1,c2⟩,_⟩:=HS1.out.three;have HB1:=hid ((HB.out _).trans (hb.mono (by simp)));clear hb))
  go_ret
  exact⟨rfl,HB1.out⟩
 case inr.inr.inl=>
  rw[hy];have H1:=hid h1;rw[h3]at HL2;have q2:((lat.length:Int)==4)=true:=by simp;omega
  clear h1 h2 h3 hy
  go_enter Tryz.func25,Tryz.ntmps25
  go_wp2_with (first
   |(go_at_call 68;refine(zD4 _ ms B _ (HM.out.below ((HB.out _).mono hB)) (Nat.le_trans hB (HB.out _).size)).mono ?_;rw[H1.out];rintro e w1 ⟨rfl,hb⟩;have HS1:=hid ((HS.out _).below hb (by simp));obtain⟨⟨c0,c1,c2⟩,_⟩:=HS1.out.three;have HB1:=hid ((HB.out _).trans (hb.mono (by simp)));clear hb)
   |(go_at_call 69;refine(zI3 70 #[] (zB4 Tryz.func70 (by kernel_rfl) (by kernel_rfl)) (fun n=>!inB n 0 3) _ lat B _ (HL.out.below (HB1.out.mono hB)) (fun x _=>by simpa using busLat_any x _)).mono ?_;rw[HL2.out];rintro e w2 ⟨rfl,hw⟩;subst hw))
  go_ret
  exact⟨rfl,HB1.out⟩
 case inr.inr.inr.inl=>
  rw[hy];have H1:=hid h1;rw[h3]at HL2;have q2:((lat.length:Int)==4)=true:=by simp;omega
  have q4:((pss.length:Int)==3)=false:=by simp;omega
  clear h1 h2 h3 h4 hy
  go_enter Tryz.func25,Tryz.ntmps25
  go_wp2_with (first
   |(go_at_call 68;refine(zD4 _ ms B _ (HM.out.below ((HB.out _).mono hB)) (Nat.le_trans hB (HB.out _).size)).mono ?_;rw[H1.out];rintro e w1 ⟨rfl,hb⟩;have HS1:=hid ((HS.out _).below hb (by simp));obtain⟨⟨c0,c1,c2⟩,_⟩:=HS1.out.three;have HB1:=hid ((HB.out _).trans (hb.mono (by simp)));clear hb)
   |(go_at_call 69;refine(zI3 70 #[] (zB4 Tryz.func70 (by kernel_rfl) (by kernel_rfl)) (fun n=>!inB n 0 3) _ lat B _ (HL.out.below (HB1.out.mono hB)) (fun x _=>by simpa using busLat_any x _)).mono ?_;rw[HL2.out];rintro e w2 ⟨rfl,hw⟩;subst hw))
  go_ret
  exact⟨rfl,HB1.out⟩
theorem elem_MapRange:Elem 23 158 4 32:=zE8 Tryz.underlying23 (z:=(.agg #[.int .i64 0,.int .i64 0,.int .i64 0,.bool false])) (by kernel_rfl) rfl (by omega)
theorem sClone_MapRange {α : Type} (f : α → List Value) (hf : ∀ x, (f x).length = 4) (h1 : ∀ x, ∀ u ∈ f x, u.oneCell' = true) (v : Value) (ys : List α) (B : Nat) (w : World) (ha : Arr w B 4 v (ys.map f)) (hlen : ys.length * 32 ≤ 140737488355328) :
  Calls Tryz.prog 172 #[v] w (zK4 f 158 4 ys w):=by
 have ha0:=hid ha;obtain⟨ao,cap,rfl,g1,g2,g0,g9,g3⟩:=ha;simp only[List.length_map]at g1 g2 g0 ⊢;clear g3;cases ao with
 |none=>
  obtain rfl:=g9 rfl;have hy:ys=[]:=by
   rcases ys with _|⟨y,ys⟩
   ·rfl
   ·simp at g1
  subst hy;have he:=fun w=>Lib.run_eql_slice_nil (P:=Tryz.prog) w 23 158 none 0 0 0 0 Tryz.underlying23
  go_enter Tryz.func172,Tryz.ntmps172
  go_wp2_with fail
  go_ret
  exact⟨_,rfl,Owns.zero,Below.refl _ _⟩
 |some ad=>
  have he:=fun w=>Lib.run_eql_slice_nil (P:=Tryz.prog) w 23 158 (some ad) ys.length cap 0 0 Tryz.underlying23
  clear g9
  go_enter Tryz.func172,Tryz.ntmps172
  go_wp2_with (at_builtin;go_must (refine zE9 elem_MapRange f hf h1 _ rfl _ _ rfl w.heap.size _ [] (by rfl) (Owns.lit (Nat.le_refl _)) _ ys (min B w.heap.size) (by rfl) (by have:=(ha0.out).fit (by omega) (by intro r hr;obtain⟨y,_,rfl⟩:=List.mem_map.1 hr;exact hf y);simp only[List.length_map]at this;exact this.below ((Below.refl _ _).alloc (Nat.min_le_right _ _) _)) (by simpa using hlen) (by simp;omega) (by simp) ?_);intro v' w1 hown1 hb1 _)
  go_ret
  exact⟨v', rfl,by simpa using hown1,((Below.refl _ _).alloc (Nat.le_refl _) _).trans hb1⟩
theorem sClip_MapRange (a:Option Addr) (n c:Nat) (w:World) (hc:n≤c) (hm:c≤9223372036854775807):Calls Tryz.prog 171 #[.slice a n c] w fun e w' => e=.returned (.slice a n n)∧w=w':=by
 go_enter Tryz.func171,Tryz.ntmps171
 go_wp2_with fail
 go_ret
 exact⟨rfl,rfl⟩
theorem clone_MapRange {α : Type} (f : α → List Value) (hf : ∀ x, (f x).length = 4) (h1 : ∀ x, ∀ u ∈ f x, u.oneCell' = true) (v : Value) (ys : List α) (B : Nat) (w : World) (ha : Arr w B 4 v (ys.map f)) (hlen : ys.length * 32 ≤ 140737488355328) :
  Calls Tryz.prog 136 #[v] w (zK4 f 158 4 ys w):=by
 go_enter Tryz.func136,Tryz.ntmps136
 go_wp2_with fail
 refine(sClone_MapRange f hf h1 v ys B w ha hlen).mono ?_;rintro e w1 ⟨u,rfl,hown,hb⟩;obtain⟨a,c,rfl,hc1,hc2⟩:=hown.shape
 go_wp2_with fail
 refine(sClip_MapRange a ys.length c _ hc1 hc2).mono ?_;rintro e w2 ⟨rfl,rfl⟩
 go_wp2_with fail
 go_ret
 exact⟨_,rfl,hown.clip,hb⟩
def row1 (u:Value):List Value:=[u]
theorem zE3 (u:Value):(row1 u).length=1:=rfl
theorem infoPQ:(Tryz.prog.info? 70).map (fun i=>(i.zero,i.size,i.bytes))=some (some (.slice none 0 0),1,24):=by kernel_rfl
def BoxB (w:World) (s:Nat) (a b p:Value):Prop:=w.heap[s]? = some (.cells #[a,b,p] 27 (0,0))
theorem BoxB.lt {w:World} {s:Nat} {a b p:Value} (h:BoxB w s a b p):s<w.heap.size:=heap_lt h
theorem BoxB.keep {w w':World} {s:Nat} {a b p:Value} (h:BoxB w s a b p) (e:w'.heap[s]? = w.heap[s]?):BoxB w' s a b p:=by unfold BoxB at h ⊢;rw[e];exact h
theorem BoxB.touch {w w':World} {s x:Nat} {a b p:Value} (h:BoxB w s a b p) (ht:Touch x w w') (hx:s≠x):BoxB w' s a b p:=h.keep (ht.block s h.lt hx)
theorem BoxB.below {w w':World} {s C:Nat} {a b p:Value} (h:BoxB w s a b p) (hb:Below C w w') (hx:s<C):BoxB w' s a b p:=h.keep (hb.block s hx)
theorem BoxB.bx {w:World} {s:Nat} {a b p:Value} (h:BoxB w s a b p):Bx w s [a,b,p]:=by
 unfold BoxB at h;exact⟨fun j hj=>by simp[World.cell?,h],fun j hj=>by simp[World.frozen?,h],by simp⟩
theorem BoxB.put {w:World} {s:Nat} {a b p:Value} (h:BoxB w s a b p) (a' b' p':Value):BoxB (((w.setCell ⟨s,0,none⟩ a').setCell ⟨s,1,none⟩ b').setCell ⟨s,2,none⟩ p') s a' b' p':=by
 unfold BoxB at h ⊢;simp[World.setCell,Array.getElem?_modify,h]
theorem BoxB.new (w:World) (a b p:Value):BoxB (w.alloc (.cells #[a,b,p] 27)) w.heap.size a b p:=by
 show(w.heap.push _)[w.heap.size]? = _;simp
theorem touchB (s:Nat) (w:World) (a b p:Value):Touch s w (((w.setCell ⟨s,0,none⟩ a).setCell ⟨s,1,none⟩ b).setCell ⟨s,2,none⟩ p):=((Touch.setCell _ _ _ _).trans (Touch.setCell _ _ _ _)).trans (Touch.setCell _ _ _ _)
theorem Owns.notB {α:Type} {f:α→List Value} {w:World} {base e sz g T:Nat} {v:Value} {xs:List α} {cs:Array Value} (h:Owns w base e sz f v xs) (hg:w.heap[g]? = some (.cells cs T (0,0))) (hT:T≠e):v.ownBlock≠some g:=by
 intro hk;obtain⟨_,h2⟩:=h;rcases h2 with⟨rfl,_⟩|⟨g', off,cap,cur,rfl,_,hh,_⟩
 ·simp[Value.ownBlock]at hk
 ·simp[Value.ownBlock]at hk;subst hk;rw[hh]at hg;simp only[Option.some.injEq,Obj.cells.injEq]at hg;exact hT hg.2.1.symm
theorem Owns.tchB {α:Type} {w w':World} {base e sz g:Nat} {f:α→List Value} {v:Value} {xs:List α} (h:Owns w base e sz f v xs) (ht:Touch g w w') (hg:v.ownBlock≠some g):Owns w' base e sz f v xs :=
 OwnR.kept h fun k hk=>ht.block k (OwnR.lt h k hk).2 (fun e=>hg (by rw[hk,e]))
theorem Owns.boxB {α:Type} {f:α→List Value} {w w':World} {base e sz g:Nat} {v a b p:Value} {xs:List α} (h:Owns w base e sz f v xs) (hB:BoxB w g a b p) (hT:27≠e) (ht:Touch g w w'):Owns w' base e sz f v xs:=h.tchB ht (h.notB hB hT)
theorem Owns.apartT {α β:Type} {f:α→List Value} {f2:β→List Value} {w:World} {base base2 e e2 sz sz2:Nat} {v u:Value} {xs:List α} {ys:List β} (h:Owns w base e sz f v xs) (h2:Owns w base2 e2 sz2 f2 u ys) (hT:e≠e2):Apart v u:=by
 intro k hk;obtain⟨_,h3⟩:=h;rcases h3 with⟨rfl,_⟩|⟨g', off,cap,cur,rfl,_,hh,_⟩
 ·simp[Value.ownBlock]at hk
 ·simp[Value.ownBlock]at hk;subst hk;exact h2.notB hh hT
theorem opWp_mk {α : Type} {o : Oper} {a : Act} {K : Act → World → Prop} {Q : Exit → Act → World → Prop} {T e sz by_ : Nat} (f : α → List Value) (x : α) (z : Value) (hT : Tryz.prog.underlying T = some (.slice e)) (hi : (Tryz.prog.info? e).map (fun i => (i.zero, i.size, i.bytes)) = some (some z, sz, by_))
  (hz:z.cells.size=sz) (hs:0<sz) (hf:f x=z.cells.toList) (w:World) (l c:Operand) (hop:o.op=Op.makeSlice T l c) (kl kc:IntKind) (L C:Int) (n:Nat) (hl:a.eval l=.int kl L) (hc:a.eval c=.int kc C) (hL:L=(n:Int)) (hC:C=(n:Int))
  (b2:by_ * n≤281474976710656) (b3:n≤maxLen)
  (hK:∀w', Owns w' w.heap.size e sz f (.slice (some ⟨w.heap.size,0,none⟩) n n) (List.replicate n x)→Below w.heap.size w w' → K (a.put o.dst (.slice (some ⟨w.heap.size,0,none⟩) n n)) w') :
  o.wp Tryz.prog a w K Q:=by
 obtain⟨i,h1,h2,h3,h4⟩:=info_parts hi;obtain⟨w', hrun,r1,r2⟩:=run_make_full (P:=Tryz.prog) w w.heap.size T e i z sz hT h1 h2 h3 kl kc n (by rw[h4];exact b2) b3 (Nat.le_refl _);have hr:(madeCells z.cells (n * sz)).toList=(List.replicate n x).flatMap f:=by rw[←hz];exact zG6 f x z.cells (by omega) hf n
 rw[hr]at r1;have hO:Owns w' w.heap.size e sz f (.slice (some ⟨w.heap.size,0,none⟩) n n) (List.replicate n x):=by
  unfold Owns;rw[List.length_replicate];exact OwnR.of_row r1
 subst hL;subst hC;unfold Oper.wp;simp[execOp,hop,hl,hc,hrun,Result.andThen];exact hK w' hO ((Below.refl _ _).grown r2 (Nat.le_refl _) (by simp))
abbrev SlV:=Option Addr×Nat×Nat
def slv (s:SlV):Value:=.slice s.1 s.2.1 s.2.2
abbrev RqS:=Rq×SlV×SlV
def rowS7 (y:RqS):List Value:=rowQ (y.1,slv y.2.1,slv y.2.2)
theorem rowS7_len (y:RqS):(rowS7 y).length=7:=rfl
theorem rowS7_one (y:RqS):∀u∈rowS7 y,u.oneCell' = true:=by
 intro u hu;simp only[rowS7,rowQ,List.mem_cons,List.not_mem_nil,or_false]at hu;rcases hu with rfl|rfl|rfl|rfl|rfl|rfl|rfl <;> rfl
theorem list_choose {α:Type} [Inhabited α] (n:Nat) (P:Nat→α→Prop) (h:∀j,j<n→∃y,P j y):∃ys:List α,ys.length=n∧∀j,j<n→P j (ys.getD j default):=by
 induction n with
 |zero=>exact⟨[],rfl,fun j hj=>absurd hj (by omega)⟩
 |succ n ih=>
  obtain⟨ys,hl,hp⟩:=ih fun j hj=>h j (by omega)
  obtain⟨y,hy⟩:=h n (by omega);refine⟨ys++[y],by simp[hl],fun j hj=>?_⟩;by_cases e:j<n
  ·rw[zB5 (by omega)];exact hp j e
  ·obtain rfl:j=n:=by omega
   rw[←hl,zC5];rw[hl];exact hy
theorem Reqs.rowsS {w:World} {B:Nat} {v:Value} {qs:List Rq} (h:Reqs w B v qs):∃ys:List RqS,ys.length=qs.length∧Arr w B 7 v (ys.map rowS7)∧∀j,j<qs.length→(ys.getD j default).1=qs.getD j default∧Ints w B (slv (ys.getD j default).2.1) (qs.getD j default).data∧Ints w B (slv (ys.getD j default).2.2) (qs.getD j default).lanes∧I64 (qs.getD j default).id∧I64 (qs.getD j default).kind∧I64 (qs.getD j default).addr∧I64 (qs.getD j default).many:=by
 obtain⟨vs,h1,h2,h3⟩:=h;have key:∀j,j<qs.length→∃y:RqS,(vs.getD j undef).cells.toList=rowS7 y∧y.1=qs.getD j default∧Ints w B (slv y.2.1) (qs.getD j default).data∧Ints w B (slv y.2.2) (qs.getD j default).lanes∧I64 (qs.getD j default).id∧I64 (qs.getD j default).kind∧I64 (qs.getD j default).addr∧I64 (qs.getD j default).many:=fun j hj=>by
  obtain⟨dv,lv,e,k1,k2,k3⟩:=h3 j hj default;obtain⟨da,dc,rfl,_⟩:=k1.opened;obtain⟨la,lc,rfl,_⟩:=k2.opened;exact⟨(qs.getD j default,(da,_,dc),(la,_,lc)),by rw[e];rfl,rfl,k1,k2,k3⟩
 obtain⟨ys,hl,hp⟩:=list_choose qs.length _ key;refine⟨ys,hl,?_,fun j hj=>(hp j hj).2⟩;have e:vs.map (fun u=>u.cells.toList)=ys.map rowS7:=by
  apply List.ext_getElem
  ·simp[h2,hl]
  ·intro i g1 g2;simp only[List.length_map]at g1 g2;have:=(hp i (by omega)).1;simp only[List.getElem_map];simpa[List.getD,g1,g2]using this
 rw[←e];exact h1
def toV (y:RqS):RqV:=(y.1,slv y.2.1,slv y.2.2)
theorem flat_toV (ys:List RqS):ys.flatMap rowS7=(ys.map toV).flatMap rowQ:=by rw[List.flatMap_map];rfl
theorem Owns.toV {w:World} {base e:Nat} {v:Value} {ys:List RqS} (h:Owns w base e 7 rowS7 v ys):Owns w base e 7 rowQ v (ys.map toV):=by
 unfold Owns at h ⊢;rw[List.length_map,←flat_toV];exact h
theorem QcO.keptB {w w':World} {lo hi g o c n:Nat} {qs:List Rq} {vs:List (Value×Value)} {rest:List RqV} (h:QcO w lo g o c n qs vs rest) (hh:QsB hi g qs.length vs) (hk:∀k,lo≤k→k<hi→k<w.heap.size→w'.heap[k]? = w.heap[k]?):QcO w' lo g o c n qs vs rest :=
  { h with rows := OwnR.kept h.rows fun k hk2 => hk k (OwnR.lt h.rows k hk2).1 (by have := hh.g; simp only [Value.ownBlock, Option.some.injEq] at hk2; omega) (OwnR.lt h.rows k hk2).2
           d:=fun j hj=>OwnR.kept (h.d j hj) fun k hk2=>hk k (OwnR.lt (h.d j hj) k hk2).1 (hh.d j hj k hk2) (OwnR.lt (h.d j hj) k hk2).2
           l:=fun j hj=>OwnR.kept (h.l j hj) fun k hk2=>hk k (OwnR.lt (h.l j hj) k hk2).1 (hh.l j hj k hk2) (OwnR.lt (h.l j hj) k hk2).2 }
def PgO (w:World) (lo hi:Nat) (u:Value) (qs:List Rq):Prop :=
 (u=vnil∧qs=[])∨∃g o c vs,u=.slice (some ⟨g,o,none⟩) qs.length c∧qs.length≤c∧c≤9223372036854775807∧QcO w lo g o c qs.length qs vs []∧QsB hi g qs.length vs
theorem PgO.nil (w:World) (lo hi:Nat):PgO w lo hi vnil []:=.inl ⟨rfl,rfl⟩
theorem PgO.kept {w w':World} {lo hi:Nat} {u:Value} {qs:List Rq} (h:PgO w lo hi u qs) (hk:∀k,lo≤k→k<hi→k<w.heap.size→w'.heap[k]? = w.heap[k]?):PgO w' lo hi u qs:=by
 rcases h with h|⟨g,o,c,vs,e,h1,h2,h3,h4⟩
 ·exact .inl h
 ·exact .inr ⟨g,o,c,vs,e,h1,h2,h3.keptB h4 hk,h4⟩
theorem PgO.shape {w:World} {lo hi:Nat} {u:Value} {qs:List Rq} (h:PgO w lo hi u qs):∃a c,u=.slice a qs.length c∧qs.length≤c∧c≤9223372036854775807:=by
 rcases h with⟨rfl,rfl⟩|⟨g,o,c,vs,e,h1,h2,_⟩
 ·exact⟨none,0,rfl,Nat.le_refl _,by omega⟩
 ·exact⟨_,c,e,h1,h2⟩
def RqFit (q:Rq):Prop:=Rq20 q∧(∀y∈q.data,I64 y)∧(∀y∈q.lanes,I64 y)∧I64 q.id∧I64 q.kind∧I64 q.addr∧I64 q.many
theorem PgO.reqs {w:World} {lo hi:Nat} {u:Value} {qs:List Rq} (h:PgO w lo hi u qs) (hn:qs.length≤1048576) (hq:∀q∈qs,RqFit q):Reqs w w.heap.size u qs:=by
 rcases h with⟨rfl,rfl⟩|⟨g,o,c,vs,e,h1,h2,h3,h4⟩
 ·exact ArrV.nil _ _ _ _
 ·rw[e];exact h3.reqs hn hq
structure PsO (w:World) (lo pb n:Nat) (us:List Value) (pss:List (List Rq)) (L:Nat→Nat):Prop where
 outer:Owns w lo 70 1 row1 (.slice (some ⟨pb,0,none⟩) n n) us
 len:us.length=n
 le:pss.length≤n
 pg:∀j,j<pss.length→PgO w (L j) (L (j+1)) (us.getD j vnil) (pss.getD j [])
 nil:∀j,pss.length≤j→j<n→us.getD j vnil=vnil
 mono:∀j,j<pss.length→L j≤L (j+1)
 pbl:pb<L 0
 top:L pss.length≤w.heap.size
theorem PsO.le0 {w:World} {lo pb n:Nat} {us:List Value} {pss:List (List Rq)} {L:Nat→Nat} (h:PsO w lo pb n us pss L):∀j,j≤pss.length→L 0≤L j:=by
 intro j
 induction j with
 |zero=>intro _;exact Nat.le_refl _
 |succ j ih=>intro hj;exact Nat.le_trans (ih (by omega)) (h.mono j (by omega))
theorem PsO.pb {w:World} {lo pb n:Nat} {us:List Value} {pss:List (List Rq)} {L:Nat→Nat} (h:PsO w lo pb n us pss L):lo≤pb∧pb<w.heap.size:=OwnR.lt h.outer pb rfl
theorem PsO.kept {w w':World} {lo pb n:Nat} {us:List Value} {pss:List (List Rq)} {L:Nat→Nat} (h:PsO w lo pb n us pss L) (hk:∀k,lo≤k→k<w.heap.size→w'.heap[k]? = w.heap[k]?) (hs:w.heap.size≤w'.heap.size):PsO w' lo pb n us pss L :=
  { h with outer := OwnR.kept h.outer fun k hk2 => hk k (OwnR.lt h.outer k hk2).1 (OwnR.lt h.outer k hk2).2
           pg:=fun j hj=>(h.pg j hj).kept fun k h1 _ h3=>hk k (by have:=h.le0 j (by omega);have:=h.pbl;have:=h.pb.1;omega) h3
           top:=Nat.le_trans h.top hs }
theorem PsO.below {w w':World} {lo pb n:Nat} {us:List Value} {pss:List (List Rq)} {L:Nat→Nat} (h:PsO w lo pb n us pss L) (hb:Below w.heap.size w w'):PsO w' lo pb n us pss L:=h.kept (fun k _ hk=>hb.block k hk) hb.size
theorem PsO.rebase {w:World} {lo lo' pb n:Nat} {us:List Value} {pss:List (List Rq)} {L:Nat→Nat} (h:PsO w lo pb n us pss L) (hl:lo' ≤ lo):PsO w lo' pb n us pss L:={ h with outer:=OwnR.rebase h.outer hl }
theorem PsO.progs {w:World} {lo pb n:Nat} {us:List Value} {pss:List (List Rq)} {L:Nat→Nat} (h:PsO w lo pb n us pss L) (hn:pss.length=n) (h20:n≤1048576) (hq:∀p∈pss,p.length≤1048576∧∀q∈p,RqFit q):Progs w w.heap.size (.slice (some ⟨pb,0,none⟩) n n) pss:=by
 refine⟨us,?_,by rw[h.len,hn],fun k hk d=>?_⟩
 ·have e:us.map (fun u=>u.cells.toList)=us.map row1:=by
   apply List.map_congr_left;intro u hu;obtain⟨i,hi,rfl⟩:=List.mem_iff_getElem.1 hu;have hi2:i<pss.length:=by have:=h.len;omega
   obtain⟨a,c,e,_⟩:=(h.pg i hi2).shape;have e2:us.getD i vnil=us[i]:=by simp[List.getD,hi]
   rw[e2]at e;rw[e];rfl
  rw[e];exact h.outer.arr zE3 (by rw[h.len];omega)
 ·have hk2:k<us.length:=by have:=h.len;omega
  obtain⟨q1,q2⟩:=hq _ (zB8 (d:=[]) hk);have:=(h.pg k hk).reqs q1 q2;rw[show us.getD k undef=us.getD k vnil by simp[List.getD,hk2],show pss.getD k d=pss.getD k [] by simp[List.getD,hk]];exact this
end Go.Proofs.YthnlalffjepdaaaGreat
namespace Go.Proofs.YthnlalffjepdaaaGreat
open Go.RowKit
attribute [local go_sem ↓] Go.wp_at_zero Go.wp_at_succ
def qb1A (i0 i2 i4 i5 i6 i7 i19 i20 i21 i22 i23 i24 i25 i26 i27 i28 i29 i30 i31 i32 i33 i34 i35 i36 i37 i38 i39 i40 i41 i42 i43 i44 i45 i46 i47 i48 i49 i50 i51:Value) (gS:Nat) (u3 u8 u9 u10 u11 u12 u13 u14 u15 u16 u17 u18:Value):Act:={ tmps:=#[i0,.pointer (some ⟨gS,0,none⟩),i2,u3,i4,i5,i6,i7,u8,u9,u10,u11,u12,u13,u14,u15,u16,u17,u18,i19,i20,i21,i22,i23,i24,i25,i26,i27,i28,i29,i30,i31,i32,i33,i34,i35,i36,i37,i38,i39,i40,i41,i42,i43,i44,i45,i46,i47,i48,i49,i50,i51],defers:=[] }
def qb1I (i0 i2 i4 i5 i6 i7 i19 i20 i21 i22 i23 i24 i25 i26 i27 i28 i29 i30 i31 i32 i33 i34 i35 i36 i37 i38 i39 i40 i41 i42 i43 i44 i45 i46 i47 i48 i49 i50 i51:Value) (gS:Nat) (vm:Value) (vl:Value) (pa:Option Addr) (n:Nat) (pc:Nat) (ms:List MR) (lat:List Int) (wq:World) (listed:Array Bool) (a:Act) (w':World):Prop :=
 ∃ u3 u8 u9 u10 u11 u12 u13 u14 u15 u16 u17 u18 : Value, a = qb1A i0 i2 i4 i5 i6 i7 i19 i20 i21 i22 i23 i24 i25 i26 i27 i28 i29 i30 i31 i32 i33 i34 i35 i36 i37 i38 i39 i40 i41 i42 i43 i44 i45 i46 i47 i48 i49 i50 i51 gS u3 u8 u9 u10 u11 u12 u13 u14 u15 u16 u17 u18 ∧
   (listed.getD 0 false=true→u8=.pointer (some ⟨gS,0,none⟩)) ∧
   (listed.getD 1 false=true→u9=vm) ∧
   (listed.getD 2 false=true→Owns w' wq.heap.size 158 4 rowM u10 ms) ∧
   (listed.getD 3 false=true→u11=.pointer (some ⟨gS,1,none⟩)) ∧
   (listed.getD 4 false=true→u12=vl) ∧
   (listed.getD 5 false=true→Owns w' wq.heap.size 3 1 rowI u13 lat) ∧
   (listed.getD 6 false=true→u14=.pointer (some ⟨gS,2,none⟩)) ∧
   (listed.getD 7 false=true→u15=.slice pa n pc) ∧
   (listed.getD 8 false=true→u16=.int .i64 (n:Nat)) ∧
   (listed.getD 9 false=true→∃pb,u17=.slice (some ⟨pb,0,none⟩) n n∧Owns w' wq.heap.size 70 1 row1 (.slice (some ⟨pb,0,none⟩) n n) (List.replicate n vnil)) ∧
   (listed.getD 10 false=true→u18=.agg #[u10,u13,u17]) ∧
   (listed.getD 11 false=true→listed.getD 12 false=false→∃g,u3=.pointer (some ⟨g,0,none⟩)∧wq.heap.size≤g∧BoxB w' g vnil vnil vnil) ∧
   (listed.getD 12 false=true→∃g,u3=.pointer (some ⟨g,0,none⟩)∧wq.heap.size≤g∧BoxB w' g u10 u13 u17) ∧
   Below wq.heap.size wq w'
noncomputable def qb1Code:Code:=(Tryz.f84.body.bind (zF9 1)).getD .skip
def QbP (u:Value) (n:Nat) (ms:List MR) (lat:List Int) (wq w':World):Prop:=∃g a b pb,u=.pointer (some ⟨g,0,none⟩)∧wq.heap.size≤g∧BoxB w' g a b (.slice (some ⟨pb,0,none⟩) n n)∧Owns w' wq.heap.size 158 4 rowM a ms∧Owns w' wq.heap.size 3 1 rowI b lat∧Owns w' wq.heap.size 70 1 row1 (.slice (some ⟨pb,0,none⟩) n n) (List.replicate n vnil)∧Below wq.heap.size wq w'
set_option maxRecDepth 100000 in
theorem qb1_region (i0 i2 i4 i5 i6 i7 i19 i20 i21 i22 i23 i24 i25 i26 i27 i28 i29 i30 i31 i32 i33 i34 i35 i36 i37 i38 i39 i40 i41 i42 i43 i44 i45 i46 i47 i48 i49 i50 i51 j3 j8 j9 j10 j11 j12 j13 j14 j15 j16 j17 j18 : Value) (gS : Nat) (vm : Value) (vl : Value) (pa : Option Addr) (n : Nat) (pc : Nat) (ms : List MR) (lat : List Int) (wq : World)
  (hS:Bx wq gS [vm,vl,.slice pa n pc]) (hM:Arr wq wq.heap.size 4 vm (ms.map rowM)) (hL:Arr wq wq.heap.size 1 vl (lat.map rowI)) (hl1:ms.length≤1048576) (hl2:lat.length≤1048576) (hl3:n≤1048576)
  {Q:Exit→Act→World→Prop}
  (hK:∀(u3 u8 u9 u10 u11 u12 u13 u14 u15 u16 u17 u18:Value) w', QbP u3 n ms lat wq w' → Q .normal (qb1A i0 i2 i4 i5 i6 i7 i19 i20 i21 i22 i23 i24 i25 i26 i27 i28 i29 i30 i31 i32 i33 i34 i35 i36 i37 i38 i39 i40 i41 i42 i43 i44 i45 i46 i47 i48 i49 i50 i51 gS u3 u8 u9 u10 u11 u12 u13 u14 u15 u16 u17 u18) w'):qb1Code.wp Tryz.prog Q (qb1A i0 i2 i4 i5 i6 i7 i19 i20 i21 i22 i23 i24 i25 i26 i27 i28 i29 i30 i31 i32 i33 i34 i35 i36 i37 i38 i39 i40 i41 i42 i43 i44 i45 i46 i47 i48 i49 i50 i51 gS j3 j8 j9 j10 j11 j12 j13 j14 j15 j16 j17 j18) wq:=by
 conv=>arg 2;whnf
 refine zC6 (qb1I i0 i2 i4 i5 i6 i7 i19 i20 i21 i22 i23 i24 i25 i26 i27 i28 i29 i30 i31 i32 i33 i34 i35 i36 i37 i38 i39 i40 i41 i42 i43 i44 i45 i46 i47 i48 i49 i50 i51 gS vm vl pa n pc ms lat wq) (by kernel_rfl) (by kernel_rfl) ?_ ?_ ?_
 ·exact⟨_,_,_,_,_,_,_,_,_,_,_,_,rfl,(fun h=>absurd h (by rw[getD_replicate_false];simp)),(fun h=>absurd h (by rw[getD_replicate_false];simp)),(fun h=>absurd h (by rw[getD_replicate_false];simp)),(fun h=>absurd h (by rw[getD_replicate_false];simp)),(fun h=>absurd h (by rw[getD_replicate_false];simp)),(fun h=>absurd h (by rw[getD_replicate_false];simp)),(fun h=>absurd h (by rw[getD_replicate_false];simp)),(fun h=>absurd h (by rw[getD_replicate_false];simp)),(fun h=>absurd h (by rw[getD_replicate_false];simp)),(fun h=>absurd h (by rw[getD_replicate_false];simp)),(fun h=>absurd h (by rw[getD_replicate_false];simp)),(fun h _=>absurd h (by rw[getD_replicate_false];simp)),(fun h=>absurd h (by rw[getD_replicate_false];simp)),(Below.refl _ _).drew⟩
 ·intro listed a w' i o hI hsz ho hl he hcl;have hi:i<13:=(Array.getElem?_eq_some_iff.1 ho).1;have e:i=0∨i=1∨i=2∨i=3∨i=4∨i=5∨i=6∨i=7∨i=8∨i=9∨i=10∨i=11∨i=12:=by omega
  clear hi;rcases e with rfl|rfl|rfl|rfl|rfl|rfl|rfl|rfl|rfl|rfl|rfl|rfl|rfl
  all_goals (have ho2:=ho;obtain rfl:=Option.some.inj ho2.symm;clear ho2)
  ·as_aux_lemma=>
    obtain⟨u3,u8,u9,u10,u11,u12,u13,u14,u15,u16,u17,u18,rfl,F0,F1,F2,F3,F4,F5,F6,F7,F8,F9,F10,F11,F12,hx⟩:=hI;refine zA1 ho rfl (fun K hK=>?_);unfold qb1A;go_simp;exact hK _ _ ⟨_,_,_,_,_,_,_,_,_,_,_,_,rfl,fun _=>rfl,fun hj=>(by first|exact(F1 (by rwa [sgx (by decide)]at hj))|rfl),fun hj=>(F2 (by rwa [sgx (by decide)]at hj)),fun hj=>(by first|exact(F3 (by rwa [sgx (by decide)]at hj))|rfl),fun hj=>(by first|exact(F4 (by rwa [sgx (by decide)]at hj))|rfl),fun hj=>(F5 (by rwa [sgx (by decide)]at hj)),fun hj=>(by first|exact(F6 (by rwa [sgx (by decide)]at hj))|rfl),fun hj=>(by first|exact(F7 (by rwa [sgx (by decide)]at hj))|rfl),fun hj=>(by first|exact(F8 (by rwa [sgx (by decide)]at hj))|rfl),fun hj=>(F9 (by rwa [sgx (by decide)]at hj)),fun hj=>(F10 (by rwa [sgx (by decide)]at hj)),fun hj hu=>(F11 (by rwa [sgx (by decide)]at hj) (by rwa [sgx (by decide)]at hu)),fun hj=>(F12 (by rwa [sgx (by decide)]at hj)),hx⟩
  ·as_aux_lemma=>
    obtain⟨u3,u8,u9,u10,u11,u12,u13,u14,u15,u16,u17,u18,rfl,F0,F1,F2,F3,F4,F5,F6,F7,F8,F9,F10,F11,F12,hx⟩:=hI;have l0:=he ⟨0,.data⟩ (by simp) rfl;have e:=F0 l0;subst e;obtain⟨⟨c0,c1,c2⟩,_⟩:=(hS.below hx hS.lt).three;refine zA1 ho rfl (fun K hK=>?_);unfold qb1A;go_simp;exact hK _ _ ⟨_,_,_,_,_,_,_,_,_,_,_,_,rfl,fun hj=>(by first|exact(F0 (by rwa [sgx (by decide)]at hj))|rfl),fun _=>rfl,fun hj=>(F2 (by rwa [sgx (by decide)]at hj)),fun hj=>(by first|exact(F3 (by rwa [sgx (by decide)]at hj))|rfl),fun hj=>(by first|exact(F4 (by rwa [sgx (by decide)]at hj))|rfl),fun hj=>(F5 (by rwa [sgx (by decide)]at hj)),fun hj=>(by first|exact(F6 (by rwa [sgx (by decide)]at hj))|rfl),fun hj=>(by first|exact(F7 (by rwa [sgx (by decide)]at hj))|rfl),fun hj=>(by first|exact(F8 (by rwa [sgx (by decide)]at hj))|rfl),fun hj=>(F9 (by rwa [sgx (by decide)]at hj)),fun hj=>(F10 (by rwa [sgx (by decide)]at hj)),fun hj hu=>(F11 (by rwa [sgx (by decide)]at hj) (by rwa [sgx (by decide)]at hu)),fun hj=>(F12 (by rwa [sgx (by decide)]at hj)),hx⟩
  ·as_aux_lemma=>
    obtain⟨u3,u8,u9,u10,u11,u12,u13,u14,u15,u16,u17,u18,rfl,F0,F1,F2,F3,F4,F5,F6,F7,F8,F9,F10,F11,F12,hx⟩:=hI;have l1:=he ⟨1,.data⟩ (by simp) rfl;have e:=F1 l1;subst e;refine zA1 ho rfl (fun K hK=>?_);unfold qb1A;go_simp
    (with_reducible refine(clone_MapRange rowM zE2 rowM_one _ ms w'.heap.size w' ((hM.below hx).mono hx.size) (by omega)).mono ?_)
    rintro e w'' ⟨q,rfl,o1,hb1⟩
    go_wp2_with fail
    exact⟨_,_,_,_,_,_,_,_,_,_,_,_,rfl,fun hj=>(by first|exact(F0 (by rwa [sgx (by decide)]at hj))|rfl),fun hj=>(by first|exact(F1 (by rwa [sgx (by decide)]at hj))|rfl),fun _=>o1.rebase hx.size,fun hj=>(by first|exact(F3 (by rwa [sgx (by decide)]at hj))|rfl),fun hj=>(by first|exact(F4 (by rwa [sgx (by decide)]at hj))|rfl),fun hj=>absurd (hcl 5 _ rfl (by rwa [sgx (by decide)]at hj) ⟨2,.chain⟩ (by simp) rfl) (by rw[getD_both hl];simp),fun hj=>(by first|exact(F6 (by rwa [sgx (by decide)]at hj))|rfl),fun hj=>(by first|exact(F7 (by rwa [sgx (by decide)]at hj))|rfl),fun hj=>(by first|exact(F8 (by rwa [sgx (by decide)]at hj))|rfl),fun hj=>(let ⟨pb,e,o⟩:=(F9 (by rwa [sgx (by decide)]at hj));⟨pb,e,OwnR.below o hb1 (fun k hk=>(OwnR.lt o k hk).2)⟩),fun hj=>absurd (hcl 10 _ rfl (by rwa [sgx (by decide)]at hj) ⟨2,.data⟩ (by simp) rfl) (by rw[getD_both hl];simp),fun hj hu=>(let ⟨g,e1,e2,e3⟩:=(F11 (by rwa [sgx (by decide)]at hj) (by rwa [sgx (by decide)]at hu));⟨g,e1,e2,e3.below hb1 e3.lt⟩),fun hj=>absurd (hcl 12 _ rfl (by rwa [sgx (by decide)]at hj) ⟨2,.phase⟩ (by simp) rfl) (by rw[getD_both hl];simp),hx.trans (hb1.mono hx.size)⟩
  ·as_aux_lemma=>
    obtain⟨u3,u8,u9,u10,u11,u12,u13,u14,u15,u16,u17,u18,rfl,F0,F1,F2,F3,F4,F5,F6,F7,F8,F9,F10,F11,F12,hx⟩:=hI;refine zA1 ho rfl (fun K hK=>?_);unfold qb1A;go_simp;exact hK _ _ ⟨_,_,_,_,_,_,_,_,_,_,_,_,rfl,fun hj=>(by first|exact(F0 (by rwa [sgx (by decide)]at hj))|rfl),fun hj=>(by first|exact(F1 (by rwa [sgx (by decide)]at hj))|rfl),fun hj=>(F2 (by rwa [sgx (by decide)]at hj)),fun _=>rfl,fun hj=>(by first|exact(F4 (by rwa [sgx (by decide)]at hj))|rfl),fun hj=>(F5 (by rwa [sgx (by decide)]at hj)),fun hj=>(by first|exact(F6 (by rwa [sgx (by decide)]at hj))|rfl),fun hj=>(by first|exact(F7 (by rwa [sgx (by decide)]at hj))|rfl),fun hj=>(by first|exact(F8 (by rwa [sgx (by decide)]at hj))|rfl),fun hj=>(F9 (by rwa [sgx (by decide)]at hj)),fun hj=>(F10 (by rwa [sgx (by decide)]at hj)),fun hj hu=>(F11 (by rwa [sgx (by decide)]at hj) (by rwa [sgx (by decide)]at hu)),fun hj=>(F12 (by rwa [sgx (by decide)]at hj)),hx⟩
  ·as_aux_lemma=>
    obtain⟨u3,u8,u9,u10,u11,u12,u13,u14,u15,u16,u17,u18,rfl,F0,F1,F2,F3,F4,F5,F6,F7,F8,F9,F10,F11,F12,hx⟩:=hI;have l3:=he ⟨3,.data⟩ (by simp) rfl;have e:=F3 l3;subst e;obtain⟨⟨c0,c1,c2⟩,_⟩:=(hS.below hx hS.lt).three;refine zA1 ho rfl (fun K hK=>?_);unfold qb1A;go_simp;exact hK _ _ ⟨_,_,_,_,_,_,_,_,_,_,_,_,rfl,fun hj=>(by first|exact(F0 (by rwa [sgx (by decide)]at hj))|rfl),fun hj=>(by first|exact(F1 (by rwa [sgx (by decide)]at hj))|rfl),fun hj=>(F2 (by rwa [sgx (by decide)]at hj)),fun hj=>(by first|exact(F3 (by rwa [sgx (by decide)]at hj))|rfl),fun _=>rfl,fun hj=>(F5 (by rwa [sgx (by decide)]at hj)),fun hj=>(by first|exact(F6 (by rwa [sgx (by decide)]at hj))|rfl),fun hj=>(by first|exact(F7 (by rwa [sgx (by decide)]at hj))|rfl),fun hj=>(by first|exact(F8 (by rwa [sgx (by decide)]at hj))|rfl),fun hj=>(F9 (by rwa [sgx (by decide)]at hj)),fun hj=>(F10 (by rwa [sgx (by decide)]at hj)),fun hj hu=>(F11 (by rwa [sgx (by decide)]at hj) (by rwa [sgx (by decide)]at hu)),fun hj=>(F12 (by rwa [sgx (by decide)]at hj)),hx⟩
  ·as_aux_lemma=>
    obtain⟨u3,u8,u9,u10,u11,u12,u13,u14,u15,u16,u17,u18,rfl,F0,F1,F2,F3,F4,F5,F6,F7,F8,F9,F10,F11,F12,hx⟩:=hI;have l4:=he ⟨4,.data⟩ (by simp) rfl;have e:=F4 l4;subst e;refine zA1 ho rfl (fun K hK=>?_);unfold qb1A;go_simp
    (with_reducible refine(zH4 rowI zD7 zF7 _ lat w'.heap.size w' ((hL.below hx).mono hx.size) (by omega)).mono ?_)
    rintro e w'' ⟨q,rfl,o1,hb1⟩
    go_wp2_with fail
    exact⟨_,_,_,_,_,_,_,_,_,_,_,_,rfl,fun hj=>(by first|exact(F0 (by rwa [sgx (by decide)]at hj))|rfl),fun hj=>(by first|exact(F1 (by rwa [sgx (by decide)]at hj))|rfl),fun hj=>OwnR.below (F2 (by rwa [sgx (by decide)]at hj)) hb1 (fun k hk=>(OwnR.lt (F2 (by rwa [sgx (by decide)]at hj)) k hk).2),fun hj=>(by first|exact(F3 (by rwa [sgx (by decide)]at hj))|rfl),fun hj=>(by first|exact(F4 (by rwa [sgx (by decide)]at hj))|rfl),fun _=>o1.rebase hx.size,fun hj=>(by first|exact(F6 (by rwa [sgx (by decide)]at hj))|rfl),fun hj=>(by first|exact(F7 (by rwa [sgx (by decide)]at hj))|rfl),fun hj=>(by first|exact(F8 (by rwa [sgx (by decide)]at hj))|rfl),fun hj=>(let ⟨pb,e,o⟩:=(F9 (by rwa [sgx (by decide)]at hj));⟨pb,e,OwnR.below o hb1 (fun k hk=>(OwnR.lt o k hk).2)⟩),fun hj=>absurd (hcl 10 _ rfl (by rwa [sgx (by decide)]at hj) ⟨5,.data⟩ (by simp) rfl) (by rw[getD_both hl];simp),fun hj hu=>(let ⟨g,e1,e2,e3⟩:=(F11 (by rwa [sgx (by decide)]at hj) (by rwa [sgx (by decide)]at hu));⟨g,e1,e2,e3.below hb1 e3.lt⟩),fun hj=>absurd (hcl 12 _ rfl (by rwa [sgx (by decide)]at hj) ⟨5,.phase⟩ (by simp) rfl) (by rw[getD_both hl];simp),hx.trans (hb1.mono hx.size)⟩
  ·as_aux_lemma=>
    obtain⟨u3,u8,u9,u10,u11,u12,u13,u14,u15,u16,u17,u18,rfl,F0,F1,F2,F3,F4,F5,F6,F7,F8,F9,F10,F11,F12,hx⟩:=hI;refine zA1 ho rfl (fun K hK=>?_);unfold qb1A;go_simp;exact hK _ _ ⟨_,_,_,_,_,_,_,_,_,_,_,_,rfl,fun hj=>(by first|exact(F0 (by rwa [sgx (by decide)]at hj))|rfl),fun hj=>(by first|exact(F1 (by rwa [sgx (by decide)]at hj))|rfl),fun hj=>(F2 (by rwa [sgx (by decide)]at hj)),fun hj=>(by first|exact(F3 (by rwa [sgx (by decide)]at hj))|rfl),fun hj=>(by first|exact(F4 (by rwa [sgx (by decide)]at hj))|rfl),fun hj=>(F5 (by rwa [sgx (by decide)]at hj)),fun _=>rfl,fun hj=>(by first|exact(F7 (by rwa [sgx (by decide)]at hj))|rfl),fun hj=>(by first|exact(F8 (by rwa [sgx (by decide)]at hj))|rfl),fun hj=>(F9 (by rwa [sgx (by decide)]at hj)),fun hj=>(F10 (by rwa [sgx (by decide)]at hj)),fun hj hu=>(F11 (by rwa [sgx (by decide)]at hj) (by rwa [sgx (by decide)]at hu)),fun hj=>(F12 (by rwa [sgx (by decide)]at hj)),hx⟩
  ·as_aux_lemma=>
    obtain⟨u3,u8,u9,u10,u11,u12,u13,u14,u15,u16,u17,u18,rfl,F0,F1,F2,F3,F4,F5,F6,F7,F8,F9,F10,F11,F12,hx⟩:=hI;have l6:=he ⟨6,.data⟩ (by simp) rfl;have e:=F6 l6;subst e;obtain⟨⟨c0,c1,c2⟩,_⟩:=(hS.below hx hS.lt).three;refine zA1 ho rfl (fun K hK=>?_);unfold qb1A;go_simp;exact hK _ _ ⟨_,_,_,_,_,_,_,_,_,_,_,_,rfl,fun hj=>(by first|exact(F0 (by rwa [sgx (by decide)]at hj))|rfl),fun hj=>(by first|exact(F1 (by rwa [sgx (by decide)]at hj))|rfl),fun hj=>(F2 (by rwa [sgx (by decide)]at hj)),fun hj=>(by first|exact(F3 (by rwa [sgx (by decide)]at hj))|rfl),fun hj=>(by first|exact(F4 (by rwa [sgx (by decide)]at hj))|rfl),fun hj=>(F5 (by rwa [sgx (by decide)]at hj)),fun hj=>(by first|exact(F6 (by rwa [sgx (by decide)]at hj))|rfl),fun _=>rfl,fun hj=>(by first|exact(F8 (by rwa [sgx (by decide)]at hj))|rfl),fun hj=>(F9 (by rwa [sgx (by decide)]at hj)),fun hj=>(F10 (by rwa [sgx (by decide)]at hj)),fun hj hu=>(F11 (by rwa [sgx (by decide)]at hj) (by rwa [sgx (by decide)]at hu)),fun hj=>(F12 (by rwa [sgx (by decide)]at hj)),hx⟩
  ·as_aux_lemma=>
    obtain⟨u3,u8,u9,u10,u11,u12,u13,u14,u15,u16,u17,u18,rfl,F0,F1,F2,F3,F4,F5,F6,F7,F8,F9,F10,F11,F12,hx⟩:=hI;have l7:=he ⟨7,.data⟩ (by simp) rfl;have e:=F7 l7;subst e;refine zA1 ho rfl (fun K hK=>?_);unfold qb1A;go_simp;exact hK _ _ ⟨_,_,_,_,_,_,_,_,_,_,_,_,rfl,fun hj=>(by first|exact(F0 (by rwa [sgx (by decide)]at hj))|rfl),fun hj=>(by first|exact(F1 (by rwa [sgx (by decide)]at hj))|rfl),fun hj=>(F2 (by rwa [sgx (by decide)]at hj)),fun hj=>(by first|exact(F3 (by rwa [sgx (by decide)]at hj))|rfl),fun hj=>(by first|exact(F4 (by rwa [sgx (by decide)]at hj))|rfl),fun hj=>(F5 (by rwa [sgx (by decide)]at hj)),fun hj=>(by first|exact(F6 (by rwa [sgx (by decide)]at hj))|rfl),fun hj=>(by first|exact(F7 (by rwa [sgx (by decide)]at hj))|rfl),fun _=>rfl,fun hj=>(F9 (by rwa [sgx (by decide)]at hj)),fun hj=>(F10 (by rwa [sgx (by decide)]at hj)),fun hj hu=>(F11 (by rwa [sgx (by decide)]at hj) (by rwa [sgx (by decide)]at hu)),fun hj=>(F12 (by rwa [sgx (by decide)]at hj)),hx⟩
  ·as_aux_lemma=>
    obtain⟨u3,u8,u9,u10,u11,u12,u13,u14,u15,u16,u17,u18,rfl,F0,F1,F2,F3,F4,F5,F6,F7,F8,F9,F10,F11,F12,hx⟩:=hI;have l8:=he ⟨8,.data⟩ (by simp) rfl;have e:=F8 l8;subst e;refine zA1 ho rfl (fun K hK=>?_);unfold qb1A;refine opWp_mk row1 vnil vnil Tryz.underlying25 infoPQ rfl (by omega) rfl w' _ _ rfl _ _ _ _ n rfl rfl rfl rfl (by omega) (by unfold maxLen;omega) ?_;intro w'' o1 hb1;exact hK _ _ ⟨_,_,_,_,_,_,_,_,_,_,_,_,rfl,fun hj=>(by first|exact(F0 (by rwa [sgx (by decide)]at hj))|rfl),fun hj=>(by first|exact(F1 (by rwa [sgx (by decide)]at hj))|rfl),fun hj=>OwnR.below (F2 (by rwa [sgx (by decide)]at hj)) hb1 (fun k hk=>(OwnR.lt (F2 (by rwa [sgx (by decide)]at hj)) k hk).2),fun hj=>(by first|exact(F3 (by rwa [sgx (by decide)]at hj))|rfl),fun hj=>(by first|exact(F4 (by rwa [sgx (by decide)]at hj))|rfl),fun hj=>OwnR.below (F5 (by rwa [sgx (by decide)]at hj)) hb1 (fun k hk=>(OwnR.lt (F5 (by rwa [sgx (by decide)]at hj)) k hk).2),fun hj=>(by first|exact(F6 (by rwa [sgx (by decide)]at hj))|rfl),fun hj=>(by first|exact(F7 (by rwa [sgx (by decide)]at hj))|rfl),fun hj=>(by first|exact(F8 (by rwa [sgx (by decide)]at hj))|rfl),fun _=>⟨_,rfl,OwnR.rebase o1 hx.size⟩,fun hj=>absurd (hcl 10 _ rfl (by rwa [sgx (by decide)]at hj) ⟨9,.data⟩ (by simp) rfl) (by rw[getD_both hl];simp),fun hj hu=>(let ⟨g,e1,e2,e3⟩:=(F11 (by rwa [sgx (by decide)]at hj) (by rwa [sgx (by decide)]at hu));⟨g,e1,e2,e3.below hb1 e3.lt⟩),fun hj=>absurd (hcl 12 _ rfl (by rwa [sgx (by decide)]at hj) ⟨9,.phase⟩ (by simp) rfl) (by rw[getD_both hl];simp),hx.trans (hb1.mono hx.size)⟩
  ·as_aux_lemma=>
    obtain⟨u3,u8,u9,u10,u11,u12,u13,u14,u15,u16,u17,u18,rfl,F0,F1,F2,F3,F4,F5,F6,F7,F8,F9,F10,F11,F12,hx⟩:=hI;have l2:=he ⟨2,.data⟩ (by simp) rfl;have l5:=he ⟨5,.data⟩ (by simp) rfl;have l9:=he ⟨9,.data⟩ (by simp) rfl;have oa:=F2 l2;have ob:=F5 l5;obtain⟨pb,hpb,op⟩:=F9 l9;obtain⟨y1,y2,e1,_,_⟩:=oa.shape;obtain⟨z1,z2,e2,_,_⟩:=ob.shape;subst e1 e2 hpb;refine zA1 ho rfl (fun K hK=>?_);unfold qb1A;go_simp;exact hK _ _ ⟨_,_,_,_,_,_,_,_,_,_,_,_,rfl,fun hj=>(by first|exact(F0 (by rwa [sgx (by decide)]at hj))|rfl),fun hj=>(by first|exact(F1 (by rwa [sgx (by decide)]at hj))|rfl),fun hj=>oa,fun hj=>(by first|exact(F3 (by rwa [sgx (by decide)]at hj))|rfl),fun hj=>(by first|exact(F4 (by rwa [sgx (by decide)]at hj))|rfl),fun hj=>ob,fun hj=>(by first|exact(F6 (by rwa [sgx (by decide)]at hj))|rfl),fun hj=>(by first|exact(F7 (by rwa [sgx (by decide)]at hj))|rfl),fun hj=>(by first|exact(F8 (by rwa [sgx (by decide)]at hj))|rfl),fun hj=>⟨pb,rfl,op⟩,fun _=>rfl,fun hj hu=>(F11 (by rwa [sgx (by decide)]at hj) (by rwa [sgx (by decide)]at hu)),fun hj=>(F12 (by rwa [sgx (by decide)]at hj)),hx⟩
  ·as_aux_lemma=>
    obtain⟨u3,u8,u9,u10,u11,u12,u13,u14,u15,u16,u17,u18,rfl,F0,F1,F2,F3,F4,F5,F6,F7,F8,F9,F10,F11,F12,hx⟩:=hI;refine zA1 ho rfl (fun K hK=>?_);unfold qb1A;have hb1:Below w'.heap.size w' (w'.alloc (.cells #[.slice none 0 0,.slice none 0 0,.slice none 0 0] 27)):=(Below.refl _ _).alloc (Nat.le_refl _) _;go_simp;exact hK _ _ ⟨_,_,_,_,_,_,_,_,_,_,_,_,rfl,fun hj=>(by first|exact(F0 (by rwa [sgx (by decide)]at hj))|rfl),fun hj=>(by first|exact(F1 (by rwa [sgx (by decide)]at hj))|rfl),fun hj=>OwnR.below (F2 (by rwa [sgx (by decide)]at hj)) hb1 (fun k hk=>(OwnR.lt (F2 (by rwa [sgx (by decide)]at hj)) k hk).2),fun hj=>(by first|exact(F3 (by rwa [sgx (by decide)]at hj))|rfl),fun hj=>(by first|exact(F4 (by rwa [sgx (by decide)]at hj))|rfl),fun hj=>OwnR.below (F5 (by rwa [sgx (by decide)]at hj)) hb1 (fun k hk=>(OwnR.lt (F5 (by rwa [sgx (by decide)]at hj)) k hk).2),fun hj=>(by first|exact(F6 (by rwa [sgx (by decide)]at hj))|rfl),fun hj=>(by first|exact(F7 (by rwa [sgx (by decide)]at hj))|rfl),fun hj=>(by first|exact(F8 (by rwa [sgx (by decide)]at hj))|rfl),fun hj=>(let ⟨pb,e,o⟩:=(F9 (by rwa [sgx (by decide)]at hj));⟨pb,e,OwnR.below o hb1 (fun k hk=>(OwnR.lt o k hk).2)⟩),fun hj=>(F10 (by rwa [sgx (by decide)]at hj)),fun _ _=>⟨_,rfl,hx.size,BoxB.new _ _ _ _⟩,fun hj=>absurd (hcl 12 _ rfl (by rwa [sgx (by decide)]at hj) ⟨11,.data⟩ (by simp) rfl) (by rw[getD_both hl];simp),hx.trans (hb1.mono hx.size)⟩
  ·as_aux_lemma=>
    obtain⟨u3,u8,u9,u10,u11,u12,u13,u14,u15,u16,u17,u18,rfl,F0,F1,F2,F3,F4,F5,F6,F7,F8,F9,F10,F11,F12,hx⟩:=hI;have l11:=he ⟨11,.data⟩ (by simp) rfl;have l10:=he ⟨10,.data⟩ (by simp) rfl;obtain⟨g,rfl,g1,hB⟩:=F11 l11 (getD_both hl);have e10:=F10 l10;have oa:=F2 (hcl 10 _ rfl l10 ⟨2,.data⟩ (by simp) rfl);have ob:=F5 (hcl 10 _ rfl l10 ⟨5,.data⟩ (by simp) rfl);obtain⟨pb,hpb,op⟩:=F9 (hcl 10 _ rfl l10 ⟨9,.data⟩ (by simp) rfl);obtain⟨y1,y2,e1,_,_⟩:=oa.shape;obtain⟨z1,z2,e2,_,_⟩:=ob.shape;subst e1 e2 hpb e10;obtain⟨⟨k0,k1,k2⟩,m0,m1,m2⟩:=hB.bx.three;refine zA1 ho rfl (fun K hK=>?_);unfold qb1A;have ht:=touchB g w' (.slice y1 ms.length y2) (.slice z1 lat.length z2) (.slice (some ⟨pb,0,none⟩) n n);go_simp;exact hK _ _ ⟨_,_,_,_,_,_,_,_,_,_,_,_,rfl,fun hj=>(by first|exact(F0 (by rwa [sgx (by decide)]at hj))|rfl),fun hj=>(by first|exact(F1 (by rwa [sgx (by decide)]at hj))|rfl),fun hj=>oa.boxB hB (by decide) ht,fun hj=>(by first|exact(F3 (by rwa [sgx (by decide)]at hj))|rfl),fun hj=>(by first|exact(F4 (by rwa [sgx (by decide)]at hj))|rfl),fun hj=>ob.boxB hB (by decide) ht,fun hj=>(by first|exact(F6 (by rwa [sgx (by decide)]at hj))|rfl),fun hj=>(by first|exact(F7 (by rwa [sgx (by decide)]at hj))|rfl),fun hj=>(by first|exact(F8 (by rwa [sgx (by decide)]at hj))|rfl),fun hj=>⟨pb,rfl,op.boxB hB (by decide) ht⟩,fun hj=>rfl,fun _ hu=>absurd hu (by rw[sgix hl];simp),fun _=>⟨g,rfl,g1,hB.put _ _ _⟩,Below.touchN hx ht g1 (Nat.le_refl _)⟩
 ·intro listed a w' hI hd;obtain⟨u3,u8,u9,u10,u11,u12,u13,u14,u15,u16,u17,u18,rfl,F0,F1,F2,F3,F4,F5,F6,F7,F8,F9,F10,F11,F12,hx⟩:=hI;obtain⟨g,h3,g1,hB⟩:=F12 (hd 12 (by show 12<13;omega));have oa:=F2 (hd 2 (by show 2<13;omega));have ob:=F5 (hd 5 (by show 5<13;omega));obtain⟨pb,hpb,op⟩:=F9 (hd 9 (by show 9<13;omega));subst hpb;exact hK _ _ _ _ _ _ _ _ _ _ _ _ w' ⟨g,_,_,pb,h3,g1,hB,oa,ob,op,hx⟩
end Go.Proofs.YthnlalffjepdaaaGreat
