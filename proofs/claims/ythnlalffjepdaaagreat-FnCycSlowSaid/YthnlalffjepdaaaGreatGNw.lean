/- What comes from outside in a cycle, drawn: l20In of the reference. -/
import Derived.Test.YthnlalffjepdaaaGreatGCs
import Derived.Test.YthnlalffjepdaaaGreatGQ12
import Derived.Test.YthnlalffjepdaaaGreatGBv
import Derived.Test.YthnlalffjepdaaaGreatGQ5
import Derived.Test.YthnlalffjepdaaaGreatGCp1
import Derived.Test.YthnlalffjepdaaaGreatGDr2
import Derived.Test.YthnlalffjepdaaaGreatGY1
import Derived.Test.YthnlalffjepdaaaGreatGEj
import Derived.Laws.IdiomCopy
import Derived.Lib.LazyBuf
import Derived.Laws.Bits64b
import Derived.Lib.Mul64
set_option linter.unusedVariables false
set_option linter.unusedSimpArgs false
set_option maxHeartbeats 16000000
namespace Go.Proofs.YthnlalffjepdaaaGreat
open Go.RowKit
theorem CopP.view {c:Cfg} (hb:Bus c) {st:Cy} (hg:Good c st) {w:World} {e:Ending} {w':World} (h:CopP st w e w'):∃b0 b1 b2 b3 b4 n0 n1 n2 n3 n4 k0 k1 k2 k3 k4 P Q,e=.returned (.agg #[.slice b0 n0 k0,.slice b1 n1 k1,.slice b2 n2 k2,.slice b3 n3 k3,.slice b4 n4 k4])∧CyV w' w'.heap.size (.slice b0 n0 k0) (.slice b1 n1 k1) (.slice b2 n2 k2) (.slice b3 n3 k3) (.slice b4 n4 k4) st P Q∧Below w.heap.size w w':=by
 obtain⟨V,N,C,D,rfl,hr,hbl⟩:=h;obtain⟨P,Q,hv⟩:=hr.toV hb hg;obtain⟨b0,b1,b2,b3,b4,n0,n1,n2,n3,n4,k0,k1,k2,k3,k4,e0,e1,e2,e3,e4⟩:=hv.sl;rw[e0,e1,e2,e3,e4]at hv;exact⟨b0,b1,b2,b3,b4,n0,n1,n2,n3,n4,k0,k1,k2,k3,k4,P,Q,by rw[e0,e1,e2,e3,e4],hv,hbl⟩
theorem rqFit_ok {q:Rq} (h:reqOk q=true):RqFit q:=by
 unfold reqOk adrOk inB at h;simp only[Bool.and_eq_true,decide_eq_true_eq,Bool.or_eq_true,beq_iff_eq]at h;obtain⟨⟨⟨⟨⟨i0,i1⟩,k0,k1⟩,⟨⟨a0,a1⟩,m⟩,_⟩,_⟩,rest⟩:=h;have hm:1≤q.many∧q.many≤4:=by omega
 have hw:∀y:Int,zB0 y=true→I64 y:=fun y hy=>by
  unfold zB0 inB at hy;simp only[Bool.and_eq_true,decide_eq_true_eq]at hy;unfold I64;omega
 split at rest
 ·simp only[Bool.and_eq_true,beq_iff_eq,List.all_eq_true,decide_eq_true_eq]at rest;obtain⟨⟨⟨d,l⟩,dw⟩,lw⟩:=rest;refine⟨⟨by omega,by omega⟩,fun y hy=>hw y (dw y hy),fun y hy=>?_,?_,?_,?_,?_⟩
  ·have:=lw y hy;unfold I64;omega
  all_goals unfold I64;omega
 ·simp only[Bool.and_eq_true,beq_iff_eq]at rest;refine⟨⟨by omega,by omega⟩,fun y hy=>?_,fun y hy=>?_,?_,?_,?_,?_⟩
  ·have:=List.length_pos_of_mem hy;omega
  ·have:=List.length_pos_of_mem hy;omega
  all_goals unfold I64;omega
theorem BusI.toV {w:World} {B:Nat} {v:Value} {c:Cfg} (h:BusI w B v c.ms (c.lat.map fun(n:Nat)=>(n:Int)) c.progs):BusV w B v c:=by
 obtain⟨mv,lv,pv,rfl,h1,h2,h3⟩:=h;obtain⟨ma,mc,rfl,_⟩:=h1.opened;obtain⟨ao,cap,rfl,_⟩:=h3.opened;obtain⟨hl,_⟩:=h2;rw[List.map_map]at hl;have hl2:Arr w B 1 lv (c.lat.map rowN):=hl;obtain⟨la,lc,rfl⟩:∃la lc,lv=.slice la c.lat.length lc:=by
  obtain⟨la,lc,e,_⟩:=hl2;exact⟨la,lc,by rw[e,List.length_map]⟩
 obtain⟨vs,k1,k2,k3⟩:=h3;refine⟨_,_,_,_,_,_,fun i=>vs.getD i undef,rfl,h1,hl2,?_,fun i hi=>?_⟩
 ·have e:(List.range c.progs.length).map (fun i=>[vs.getD i undef])=vs.map fun u=>u.cells.toList:=by
   apply List.ext_getElem
   ·simp[k2]
   ·intro i h1 h2;have hi:i<c.progs.length:=by simpa using h1
    have hv:i<vs.length:=by omega
    obtain⟨a,k,e,_⟩:=(k3 i hi []).opened;have e2:vs.getD i undef=vs[i]:=by simp[List.getD,hv]
    rw[e2]at e;simp only[List.getElem_map,List.getElem_range,e2];rw[e];rfl
  rw[e];exact k1
 ·have:=k3 i hi [];exact this
def aloneC (c:Cfg) (who:Nat):Cfg:=⟨c.ms,c.lat,zD1 c.progs who 3⟩
theorem aloneC_prog {c:Cfg} (hb:Bus c) (who:Nat) {i:Nat} (hi:i<3):(aloneC c who).prog i=if i=who then c.prog who else[]:=by
 have h:=aloneK_get (pss:=c.progs) (who:=(who:Int)) (k:=3) (j:=i) (by rw[hb.progs];exact hi);show(zD1 c.progs who 3).getD i []=_;rw[h];by_cases e:i=who
 ·subst e;rw[if_pos rfl,if_neg (by simp)];rfl
 ·rw[if_neg e,if_pos ⟨hi,by omega⟩]
theorem aloneC_mem {c:Cfg} (hb:Bus c) (who:Nat):∀p∈(aloneC c who).progs,p=[]∨p∈c.progs:=by
 intro p hp;obtain⟨j,hj,rfl⟩:=List.mem_map.1 (show p∈(List.range c.progs.length).map fun(j:Nat)=>if j<3∧(j:Int)≠(who:Int) then[] else c.progs.getD j [] from hp)
 split
 ·exact .inl rfl
 ·exact .inr (zB8 (List.mem_range.1 hj))
theorem Bus.alone {c:Cfg} (hb:Bus c) (who:Nat):Bus (aloneC c who):=by
 refine⟨hb.ms,hb.lat,hb.lat3,(zB9 _ _ _).trans hb.progs,fun p hp=>?_,fun p hp r hr=>?_⟩
 ·rcases aloneC_mem hb who p hp with rfl|h
  ·simp
  ·exact hb.most p h
 ·rcases aloneC_mem hb who p hp with rfl|h
  ·simp at hr
  ·exact hb.reqs p h r hr
def AloneP (c:Cfg) (who:Nat) (w:World) (e:Ending) (w':World):Prop:=∃ma mk lb lo lc pb us L,e=.returned (.agg #[.slice ma c.ms.length mk,.slice (some ⟨lb,lo,none⟩) 4 lc,.slice (some ⟨pb,0,none⟩) 3 3])∧Maps w' w'.heap.size (.slice ma c.ms.length mk) c.ms∧(∀k,(Value.slice ma c.ms.length mk).ownBlock=some k→k≠pb∧w.heap.size≤k)∧Ints w' w'.heap.size (.slice (some ⟨lb,lo,none⟩) 4 lc) (c.lat.map fun(n:Nat)=>(n:Int))∧lb≠pb∧w.heap.size≤lb∧PsO w' w.heap.size pb 3 us (zD1 c.progs who 3) L∧Below w.heap.size w w'
theorem AloneP.bus {c : Cfg} (hb : Bus c) {who : Nat} {w' : World} {lo0 : Nat} {ma : Option Addr} {mk lb lo lc pb : Nat} {us : List Value} {L : Nat → Nat} (h1 : Maps w' w'.heap.size (.slice ma c.ms.length mk) c.ms) (h2 : Ints w' w'.heap.size (.slice (some ⟨lb, lo, none⟩) 4 lc) (c.lat.map fun (n : Nat) => (n : Int))) (h3 : PsO w' lo0 pb 3 us (zD1 c.progs who 3) L) :
  BusV w' w'.heap.size (.agg #[.slice ma c.ms.length mk,.slice (some ⟨lb,lo,none⟩) 4 lc,.slice (some ⟨pb,0,none⟩) 3 3]) (aloneC c who):=by
 refine BusI.toV ⟨_,_,_,rfl,h1,h2,?_⟩;refine h3.progs ((zB9 _ _ _).trans hb.progs) (by omega) fun p hp=>?_
 have hB:=hb.alone who;exact⟨by have:=hB.most p hp;omega,fun q hq=>rqFit_ok (hB.reqs p hp q hq)⟩
theorem busAlone_good {c:Cfg} (hb:Bus c) {w:World} {B:Nat} {v:Value} (h:BusV w B v c) (hB:B≤w.heap.size) {who:Nat} (hw:who<3):Calls Tryz.prog 34 #[v,.int .i64 who] w (AloneP c who w):=by
 have hms:∀r∈c.ms,MR64 r:=by
  obtain⟨_,_,_,_,_,_,_,_,h1,_⟩:=h;exact h1.2
 have hml:c.ms.length≤1048576:=by
  have:=hb.ms;unfold mapOk at this;simp at this;omega
 have hI:=h.int hb;refine(implBusAlone_any v c.ms (c.lat.map fun(n:Nat)=>(n:Int)) c.progs who B w hI hB hml (by rw[List.length_map,hb.lat];omega) (by rw[hb.progs];omega) (fun p hp=>⟨by have:=hb.most p hp;omega,fun q hq=>(rqFit_ok (hb.reqs p hp q hq)).1⟩)).mono ?_;rintro e w' (⟨_,a,b,pb,us,L,rfl,ha,hbb,hps,_,hbl⟩|⟨hno,_⟩)
 ·rw[hb.progs]at hps ⊢;have ap1:=ha.apartT hps.outer (by decide);have ap2:=hbb.apartT hps.outer (by decide);have hma:=ha.maps hml hms;obtain⟨ma,mk,rfl,_⟩:=hma.opened
  have hin : Ints w' w'.heap.size b (c.lat.map fun (n : Nat) => (n : Int)) := ⟨hbb.arr (fun _ => rfl) (by rw [List.length_map, hb.lat]; omega), fun x hx => by
   obtain⟨n,hn,rfl⟩:=List.mem_map.1 hx;have:=hb.lat3 n hn
   constructor <;> omega⟩
  obtain⟨la,lc,rfl,_,_,_,_,hc⟩:=hin.opened;rw[List.length_map,hb.lat]at hc;obtain⟨lb,lo,rfl,_,_⟩:=hc (by omega);rw[List.length_map,hb.lat]at hin ap2 ⊢;exact⟨ma,mk,lb,lo,lc,pb,us,L,rfl,hma,fun k hk=>⟨fun e=>ap1 k hk (by rw[e];rfl),(OwnR.lt ha k hk).1⟩,hin,fun e=>ap2 lb rfl (by rw[e];rfl),(OwnR.lt hbb lb rfl).1,hps,hbl⟩
 ·rw[busOk_yes hb]at hno
  exfalso
  have:inB (who:Int) 0 2=true:=by unfold inB;simp;omega
  rw[this]at hno;simp at hno
theorem Arr.setOther {w:World} {B sz n cap pb i:Nat} {a:Option Addr} {rows:List (List Value)} {u:Value} (h:Arr w B sz (.slice a n cap) rows) (hk:∀k,(Value.slice a n cap).ownBlock=some k→k≠pb):Arr (w.setCell ⟨pb,i,none⟩ u) B sz (.slice a n cap) rows:=by
 obtain⟨ao,cap', e,h1,h2,h3,h4,h5⟩:=h;simp only[Value.slice.injEq]at e;obtain⟨rfl,rfl,rfl⟩:=e;refine⟨_,_,rfl,h1,h2,h3,h4,fun hn=>?_⟩;obtain⟨b,off,rfl,hb,hc⟩:=h5 hn;have hne:=hk b rfl;refine⟨b,off,rfl,hb,fun t ht j hj=>?_⟩;rw[←hc t ht j hj];have hk':(w.setCell ⟨pb,i,none⟩ u).heap[b]? = w.heap[b]?:=Below.heap_setCell w ⟨pb,i,none⟩ u b hne;simp only[World.cell?,hk']
def oneC (c:Cfg) (who:Nat):Cfg:=⟨c.ms,c.lat,(zD1 c.progs who 3).set who ((c.prog who).take 1)⟩
theorem oneC_prog {c:Cfg} (hb:Bus c) {who:Nat} (hw:who<3) {i:Nat} (hi:i<3):(oneC c who).prog i=if i=who then(c.prog who).take 1 else[]:=by
 have hl:(zD1 c.progs who 3).length=3:=(zB9 _ _ _).trans hb.progs;show((zD1 c.progs who 3).set who ((c.prog who).take 1)).getD i []=_;by_cases e:i=who
 ·subst e;rw[if_pos rfl,zJ0 (by omega)]
 ·rw[if_neg e,zE0 e];have:=aloneC_prog hb who hi;rw[if_neg e]at this;exact this
theorem oneC_mem {c:Cfg} (hb:Bus c) {who:Nat} (hw:who<3):∀p∈(oneC c who).progs,p.length≤12∧∀r∈p,reqOk r=true:=by
 intro p hp;have hl:(oneC c who).progs.length=3:=(List.length_set ..).trans ((zB9 _ _ _).trans hb.progs);obtain⟨i,hi,rfl⟩:=List.mem_iff_getElem.1 hp;have e:(oneC c who).progs[i]=(oneC c who).prog i:=by unfold Cfg.prog;simp[List.getD,hi]
 rw[e,oneC_prog hb hw (by omega)]
 split
 ·refine⟨by rw[List.length_take];omega,fun r hr=>hb.reqs _ (hb.prog hw) r (List.mem_of_mem_take hr)⟩
 ·exact⟨by simp,fun r hr=>by simp at hr⟩
theorem Bus.one {c:Cfg} (hb:Bus c) {who:Nat} (hw:who<3):Bus (oneC c who) :=
 ⟨hb.ms,hb.lat,hb.lat3,(List.length_set ..).trans ((zB9 _ _ _).trans hb.progs),fun p hp=>(oneC_mem hb hw p hp).1,fun p hp=>(oneC_mem hb hw p hp).2⟩
theorem cut_bus {c : Cfg} (hb : Bus c) {who : Nat} (hw : who < 3) {w : World} {lo0 : Nat} {ma : Option Addr} {mk lb lo lc pb : Nat} {us : List Value} {L : Nat → Nat} (h1 : Maps w w.heap.size (.slice ma c.ms.length mk) c.ms) (ha : ∀ k, (Value.slice ma c.ms.length mk).ownBlock = some k → k ≠ pb) (h2 : Ints w w.heap.size (.slice (some ⟨lb, lo, none⟩) 4 lc) (c.lat.map fun (n : Nat) => (n : Int))) (hl : lb ≠ pb) (h3 : PsO w lo0 pb 3 us (zD1 c.progs who 3) L) (hn : (c.prog who).length ≠ 0) :
  ∃a cap,w.cell? ⟨pb,who,none⟩=some (.slice a (c.prog who).length cap)∧w.frozen? ⟨pb,who,none⟩=false∧(c.prog who).length≤cap∧BusV (w.setCell ⟨pb,who,none⟩ (.slice a 1 cap)) w.heap.size (.agg #[.slice ma c.ms.length mk,.slice (some ⟨lb,lo,none⟩) 4 lc,.slice (some ⟨pb,0,none⟩) 3 3]) (oneC c who):=by
 have hlen:(zD1 c.progs who 3).length=3:=(zB9 _ _ _).trans hb.progs;have hget:∀i,i<3→(zD1 c.progs who 3).getD i []=if i=who then c.prog who else[]:=fun i hi=>aloneC_prog hb who hi
 have hpg:=fun(j:Nat) (hj:j<3)=>h3.pg j (by rw[hlen];exact hj)
 obtain⟨a,cap,hu,hcap,_⟩:=(hpg who hw).shape;rw[hget who hw,if_pos rfl]at hu hcap;have ho3:OwnR w lo0 70 1 (.slice (some ⟨pb,0,none⟩) 3 3) 3 (us.flatMap row1):=by
  have:=h3.outer;unfold Owns at this
  rwa [h3.len]at this
 have hcell:w.cell? ⟨pb,who,none⟩=some (us.getD who vnil):=by
  have hwl:who<us.length:=by rw[h3.len];exact hw
  have:=OwnR.get ho3 who (by omega);rw[Nat.zero_add]at this
  rw [this, show (us.flatMap row1)[who]? = (row1 us[who])[0]? from by
   have:=zG3 zE3 us who 0 hwl (by omega);rw[Nat.mul_one,Nat.add_zero]at this;rw[this];simp[List.getD,hwl]]
  simp[row1,List.getD,hwl]
 refine⟨a,cap,by rw[hcell,hu],OwnR.unfrozen ho3 who,hcap,?_⟩;have hz:(w.setCell ⟨pb,who,none⟩ (.slice a 1 cap)).heap.size=w.heap.size:=by simp
 have hpk : ∀ j, j < 3 → PgO (w.setCell ⟨pb, who, none⟩ (.slice a 1 cap)) (L j) (L (j + 1)) (us.getD j vnil) ((zD1 c.progs who 3).getD j []) := fun j hj => (hpg j hj).kept fun k h1 _ _ => Below.heap_setCell _ _ _ _ (by
  have:=h3.le0 j (by rw[hlen];omega);have:=h3.pbl;show k≠pb;omega)
 have hrq:∀j,j<3→Reqs (w.setCell ⟨pb,who,none⟩ (.slice a 1 cap)) w.heap.size (us.getD j vnil) ((zD1 c.progs who 3).getD j []):=fun j hj=>by
  have hB:=hb.alone who;have hp:(zD1 c.progs who 3).getD j []∈(aloneC c who).progs:=zB8 (by rw[show(aloneC c who).progs.length=3 from hlen];exact hj);have:=(hpk j hj).reqs (by have:=hB.most _ hp;omega) fun q hq=>rqFit_ok (hB.reqs _ hp q hq)
  rw[hz]at this;exact this
 have ho:=h3.outer.putRow zE3 who 0 vnil (.slice a 1 cap) (.slice a 1 cap) (by rw[h3.len];omega) (by omega) rfl;simp only[Nat.zero_add,Nat.mul_one,Nat.add_zero]at ho;refine BusI.toV ⟨_,_,_,rfl,⟨h1.1.setOther ha,h1.2⟩,⟨h2.1.setOther (fun k hk e=>hl (by simp[Value.ownBlock]at hk;omega)),h2.2⟩,?_⟩;refine⟨us.set who (.slice a 1 cap),?_,by rw[List.length_set,h3.len];exact((List.length_set ..).trans hlen).symm,fun k hk d=>?_⟩
 ·have:=ho.arr zE3 (by rw[List.length_set,h3.len];omega);rw[hz]at this;have e:(us.set who (.slice a 1 cap)).map (fun u=>u.cells.toList)=(us.set who (.slice a 1 cap)).map row1:=by
   apply List.map_congr_left;intro u hu2;rcases List.mem_or_eq_of_mem_set hu2 with h|rfl
   ·obtain⟨i,hi,rfl⟩:=List.mem_iff_getElem.1 h;obtain⟨a', c', e,_⟩:=(hpg i (by have:=h3.len;omega)).shape;have e2:us.getD i vnil=us[i]:=by simp[List.getD,hi]
    rw[e2]at e;rw[e];rfl
   ·rfl
  rw[e];exact this
 ·have hk3:k<3:=by
   have:(oneC c who).progs.length=3:=(List.length_set ..).trans hlen;omega
  have hkl:k<us.length:=by rw[h3.len];exact hk3
  have e2:(oneC c who).progs.getD k d=(oneC c who).prog k:=by unfold Cfg.prog;simp[List.getD,hk]
  rw[e2,oneC_prog hb hw hk3];by_cases e:k=who
  ·subst e;rw[if_pos rfl];have e3:(us.set k (.slice a 1 cap)).getD k undef=.slice a 1 cap:=by simp[List.getD,hkl]
   rw[e3];have:=hrq k hk3;rw[hu,hget k hk3,if_pos rfl]at this;exact ArrV.take this (by omega)
  ·rw[if_neg e];have e3:(us.set who (.slice a 1 cap)).getD k undef=us.getD k vnil:=by
    have hne:¬who=k:=fun h=>e h.symm
    simp[List.getD,hkl,List.getElem?_set,hne]
   rw[e3];have:=hrq k hk3;rw[hget k hk3,if_neg e]at this;exact this
def plen (c:Cfg) (k:Nat):Nat:=((List.range k).map fun i=>(c.prog i).length).sum
theorem plen_succ (c:Cfg) (k:Nat):plen c (k+1)=plen c k+(c.prog k).length:=by simp[plen,List.range_succ]
theorem cycDone_any {c : Cfg} (hbus : Bus c) {w : World} {B : Nat} {u : Value} (hc : BusV w B u c) {a0 a1 a2 a3 a4 : Value} {st : Cy} {P : List PS} {Q : List SS} (h : CyV w B a0 a1 a2 a3 a4 st P Q) (hB : B ≤ w.heap.size) (hg : Good c st) :
  Calls Tryz.prog 35 #[u,.agg #[a0,a1,a2,a3,a4]] w fun e w' => e=.returned (.bool (decide (st.told.length=plen c 3)))∧Below w.heap.size w w':=by
 obtain⟨mv,lb,lo,lc,pb,po,pc,QQ,K,rfl,⟨ma,mn,mk,rfl⟩,_,_,hpb,_,hpc,_⟩:=hc.opened hbus;obtain⟨z0,z1,z2,z3,z4,n0,n1,n2,n3,n4,k0,k1,k2,k3,k4,rfl,rfl,rfl,rfl,rfl⟩:=h.sl;obtain rfl:=h.told.len;have HOK:=hid (fun(W:World) (hW:Below w.heap.size w W)=>cycOk_any hbus (hc.below (hW.mono hB)) (h.below (hW.mono hB)) (Nat.le_trans hB hW.size) hg);obtain⟨w0,hw0⟩:∃W,W=(w.alloc (.cells #[.slice ma mn mk,.slice (some ⟨lb,lo,none⟩) 4 lc,.slice (some ⟨pb,po,none⟩) 3 pc] 27)).alloc (.cells #[.slice z0 n0 k0,.slice z1 n1 k1,.slice z2 n2 k2,.slice z3 n3 k3,.slice z4 st.told.length k4] 46):=⟨_,rfl⟩
 have hb0:Below w.heap.size w w0:=by rw[hw0];exact((Below.refl _ _).alloc (Nat.le_refl _) _).alloc (by simp) _
 obtain⟨g1,hg1⟩:∃g,g=w.heap.size+1:=⟨_,rfl⟩
 have X0 := hid (show Bx w0 w.heap.size [.slice ma mn mk, .slice (some ⟨lb, lo, none⟩) 4 lc, .slice (some ⟨pb, po, none⟩) 3 pc] by
  rw[hw0];exact(Bx.new w #[.slice ma mn mk,.slice (some ⟨lb,lo,none⟩) 4 lc,.slice (some ⟨pb,po,none⟩) 3 pc] 27 (by simp)).below ((Below.refl _ _).alloc (Nat.le_refl _) _) (by simp))
 have X1 := hid (show Bx w0 g1 [.slice z0 n0 k0, .slice z1 n1 k1, .slice z2 n2 k2, .slice z3 n3 k3, .slice z4 st.told.length k4] by
  rw[hw0,hg1];have:=Bx.new (w.alloc (.cells #[.slice ma mn mk,.slice (some ⟨lb,lo,none⟩) 4 lc,.slice (some ⟨pb,po,none⟩) 3 pc] 27)) #[.slice z0 n0 k0,.slice z1 n1 k1,.slice z2 n2 k2,.slice z3 n3 k3,.slice z4 st.told.length k4] 46 (by simp);simpa using this)
 have HB0:=hid hb0;have HPC:=hid hpc;have HPB:=hid hpb;obtain⟨tl,htl⟩:∃x,x=st.told.length:=⟨_,rfl⟩
 rw[←htl]at X1 HOK hw0 ⊢;obtain⟨b0,b1,b2⟩:=X0.out.three.1;obtain⟨t0,t1,t2,t3,t4⟩:=X1.out.five.1;have HTB:=hid (show tl≤1000 by rw[htl];exact(zI8 hbus hg).told.1);clear hc h hb0 hpc hpb htl
 go_enter Tryz.func35,Tryz.ntmps35
 go_upto_region 1 with fail
 rw[←hw0,←hg1];clear hw0 hg1
 go_upto_region 3 with(go_at_call 30;go_loud ((with_reducible refine(HOK.out _ HB0.out).mono ?_));rintro e w2 ⟨rfl,hb2⟩;have HQ2:=hid hb2;have HB2:=hid (HB0.out.trans (hb2.mono HB0.out.size));clear hb2 t0 t1 t2 t3 t4 b0 b1 b2)
 obtain⟨b0,b1,b2⟩:=(X0.out.below HQ2.out X0.out.lt).three.1;obtain⟨t0,t1,t2,t3,t4⟩:=(X1.out.below HQ2.out X1.out.lt).five.1;have HL:=hid (fun(i:Nat) (hi:i<3)=>hbus.twelve hi)
 go_wp2_with fail
 go_loop [5,15] (fun s i=>∃m:Nat,i=.int .i64 m∧m≤3∧s=.int .i64 (plen c m:Nat)∧plen c m≤12 * m) (fun _ i=>3 - (intOf i).toNat)
 case atStart=>exact⟨0,by go_num,Nat.zero_le _,rfl,by simp[plen]⟩
 case round=>
  obtain⟨m,rfl,hm,rfl,hsm⟩:=hrel;by_cases hlt:m<3
  ·have hmi:(m:Int)<3:=by omega
   have p0:=(HB2.out.cell (p:=⟨pb,po+m,none⟩) (Nat.lt_of_lt_of_le HPB.out hB)).trans (HPC.out m hlt);have h12:=HL.out m hlt;have HS:=hid (plen_succ c m);obtain⟨pl,hpl⟩:∃x,x=(c.prog m).length:=⟨_,rfl⟩
   obtain⟨sm,hsm2⟩:∃x,x=plen c m:=⟨_,rfl⟩
   rw[←hpl]at p0 h12 HS;rw[←hsm2]at hsm HS ⊢;obtain⟨sy,hsy⟩:∃y,y=sm+pl:=⟨_,rfl⟩
   rw[←hsy]at HS;have ew:IntKind.i64.wrap ((sm:Int)+(pl:Int))=(sy:Int):=by rw[IntKind.wrap_i64];omega
   have hsy2:sy≤12 * (m+1):=by omega
   clear hpl hsm2 hsy
   go_wp2_with fail
   go_round
   case rel=>exact⟨m+1,by go_num,by omega,by rw[HS.out],by rw[HS.out];exact hsy2⟩
   case measure=>simp[intOf];omega
  ·obtain rfl:m=3:=by omega
   obtain⟨pt,hpt⟩:∃x,x=plen c 3:=⟨_,rfl⟩
   rw[←hpt];have HPT:=hid hpt;clear hpt hsm
   go_wp2_with fail
   go_ret
   have e:((tl:Int)==(pt:Int))=decide (tl=pt):=by rw[Bool.eq_iff_iff];simp;omega
   rw[←HPT.out,e];exact⟨rfl,HB2.out⟩
theorem run_copy_rows {P : Program} (w : World) (dT sT ty elem : TypeId) (sz b o dLen dCap : Nat) (a : Addr) (sLen sCap k : Nat) (cs : List Value)
  (hu:P.underlying dT=some (.slice elem)) (hs:(P.info? elem).map (·.size)=some sz) (hk:k=Nat.min sLen dLen) (hn:cs.length=k * sz)
  (hsrc:∀j v,cs[j]? = some v→w.cell? (a.add j)=some v) (hc:∀j,j<cs.length→(w.cell? ⟨b,o+j,none⟩).isSome=true) (hf:∀j,j<cs.length→w.frozen? ⟨b,o+j,none⟩=false) (h1:∀v∈cs,v.oneCell' = true) :
  (Builtin.copy_ #[dT,sT] ty #[.slice (some ⟨b,o,none⟩) dLen dCap,.slice (some a) sLen sCap]).run P w=.ok (goInt k) (w.setCells b o cs):=by
 have hl:=run_loadCells_list (P:=P) w a cs hsrc;have hst:=run_storeCells_cells (P:=P) b o cs 0 w (by simpa using hc) (by simpa using hf) h1;cases hq:P.info? elem with
 |none=>simp[hq]at hs
 |some i=>
  have hi:i.size=sz:=by simpa[hq]using hs
  simp[Builtin.copy_,run_underlying hu,Builtin.lenOf,Builtin.firstCells,sizeOf,typeInfo,hq,hi,←hk,←hn,hl,hst]
theorem flat_rep {α : Type} (xs : List α) (i j : Nat) (hj : j < xs.length) : ∀ (k : Nat), i < k → ((List.replicate k xs).flatten)[i * xs.length + j]? = xs[j]?
 |0,h=>absurd h (Nat.not_lt_zero _)
 |k+1,h=>by
  rw[List.replicate_succ,List.flatten_cons];cases i with
  |zero=>rw[Nat.zero_mul,Nat.zero_add,List.getElem?_append_left hj]
  |succ i=>
   have e:(i+1) * xs.length=xs.length+i * xs.length:=by rw[Nat.add_mul,Nat.one_mul,Nat.add_comm]
   rw[e,Nat.add_assoc,List.getElem?_append_right (Nat.le_add_right _ _),Nat.add_sub_cancel_left];exact flat_rep xs i j hj k (by omega)
theorem zI2 {α:Type} (xs:List α) (k:Nat):((List.replicate k xs).flatten).length=k * xs.length:=by
 rw[List.length_flatten,List.map_replicate,List.sum_replicate_nat]
theorem flatR_mem {α:Type} (xs:List α) (k:Nat) (v:α) (h:v∈(List.replicate k xs).flatten):v∈xs:=by
 rw[List.mem_flatten]at h;obtain⟨l,h1,h2⟩:=h;rw[(List.mem_replicate.1 h1).2]at h2;exact h2
theorem div_row {j sz k:Nat} (h:j<k * sz):∃i r,i<k∧r<sz∧j=i * sz+r:=by
 have hs:0<sz:=by cases sz with|zero=>simp at h|succ n=>omega
 refine⟨j / sz,j % sz,?_,Nat.mod_lt _ hs,?_⟩
 ·rw[Nat.div_lt_iff_lt_mul hs];exact h
 ·rw[Nat.mul_comm];exact(Nat.div_add_mod j sz).symm
theorem belowSet {B : Nat} {a : World} (b : Nat) (hb : B ≤ b) : ∀ (vs : List Value) (o : Nat) {w : World}, Below B a w → Below B a (w.setCells b o vs)
 |[],_,_,h=>h
 |v::vs,o,_,h=>belowSet b hb vs (o+1) (h.setCell (p:=⟨b,o,none⟩) hb v)
theorem someSet (b : Nat) : ∀ (vs : List Value) (o : Nat) (w : World) (q : Addr), (w.cell? q).isSome = true → ((w.setCells b o vs).cell? q).isSome = true
 |[],_,_,_,h=>h
 | v :: vs, o, w, q, h => someSet b vs (o + 1) (w.setCell ⟨b, o, none⟩ v) q (by
  by_cases e:q=⟨b,o,none⟩
  ·subst e;rw[World.cell?_setCell_same' _ _ _ h];rfl
  ·have e2:(w.setCell ⟨b,o,none⟩ v).cell? q=w.cell? q:=by apply World.cell?_setCell_other;exact fun h=>e h.symm
   rw[e2];exact h)
structure RepI (w0:World) (g N:Nat) (xs:List Value) (n:Nat) (w:World):Prop where
 rws:∀i,i<n→∀j,j<xs.length→w.cell? ⟨g,i * xs.length+j,none⟩=xs[j]?
 sm:∀o,o<N * xs.length→(w.cell? ⟨g,o,none⟩).isSome=true
 fz:∀o,o<N * xs.length→w.frozen? ⟨g,o,none⟩=false
 bel:Below w0.heap.size w0 w
theorem RepI.more {w0 w:World} {g N n k:Nat} {xs:List Value} (h:RepI w0 g N xs n w) (hk:n+k≤N) (hg:w0.heap.size≤g):RepI w0 g N xs (n+k) (w.setCells g (n * xs.length) (List.replicate k xs).flatten):=by
 have hin:∀j,j<((List.replicate k xs).flatten).length→(w.cell? ⟨g,n * xs.length+j,none⟩).isSome=true:=fun j hj=>by
  rw[zI2]at hj;refine h.sm _ ?_;have:(n+k) * xs.length≤N * xs.length:=Nat.mul_le_mul_right _ hk;rw[Nat.add_mul]at this;omega
 refine⟨fun i hi j hj=>?_,fun o ho=>?_,fun o ho=>?_,belowSet g hg _ _ h.bel⟩
 ·by_cases hlt:i<n
  ·rw[World.cell?_setCells_out]
   ·exact h.rws i hlt j hj
   ·intro _ _
    left
    have:(i+1) * xs.length≤n * xs.length:=Nat.mul_le_mul_right _ hlt;rw[Nat.add_mul,Nat.one_mul]at this;show i * xs.length+j<n * xs.length;omega
  ·obtain⟨m,rfl⟩:∃m,i=n+m:=⟨i - n,by omega⟩
   have hm:m * xs.length+j<((List.replicate k xs).flatten).length:=by
    rw[zI2];have:(m+1) * xs.length≤k * xs.length:=Nat.mul_le_mul_right _ (by omega);rw[Nat.add_mul,Nat.one_mul]at this;omega
   have:=World.cell?_setCells_in g _ (n * xs.length) w hin _ hm;rw[show(n+m) * xs.length+j=n * xs.length+(m * xs.length+j) by rw[Nat.add_mul,Nat.add_assoc],this,←flat_rep xs m j hj k (by omega)];rw[List.getElem?_eq_getElem hm]
 ·exact someSet _ _ _ _ _ (h.sm o ho)
 ·rw[World.frozen?_setCells];exact h.fz o ho
theorem RepI.copy {w0 w : World} {g N n k T e : Nat} {xs : List Value} (h : RepI w0 g N xs n w) (hu : Tryz.prog.underlying T = some (.slice e)) (hs : (Tryz.prog.info? e).map (·.size) = some xs.length) (h1 : ∀ v ∈ xs, v.oneCell' = true) (hk : k = min n (N - n)) (hn : n ≤ N) (ty : TypeId) (d1 d2 : Nat) :
  (Builtin.copy_ #[T,T] ty #[.slice (some ⟨g,n * xs.length,none⟩) (N - n) d1,.slice (some ⟨g,0,none⟩) n d2]).run Tryz.prog w=.ok (goInt k) (w.setCells g (n * xs.length) (List.replicate k xs).flatten):=by
 refine run_copy_rows w T T ty e xs.length g (n * xs.length) (N - n) d1 ⟨g,0,none⟩ n d2 k _ hu hs hk (zI2 xs k) (fun j v hv=>?_) (fun j hj=>?_) (fun j hj=>?_) fun v hv=>h1 v (flatR_mem xs k v hv)
 ·have hj:=(List.getElem?_eq_some_iff.1 hv).1;rw[zI2]at hj;obtain⟨i,r,hi,hr,rfl⟩:=div_row hj;rw[flat_rep xs i r hr k hi]at hv;rw[Addr.add_lit,Nat.zero_add,h.rws i (by omega) r hr];exact hv
 all_goals
  rw[zI2]at hj;have:(n+k) * xs.length≤N * xs.length:=Nat.mul_le_mul_right _ (by omega);rw[Nat.add_mul]at this
 ·exact h.sm _ (by omega)
 ·exact h.fz _ (by omega)
theorem RepI.first {w0 w : World} {g N b o k T e : Nat} {xs : List Value} (h : RepI w0 g N xs 0 w) (hu : Tryz.prog.underlying T = some (.slice e)) (hs : (Tryz.prog.info? e).map (·.size) = some xs.length) (h1 : ∀ v ∈ xs, v.oneCell' = true) (hk : k = min 1 N) (hc : ∀ j, j < xs.length → w.cell? ⟨b, o + j, none⟩ = xs[j]?) (ty : TypeId) (d1 d2 : Nat) :
  (Builtin.copy_ #[T,T] ty #[.slice (some ⟨g,0,none⟩) N d1,.slice (some ⟨b,o,none⟩) 1 d2]).run Tryz.prog w=.ok (goInt k) (w.setCells g (0 * xs.length) (List.replicate k xs).flatten):=by
 rw[Nat.zero_mul];refine run_copy_rows w T T ty e xs.length g 0 N d1 ⟨b,o,none⟩ 1 d2 k _ hu hs hk (zI2 xs k) (fun j v hv=>?_) (fun j hj=>?_) (fun j hj=>?_) fun v hv=>h1 v (flatR_mem xs k v hv)
 ·have hj:=(List.getElem?_eq_some_iff.1 hv).1;rw[zI2]at hj;obtain⟨i,r,hi,hr,rfl⟩:=div_row hj;rw[flat_rep xs i r hr k hi]at hv;have hi0:i=0:=by omega
  subst hi0;rw[Addr.add_lit,Nat.zero_mul,Nat.zero_add,hc r hr];exact hv
 all_goals
  rw[zI2]at hj;have:k * xs.length≤N * xs.length:=Nat.mul_le_mul_right _ (by omega)
 ·exact h.sm _ (by omega)
 ·exact h.fz _ (by omega)
theorem RepI.new {w w':World} {g N cap e:Nat} {xs:List Value} {α:Type} {f:α→List Value} {x:α} (h:Owns w' w.heap.size e xs.length f (.slice (some ⟨g,0,none⟩) N cap) (List.replicate N x)) (hf:(f x).length=xs.length) (hb:Below w.heap.size w w'):RepI w g N xs 0 w':=by
 unfold Owns at h;rw[List.length_replicate]at h;have hl:((List.replicate N x).flatMap f).length=N * xs.length:=by
  rw[List.flatMap_replicate,zI2,hf]
 refine⟨fun i hi=>absurd hi (Nat.not_lt_zero _),fun o ho=>?_,fun o _=>OwnR.unfrozen h o,hb⟩;have:=OwnR.get h o ho;rw[Nat.zero_add]at this;rw[this,List.getElem?_eq_getElem (by rw[hl];exact ho)];rfl
theorem RepI.arr {w0 w:World} {g N:Nat} {xs:List Value} (h:RepI w0 g N xs N w) (hN:N≤1000) (hg:g<w.heap.size):Arr w w.heap.size xs.length (.slice (some ⟨g,0,none⟩) N N) (List.replicate N xs):=by
 refine⟨some ⟨g,0,none⟩,N,by rw[List.length_replicate],by rw[List.length_replicate];exact Nat.le_refl _,by omega,by rw[List.length_replicate];omega,(fun h=>nomatch h),fun hn=>⟨g,0,rfl,hg,fun t ht j hj=>?_⟩⟩;rw[List.length_replicate]at ht;rw[Nat.zero_add,h.rws t ht j hj];simp[List.getD,ht]
end Go.Proofs.YthnlalffjepdaaaGreat
namespace Go.Proofs.YthnlalffjepdaaaGreat
def inAll:Inp:=⟨[true,true,true],[false,false,false,false],[true,true,true]⟩
def flow (c:Cfg) (n:Nat) (st:Cy):Cy:=runC c (List.replicate n inAll) st
theorem runC_two (c : Cfg) : ∀ (a b : List Inp) (st : Cy), runC c (a ++ b) st = runC c b (runC c a st)
 |[],_,_=>rfl
 |_::a,b,_=>runC_two c a b _
theorem flow_add (c:Cfg) (a b:Nat) (st:Cy):flow c b (flow c a st)=flow c (a+b) st:=by
 unfold flow;rw[←runC_two,List.replicate_append_replicate]
theorem Bus.none {c:Cfg} (h:Bus c):Bus ⟨c.ms,c.lat,[[],[],[]]⟩ :=
 ⟨h.ms,h.lat,h.lat3,rfl,by simp,by simp⟩
end Go.Proofs.YthnlalffjepdaaaGreat
namespace Go.Proofs.YthnlalffjepdaaaGreat
open Go.RowKit
theorem mul64_one (n:Nat) (hn:n≤300) (w:World):Calls Tryz.prog 176 #[.int .u64 1,.int .u64 n] w fun e w' => e=.returned (.tuple #[.int .u64 0,.int .u64 n])∧w=w':=by
 have h1:bits .and .u64 (n:Int) 4294967295=(n:Int):=by
  have h:=bits_and_u64_nat n 4294967295 (by omega) (by omega);have e:n &&& 4294967295=n % 4294967296:=Nat.and_two_pow_sub_one_eq_mod n 32;rw[e,Nat.mod_eq_of_lt (by omega)]at h;exact h
 have h2:(n:Int) / 4294967296=0:=by omega
 have h3:IntKind.u64.wrap (n:Int)=(n:Int):=by rw[IntKind.wrap_u64];omega
 have h4:bits .and .u64 1 4294967295=1:=by decide +kernel
 have h5:bits .and .u64 0 4294967295=0:=by decide +kernel
 go_enter Tryz.func176,Tryz.ntmps176
 go_wp2
 refine bodyPost_ret (v:=.tuple #[.int .u64 0,.int .u64 n]) (by simp[results,Tryz.results176]) rfl ⟨rfl,rfl⟩
theorem mul_one (n:Nat) (hn:n≤300) (w:World):Calls Tryz.prog 139 #[.int .u64 1,.int .u64 n] w fun e w' => e=.returned (.tuple #[.int .u64 0,.int .u64 n])∧w=w':=by
 go_enter Tryz.func139,Tryz.ntmps139
 go_wp2_with (go_at_call 176;refine(mul64_one n hn _).mono ?_;rintro e w' ⟨rfl,rfl⟩)
 refine bodyPost_ret (v:=.tuple #[.int .u64 0,.int .u64 n]) (by simp[results,Tryz.results139]) rfl ⟨rfl,rfl⟩
theorem zF5 (b : Nat) : ∀ (vs : List Value) (o : Nat) (w : World), (w.setCells b o vs).heap.size = w.heap.size
 |[],_,_=>rfl
 |v::vs,o,w=>by rw[World.setCells,zF5 b vs (o+1)];simp
theorem infoIn:(Tryz.prog.info? 64).map (fun i=>(i.zero,i.size,i.bytes))=some (some (.agg #[.slice none 0 0,.slice none 0 0,.slice none 0 0]),3,72):=by kernel_rfl
theorem infoInS:(Tryz.prog.info? 64).map (·.size)=some 3:=by kernel_rfl
theorem repNew {w w1:World} {N:Nat} {xs:List Value} (h:w1.ownsRow w.heap.size 64 3 (.slice (some ⟨w.heap.size,0,none⟩) N N) N (madeCells (Value.agg #[.slice none 0 0,.slice none 0 0,.slice none 0 0]).cells (N * 3)).toList) (hb:Below w.heap.size w w1) (hl:xs.length=3):RepI w w.heap.size N xs 0 w1∧w.heap.size<w1.heap.size:=by
 have e:(madeCells (Value.agg #[.slice none 0 0,.slice none 0 0,.slice none 0 0]).cells (N * 3)).toList=(List.replicate N ()).flatMap fun _=>[vnil,vnil,vnil]:=by
  have:=zG6 (fun _:Unit=>[vnil,vnil,vnil]) () (Value.agg #[.slice none 0 0,.slice none 0 0,.slice none 0 0]).cells (by decide) rfl N;exact this
 rw[e]at h;have hO:Owns w1 w.heap.size 64 3 (fun _:Unit=>[vnil,vnil,vnil]) (.slice (some ⟨w.heap.size,0,none⟩) N N) (List.replicate N ()):=by
  unfold Owns;rw[List.length_replicate];exact OwnR.of_row h
 rw[←hl]at hO;exact⟨RepI.new hO (by rw[hl];rfl) hb,(OwnR.lt hO _ rfl).2⟩
set_option maxRecDepth 8000 in
theorem repeatIn_any (N : Nat) (hN : N ≤ 300) (b : Nat) (a0 a1 a2 : Option Addr) (n0 n1 n2 k0 k1 k2 : Nat) (w : World) (hb : b < w.heap.size) (hc0 : w.cell? ⟨b, 0, none⟩ = some (.slice a0 n0 k0)) (hc1 : w.cell? ⟨b, 1, none⟩ = some (.slice a1 n1 k1)) (hc2 : w.cell? ⟨b, 2, none⟩ = some (.slice a2 n2 k2)) :
    Calls Tryz.prog 85 #[.slice (some ⟨b,0,none⟩) 1 1,.int .i64 N] w fun e w' => ∃g,e=.returned (.slice (some ⟨g,0,none⟩) N N)∧RepI w g N [.slice a0 n0 k0,.slice a1 n1 k1,.slice a2 n2 k2] N w' ∧ w.heap.size≤g∧g<w'.heap.size:=by
  obtain⟨xs,hxs⟩:∃xs:List Value,xs=[.slice a0 n0 k0,.slice a1 n1 k1,.slice a2 n2 k2]:=⟨_,rfl⟩
  have HXS:=hid hxs;have HL:=hid (show xs.length=3 by rw[hxs];rfl)
  have H1 := hid (show ∀ v ∈ xs, v.oneCell' = true by
    rw[hxs];intro v hv;simp only[List.mem_cons,List.not_mem_nil,or_false]at hv;rcases hv with rfl|rfl|rfl <;> rfl)
  have HC := hid (show ∀ j, j < xs.length → w.cell? ⟨b, 0 + j, none⟩ = xs[j]? by
    rw[hxs];intro j hj;obtain rfl|rfl|rfl:j=0∨j=1∨j=2:=by have:j<3:=hj;omega
    · exact hc0
    · exact hc1
    · exact hc2)
  rw[←hxs];clear hc0 hc1 hc2 hxs;have HM:=hid (mul_one N hN);have i1:decide ((N:Int)<0)=false:=by simp
  have i2:decide ((9223372036854775807:Int)<(N:Int))=false:=by simp;omega
  have i3:IntKind.u64.wrap (N:Int)=(N:Int):=by rw[IntKind.wrap_u64];omega
  have i4:IntKind.i64.wrap (N:Int)=(N:Int):=by rw[IntKind.wrap_i64];omega
  obtain⟨ii,q1,q2,q3,q4⟩:=info_parts infoIn;obtain⟨k,hk⟩:∃k,k=min 1 N:=⟨_,rfl⟩
  have HK:=hid hk;clear hk
  go_enter Tryz.func85,Tryz.ntmps85
  go_wp2_with (first
    |(go_at_call 139;refine(HM.out _).mono ?_;rintro e w' ⟨rfl,rfl⟩)
    |(at_make;go_must (refine wpList_make_full _ rfl _ _ 28 rfl w.heap.size 64 ii (.agg #[.slice none 0 0,.slice none 0 0,.slice none 0 0]) 3 Tryz.underlying28 q1 q2 q3 _ _ _ _ N rfl rfl rfl rfl (by rw[q4];omega) (by unfold maxLen;omega) (Nat.le_refl _) ?_);intro w1 hown hgrow;have hbx:=(show Below w.heap.size w w1 from(Below.refl _ _).grown hgrow (Nat.le_refl _) (by simp));have HR0:=repNew hown hbx HL.out;clear hown hgrow;obtain⟨W2,hW2⟩:∃W,W=w1.setCells w.heap.size (0 * xs.length) (List.replicate k xs).flatten:=⟨_,rfl⟩;have hcp:∀ty,(Builtin.copy_ #[28,28] ty #[.slice (some ⟨w.heap.size,0,none⟩) N N,.slice (some ⟨b,0,none⟩) 1 1]).run Tryz.prog w1=.ok (goInt k) W2:=(fun ty=>by rw[hW2];exact HR0.1.first Tryz.underlying28 (by rw[HL.out];exact infoInS) H1.out HK.out (fun j hj=>by rw[hbx.cell (p:=⟨b,_,none⟩) hb];exact HC.out j hj) ty N 1);have HW2:=hid (show RepI w w.heap.size N xs k W2∧w.heap.size<W2.heap.size from⟨by have:=HR0.1.more (k:=k) (by have:=HK.out;omega) (Nat.le_refl _);rw[Nat.zero_add]at this;rw[hW2];exact this,by rw[hW2,zF5];exact HR0.2⟩);clear hW2 HR0 hbx)
    |fail)
  clear hb
  go_loopw [8] (fun n' wr=>∃n:Nat,n' = .int .i64 n∧n≤N∧(n=0→N=0)∧RepI w w.heap.size N xs n wr∧w.heap.size<wr.heap.size) (fun n' _=>N - (intOf n').toNat)
  case atStart=>exact⟨k,rfl,by have:=HK.out;omega,by have:=HK.out;omega,HW2.out.1,HW2.out.2⟩
  case round=>
    obtain⟨n,rfl,hn,hn0,hr,hg⟩:=hrel;have HR:=hid hr;have HG:=hid hg;clear hr hg HW2;by_cases h6:n=N
    · subst h6
      have hlt:decide ((n:Int)<(n:Int))=false:=by simp
      go_wp2_with fail
      go_ret
      exact⟨_,rfl,HR.out,Nat.le_refl _,HG.out⟩
    · have hlt : (n : Int) < (N : Int) := by omega
      obtain⟨m,hm⟩:∃m,m=min n (N - n):=⟨_,rfl⟩
      have ho:n≤N:=hn;obtain⟨CC,hCC⟩:∃CC:List Value→World→Prop,CC=fun us W=>w.heap.size<W.heap.size∧RepI w w.heap.size N xs (n+us.length * m) W:=⟨_,rfl⟩
      have hC0:CC [] wr.drew:=by rw[hCC];refine⟨HG.out,?_⟩;rw[List.length_nil,Nat.zero_mul,Nat.add_zero];exact⟨HR.out.rws,HR.out.sm,HR.out.fz,HR.out.bel.drew⟩
      have HCC:=hid hCC;have hne:Nonempty (Ph CC):=⟨⟨([],wr.drew),hC0⟩⟩
      have HM2:=hid hm;have i5:IntKind.i64.wrap ((n:Int)+(m:Int))=((n+m:Nat):Int):=by rw[IntKind.wrap_i64];omega
      have hNn:¬N=n:=fun e=>h6 e.symm
      clear hCC hm h6
      go_upto_region 9 with fail
      refine zB3 CC [(7,true)] [] (by kernel_rfl) (by kernel_rfl) hC0 ?_
      repeat (
        (with_reducible refine wq1_q ⟨rfl,rfl⟩ (fun K hK=>?_))
        go_simp
        first
          |((with_reducible refine hK _ ?_);clear hK K)
          |((with_reducible refine zA9 (by simp[undef]) (hK _ ?_));clear hK K)
          | (apply Exists.intro
             (with_reducible refine⟨fun _=>?_,hK _ ?_⟩)
             (fail)
             clear hK K))
      refine wq1_x rfl (.int .i64 m) (fun KA hKA=>?_);go_simp;refine hKA _ ?_;clear hKA KA
      repeat (
        (with_reducible refine wq1_q ⟨rfl,rfl⟩ (fun K hK=>?_))
        go_simp
        first
          |((with_reducible refine hK _ ?_);clear hK K)
          |((with_reducible refine zA9 (by simp[undef]) (hK _ ?_));clear hK K)
          | (apply Exists.intro
             (with_reducible refine⟨fun _=>?_,hK _ ?_⟩)
             (fail)
             clear hK K))
      refine zI6 ?_;clear hne;refine wq2_x _ rfl rfl ?_ ?_
      · intro W hW KA hKA
        rw[HCC.out]at hW;have h1:=hW.2;rw[List.length_nil,Nat.zero_mul,Nat.add_zero]at h1;have hcp:∀ty,(Builtin.copy_ #[28,28] ty #[.slice (some ⟨w.heap.size,n * 3,none⟩) (N - n) (N - n),.slice (some ⟨w.heap.size,0,none⟩) n N]).run Tryz.prog W=.ok (goInt m) (W.setCells w.heap.size (n * 3) (List.replicate m xs).flatten):=fun ty=>by
          have:=h1.copy Tryz.underlying28 (by rw[HL.out];exact infoInS) H1.out HM2.out ho ty (N - n) N;rw[HL.out]at this;exact this
        go_simp
        exact hKA (.int .i64 m) _ (W.setCells w.heap.size (n * 3) (List.replicate m xs).flatten) (by
          rw[HCC.out];refine⟨by rw[zF5];exact hW.1,?_⟩;have:=h1.more (k:=m) (by have:=HM2.out;omega) (Nat.le_refl _);rw[HL.out]at this;simpa using this) rfl rfl
      intro _;refine zI5 ?_;intro wd hwd;rw[HCC.out]at hwd;have HD:=hid hwd;clear hwd hC0
      go_wp2_with fail
      go_roundw
      case rel=>exact⟨n+m,by go_num,by have:=HM2.out;omega,by have:=HM2.out;omega,by simpa using HD.out.2,HD.out.1⟩
      case measure=>have:=HM2.out;simp[intOf];omega
theorem infoBo:(Tryz.prog.info? 4).map (fun i=>(i.zero,i.size,i.bytes))=some (some (.bool false),1,1):=by kernel_rfl
theorem infoBoS:(Tryz.prog.info? 4).map (·.size)=some 1:=by kernel_rfl
theorem repNewB {w w1:World} {N:Nat} {xs:List Value} (h:w1.ownsRow w.heap.size 4 1 (.slice (some ⟨w.heap.size,0,none⟩) N N) N (madeCells (Value.bool false).cells (N * 1)).toList) (hb:Below w.heap.size w w1) (hl:xs.length=1):RepI w w.heap.size N xs 0 w1∧w.heap.size<w1.heap.size:=by
 have e:(madeCells (Value.bool false).cells (N * 1)).toList=(List.replicate N ()).flatMap fun _=>[.bool false]:=by
  have:=zG6 (fun _:Unit=>[Value.bool false]) () (Value.bool false).cells (by decide) rfl N;exact this
 rw[e]at h;have hO:Owns w1 w.heap.size 4 1 (fun _:Unit=>[Value.bool false]) (.slice (some ⟨w.heap.size,0,none⟩) N N) (List.replicate N ()):=by
  unfold Owns;rw[List.length_replicate];exact OwnR.of_row h
 rw[←hl]at hO;exact⟨RepI.new hO (by rw[hl];rfl) hb,(OwnR.lt hO _ rfl).2⟩
set_option maxRecDepth 8000 in
theorem repeatB_any (N : Nat) (hN : N ≤ 300) (b : Nat) (v : Bool) (w : World) (hb : b < w.heap.size) (hc0 : w.cell? ⟨b, 0, none⟩ = some (.bool v)) :
    Calls Tryz.prog 86 #[.slice (some ⟨b,0,none⟩) 1 1,.int .i64 N] w fun e w' => ∃g,e=.returned (.slice (some ⟨g,0,none⟩) N N)∧RepI w g N [.bool v] N w' ∧ w.heap.size≤g∧g<w'.heap.size:=by
  obtain⟨xs,hxs⟩:∃xs:List Value,xs=[.bool v]:=⟨_,rfl⟩
  have HXS:=hid hxs;have HL:=hid (show xs.length=1 by rw[hxs];rfl)
  have H1 := hid (show ∀ v ∈ xs, v.oneCell' = true by
    rw[hxs];intro x hv;simp only[List.mem_cons,List.not_mem_nil,or_false]at hv;subst hv;rfl)
  have HC := hid (show ∀ j, j < xs.length → w.cell? ⟨b, 0 + j, none⟩ = xs[j]? by
    rw[hxs];intro j hj;obtain rfl:j=0:=by have:j<1:=hj;omega
    exact hc0)
  rw[←hxs];clear hc0 hxs;have HM:=hid (mul_one N hN);have i1:decide ((N:Int)<0)=false:=by simp
  have i2:decide ((9223372036854775807:Int)<(N:Int))=false:=by simp;omega
  have i3:IntKind.u64.wrap (N:Int)=(N:Int):=by rw[IntKind.wrap_u64];omega
  have i4:IntKind.i64.wrap (N:Int)=(N:Int):=by rw[IntKind.wrap_i64];omega
  obtain⟨ii,q1,q2,q3,q4⟩:=info_parts infoBo;obtain⟨k,hk⟩:∃k,k=min 1 N:=⟨_,rfl⟩
  have HK:=hid hk;clear hk
  go_enter Tryz.func86,Tryz.ntmps86
  go_wp2_with (first
    |(go_at_call 139;refine(HM.out _).mono ?_;rintro e w' ⟨rfl,rfl⟩)
    |(at_make;go_must (refine wpList_make_full _ rfl _ _ 62 rfl w.heap.size 4 ii (.bool false) 1 Tryz.underlying62 q1 q2 q3 _ _ _ _ N rfl rfl rfl rfl (by rw[q4];omega) (by unfold maxLen;omega) (Nat.le_refl _) ?_);intro w1 hown hgrow;have hbx:=(show Below w.heap.size w w1 from(Below.refl _ _).grown hgrow (Nat.le_refl _) (by simp));have HR0:=repNewB hown hbx HL.out;clear hown hgrow;obtain⟨W2,hW2⟩:∃W,W=w1.setCells w.heap.size (0 * xs.length) (List.replicate k xs).flatten:=⟨_,rfl⟩;have hcp:∀ty,(Builtin.copy_ #[62,62] ty #[.slice (some ⟨w.heap.size,0,none⟩) N N,.slice (some ⟨b,0,none⟩) 1 1]).run Tryz.prog w1=.ok (goInt k) W2:=(fun ty=>by rw[hW2];exact HR0.1.first Tryz.underlying62 (by rw[HL.out];exact infoBoS) H1.out HK.out (fun j hj=>by rw[hbx.cell (p:=⟨b,_,none⟩) hb];exact HC.out j hj) ty N 1);have HW2:=hid (show RepI w w.heap.size N xs k W2∧w.heap.size<W2.heap.size from⟨by have:=HR0.1.more (k:=k) (by have:=HK.out;omega) (Nat.le_refl _);rw[Nat.zero_add]at this;rw[hW2];exact this,by rw[hW2,zF5];exact HR0.2⟩);clear hW2 HR0 hbx)
    |fail)
  clear hb
  go_loopw [8] (fun n' wr=>∃n:Nat,n' = .int .i64 n∧n≤N∧(n=0→N=0)∧RepI w w.heap.size N xs n wr∧w.heap.size<wr.heap.size) (fun n' _=>N - (intOf n').toNat)
  case atStart=>exact⟨k,rfl,by have:=HK.out;omega,by have:=HK.out;omega,HW2.out.1,HW2.out.2⟩
  case round=>
    obtain⟨n,rfl,hn,hn0,hr,hg⟩:=hrel;have HR:=hid hr;have HG:=hid hg;clear hr hg HW2;by_cases h6:n=N
    · subst h6
      have hlt:decide ((n:Int)<(n:Int))=false:=by simp
      go_wp2_with fail
      go_ret
      exact⟨_,rfl,HR.out,Nat.le_refl _,HG.out⟩
    · have hlt : (n : Int) < (N : Int) := by omega
      obtain⟨m,hm⟩:∃m,m=min n (N - n):=⟨_,rfl⟩
      have ho:n≤N:=hn;obtain⟨CC,hCC⟩:∃CC:List Value→World→Prop,CC=fun us W=>w.heap.size<W.heap.size∧RepI w w.heap.size N xs (n+us.length * m) W:=⟨_,rfl⟩
      have hC0:CC [] wr.drew:=by rw[hCC];refine⟨HG.out,?_⟩;rw[List.length_nil,Nat.zero_mul,Nat.add_zero];exact⟨HR.out.rws,HR.out.sm,HR.out.fz,HR.out.bel.drew⟩
      have HCC:=hid hCC;have hne:Nonempty (Ph CC):=⟨⟨([],wr.drew),hC0⟩⟩
      have HM2:=hid hm;have i5:IntKind.i64.wrap ((n:Int)+(m:Int))=((n+m:Nat):Int):=by rw[IntKind.wrap_i64];omega
      have hNn:¬N=n:=fun e=>h6 e.symm
      clear hCC hm h6
      go_upto_region 9 with fail
      refine zB3 CC [(7,true)] [] (by kernel_rfl) (by kernel_rfl) hC0 ?_
      repeat (
        (with_reducible refine wq1_q ⟨rfl,rfl⟩ (fun K hK=>?_))
        go_simp
        first
          |((with_reducible refine hK _ ?_);clear hK K)
          |((with_reducible refine zA9 (by simp[undef]) (hK _ ?_));clear hK K)
          | (apply Exists.intro
             (with_reducible refine⟨fun _=>?_,hK _ ?_⟩)
             (fail)
             clear hK K))
      refine wq1_x rfl (.int .i64 m) (fun KA hKA=>?_);go_simp;refine hKA _ ?_;clear hKA KA
      repeat (
        (with_reducible refine wq1_q ⟨rfl,rfl⟩ (fun K hK=>?_))
        go_simp
        first
          |((with_reducible refine hK _ ?_);clear hK K)
          |((with_reducible refine zA9 (by simp[undef]) (hK _ ?_));clear hK K)
          | (apply Exists.intro
             (with_reducible refine⟨fun _=>?_,hK _ ?_⟩)
             (fail)
             clear hK K))
      refine zI6 ?_;clear hne;refine wq2_x _ rfl rfl ?_ ?_
      · intro W hW KA hKA
        rw[HCC.out]at hW;have h1:=hW.2;rw[List.length_nil,Nat.zero_mul,Nat.add_zero]at h1;have hcp:∀ty,(Builtin.copy_ #[62,62] ty #[.slice (some ⟨w.heap.size,n,none⟩) (N - n) (N - n),.slice (some ⟨w.heap.size,0,none⟩) n N]).run Tryz.prog W=.ok (goInt m) (W.setCells w.heap.size (n) (List.replicate m xs).flatten):=fun ty=>by
          have:=h1.copy Tryz.underlying62 (by rw[HL.out];exact infoBoS) H1.out HM2.out ho ty (N - n) N;rw[HL.out]at this;simpa using this
        go_simp
        exact hKA (.int .i64 m) _ (W.setCells w.heap.size (n) (List.replicate m xs).flatten) (by
          rw[HCC.out];refine⟨by rw[zF5];exact hW.1,?_⟩;have:=h1.more (k:=m) (by have:=HM2.out;omega) (Nat.le_refl _);rw[HL.out]at this;simpa using this) rfl rfl
      intro _;refine zI5 ?_;intro wd hwd;rw[HCC.out]at hwd;have HD:=hid hwd;clear hwd hC0
      go_wp2_with fail
      go_roundw
      case rel=>exact⟨n+m,by go_num,by have:=HM2.out;omega,by have:=HM2.out;omega,by simpa using HD.out.2,HD.out.1⟩
      case measure=>have:=HM2.out;simp[intOf];omega
theorem zJ5 (x:Bool):(rowB x).length=1:=rfl
theorem Owns.cellB {w:World} {base e g n c:Nat} {xs:List Bool} (h:Owns w base e 1 rowB (.slice (some ⟨g,0,none⟩) n c) xs) (k:Nat) (hk:k<xs.length):w.cell? ⟨g,k,none⟩=some (.bool (xs.getD k false)):=by
 have:=h.cellAt zJ5 k 0 false hk (by omega);simpa[rowB]using this
theorem Owns.putB {w:World} {base e g n c:Nat} {xs:List Bool} (h:Owns w base e 1 rowB (.slice (some ⟨g,0,none⟩) n c) xs) (k:Nat) (hk:k<xs.length) (x:Bool):Owns (w.setCell ⟨g,k,none⟩ (.bool x)) base e 1 rowB (.slice (some ⟨g,0,none⟩) n c) (xs.set k x):=by
 have:=h.putRow zJ5 k 0 false x (.bool x) hk (by omega) (by simp[rowB]);simpa using this
theorem Bx.touch {w w':World} {r g:Nat} {cs:List Value} (h:Bx w g cs) (ht:Touch r w w') (hn:g≠r):Bx w' g cs:=h.kept (ht.block g h.lt hn)
theorem Bx.setc {w:World} {g:Nat} {cs:List Value} (h:Bx w g cs) (b o:Nat) (u:Value) (hn:g≠b):Bx (w.setCell ⟨b,o,none⟩ u) g cs:=h.kept (Below.heap_setCell _ _ _ _ hn)
theorem loadVar_in (w:World) (g:Nat) (a b c:Value) (h0:w.cell? ⟨g,0,none⟩=some a) (h1:w.cell? ⟨g,1,none⟩=some b) (h2:w.cell? ⟨g,2,none⟩=some c):(loadVar 64 ⟨g,0,none⟩).run Tryz.prog w=.ok (.agg #[a,b,c]) w:=by
 simp[loadVar,go_sem,h0,h1,h2]
abbrev T3:List Bool:=[true,true,true]
abbrev F4:List Bool:=[false,false,false,false]
structure InO (w:World) (lo g1 g2 g3:Nat) (xs zs ys:List Bool):Prop where
 o1:Owns w lo 4 1 rowB (.slice (some ⟨g1,0,none⟩) 3 3) xs
 o2:Owns w lo 4 1 rowB (.slice (some ⟨g2,0,none⟩) 4 4) zs
 o3:Owns w lo 4 1 rowB (.slice (some ⟨g3,0,none⟩) 3 3) ys
 l1:xs.length=3
 l2:zs.length=4
 l3:ys.length=3
 n12:g1<g2
 n23:g2<g3
theorem InO.kept {w w':World} {lo g1 g2 g3:Nat} {xs zs ys:List Bool} (h:InO w lo g1 g2 g3 xs zs ys) (hk:∀k,lo≤k→k<w.heap.size→w'.heap[k]? = w.heap[k]?):InO w' lo g1 g2 g3 xs zs ys :=
 ⟨OwnR.kept h.o1 fun k hk2=>hk k (OwnR.lt h.o1 k hk2).1 (OwnR.lt h.o1 k hk2).2,OwnR.kept h.o2 fun k hk2=>hk k (OwnR.lt h.o2 k hk2).1 (OwnR.lt h.o2 k hk2).2,OwnR.kept h.o3 fun k hk2=>hk k (OwnR.lt h.o3 k hk2).1 (OwnR.lt h.o3 k hk2).2,h.l1,h.l2,h.l3,h.n12,h.n23⟩
theorem InO.lt {w:World} {lo g1 g2 g3:Nat} {xs zs ys:List Bool} (h:InO w lo g1 g2 g3 xs zs ys):lo≤g1∧g1<g2∧g2<g3∧g3<w.heap.size:=⟨(OwnR.lt h.o1 g1 rfl).1,h.n12,h.n23,(OwnR.lt h.o3 g3 rfl).2⟩
theorem InO.put1 {w:World} {lo g1 g2 g3:Nat} {xs zs ys:List Bool} (h:InO w lo g1 g2 g3 xs zs ys) (k:Nat) (hk:k<3) (b:Bool):InO (w.setCell ⟨g1,k,none⟩ (.bool b)) lo g1 g2 g3 (xs.set k b) zs ys :=
 ⟨h.o1.putB k (by rw[h.l1];exact hk) b,h.o2.set' g1 k _ (fun j hj=>by have:=h.n12;simp[Value.ownBlock]at hj;omega),h.o3.set' g1 k _ (fun j hj=>by have:=h.n12;have:=h.n23;simp[Value.ownBlock]at hj;omega),by simp[h.l1],h.l2,h.l3,h.n12,h.n23⟩
theorem InO.put2 {w:World} {lo g1 g2 g3:Nat} {xs zs ys:List Bool} (h:InO w lo g1 g2 g3 xs zs ys) (k:Nat) (hk:k<4) (b:Bool):InO (w.setCell ⟨g2,k,none⟩ (.bool b)) lo g1 g2 g3 xs (zs.set k b) ys :=
 ⟨h.o1.set' g2 k _ (fun j hj=>by have:=h.n12;simp[Value.ownBlock]at hj;omega),h.o2.putB k (by rw[h.l2];exact hk) b,h.o3.set' g2 k _ (fun j hj=>by have:=h.n23;simp[Value.ownBlock]at hj;omega),h.l1,by simp[h.l2],h.l3,h.n12,h.n23⟩
theorem InO.put3 {w:World} {lo g1 g2 g3:Nat} {xs zs ys:List Bool} (h:InO w lo g1 g2 g3 xs zs ys) (k:Nat) (hk:k<3) (b:Bool):InO (w.setCell ⟨g3,k,none⟩ (.bool b)) lo g1 g2 g3 xs zs (ys.set k b) :=
 ⟨h.o1.set' g3 k _ (fun j hj=>by have:=h.n12;have:=h.n23;simp[Value.ownBlock]at hj;omega),h.o2.set' g3 k _ (fun j hj=>by have:=h.n23;simp[Value.ownBlock]at hj;omega),h.o3.putB k (by rw[h.l3];exact hk) b,h.l1,h.l2,by simp[h.l3],h.n12,h.n23⟩
theorem InO.boxed {w w':World} {lo g1 g2 g3:Nat} {xs zs ys:List Bool} (h:InO w lo g1 g2 g3 xs zs ys) {b:Nat} (hk:∀k,k≠b→w'.heap[k]? = w.heap[k]?) (hb:b<g1):InO w' lo g1 g2 g3 xs zs ys:=by
 have h1:=h.n12;have h2:=h.n23;exact⟨OwnR.kept h.o1 fun k hk2=>hk k (by simp[Value.ownBlock]at hk2;omega),OwnR.kept h.o2 fun k hk2=>hk k (by simp[Value.ownBlock]at hk2;omega),OwnR.kept h.o3 fun k hk2=>hk k (by simp[Value.ownBlock]at hk2;omega),h.l1,h.l2,h.l3,h.n12,h.n23⟩
def InAllP (w:World) (e:Ending) (w':World):Prop:=∃g1 g2 g3,e=.returned (.agg #[.slice (some ⟨g1,0,none⟩) 3 3,.slice (some ⟨g2,0,none⟩) 4 4,.slice (some ⟨g3,0,none⟩) 3 3])∧InO w' w.heap.size g1 g2 g3 T3 F4 T3∧Below w.heap.size w w'
theorem inAll_any (w:World):Calls Tryz.prog 150 #[] w (InAllP w):=by
 go_enter Tryz.func150,Tryz.ntmps150
 go_wp2_with fail
 refine bodyPost_ret (zA4 Tryz.results150 _ _ ⟨w.heap.size,0,none⟩ (.agg #[.slice (some ⟨w.heap.size+1,0,none⟩) 3 3,.slice (some ⟨w.heap.size+1+1,0,none⟩) 4 4,.slice (some ⟨w.heap.size+1+1+1,0,none⟩) 3 3]) rfl (loadVar_in _ _ _ _ _ (by simp[go_sem]) (by simp[go_sem]) (by simp[go_sem]))) rfl ⟨_,_,_,rfl,⟨?_,?_,?_,rfl,rfl,rfl,by omega,by omega⟩,?_⟩
 ·have:=((Owns.litOf (w:=w.alloc (.cells #[.slice (some ⟨w.heap.size+1,0,none⟩) 3 3,.slice (some ⟨w.heap.size+1+1,0,none⟩) 4 4,.slice (some ⟨w.heap.size+1+1+1,0,none⟩) 3 3] 64)) (base:=w.heap.size) (e:=4) (f:=rowB) T3 #[.bool true,.bool true,.bool true] (by simp) zJ5 rfl (by unfold maxLen;simp)).allocd (.cells #[.bool false,.bool false,.bool false,.bool false] 4)).allocd (.cells #[.bool true,.bool true,.bool true] 4);simpa using this
 ·have:=(Owns.litOf (w:=(w.alloc (.cells #[.slice (some ⟨w.heap.size+1,0,none⟩) 3 3,.slice (some ⟨w.heap.size+1+1,0,none⟩) 4 4,.slice (some ⟨w.heap.size+1+1+1,0,none⟩) 3 3] 64)).alloc (.cells #[.bool true,.bool true,.bool true] 4)) (base:=w.heap.size) (e:=4) (f:=rowB) F4 #[.bool false,.bool false,.bool false,.bool false] (by simp;omega) zJ5 rfl (by unfold maxLen;simp)).allocd (.cells #[.bool true,.bool true,.bool true] 4);simpa using this
 ·have:=Owns.litOf (w:=((w.alloc (.cells #[.slice (some ⟨w.heap.size+1,0,none⟩) 3 3,.slice (some ⟨w.heap.size+1+1,0,none⟩) 4 4,.slice (some ⟨w.heap.size+1+1+1,0,none⟩) 3 3] 64)).alloc (.cells #[.bool true,.bool true,.bool true] 4)).alloc (.cells #[.bool false,.bool false,.bool false,.bool false] 4)) (base:=w.heap.size) (e:=4) (f:=rowB) T3 #[.bool true,.bool true,.bool true] (by simp;omega) zJ5 rfl (by unfold maxLen;simp);simpa using this
 ·exact((((Below.refl _ _).alloc (Nat.le_refl _) _).alloc (by simp) _).alloc (by simp;omega) _).alloc (by simp;omega) _
def InDr (r B:Nat) (bs:List Nat) (p:Nat) (w:World) (e:Ending) (w':World):Prop :=
 ∃g1 g2 g3 xs zs ys q,e=.returned (.agg #[.slice (some ⟨g1,0,none⟩) 3 3,.slice (some ⟨g2,0,none⟩) 4 4,.slice (some ⟨g3,0,none⟩) 3 3])∧InO w' w.heap.size g1 g2 g3 xs zs ys∧q≤p+10∧RdAt w' r B bs q∧Touch r w w'
set_option maxRecDepth 4000 in
theorem l20In_any (r B : Nat) (bs : List Nat) (p : Nat) (n : Int) (w : World) (h : RdAt w r B bs p) (hp : p ≤ 900000000) (h1 : 1 ≤ n) (hn : n ≤ 1099511627776) :
  Calls Tryz.prog 105 #[.pointer (some ⟨r,0,none⟩),.int .i64 n] w (InDr r B bs p w):=by
 have hrw:=h.lt;have HR0:=hid h;clear h
 go_enter Tryz.func105,Tryz.ntmps105
 go_upto_region 2 with(go_at_call 150;(with_reducible refine(inAll_any _).mono ?_);rintro e w1 ⟨g1,g2,g3,rfl,ho,hb⟩;have HO1:=hid ho;have HB1:=hid hb;clear ho hb)
 obtain⟨w2,hw2⟩:∃W,W=w1.alloc (.cells #[.slice (some ⟨g1,0,none⟩) 3 3,.slice (some ⟨g2,0,none⟩) 4 4,.slice (some ⟨g3,0,none⟩) 3 3] 64):=⟨_,rfl⟩
 obtain⟨gi,hgi⟩:∃g,g=w1.heap.size:=⟨_,rfl⟩
 rw[←hw2,←hgi];have hb2:Below w1.heap.size w1 w2:=by rw[hw2];exact(Below.refl _ _).alloc (Nat.le_refl _) _
 have hb01:Below w.heap.size w w1:=((Below.refl _ _).alloc (Nat.le_refl _) _).trans (HB1.out.mono (by simp));have HLO:=hid HO1.out.lt;have HX:=hid (show Bx w2 gi [.slice (some ⟨g1,0,none⟩) 3 3,.slice (some ⟨g2,0,none⟩) 4 4,.slice (some ⟨g3,0,none⟩) 3 3] by rw[hw2,hgi];exact Bx.new w1 #[.slice (some ⟨g1,0,none⟩) 3 3,.slice (some ⟨g2,0,none⟩) 4 4,.slice (some ⟨g3,0,none⟩) 3 3] 64 (by simp));have HY:=hid (show Bx w2 w.heap.size [vnil,vnil,vnil] from((Bx.new w #[vnil,vnil,vnil] 64 (by simp)).below HB1.out (by simp)).below hb2 (by have:=HB1.out.size;simp at this;omega));have HO2:=hid (HO1.out.kept (w':=w2) fun k _ hk=>hb2.block k hk);have HT2:=hid (show Touch r w w2 from(Touch.of_below hb01 (Nat.le_refl _)).trans (Touch.of_below hb2 (Nat.le_refl _)));have HR2:=hid ((HR0.out.kept hb01 hrw).kept hb2 (by have:=hb01.size;omega));have h0lo:=HO1.out.lt;simp only[World.size_alloc]at h0lo;have hn1:g1<gi:=by omega
 have hn3:g3<gi:=by omega
 have hgr1:w.heap.size<g1:=by omega
 obtain⟨_,h12,h23,_⟩:=h0lo;have hg10:g1≠w.heap.size:=by omega
 have hSZ:=hid (show w.heap.size≤(w.alloc (.cells #[vnil,vnil,vnil] 64)).heap.size by simp);clear hw2 hgi hb2 hb01
 go_wp2_with fail
 go_loopw [6] (fun i wr=>∃(k q:Nat) (xs ys:List Bool),i=.int .i64 (k:Nat)∧k≤3∧q≤p+2 * k∧RdAt wr r B bs q∧InO wr w.heap.size g1 g2 g3 xs F4 ys∧Touch r w wr∧Bx wr gi [.slice (some ⟨g1,0,none⟩) 3 3,.slice (some ⟨g2,0,none⟩) 4 4,.slice (some ⟨g3,0,none⟩) 3 3]∧Bx wr w.heap.size [vnil,vnil,vnil]) (fun i _=>3 - (intOf i).toNat)
 case atStart=>exact⟨0,p,T3,T3,by go_num,by omega,by omega,HR2.out,⟨HO2.out.o1.rebase hSZ.out,HO2.out.o2.rebase hSZ.out,HO2.out.o3.rebase hSZ.out,HO2.out.l1,HO2.out.l2,HO2.out.l3,HO2.out.n12,HO2.out.n23⟩,HT2.out,HX.out,HY.out⟩
 case round=>
  clear HX HY HO2 HT2 HR2;obtain⟨k,q,xs,ys,rfl,hk,hq,hrd,ho,ht,hx,hy⟩:=hrel;have HO:=hid ho;have HT:=hid ht;have HX:=hid hx;have HY:=hid hy;have HRD:=hid hrd;have h3l:=ho.lt.2.2.2;have hxl:=hx.lt;clear ho ht hx hy hrd;by_cases hlt:k<3
  ·have hki:(k:Int)<3:=by omega
   obtain⟨x0,x1,x2⟩:=HX.out.three.1
   go_upto_region 5 with fail
   go_region_held3 (fun w' => w'.cell? ⟨gi, 0, none⟩ = some (.slice (some ⟨g1, 0, none⟩) 3 3)) (first | exact z1 | (rw [World.cell?_setCell_far _ _ _ _ (by show g1 ≠ gi; omega)]; exact z1) | go_keep)
    (first|(go_at_call 103;(with_reducible refine(zB7 r B bs q n _ HRD.out.drewd (by omega) h1 hn).mono ?_);rintro e w4 ⟨y,rfl,hy0,hy1,h4,ht4⟩;have HT4:=hid (show Touch r wr w4 from(Touch.refl r wr).drewd.trans ht4);have HX4:=hid (HX.out.touch HT4.out (by omega));have z1:=HX4.out.three.1.1;have HO4:=hid (HO.out.kept (w':=w4) fun k h1 h2=>HT4.out.block k h2 (by omega));have zc:=HO4.out.o1.cellB k (by rw[HO4.out.l1];omega);have zf:=HO4.out.o1.frozenAt k;have HY4:=hid (HY.out.touch HT4.out (by omega));have HRD4:=hid h4;clear h4 ht4))
   clear z1 zc zf x0 x1 x2
   go_upto_region 6 with fail
   obtain⟨w5,hw5⟩:∃W,W=w4.setCell ⟨g1,k,none⟩ (.bool (decide (0<y))):=⟨_,rfl⟩
   rw[←hw5];have HO5:=hid (show InO w5 w.heap.size g1 g2 g3 (xs.set k (decide (0<y))) F4 ys by rw[hw5];exact HO4.out.put1 k hlt _);have HX5:=hid (show Bx w5 gi _ by rw[hw5];exact HX4.out.setc g1 k _ (by omega));have HY5:=hid (show Bx w5 w.heap.size _ by rw[hw5];exact HY4.out.setc g1 k _ (by omega));have HRD5:=hid (show RdAt w5 r B bs (q+1) by rw[hw5];exact HRD4.out.setNew hrw (by omega) k _);have HT5:=hid (show Touch r w w5 by rw[hw5];exact(HT.out.trans HT4.out).setNew (by omega) _);have hxl5:=HX5.out.lt;have h3l5:=HO5.out.lt.2.2.2;clear hw5;obtain⟨x0,x1,x2⟩:=HX5.out.three.1
   go_region_held3 (fun w' => w'.cell? ⟨gi, 2, none⟩ = some (.slice (some ⟨g3, 0, none⟩) 3 3)) (first | exact z1 | (rw [World.cell?_setCell_far _ _ _ _ (by show g3 ≠ gi; omega)]; exact z1) | go_keep)
    (first|(go_at_call 103;(with_reducible refine(zB7 r B bs (q+1) n _ HRD5.out.drewd (by omega) h1 hn).mono ?_);rintro e w6 ⟨y2,rfl,hy20,hy21,h6,ht6⟩;have HT6:=hid (show Touch r w5 w6 from(Touch.refl r w5).drewd.trans ht6);have HX6:=hid (HX5.out.touch HT6.out (by omega));have z1:=HX6.out.three.1.2.2;have HO6:=hid (HO5.out.kept (w':=w6) fun k h1 h2=>HT6.out.block k h2 (by omega));have zc:=HO6.out.o3.cellB k (by rw[HO6.out.l3];omega);have zf:=HO6.out.o3.frozenAt k;have HY6:=hid (HY5.out.touch HT6.out (by omega));have HRD6:=hid h6;clear h6 ht6))
   clear z1 zc zf x0 x1 x2
   go_wp2_with fail
   go_roundw
   case rel=>exact⟨k+1,q+1+1,_,ys.set k (decide (0<y2)),by go_num,by omega,by omega,HRD6.out.setNew hrw (by omega) k _,HO6.out.put3 k hlt _,(HT5.out.trans HT6.out).setNew (by omega) _,HX6.out.setc g3 k _ (by omega),HY6.out.setc g3 k _ (by omega)⟩
   case measure=>simp[intOf];omega
  ·obtain rfl:k=3:=by omega
   have hq:q≤p+6:=by omega
   rw[show(((3:Nat)):Int)=(3:Int) from rfl]
   go_wp2_with fail
   go_loopw [7] (fun i wr=>∃(k q:Nat) (zs:List Bool),i=.int .i64 (k:Nat)∧k≤4∧q≤p+6+k∧RdAt wr r B bs q∧InO wr w.heap.size g1 g2 g3 xs zs ys∧Touch r w wr∧Bx wr gi [.slice (some ⟨g1,0,none⟩) 3 3,.slice (some ⟨g2,0,none⟩) 4 4,.slice (some ⟨g3,0,none⟩) 3 3]∧Bx wr w.heap.size [vnil,vnil,vnil]) (fun i _=>4 - (intOf i).toNat)
   case atStart=>exact⟨0,q,F4,by go_num,by omega,by omega,HRD.out,HO.out,HT.out,HX.out,HY.out⟩
   case round=>
    clear HX HY HO HT HRD hq hxl h3l;obtain⟨k,q,zs,rfl,hk,hq,hrd,ho,ht,hx,hy⟩:=hrel;have HO:=hid ho;have HT:=hid ht;have HX:=hid hx;have HY:=hid hy;have HRD:=hid hrd;have h3l:=ho.lt.2.2.2;have hxl:=hx.lt;clear ho ht hx hy hrd;by_cases hlt:k<4
    ·have hki:(k:Int)≤3:=by omega
     have hki4:(k:Int)<4:=by omega
     obtain⟨x0,x1,x2⟩:=HX.out.three.1
     go_upto_region 10 with fail
     go_region_held3 (fun w' => w'.cell? ⟨gi, 1, none⟩ = some (.slice (some ⟨g2, 0, none⟩) 4 4)) (first | exact z1 | (rw [World.cell?_setCell_far _ _ _ _ (by show g2 ≠ gi; omega)]; exact z1) | go_keep)
      (first|(go_at_call 103;(with_reducible refine(zB7 r B bs q n _ HRD.out.drewd (by omega) h1 hn).mono ?_);rintro e w4 ⟨y,rfl,hy0,hy1,h4,ht4⟩;have HT4:=hid (show Touch r wr w4 from(Touch.refl r wr).drewd.trans ht4);have HX4:=hid (HX.out.touch HT4.out (by omega));have z1:=HX4.out.three.1.2.1;have HO4:=hid (HO.out.kept (w':=w4) fun k h1 h2=>HT4.out.block k h2 (by omega));have zc:=HO4.out.o2.cellB k (by rw[HO4.out.l2];omega);have zf:=HO4.out.o2.frozenAt k;have HY4:=hid (HY.out.touch HT4.out (by omega));have HRD4:=hid h4;clear h4 ht4))
     clear z1 zc zf x0 x1 x2
     go_wp2_with fail
     go_roundw
     case rel=>exact⟨k+1,q+1,zs.set k (y==0),by go_num,by omega,by omega,HRD4.out.setNew hrw (by omega) k _,HO4.out.put2 k hlt _,(HT.out.trans HT4.out).setNew (by omega) _,HX4.out.setc g2 k _ (by omega),HY4.out.setc g2 k _ (by omega)⟩
     case measure=>simp[intOf];omega
    ·obtain rfl:k=4:=by omega
     obtain⟨x0,x1,x2⟩:=HX.out.three.1;obtain⟨⟨y0,y1,y2⟩,f0,f1,f2⟩:=HY.out.three;have hyl:=HY.out.lt
     go_wp2_with fail
     refine bodyPost_ret (zA4 Tryz.results105 _ _ ⟨w.heap.size,0,none⟩ (.agg #[.slice (some ⟨g1,0,none⟩) 3 3,.slice (some ⟨g2,0,none⟩) 4 4,.slice (some ⟨g3,0,none⟩) 3 3]) rfl (loadVar_in _ _ _ _ _ (by simp[go_sem, *]) (by simp[go_sem, *]) (by simp[go_sem, *]))) rfl ⟨_,_,_,xs,zs,ys,q,rfl,?_,by omega,?_,?_⟩
     ·refine HO.out.boxed (b:=w.heap.size) (fun k hk=>?_) (by omega);rw[Below.heap_setCell _ _ _ _ (by exact hk),Below.heap_setCell _ _ _ _ (by exact hk),Below.heap_setCell _ _ _ _ (by exact hk)]
     ·exact((HRD.out.setNew hrw (Nat.le_refl _) _ _).setNew hrw (Nat.le_refl _) _ _).setNew hrw (Nat.le_refl _) _ _
     ·exact((HT.out.setNew (Nat.le_refl _) _).setNew (Nat.le_refl _) _).setNew (Nat.le_refl _) _
end Go.Proofs.YthnlalffjepdaaaGreat
