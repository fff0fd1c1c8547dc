/- The row of a law that returns true and writes nothing that was there: from the walk to the row, for any parameters. -/
import Derived.Test.YthnlalffjepdaaaGreatGYw
import Derived.Test.YthnlalffjepdaaaGreatGDy
import Derived.Test.YthnlalffjepdaaaGreatGLb17
import Derived.Test.YthnlalffjepdaaaGreatGAb0
import Derived.Test.YthnlalffjepdaaaGreatGLib
import Derived.Test.YthnlalffjepdaaaGreatRows
import Derived.ProofKit
import Derived.SizedLaws
import Derived.Deep.Slices
set_option linter.unusedVariables false
set_option linter.unusedSimpArgs false
namespace Go.Proofs.YthnlalffjepdaaaGreat
open Go.RowKit
theorem LbO.kept {w w':World} {lo mid:Nat} {a bo po:Value} {us:List Value} {ls:List (List Rq)} {ms:List MR} {lat:List Int} (h:LbO w lo mid a bo po us ls ms lat) (hkw:∀k,lo≤k→k<w.heap.size→w'.heap[k]? = w.heap[k]?):LbO w' lo mid a bo po us ls ms lat :=
 ⟨OwnR.kept h.oa fun k hk2 => hkw k (OwnR.lt h.oa k hk2).1 (OwnR.lt h.oa k hk2).2, OwnR.kept h.ob fun k hk2 => hkw k (OwnR.lt h.ob k hk2).1 (OwnR.lt h.ob k hk2).2, OwnR.kept h.op fun k hk2 => hkw k (OwnR.lt h.op k hk2).1 (OwnR.lt h.op k hk2).2, h.len,
  fun j hj=>let ⟨qs,vs,n,c,x,k1,k2⟩:=h.pg j hj;⟨qs,vs,n,c,x,k1.kept fun k h4 h5=>hkw k (Nat.le_trans h.ml h4) h5,k2⟩,h.ap,h.bm,h.ml⟩
theorem LbO.busI {W:World} {lo mid:Nat} {a bo po:Value} {us:List Value} {ls:List (List Rq)} {ms:List MR} {lat:List Int} (h:LbO W lo mid a bo po us ls ms lat) (hf:BFit ms lat ls):BusI W W.heap.size (.agg #[a,bo,po]) ms lat ls:=by
 refine⟨a,bo,po,rfl,h.oa.maps hf.m hf.m6,h.ob.ints (by have:=hf.l;omega) hf.l6,us,?_,h.len,fun k hk d=>?_⟩
 ·have e:us.map (fun u=>u.cells.toList)=us.map row1:=by
   apply List.map_congr_left;intro u hu;obtain⟨i,hi,rfl⟩:=List.mem_iff_getElem.1 hu;obtain⟨qs,vs,n,c,x,_,e,_⟩:=h.pg i (by have:=h.len;omega);have e2:us.getD i vnil=us[i]:=by simp[List.getD,hi]
   rw[e2]at e;rw[e];rfl
  rw[e];exact h.op.arr row1_len (by have:=hf.p;have:=h.len;omega)
 ·obtain⟨qs,vs,n,c,x,hv,e1,e2⟩:=h.pg k hk;obtain⟨q1,q2⟩:=hf.q _ (getD_mem (d:=[]) hk);have hk2:k<us.length:=by have:=h.len;omega
  rw[show us.getD k undef=us.getD k vnil by simp[List.getD,hk2],show ls.getD k d=ls.getD k [] by simp[List.getD,hk],e1];have hle:(ls.getD k []).length≤qs.length:=by have:=congrArg List.length e2;rw[List.length_take]at this;omega
  have hz:(zipQ qs vs).length=qs.length:=zipQ_len hv.len;have ht:RdO W mid (.slice x (ls.getD k []).length c) (qs.take (ls.getD k []).length) (vs.take (ls.getD k []).length):=by
   refine⟨by simp[hv.len],?_,fun j hj=>?_,fun j hj=>?_⟩
   ·have:=hv.rows.take rowQ_len (ls.getD k []).length (by rw[hz];exact hle);have e3:(zipQ qs vs).take (ls.getD k []).length=zipQ (qs.take (ls.getD k []).length) (vs.take (ls.getD k []).length):=by
     unfold zipQ;rw[List.take_zipWith]
    rwa [e3]at this
   ·have hj2:j<(ls.getD k []).length∧j<qs.length:=by rw[List.length_take]at hj;omega
    rw[getD_take hj2.1,getD_take hj2.1];exact hv.d j hj2.2
   ·have hj2:j<(ls.getD k []).length∧j<qs.length:=by rw[List.length_take]at hj;omega
    rw[getD_take hj2.1,getD_take hj2.1];exact hv.l j hj2.2
  have:=ht.reqs (by rw[List.length_take];omega) (by rw[←e2];exact q2)
  rwa [←e2]at this
def natsOf (l:List Int):List Nat:=l.map Int.toNat
theorem rowN_natsOf {l:List Int} (h:∀x∈l,0≤x):(natsOf l).map rowN=l.map rowI:=by
 unfold natsOf;rw[List.map_map];apply List.map_congr_left;intro x hx;have:=h x hx;simp only[Function.comp,rowN,rowI];rw[Int.toNat_of_nonneg this]
theorem busV_of {w:World} {B:Nat} {v:Value} {ms:List MR} {lat:List Int} {pss:List (List Rq)} (h:BusI w B v ms lat pss) (hl:∀x∈lat,0≤x):BusV w B v ⟨ms,natsOf lat,pss⟩:=by
 obtain⟨mv,lv,pv,rfl,hm,hla,hp⟩:=h;obtain⟨ma,mc,rfl,_⟩:∃a c,mv=.slice a ms.length c∧True:=by obtain⟨a,c,e,_⟩:=hm.1;exact⟨a,c,by simpa using e,trivial⟩
 obtain⟨la,lc,rfl,_⟩:∃a c,lv=.slice a lat.length c∧True:=by obtain⟨a,c,e,_⟩:=hla.1;exact⟨a,c,by simpa using e,trivial⟩
 obtain⟨vs,h1,h2,h3⟩:=hp;obtain⟨pa,pc,rfl,_⟩:∃a c,pv=.slice a pss.length c∧True:=by obtain⟨a,c,e,_⟩:=h1;exact⟨a,c,by simpa[h2]using e,trivial⟩
 refine⟨ma,la,pa,mc,lc,pc,fun k=>vs.getD k undef,?_,hm,?_,?_,fun i hi=>?_⟩
 ·simp[natsOf]
 ·show Arr w B 1 (.slice la (natsOf lat).length lc) ((natsOf lat).map rowN);rw[rowN_natsOf hl,show(natsOf lat).length=lat.length by simp[natsOf]];exact hla.1
 ·have e:vs.map (fun u=>u.cells.toList)=(List.range pss.length).map fun i=>[vs.getD i undef]:=by
   apply List.ext_getElem
   ·simp[h2]
   ·intro i g1 g2;simp only[List.length_map]at g1;have hi:i<pss.length:=by omega
    obtain⟨ao,cap,e,_⟩:=(h3 i hi []).opened;have e2:vs.getD i undef=vs[i]:=by simp[List.getD,g1]
    simp only[List.getElem_map,List.getElem_range,e2]at e ⊢;rw[e];rfl
  rw[←e];exact h1
 ·have:=h3 i hi [];unfold Cfg.prog;exact this
theorem DrB.bus {ms:List MR} {lat:List Int} {ls:List (List Rq)} (h:DrB ms lat ls):Bus ⟨ms,natsOf lat,ls⟩ :=
 ⟨h.m, by simp [natsOf, h.l], fun x hx => by
  obtain⟨y,hy,rfl⟩:=List.mem_map.1 hx;have:=h.l4 y hy;omega,h.p,fun p hp=>(h.q p hp).1,fun p hp r hr=>((h.q p hp).2 r hr).1⟩
set_option maxRecDepth 4000 in
set_option maxHeartbeats 8000000 in
theorem drawPlay_any:DrawPl:=by
 intro v bs B w h hB
 go_enter Tryz.func15,Tryz.ntmps15
 obtain⟨w0,hw0⟩:∃W,W=w.alloc (.cells #[vnil,vnil,vnil] 27):=⟨_,rfl⟩
 have hb0:Below w.heap.size w w0:=by rw[hw0];exact(Below.refl _ _).alloc (Nat.le_refl _) _
 have HX0:=hid (show Bx w0 w.heap.size [vnil,vnil,vnil] by rw[hw0];exact Bx.new w #[vnil,vnil,vnil] 27 (by simp));have HB0:=hid hb0;have H0:=hid (h.below (hb0.mono hB))
 go_upto_region 1 with fail
 rw[←hw0];clear hw0 hb0 h
 go_upto_region 2 with(go_at_call 55;(with_reducible refine(open_any v bs B w0 H0.out (Nat.le_trans hB HB0.out.size)).mono ?_);rintro e w1 ⟨cs,rfl,hrd,hb1⟩;have HRD:=hid hrd;have HB1:=hid hb1;clear hrd hb1)
 have hrw:=HRD.out.lt;have HBUS:=hid (show Calls Tryz.prog 56 #[.pointer (some ⟨w0.heap.size,0,none⟩),.int .i64 7] w1 (BusDr w0.heap.size B cs 0 w1) from l20Bus_any w0.heap.size B cs 0 7 w1 HRD.out (by omega) (by omega))
 go_wp2_with (first
  |(go_at_call 56;(with_reducible refine(HBUS.out).mono ?_);rintro e w2 ⟨a,b,pv,us,ls,ms,lat,q,lo,mid,rfl,hlb,hlo,hdr,hq,hrd2,ht2⟩;have HLB:=hid hlb;have HDR:=hid hdr;have HRD2:=hid hrd2;have HT2:=hid ht2;have HLO:=hid hlo;have HQ:=hid hq;clear hlb hdr hrd2 ht2 hlo hq)
  |(go_at_call 57;(with_reducible refine(l20Ins_any w0.heap.size B cs q w2 HRD2.out (by have:=HQ.out;omega)).mono ?_);rintro e w3 ⟨iv,xs,q3,rfl,hio,hix,hil,hq3,hrd3,ht3⟩;have HLB3:=hid (HLB.out.kept (w':=w3) fun k h1 h2=>ht3.block k h2 (by have:=HLO.out;omega));have HIO:=hid hio;have HIX:=hid hix;have HIL:=hid hil;have HT3:=hid (HT2.out.trans ht3);have HT23:=hid ht3;clear hio hix hil hq3 hrd3 ht3;obtain⟨a1,a2,rfl,_,_⟩:=HLB3.out.oa.shape;obtain⟨b1,b2,rfl,_,_⟩:=HLB3.out.ob.shape;obtain⟨p1,p2,rfl,_,_⟩:=HLB3.out.op.shape;have HX3:=hid ((HX0.out.below HB1.out HX0.out.lt).kept (HT3.out.block _ (by have:=HX0.out.lt;have:=HB1.out.size;omega) (by have:=HX0.out.lt;omega)));obtain⟨⟨y0,y1,y2⟩,f0,f1,f2⟩:=HX3.out.three;have hyl:=HX3.out.lt))
 obtain⟨w4,hw4⟩:∃W,W=((w3.setCell ⟨w.heap.size,0,none⟩ (.slice a1 ms.length a2)).setCell ⟨w.heap.size,1,none⟩ (.slice b1 lat.length b2)).setCell ⟨w.heap.size,2,none⟩ (.slice p1 us.length p2):=⟨_,rfl⟩
 have hk4:∀k,k≠w.heap.size→w4.heap[k]? = w3.heap[k]?:=fun k hk=>by
  rw[hw4,Below.heap_setCell _ _ _ _ (by exact hk),Below.heap_setCell _ _ _ _ (by exact hk),Below.heap_setCell _ _ _ _ (by exact hk)]
 have hz4:w4.heap.size=w3.heap.size:=by rw[hw4];simp
 have hz0:w.heap.size<w0.heap.size:=HX0.out.lt;have hz1:w0.heap.size<w1.heap.size:=hrw;have hz2:w1.heap.size≤w2.heap.size:=HT2.out.size;have hlo:=HLO.out;have hlb4:=HLB3.out.kept (w':=w4) fun k h1 h2=>hk4 k (by omega)
 have hbv:=busV_of (hlb4.busI HDR.out.fit) (fun x hx=>(HDR.out.l4 x hx).1);have hiv:Ins w4 w4.heap.size iv (xs.map (·.1)):=by
  refine ins_of (lo:=w2.heap.size) (lo':=w2.heap.size) (OwnR.kept HIO.out fun k hk2=>hk4 k ?_) (fun x hx=>(HIX.out x hx).kept fun k h1 h2=>hk4 k (by omega)) (by have:=HIL.out;omega);have:=(OwnR.lt HIO.out k hk2).1;omega
 refine bodyPost_ret (results_ct Tryz.results15 _ _ ⟨w.heap.size,0,none⟩ (.agg #[.slice a1 ms.length a2,.slice b1 lat.length b2,.slice p1 us.length p2]) rfl (loadVar_bus _ _ _ _ _ (by simp[go_sem, *]) (by simp[go_sem, *]) (by simp[go_sem, *]))) rfl ?_;rw[←hw4];refine⟨_,iv,_,_,rfl,HDR.out.bus,hbv,hiv,by simpa using HIL.out,?_⟩;have hb3:Below w.heap.size w w3:=(HB0.out.trans (HB1.out.mono (by omega))).trans (HT3.out.below (by omega) (by omega));rw[hw4];exact((hb3.setCell (p:=⟨w.heap.size,_,none⟩) (Nat.le_refl _) _).setCell (p:=⟨w.heap.size,_,none⟩) (Nat.le_refl _) _).setCell (p:=⟨w.heap.size,_,none⟩) (Nat.le_refl _) _
end Go.Proofs.YthnlalffjepdaaaGreat
namespace Go.Proofs.YthnlalffjepdaaaGreat
open Go.ChangeShapes Go.WideShapes Go.ChangeAt Go.RowKit Go.Deep
theorem Tryz.own:ownKnob Tryz.prog.godebug=none:=by kernel_rfl
theorem Tryz.laidOut:laidOutB Tryz.prog=true:=by kernel_rfl
theorem trodAll_stays {H : Type} {enc : TypeId × Value → H} {W W' : World} (hb : Below W.heap.size W W') :
  ∀ (ts : List TypeId) (vs : List Value) (ds : List (DataW H)) (p : List MemPlace), (∀ t ∈ ts, Tryz.prog.readableRec t = true ∧ t < Tryz.prog.types.size) →
   DataW.TrodAll enc Tryz.prog W 0 (fun _=>true) true ts vs ds p→(∀x∈p,x.block<W.heap.size)→DataW.TrodAll enc Tryz.prog W' 0 (fun b=>decide (b<W.heap.size)) true ts vs ds p
 |[],vs,ds,p,_,h,_=>by cases vs <;> cases ds <;> simp_all [DataW.TrodAll]
 |t::ts,vs,ds,p,hr,h,hp=>by
  obtain⟨v,vs', d,ds', p1,p2,rfl,rfl,rfl,h1,h2⟩:=trodAll_cons h;have hp1:∀x∈p1,x.block<W.heap.size:=fun x hx=>hp x (List.mem_append_left _ hx)
  have hp2:∀x∈p2,x.block<W.heap.size:=fun x hx=>hp x (List.mem_append_right _ hx)
  refine⟨p1,p2,(Below.trod Tryz.laidOut (hr t (by simp)).1 (hr t (by simp)).2 h1 hb hp1),(trodAll_stays hb ts vs' ds' p2 (fun t ht=>hr t (by simp[ht])) h2 hp2),rfl⟩
theorem trodAll_len {H : Type} {enc : TypeId × Value → H} {W : World} {B : Nat} {sp : Nat → Bool} {hd : Bool} :
  ∀(ts:List TypeId) (vs:List Value) (ds:List (DataW H)) (p:List MemPlace),DataW.TrodAll enc Tryz.prog W B sp hd ts vs ds p→ds.length=ts.length
 |[],vs,ds,p,h=>by cases vs <;> cases ds <;> simp_all [DataW.TrodAll]
 |t::ts,vs,ds,p,h=>by
  obtain⟨v,vs', d,ds', p1,p2,rfl,rfl,rfl,h1,h2⟩:=trodAll_cons h;simp[trodAll_len ts vs' ds' p2 h2]
set_option maxRecDepth 100000 in
theorem law_lifted {os : Os} (started : os.Started) {H : Type} (enc : TypeId × Value → H) (F : FuncId) (fn : Func) (s : ChangeSpec) (hvars : s.vars = []) (noInit : Tryz.prog.inits.idxOf? F = none) (hfn : Tryz.prog.funcs[F]? = some fn)
  (witness : ∃ (w : World) (tape : Tape) (i : Input), w.os = os ∧ (w.forCall tape i).Shaped Tryz.prog ∧ i.vars = [] ∧ Input.okWide Tryz.prog (w.forCall tape i) .any w.heap.size F i ∧
   s.pre6 enc Tryz.prog fn [] false (w.forCall tape i).memory i.args∧(({}:Assume)).holds Tryz.prog (lone (Frame.enter Tryz.prog F i.args .normal) [] (w.forCall tape i)))
  (hres:fn.resultTypes=#[4]) (hro:∀t∈fn.params.toList,Tryz.prog.readableRec t=true∧t<Tryz.prog.types.size)
  (hspec:∀ds:List (DataW H),ds.length=fn.params.toList.length→(s.fn H (ds++[])).results=[.lit (.bool true)]∧(s.fn H (ds++[])).args=ds∧(s.fn H (ds++[])).vars=[])
  (contract : ∀ (W : World) (base : Nat) (args : Array Value) (ds : List (DataW H)) (p : List MemPlace), (∀ (j : Nat) t v, fn.params[j]? = some t → args[j]? = some v → Value.okWide Tryz.prog W .any base t v) →
   DataW.TrodAll enc Tryz.prog W 0 (fun _=>true) true fn.params.toList args.toList ds p→(∀x∈p,x.block<W.heap.size)→(DataW.weightsEach Tryz.prog fn.params.toList ds).all (·≤reachBytes)=true →
   Calls Tryz.prog F args W fun e W' => e=.returned (.bool true)∧Below W.heap.size W W') :
  ReturnsInHanded {} Tryz.checked os F .any (s.pre6 enc Tryz.prog fn [] false) (s.post enc Tryz.prog fn false true false false):=by
 refine returnsInHanded_of_change_sized (C:=Tryz.checked) Tryz.own started noInit hfn witness ?_;intro W base args ds gs before hval hW _ hsz _;have hW':=hW;obtain⟨p,q,hA,hV,rfl,_,_⟩:=hW;rw[hvars]at hV;obtain⟨rfl,rfl⟩:=trodVars_none hV;have hlen:ds.length=fn.params.toList.length:=trodAll_len _ _ _ _ hA;have hlt:∀x∈p,x.block<W.heap.size:=fun x hx=>by simpa using hW'.lt x (by simp[hx])
 obtain⟨e1,e2,e3⟩:=hspec ds hlen;have hsz2:(DataW.weightsEach Tryz.prog fn.params.toList ds).all (·≤reachBytes)=true:=by
  have:s.plain.varTypes Tryz.checked.prog=[]:=by simp[ChangeSpec.plain,DataSpec.varTypes,hvars]
  rw[this,List.append_nil,List.append_nil]at hsz;exact hsz
 refine(contract W base args ds p hval hA hlt hsz2).mono fun e W' ⟨he,hb⟩=>?_
 subst he;refine⟨_,rfl,_,_,_,[],p,[],hW', ?_,?_,?_,hb.frame _,fun h=>by cases h⟩
 ·rw[e1,hres];exact trodAll_mk1 (shut_bool Tryz.underlying4 _)
 ·rw[e2];exact trodAll_stays hb _ _ _ _ hro hA hlt
 ·rw[e3,hvars];rfl
theorem addr_spot {w:World} {a:Addr} {v:Value} (h:w.cell? a=some v):a=⟨a.block,a.off,none⟩:=by
 obtain⟨b,o,s⟩:=a;cases s with
 |none=>rfl
 |some n=>simp[World.cell?]at h;split at h <;> simp at h
theorem mem_weightsAll {H : Type} {P : Program} {e : TypeId} {x : Nat} : ∀ (D : List (DataW H)) (d : DataW H), d ∈ D → x ∈ d.weights P e → x ∈ DataW.weightsAll P e D
 |y::r,d,h,hx=>by
  rcases List.mem_cons.1 h with rfl|h
  ·simp[DataW.weightsAll,hx]
  ·simp[DataW.weightsAll,mem_weightsAll r d h hx]
def Read {H:Type} (enc:TypeId×Value→H) (W:World) (T:TypeId) (cs:List Value):Prop :=
 ∃n d q,DataW.trod enc Tryz.prog W 0 (fun _=>true) true n T cs=some (d,q)∧(∀x∈q,x.block<W.heap.size)∧∀x∈d.weights Tryz.prog T,x≤reachBytes
set_option maxRecDepth 100000 in
theorem open_arr {H : Type} {enc : TypeId × Value → H} {W : World} {T e sz by_ : Nat} {v : Value} (hT : Tryz.prog.underlying T = some (.slice e)) (hc : Tryz.prog.cellsOf e = sz) (hby : Tryz.prog.bytesOf e = by_) (h1 : 1 ≤ by_) (hsz : 1 ≤ sz)
  (h:Read enc W T [v]):∃rows:List (List Value),Arr W W.heap.size sz v rows∧∀r∈rows,r.length=sz∧Read enc W e r:=by
 obtain⟨n,d,q,ht,hq,hw⟩:=h;rcases open_slice hT ht with⟨hv,_⟩|⟨a,len,cap,m,k,D,Pl,hv,_,hle,hmax,hm,hx,hel⟩
 ·simp at hv;subst hv;exact⟨[],⟨none,0,rfl,by simp,by simp,by simp,by simp,by simp⟩,by simp⟩
 ·simp at hv;subst hv;simp only[if_true]at hm;obtain rfl:cap=m:=hm.symm;simp only[Prod.mk.injEq]at hx;obtain⟨rfl,rfl⟩:=hx;rw[hc]at hel hq;have hel2:∀i,i<len→∃cs', W.cells? 0 (a.add (i * sz)) sz=some cs' ∧ DataW.trod enc Tryz.prog W 0 (fun _=>true) true k e cs' = some (D i,Pl i):=fun i hi=>hel i (by omega)
  have hch:∀i:Nat,∃cs', i<len→W.cells? 0 (a.add (i * sz)) sz=some cs' ∧ DataW.trod enc Tryz.prog W 0 (fun _=>true) true k e cs' = some (D i,Pl i):=fun i=>by
   by_cases hi:i<len
   ·obtain⟨cs', hcs⟩:=hel2 i hi;exact⟨cs', fun _=>hcs⟩
   ·exact⟨[],fun h=>absurd h hi⟩
  have hR:∃R:Nat→List Value,∀i,i<len→W.cells? 0 (a.add (i * sz)) sz=some (R i)∧DataW.trod enc Tryz.prog W 0 (fun _=>true) true k e (R i)=some (D i,Pl i):=⟨fun i=>(hch i).choose,fun i hi=>(hch i).choose_spec hi⟩
  obtain⟨R,hR⟩:=hR;have hcap:cap * by_≤reachBytes:=by
   have:=hw ((((List.range len).map D).length+((List.range (cap - len)).map fun j=>D (len+j)).length) * Tryz.prog.bytesOf e) (by simp[DataW.weights,hT]);simp only[List.length_map,List.length_range]at this;rw[hby]at this;rw[show len+(cap - len)=cap from by omega]at this;exact this
  have hcl:cap≤140737488351232:=by
   have:cap * 1≤cap * by_:=Nat.mul_le_mul_left _ h1;unfold reachBytes at hcap;omega
  refine⟨(List.range len).map R,⟨some a,cap,by simp,by simpa using hle,by omega,by simp;omega,by simp,fun hn=>?_⟩,?_⟩
  ·simp only[List.length_map,List.length_range]at hn;obtain⟨_,hl0,hc0⟩:=World.cells?_some (hR 0 (by omega)).1;have ha:a=⟨a.block,a.off,none⟩:=by
    have h0:=hc0 0 (by omega);have hlt:0<(R 0).length:=by omega
    rw[List.getElem?_eq_getElem hlt]at h0;simp[Addr.add]at h0;exact addr_spot h0
   have hblt : a.block < W.heap.size := hq (.cell a.block a.off) (List.mem_append_left _ (MemPlace.mem_row.2 ⟨0, by
    have:1 * 1≤cap * sz:=Nat.mul_le_mul (by omega) hsz;omega,by simp⟩))
   refine⟨a.block,a.off,by rw[←ha],hblt,fun t ht j hj=>?_⟩;simp only[List.length_map,List.length_range]at ht;obtain⟨_,hl1,hc1⟩:=World.cells?_some (hR t ht).1;have:=hc1 j (by omega);simp only[List.getD,List.getElem?_map,List.getElem?_range ht,Option.map_some,Option.getD_some];rw[←this];clear this;obtain⟨ab,ao,sp⟩:=a;simp only[Addr.mk.injEq,true_and]at ha;subst ha;rw[Addr.add_lit,Addr.add_lit]
  ·intro r hr;obtain⟨i,hi,rfl⟩:=List.mem_map.1 hr;have hi':=List.mem_range.1 hi;refine⟨(World.cells?_some (hR i hi').1).2.1,k,D i,Pl i,(hR i hi').2,fun x hx=>hq x (List.mem_append_right _ ?_),fun x hx=>hw x ?_⟩
   ·exact List.mem_flatMap.2 ⟨i,List.mem_range.2 (by omega),hx⟩
   ·simp only[DataW.weights,hT];exact List.mem_cons_of_mem _ (List.mem_append_left _ (mem_weightsAll _ (D i) (List.mem_map.2 ⟨i,hi,rfl⟩) hx))
theorem list_of_rows {α : Type} (f : α → List Value) (P : α → Prop) : ∀ rows : List (List Value), (∀ r ∈ rows, ∃ x, r = f x ∧ P x) → ∃ xs : List α, rows = xs.map f ∧ ∀ x ∈ xs, P x
 |[],_=>⟨[],rfl,by simp⟩
 |r::rows,h=>by
  obtain⟨x,rfl,hx⟩:=h r (by simp);obtain⟨xs,rfl,hxs⟩:=list_of_rows f P rows (fun r hr=>h r (by simp[hr]));exact⟨x::xs,rfl,by simpa using⟨hx,hxs⟩⟩
section
variable {H : Type} {enc : TypeId × Value → H} {W : World}
theorem Read.int {cs:List Value} (h:Read enc W 3 cs):∃n,cs=rowI n∧I64 n:=by
 obtain⟨n,d,q,ht,_⟩:=h;obtain⟨x,rfl,_,hw⟩:=DataW.trod_int Tryz.underlying3 ht;simp[Lit.wf,IntKind.min,IntKind.max,IntKind.signed,IntKind.bits]at hw;exact⟨x,rfl,by unfold I64;omega⟩
theorem Read.bool {cs:List Value} (h:Read enc W 4 cs):∃b,cs=rowB b:=by
 obtain⟨n,d,q,ht,_⟩:=h;obtain⟨x,rfl,_⟩:=DataW.trod_bool Tryz.underlying4 ht;exact⟨x,rfl⟩
theorem Read.byte {cs:List Value} (h:Read enc W 5 cs):∃n,cs=rowU n∧n<256:=by
 obtain⟨n,d,q,ht,_⟩:=h;obtain⟨x,rfl,_,hw⟩:=DataW.trod_int Tryz.underlying5 ht;simp[Lit.wf,IntKind.min,IntKind.max,IntKind.signed,IntKind.bits]at hw;obtain⟨m,rfl⟩:=Int.eq_ofNat_of_zero_le (show 0≤x by omega);exact⟨m,rfl,by omega⟩
theorem Read.ints {v:Value} (h:Read enc W 24 [v]):∃xs,Ints W W.heap.size v xs:=by
 obtain⟨rows,ha,hr⟩:=open_arr (sz:=1) (by_:=8) Tryz.underlying24 (by kernel_rfl) (by kernel_rfl) (by omega) (by omega) h;obtain⟨xs,rfl,hx⟩:=list_of_rows rowI I64 rows (fun r h=>(hr r h).2.int);exact⟨xs,ha,hx⟩
theorem Read.bytes {v:Value} (h:Read enc W 22 [v]):∃xs,Bytes W W.heap.size v xs:=by
 obtain⟨rows,ha,hr⟩:=open_arr (sz:=1) (by_:=1) Tryz.underlying22 (by kernel_rfl) (by kernel_rfl) (by omega) (by omega) h;obtain⟨xs,rfl,hx⟩:=list_of_rows rowU (·<256) rows (fun r h=>(hr r h).2.byte);exact⟨xs,ha,hx⟩
theorem read_of {t:TypeId} {v:Value} {d:DataW H} {p:List MemPlace} (h:DataW.Trod enc Tryz.prog W 0 (fun _=>true) true t v d p) (hp:∀x∈p,x.block<W.heap.size) (hw:∀x∈d.weights Tryz.prog t,x≤reachBytes):Read enc W t v.cells.toList:=by
 obtain⟨n,hn⟩:=h;exact⟨n,d,p,hn,hp,hw⟩
end
set_option maxRecDepth 100000 in
theorem code_lifted {os : Os} (started : os.Started) {H : Type} (enc : TypeId × Value → H) (F : FuncId) (fn : Func) (s : ChangeSpec) (hvars : s.vars = []) (noInit : Tryz.prog.inits.idxOf? F = none) (hfn : Tryz.prog.funcs[F]? = some fn)
  (witness : ∃ (w : World) (tape : Tape) (i : Input), w.os = os ∧ (w.forCall tape i).Shaped Tryz.prog ∧ i.vars = [] ∧ Input.okWide Tryz.prog (w.forCall tape i) .any w.heap.size F i ∧
   s.pre6 enc Tryz.prog fn [] false (w.forCall tape i).memory i.args∧(({}:Assume)).holds Tryz.prog (lone (Frame.enter Tryz.prog F i.args .normal) [] (w.forCall tape i)))
  (hpar:fn.params=#[22]) (hres:fn.resultTypes=#[4])
  (hspec:∀d:DataW H,(s.fn H [d]).results=[.lit (.bool true)]∧(s.fn H [d]).args=[d]∧(s.fn H [d]).vars=[])
  (contract:∀(v:Value) (bs:List Nat) (B:Nat) (W:World),Bytes W B v bs→B≤W.heap.size→Calls Tryz.prog F #[v] W fun e W' => e=.returned (.bool true)∧Below W.heap.size W W') :
  ReturnsInHanded {} Tryz.checked os F .any (s.pre6 enc Tryz.prog fn [] false) (s.post enc Tryz.prog fn false true false false):=by
 refine law_lifted started enc F fn s hvars noInit hfn witness hres ?_ ?_ ?_
 ·intro t ht;rw[hpar]at ht;simp only[List.mem_singleton]at ht;subst ht;exact⟨by kernel_rfl,of_decide_eq_true (by kernel_rfl)⟩
 ·intro ds hl;rw[hpar]at hl
  match ds,hl with
  |[d1],_=>exact hspec d1
 ·intro W base args ds p hval hA hlt hw;rw[hpar]at hA hval hw;obtain⟨v0,d0,rfl,rfl,h0⟩:=trodAll_one hA;obtain⟨ao,l,c,rfl⟩:=okWide_slice Tryz.underlying22 (hval 0 22 v0 rfl rfl)
  have hr := read_of h0 hlt (fun x hx => by
   have:=List.all_eq_true.1 hw x (by simp[DataW.weightsEach,hx]);simpa using this)
  obtain⟨xs,hb⟩:=hr.bytes;exact contract _ xs _ W hb (Nat.le_refl _)
end Go.Proofs.YthnlalffjepdaaaGreat
