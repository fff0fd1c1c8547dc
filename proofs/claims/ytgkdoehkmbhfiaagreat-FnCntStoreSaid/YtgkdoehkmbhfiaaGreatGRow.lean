/- BusAlone of the reference. -/
import Derived.Test.YtgkdoehkmbhfiaaGreatGLib
import Derived.Test.YtgkdoehkmbhfiaaGreatGCd
import Derived.Test.YtgkdoehkmbhfiaaGreatGPr
import Derived.Test.YtgkdoehkmbhfiaaGreatGCp1
import Derived.Test.YtgkdoehkmbhfiaaGreatGDr1
import Derived.Test.YtgkdoehkmbhfiaaGreatGDo4
import Derived.Test.YtgkdoehkmbhfiaaGreatGIv3
import Derived.Test.YtgkdoehkmbhfiaaGreatRows
import Derived.ProofKit
import Derived.SizedLaws
import Derived.Deep.Slices
import Derived.OwnWalk
set_option linter.unusedVariables false
set_option linter.unusedSimpArgs false
set_option maxHeartbeats 16000000
namespace Go.Proofs.YtgkdoehkmbhfiaaGreat
open Go.ChangeShapes Go.WideShapes Go.ChangeAt Go.RowKit Go.Deep
theorem Tryz.own:ownKnob Tryz.prog.godebug=none:=by kernel_rfl
theorem Tryz.laidOut:laidOutB Tryz.prog=true:=by kernel_rfl
theorem trodAll_stays {H : Type} {enc : TypeId × Value → H} {W W' : World} (hb : Below W.heap.size W W') :
  ∀ (ts : List TypeId) (vs : List Value) (ds : List (DataW H)) (p : List MemPlace), (∀ t ∈ ts, Tryz.prog.readableRec t = true ∧ t < Tryz.prog.types.size) →
   DataW.TrodAll enc Tryz.prog W 0 (fun _=>true) true ts vs ds p→(∀x∈p,x.block<W.heap.size)→DataW.TrodAll enc Tryz.prog W' 0 (fun b=>decide (b<W.heap.size)) true ts vs ds p
 |[],vs,ds,p,_,h,_=>by cases vs <;> cases ds <;> simp_all [DataW.TrodAll]
 |t::ts,vs,ds,p,hr,h,hp=>by
  obtain⟨v,vs', d,ds', p1,p2,rfl,rfl,rfl,h1,h2⟩:=trodAll_cons h;have hp1:∀x∈p1,x.block<W.heap.size:=fun x hx=>hp x (List.mem_append_left _ hx)
  have hp2:∀x∈p2,x.block<W.heap.size:=fun x hx=>hp x (List.mem_append_right _ hx)
  refine⟨p1,p2,(Below.trod Tryz.laidOut (hr t (by simp)).1 (hr t (by simp)).2 h1 hb hp1),(trodAll_stays hb ts vs' ds' p2 (fun t ht=>hr t (by simp[ht])) h2 hp2),rfl⟩
theorem trodAll_len {H : Type} {enc : TypeId × Value → H} {W : World} {B : Nat} {sp : Nat → Bool} {hd : Bool} :
  ∀(ts:List TypeId) (vs:List Value) (ds:List (DataW H)) (p:List MemPlace),DataW.TrodAll enc Tryz.prog W B sp hd ts vs ds p→ds.length=ts.length
 |[],vs,ds,p,h=>by cases vs <;> cases ds <;> simp_all [DataW.TrodAll]
 |t::ts,vs,ds,p,h=>by
  obtain⟨v,vs', d,ds', p1,p2,rfl,rfl,rfl,h1,h2⟩:=trodAll_cons h;simp[trodAll_len ts vs' ds' p2 h2]
set_option maxRecDepth 100000 in
theorem law_lifted {os : Os} (started : os.Started) {H : Type} (enc : TypeId × Value → H) (F : FuncId) (fn : Func) (s : ChangeSpec) (hvars : s.vars = []) (noInit : Tryz.prog.inits.idxOf? F = none) (hfn : Tryz.prog.funcs[F]? = some fn)
  (witness : ∃ (w : World) (tape : Tape) (i : Input), w.os = os ∧ (w.forCall tape i).Shaped Tryz.prog ∧ i.vars = [] ∧ Input.okWide Tryz.prog (w.forCall tape i) .any w.heap.size F i ∧
   s.pre6 enc Tryz.prog fn [] false (w.forCall tape i).memory i.args∧(({}:Assume)).holds Tryz.prog (lone (Frame.enter Tryz.prog F i.args .normal) [] (w.forCall tape i)))
  (hres:fn.resultTypes=#[4]) (hro:∀t∈fn.params.toList,Tryz.prog.readableRec t=true∧t<Tryz.prog.types.size)
  (hspec:∀ds:List (DataW H),ds.length=fn.params.toList.length→(s.fn H (ds++[])).results=[.lit (.bool true)]∧(s.fn H (ds++[])).args=ds∧(s.fn H (ds++[])).vars=[])
  (contract : ∀ (W : World) (base : Nat) (args : Array Value) (ds : List (DataW H)) (p : List MemPlace), (∀ (j : Nat) t v, fn.params[j]? = some t → args[j]? = some v → Value.okWide Tryz.prog W .any base t v) →
   DataW.TrodAll enc Tryz.prog W 0 (fun _=>true) true fn.params.toList args.toList ds p→(∀x∈p,x.block<W.heap.size)→(DataW.weightsEach Tryz.prog fn.params.toList ds).all (·≤reachBytes)=true →
   Calls Tryz.prog F args W fun e W' => e=.returned (.bool true)∧Below W.heap.size W W') :
  ReturnsInHanded {} Tryz.checked os F .any (s.pre6 enc Tryz.prog fn [] false) (s.post enc Tryz.prog fn false true false false):=by
 refine returnsInHanded_of_change_sized (C:=Tryz.checked) Tryz.own started noInit hfn witness ?_;intro W base args ds gs before hval hW _ hsz _;have hW':=hW;obtain⟨p,q,hA,hV,rfl,_,_⟩:=hW;rw[hvars]at hV;obtain⟨rfl,rfl⟩:=trodVars_none hV;have hlen:ds.length=fn.params.toList.length:=trodAll_len _ _ _ _ hA;have hlt:∀x∈p,x.block<W.heap.size:=fun x hx=>by simpa using hW'.lt x (by simp[hx])
 obtain⟨e1,e2,e3⟩:=hspec ds hlen;have hsz2:(DataW.weightsEach Tryz.prog fn.params.toList ds).all (·≤reachBytes)=true:=by
  have:s.plain.varTypes Tryz.checked.prog=[]:=by simp[ChangeSpec.plain,DataSpec.varTypes,hvars]
  rw[this,List.append_nil,List.append_nil]at hsz;exact hsz
 refine(contract W base args ds p hval hA hlt hsz2).mono fun e W' ⟨he,hb⟩=>?_
 subst he;refine⟨_,rfl,_,_,_,[],p,[],hW', ?_,?_,?_,hb.frame _,fun h=>by cases h⟩
 ·rw[e1,hres];exact trodAll_mk1 (shut_bool Tryz.underlying4 _)
 ·rw[e2];exact trodAll_stays hb _ _ _ _ hro hA hlt
 ·rw[e3,hvars];rfl
theorem addr_spot {w:World} {a:Addr} {v:Value} (h:w.cell? a=some v):a=⟨a.block,a.off,none⟩:=by
 obtain⟨b,o,s⟩:=a;cases s with
 |none=>rfl
 |some n=>simp[World.cell?]at h;split at h <;> simp at h
theorem mem_weightsAll {H : Type} {P : Program} {e : TypeId} {x : Nat} : ∀ (D : List (DataW H)) (d : DataW H), d ∈ D → x ∈ d.weights P e → x ∈ DataW.weightsAll P e D
 |y::r,d,h,hx=>by
  rcases List.mem_cons.1 h with rfl|h
  ·simp[DataW.weightsAll,hx]
  ·simp[DataW.weightsAll,mem_weightsAll r d h hx]
def Read {H:Type} (enc:TypeId×Value→H) (W:World) (T:TypeId) (cs:List Value):Prop :=
 ∃n d q,DataW.trod enc Tryz.prog W 0 (fun _=>true) true n T cs=some (d,q)∧(∀x∈q,x.block<W.heap.size)∧∀x∈d.weights Tryz.prog T,x≤reachBytes
set_option maxRecDepth 100000 in
theorem open_arr {H : Type} {enc : TypeId × Value → H} {W : World} {T e sz by_ : Nat} {v : Value} (hT : Tryz.prog.underlying T = some (.slice e)) (hc : Tryz.prog.cellsOf e = sz) (hby : Tryz.prog.bytesOf e = by_) (h1 : 1 ≤ by_) (hsz : 1 ≤ sz)
  (h:Read enc W T [v]):∃rows:List (List Value),Arr W W.heap.size sz v rows∧∀r∈rows,r.length=sz∧Read enc W e r:=by
 obtain⟨n,d,q,ht,hq,hw⟩:=h;rcases open_slice hT ht with⟨hv,_⟩|⟨a,len,cap,m,k,D,Pl,hv,_,hle,hmax,hm,hx,hel⟩
 ·simp at hv;subst hv;exact⟨[],⟨none,0,rfl,by simp,by simp,by simp,by simp,by simp⟩,by simp⟩
 ·simp at hv;subst hv;simp only[if_true]at hm;obtain rfl:cap=m:=hm.symm;simp only[Prod.mk.injEq]at hx;obtain⟨rfl,rfl⟩:=hx;rw[hc]at hel hq;have hel2:∀i,i<len→∃cs', W.cells? 0 (a.add (i * sz)) sz=some cs' ∧ DataW.trod enc Tryz.prog W 0 (fun _=>true) true k e cs' = some (D i,Pl i):=fun i hi=>hel i (by omega)
  have hch:∀i:Nat,∃cs', i<len→W.cells? 0 (a.add (i * sz)) sz=some cs' ∧ DataW.trod enc Tryz.prog W 0 (fun _=>true) true k e cs' = some (D i,Pl i):=fun i=>by
   by_cases hi:i<len
   ·obtain⟨cs', hcs⟩:=hel2 i hi;exact⟨cs', fun _=>hcs⟩
   ·exact⟨[],fun h=>absurd h hi⟩
  have hR:∃R:Nat→List Value,∀i,i<len→W.cells? 0 (a.add (i * sz)) sz=some (R i)∧DataW.trod enc Tryz.prog W 0 (fun _=>true) true k e (R i)=some (D i,Pl i):=⟨fun i=>(hch i).choose,fun i hi=>(hch i).choose_spec hi⟩
  obtain⟨R,hR⟩:=hR;have hcap:cap * by_≤reachBytes:=by
   have:=hw ((((List.range len).map D).length+((List.range (cap - len)).map fun j=>D (len+j)).length) * Tryz.prog.bytesOf e) (by simp[DataW.weights,hT]);simp only[List.length_map,List.length_range]at this;rw[hby]at this;rw[show len+(cap - len)=cap from by omega]at this;exact this
  have hcl:cap≤140737488351232:=by
   have:cap * 1≤cap * by_:=Nat.mul_le_mul_left _ h1;unfold reachBytes at hcap;omega
  refine⟨(List.range len).map R,⟨some a,cap,by simp,by simpa using hle,by omega,by simp;omega,by simp,fun hn=>?_⟩,?_⟩
  ·simp only[List.length_map,List.length_range]at hn;obtain⟨_,hl0,hc0⟩:=World.cells?_some (hR 0 (by omega)).1;have ha:a=⟨a.block,a.off,none⟩:=by
    have h0:=hc0 0 (by omega);have hlt:0<(R 0).length:=by omega
    rw[List.getElem?_eq_getElem hlt]at h0;simp[Addr.add]at h0;exact addr_spot h0
   have hblt : a.block < W.heap.size := hq (.cell a.block a.off) (List.mem_append_left _ (MemPlace.mem_row.2 ⟨0, by
    have:1 * 1≤cap * sz:=Nat.mul_le_mul (by omega) hsz;omega,by simp⟩))
   refine⟨a.block,a.off,by rw[←ha],hblt,fun t ht j hj=>?_⟩;simp only[List.length_map,List.length_range]at ht;obtain⟨_,hl1,hc1⟩:=World.cells?_some (hR t ht).1;have:=hc1 j (by omega);simp only[List.getD,List.getElem?_map,List.getElem?_range ht,Option.map_some,Option.getD_some];rw[←this];clear this;obtain⟨ab,ao,sp⟩:=a;simp only[Addr.mk.injEq,true_and]at ha;subst ha;rw[Addr.add_lit,Addr.add_lit]
  ·intro r hr;obtain⟨i,hi,rfl⟩:=List.mem_map.1 hr;have hi':=List.mem_range.1 hi;refine⟨(World.cells?_some (hR i hi').1).2.1,k,D i,Pl i,(hR i hi').2,fun x hx=>hq x (List.mem_append_right _ ?_),fun x hx=>hw x ?_⟩
   ·exact List.mem_flatMap.2 ⟨i,List.mem_range.2 (by omega),hx⟩
   ·simp only[DataW.weights,hT];exact List.mem_cons_of_mem _ (List.mem_append_left _ (mem_weightsAll _ (D i) (List.mem_map.2 ⟨i,hi,rfl⟩) hx))
theorem list_of_rows {α : Type} (f : α → List Value) (P : α → Prop) : ∀ rows : List (List Value), (∀ r ∈ rows, ∃ x, r = f x ∧ P x) → ∃ xs : List α, rows = xs.map f ∧ ∀ x ∈ xs, P x
 |[],_=>⟨[],rfl,by simp⟩
 |r::rows,h=>by
  obtain⟨x,rfl,hx⟩:=h r (by simp);obtain⟨xs,rfl,hxs⟩:=list_of_rows f P rows (fun r hr=>h r (by simp[hr]));exact⟨x::xs,rfl,by simpa using⟨hx,hxs⟩⟩
section
variable {H : Type} {enc : TypeId × Value → H} {W : World}
theorem Read.int {cs:List Value} (h:Read enc W 3 cs):∃n,cs=rowI n∧I64 n:=by
 obtain⟨n,d,q,ht,_⟩:=h;obtain⟨x,rfl,_,hw⟩:=DataW.trod_int Tryz.underlying3 ht;simp[Lit.wf,IntKind.min,IntKind.max,IntKind.signed,IntKind.bits]at hw;exact⟨x,rfl,by unfold I64;omega⟩
theorem Read.bool {cs:List Value} (h:Read enc W 4 cs):∃b,cs=rowB b:=by
 obtain⟨n,d,q,ht,_⟩:=h;obtain⟨x,rfl,_⟩:=DataW.trod_bool Tryz.underlying4 ht;exact⟨x,rfl⟩
theorem Read.byte {cs:List Value} (h:Read enc W 5 cs):∃n,cs=rowU n∧n<256:=by
 obtain⟨n,d,q,ht,_⟩:=h;obtain⟨x,rfl,_,hw⟩:=DataW.trod_int Tryz.underlying5 ht;simp[Lit.wf,IntKind.min,IntKind.max,IntKind.signed,IntKind.bits]at hw;obtain⟨m,rfl⟩:=Int.eq_ofNat_of_zero_le (show 0≤x by omega);exact⟨m,rfl,by omega⟩
theorem Read.ints {v:Value} (h:Read enc W 24 [v]):∃xs,Ints W W.heap.size v xs:=by
 obtain⟨rows,ha,hr⟩:=open_arr (sz:=1) (by_:=8) Tryz.underlying24 (by kernel_rfl) (by kernel_rfl) (by omega) (by omega) h;obtain⟨xs,rfl,hx⟩:=list_of_rows rowI I64 rows (fun r h=>(hr r h).2.int);exact⟨xs,ha,hx⟩
theorem Read.bytes {v:Value} (h:Read enc W 22 [v]):∃xs,Bytes W W.heap.size v xs:=by
 obtain⟨rows,ha,hr⟩:=open_arr (sz:=1) (by_:=1) Tryz.underlying22 (by kernel_rfl) (by kernel_rfl) (by omega) (by omega) h;obtain⟨xs,rfl,hx⟩:=list_of_rows rowU (·<256) rows (fun r h=>(hr r h).2.byte);exact⟨xs,ha,hx⟩
theorem read_of {t:TypeId} {v:Value} {d:DataW H} {p:List MemPlace} (h:DataW.Trod enc Tryz.prog W 0 (fun _=>true) true t v d p) (hp:∀x∈p,x.block<W.heap.size) (hw:∀x∈d.weights Tryz.prog t,x≤reachBytes):Read enc W t v.cells.toList:=by
 obtain⟨n,hn⟩:=h;exact⟨n,d,p,hn,hp,hw⟩
end
set_option maxRecDepth 100000 in
theorem code_lifted {os : Os} (started : os.Started) {H : Type} (enc : TypeId × Value → H) (F : FuncId) (fn : Func) (s : ChangeSpec) (hvars : s.vars = []) (noInit : Tryz.prog.inits.idxOf? F = none) (hfn : Tryz.prog.funcs[F]? = some fn)
  (witness : ∃ (w : World) (tape : Tape) (i : Input), w.os = os ∧ (w.forCall tape i).Shaped Tryz.prog ∧ i.vars = [] ∧ Input.okWide Tryz.prog (w.forCall tape i) .any w.heap.size F i ∧
   s.pre6 enc Tryz.prog fn [] false (w.forCall tape i).memory i.args∧(({}:Assume)).holds Tryz.prog (lone (Frame.enter Tryz.prog F i.args .normal) [] (w.forCall tape i)))
  (hpar:fn.params=#[22]) (hres:fn.resultTypes=#[4])
  (hspec:∀d:DataW H,(s.fn H [d]).results=[.lit (.bool true)]∧(s.fn H [d]).args=[d]∧(s.fn H [d]).vars=[])
  (contract:∀(v:Value) (bs:List Nat) (B:Nat) (W:World),Bytes W B v bs→B≤W.heap.size→Calls Tryz.prog F #[v] W fun e W' => e=.returned (.bool true)∧Below W.heap.size W W') :
  ReturnsInHanded {} Tryz.checked os F .any (s.pre6 enc Tryz.prog fn [] false) (s.post enc Tryz.prog fn false true false false):=by
 refine law_lifted started enc F fn s hvars noInit hfn witness hres ?_ ?_ ?_
 ·intro t ht;rw[hpar]at ht;simp only[List.mem_singleton]at ht;subst ht;exact⟨by kernel_rfl,of_decide_eq_true (by kernel_rfl)⟩
 ·intro ds hl;rw[hpar]at hl
  match ds,hl with
  |[d1],_=>exact hspec d1
 ·intro W base args ds p hval hA hlt hw;rw[hpar]at hA hval hw;obtain⟨v0,d0,rfl,rfl,h0⟩:=trodAll_one hA;obtain⟨ao,l,c,rfl⟩:=okWide_slice Tryz.underlying22 (hval 0 22 v0 rfl rfl)
  have hr := read_of h0 hlt (fun x hx => by
   have:=List.all_eq_true.1 hw x (by simp[DataW.weightsEach,hx]);simpa using this)
  obtain⟨xs,hb⟩:=hr.bytes;exact contract _ xs _ W hb (Nat.le_refl _)
end Go.Proofs.YtgkdoehkmbhfiaaGreat
namespace Go.Proofs.YtgkdoehkmbhfiaaGreat
open Go.ChangeShapes Go.WideShapes Go.ChangeAt Go.RowKit
def SixI (w:World) (B:Nat) (v1 v2 v3 v4 v5 v6:Value) (x1 x2 x3 x4 x5 x6:List Int):Prop:=Ints w B v1 x1∧Ints w B v2 x2∧Ints w B v3 x3∧Ints w B v4 x4∧Ints w B v5 x5∧Ints w B v6 x6
theorem SixI.below {w w':World} {B:Nat} {v1 v2 v3 v4 v5 v6:Value} {x1 x2 x3 x4 x5 x6:List Int} (h:SixI w B v1 v2 v3 v4 v5 v6 x1 x2 x3 x4 x5 x6) (hb:Below B w w'):SixI w' B v1 v2 v3 v4 v5 v6 x1 x2 x3 x4 x5 x6 :=
 ⟨h.1.below hb,h.2.1.below hb,h.2.2.1.below hb,h.2.2.2.1.below hb,h.2.2.2.2.1.below hb,h.2.2.2.2.2.below hb⟩
theorem SixI.mono {w:World} {B B':Nat} {v1 v2 v3 v4 v5 v6:Value} {x1 x2 x3 x4 x5 x6:List Int} (h:SixI w B v1 v2 v3 v4 v5 v6 x1 x2 x3 x4 x5 x6) (hb:B≤B'):SixI w B' v1 v2 v3 v4 v5 v6 x1 x2 x3 x4 x5 x6 :=
 ⟨h.1.mono hb,h.2.1.mono hb,h.2.2.1.mono hb,h.2.2.2.1.mono hb,h.2.2.2.2.1.mono hb,h.2.2.2.2.2.mono hb⟩
theorem SixI.shape {w:World} {B:Nat} {v1 v2 v3 v4 v5 v6:Value} {x1 x2 x3 x4 x5 x6:List Int} (h:SixI w B v1 v2 v3 v4 v5 v6 x1 x2 x3 x4 x5 x6):(∃a c,v1=.slice a x1.length c)∧(∃a c,v2=.slice a x2.length c)∧(∃a c,v3=.slice a x3.length c)∧(∃a c,v4=.slice a x4.length c)∧(∃a c,v5=.slice a x5.length c)∧(∃a c,v6=.slice a x6.length c):=by
 have key:∀{v:Value} {x:List Int},Ints w B v x→∃a c,v=.slice a x.length c:=fun h=>by
  obtain⟨a,c,e,_⟩:=h.1;simp only[List.length_map]at e;exact⟨a,c,e⟩
 exact⟨key h.1,key h.2.1,key h.2.2.1,key h.2.2.2.1,key h.2.2.2.2.1,key h.2.2.2.2.2⟩
end Go.Proofs.YtgkdoehkmbhfiaaGreat
namespace Go.Proofs.YtgkdoehkmbhfiaaGreat
open Go.RowKit
theorem bx_own {w:World} {base e g n:Nat} {xs:List Value} (h:OwnR w base e 1 (.slice (some ⟨g,0,none⟩) n n) n xs) (hn:0<n):Bx w g xs:=by
 have hl:xs.length=n:=by have:=h.1;omega
 refine⟨fun j hj=>?_,fun j _=>h.unfrozen j,by omega⟩;have:=h.get j (by omega)
 rwa [Nat.zero_add]at this
def cnI (n:Cn) (i:Nat):List Int:=(List.range (cnL i)).map fun j=>((n.l i j:Nat):Int)
theorem CnB.ints {w:World} {g:Nat} {G:Nat→Nat} {n:Cn} (h:CnB w g G n) {i:Nat} (hi:i<6) (hx:∀j,j<cnL i→n.l i j≤100000):Ints w w.heap.size (.slice (some ⟨G i,0,none⟩) (cnL i) (cnL i)) (cnI n i):=by
 have hl:((cnI n i).map rowI).length=cnL i:=by simp[cnI]
 refine⟨⟨some ⟨G i,0,none⟩,cnL i,by rw[hl],by rw[hl];exact Nat.le_refl _,by have:=cnL_le i;omega,by rw[hl];have:=cnL_le i;omega,(by intro h;cases h),fun _=>⟨G i,0,rfl,(h.ls i hi).lt,fun t ht j hj=>?_⟩⟩,fun x hx2=>?_⟩
 ·rw[hl]at ht;obtain rfl:j=0:=by omega
  have:=h.cell hi ht;rw[Nat.mul_one,Nat.zero_add,Nat.add_zero,this];simp[cnI,List.getD,ht,rowI]
 ·simp only[cnI,List.mem_map,List.mem_range]at hx2;obtain⟨j,hj,rfl⟩:=hx2;have:=hx j hj;simp only[I64];omega
theorem six_new {w w' : World} {base g1 g2 g3 g4 g5 g6 : Nat} (h : Six w base g1 g2 g3 g4 g5 g6 (List.replicate 3 0) (List.replicate 3 0) (List.replicate 3 0) (List.replicate 4 0) (List.replicate 4 0) (List.replicate 4 0)) {g : Nat} (hb : Below w.heap.size w w') (hg : w.heap.size ≤ g)
  (hx:Bx w' g [.int .i64 0,.slice (some ⟨g1,0,none⟩) 3 3,.slice (some ⟨g2,0,none⟩) 3 3,.slice (some ⟨g3,0,none⟩) 3 3,.slice (some ⟨g4,0,none⟩) 4 4,.slice (some ⟨g5,0,none⟩) 4 4,.slice (some ⟨g6,0,none⟩) 4 4]) :
  ∃G:Nat→Nat,G 0=g1∧G 1=g2∧G 2=g3∧G 3=g4∧G 4=g5∧G 5=g6∧CnB w' g G cn0∧∀b,InC g G b→base≤b∧b<w'.heap.size:=by
 have e:=h.r1;have e2:=h.r2;have e3:=h.r3;have e4:=h.r4;have e5:=h.r5;have e6:=h.r6;have e7:=h.r7;have key:∀{n:Nat} {gg:Nat} {xs:List Int},Owns w base 3 1 rowI (.slice (some ⟨gg,0,none⟩) n n) xs→xs.length=n→0<n→Bx w' gg (xs.flatMap rowI):=fun {n gg xs} ho hl hn=>by
  unfold Owns at ho;rw[hl]at ho;exact bx_own (ho.later hb) hn
 refine⟨fun i=>match i with|0=>g1|1=>g2|2=>g3|3=>g4|4=>g5|_=>g6,rfl,rfl,rfl,rfl,rfl,rfl,⟨hx,fun i hi=>?_,fun i hi=>?_,fun i j hi hj hne=>?_⟩,fun b hb2=>?_⟩
 ·rcases zD0 hi with rfl|rfl|rfl|rfl|rfl|rfl
  ·exact key h.o1 h.l1 (by omega)
  ·exact key h.o2 h.l2 (by omega)
  ·exact key h.o3 h.l3 (by omega)
  ·exact key h.o4 h.l4 (by omega)
  ·exact key h.o5 h.l5 (by omega)
  ·exact key h.o6 h.l6 (by omega)
 ·rcases zD0 hi with rfl|rfl|rfl|rfl|rfl|rfl <;> simp only <;> omega
 ·rcases zD0 hi with rfl|rfl|rfl|rfl|rfl|rfl <;> rcases zD0 hj with rfl|rfl|rfl|rfl|rfl|rfl <;> simp only <;> omega
 ·have hxl:=hx.lt;rcases hb2 with rfl|⟨i,hi,rfl⟩
  ·omega
  ·have:=hb.size;rcases zD0 hi with rfl|rfl|rfl|rfl|rfl|rfl <;> simp only <;> omega
theorem loadVar_cnt {w:World} {g:Nat} {a b c d e f h:Value} (h0:w.cell? ⟨g,0,none⟩=some a) (h1:w.cell? ⟨g,1,none⟩=some b) (h2:w.cell? ⟨g,2,none⟩=some c) (h3:w.cell? ⟨g,3,none⟩=some d) (h4:w.cell? ⟨g,4,none⟩=some e) (h5:w.cell? ⟨g,5,none⟩=some f) (h6:w.cell? ⟨g,6,none⟩=some h):(loadVar 70 ⟨g,0,none⟩).run Tryz.prog w=.ok (.agg #[a,b,c,d,e,f,h]) w:=by
 simp[loadVar,go_sem,h0,h1,h2,h3,h4,h5,h6]
def CntP (n:Cn) (w:World) (e:Ending) (w':World):Prop :=
 ∃ G : Nat → Nat, e = .returned (.agg #[.int .i64 (n.cycles : Nat), .slice (some ⟨G 0, 0, none⟩) 3 3, .slice (some ⟨G 1, 0, none⟩) 3 3, .slice (some ⟨G 2, 0, none⟩) 3 3, .slice (some ⟨G 3, 0, none⟩) 4 4, .slice (some ⟨G 4, 0, none⟩) 4 4, .slice (some ⟨G 5, 0, none⟩) 4 4]) ∧
  SixI w' w'.heap.size (.slice (some ⟨G 0,0,none⟩) 3 3) (.slice (some ⟨G 1,0,none⟩) 3 3) (.slice (some ⟨G 2,0,none⟩) 3 3) (.slice (some ⟨G 3,0,none⟩) 4 4) (.slice (some ⟨G 4,0,none⟩) 4 4) (.slice (some ⟨G 5,0,none⟩) 4 4) (cnI n 0) (cnI n 1) (cnI n 2) (cnI n 3) (cnI n 4) (cnI n 5)∧Below w.heap.size w w' ∧ (∀i j,i<6→j<cnL i→w'.cell? ⟨G i,j,none⟩=some (.int .i64 (n.l i j:Nat)))∧∀i,i<6→w.heap.size≤G i
theorem CnOk.small {c:Cfg} {k:Nat} {st:Cy} {n:Cn} (h:CnOk c k st n) (hk:k≤300):n.cycles≤1000∧∀i j,i<6→j<cnL i→n.l i j≤1000:=by
 refine⟨by rw[h.cy];omega,fun i j hi _=>?_⟩;rcases zD0 hi with rfl|rfl|rfl|rfl|rfl|rfl <;> simp only[Cn.l]
 ·have:=h.asked1 j;omega
 ·have:=h.told1 j;omega
 ·have:=h.waits j;omega
 ·have:=h.lt j;omega
 ·have:=h.done j;have:=h.busy j;omega
 ·have:=h.busy j;omega
set_option maxRecDepth 8000 in
theorem cntRun_any {c : Cfg} (hbus : Bus c) {w : World} {B : Nat} {u v : Value} (hc : BusV w B u c) {ins : List Inp} (hi : Ins w B v ins) (hB : B ≤ w.heap.size) (hl : ins.length ≤ 300) :
  Calls Tryz.prog 24 #[u,v] w (CntP (cntR c ins cy0 cn0) w):=by
 obtain⟨mv,lb,lo,lc,pb,po,pc,QQ,K,rfl,⟨ma,mn,mk,rfl⟩,_,_,_,_,_,_⟩:=hc.opened hbus;obtain⟨ia,ic,rfl,ic1,ic2,ic3,_,hcell⟩:=hi.opened;have HBV:=hid hc;have HCELL:=hid hcell;have HI:=hid hi;obtain⟨il,hil⟩:∃x,x=ins.length:=⟨_,rfl⟩
 rw[←hil]at HI HCELL ic1 ic3 hl ⊢;have HIL:=hid hil;obtain⟨w0,hw0⟩:∃W,W=(w.alloc (.cells #[.slice ma mn mk,.slice (some ⟨lb,lo,none⟩) 4 lc,.slice (some ⟨pb,po,none⟩) 3 pc] 27)).alloc (.cells #[.int .i64 0,.slice none 0 0,.slice none 0 0,.slice none 0 0,.slice none 0 0,.slice none 0 0,.slice none 0 0] 70):=⟨_,rfl⟩
 have hb0:Below w.heap.size w w0:=by rw[hw0];exact((Below.refl _ _).alloc (Nat.le_refl _) _).alloc (by simp) _
 obtain⟨gb,hgb⟩:∃g,g=w.heap.size:=⟨_,rfl⟩
 obtain⟨gr,hgr⟩:∃g,g=w.heap.size+1:=⟨_,rfl⟩
 have X0 := hid (show Bx w0 gb [.slice ma mn mk, .slice (some ⟨lb, lo, none⟩) 4 lc, .slice (some ⟨pb, po, none⟩) 3 pc] by
  rw[hw0,hgb];exact(Bx.new w #[.slice ma mn mk,.slice (some ⟨lb,lo,none⟩) 4 lc,.slice (some ⟨pb,po,none⟩) 3 pc] 27 (by simp)).below ((Below.refl _ _).alloc (Nat.le_refl _) _) (by simp))
 have XR := hid (show Bx w0 gr [.int .i64 0, vnil, vnil, vnil, vnil, vnil, vnil] by
  rw[hw0,hgr];have:=Bx.new (w.alloc (.cells #[.slice ma mn mk,.slice (some ⟨lb,lo,none⟩) 4 lc,.slice (some ⟨pb,po,none⟩) 3 pc] 27)) #[.int .i64 0,vnil,vnil,vnil,vnil,vnil,vnil] 70 (by simp);simpa using this)
 have HB0:=hid hb0;have HSZ:=hid (show gr<w0.heap.size∧gb<w0.heap.size∧w.heap.size≤gr∧w.heap.size≤w0.heap.size by rw[hw0,hgr,hgb];simp <;> omega);clear hc hi hb0 hcell hil
 go_enter Tryz.func24,Tryz.ntmps24
 go_upto_region 1 with fail
 rw[←hw0,←hgr,←hgb];clear hw0 hgb hgr
 go_upto_region 2 with(go_at_call 10;go_loud ((with_reducible refine(cycNew_any _).mono ?_));rintro e w3 ⟨V,N,C,D,rfl,hcr,hb3⟩;obtain⟨A,m,KK,e0,e1,e2,e3,e4⟩:=hcr.raw.sl;have HE:=hid (show V 0=.slice (A 0) (m 0) (KK 0)∧V 1=.slice (A 1) (m 1) (KK 1)∧V 2=.slice (A 2) (m 2) (KK 2)∧V 3=.slice (A 3) (m 3) (KK 3)∧V 4=.slice (A 4) (m 4) (KK 4) from⟨e0,e1,e2,e3,e4⟩);rw[e0,e1,e2,e3,e4];have HCR:=hid hcr;have HB3:=hid hb3;clear hcr hb3 e0 e1 e2 e3 e4)
 obtain⟨w4,hw4⟩:∃W,W=w3.alloc (.cells #[.slice (A 0) (m 0) (KK 0),.slice (A 1) (m 1) (KK 1),.slice (A 2) (m 2) (KK 2),.slice (A 3) (m 3) (KK 3),.slice (A 4) (m 4) (KK 4)] 39):=⟨_,rfl⟩
 obtain⟨S,hS⟩:∃g,g=w3.heap.size:=⟨_,rfl⟩
 rw[←hw4,←hS];have hb4:Below w3.heap.size w3 w4:=by rw[hw4];exact(Below.refl _ _).alloc (Nat.le_refl _) _
 have HCB4:=hid (HCR.out.box (S:=S) hb4 (by omega) (by rw[HE.out.1,HE.out.2.1,HE.out.2.2.1,HE.out.2.2.2.1,HE.out.2.2.2.2,hw4];exact zA9 _ _ hS) HB3.out.size);have HB4:=hid (HB3.out.trans (hb4.mono HB3.out.size));clear hw4 hS hb4 HCR HB3;have HB04:=hid (HB0.out.trans (HB4.out.mono HSZ.out.2.2.2))
 have HRN := hid (show Calls Tryz.prog 60 #[.agg #[.slice ma mn mk, .slice (some ⟨lb, lo, none⟩) 4 lc, .slice (some ⟨pb, po, none⟩) 3 pc], .agg #[.slice (A 0) (m 0) (KK 0), .slice (A 1) (m 1) (KK 1), .slice (A 2) (m 2) (KK 2), .slice (A 3) (m 3) (KK 3), .slice (A 4) (m 4) (KK 4)], .slice ia il ic] w4 _ from by
  obtain⟨P,Q,hv⟩:=HCB4.out.toV hbus (zK5 c);rw[HE.out.1,HE.out.2.1,HE.out.2.2.1,HE.out.2.2.2.1,HE.out.2.2.2.2]at hv;have hle:B≤w4.heap.size:=Nat.le_trans hB HB04.out.size;exact runs_any hbus ((HBV.out.below (HB04.out.mono hB)).mono hle) hv ((HI.out.below (HB04.out.mono hB)).mono hle) (Nat.le_refl _) (zK5 c) (by rw[←HIL.out];exact hl))
 obtain⟨c0,c1,c2,c3,c4,_⟩:=HCB4.out.cells;rw[HE.out.1]at c0;rw[HE.out.2.1]at c1;rw[HE.out.2.2.1]at c2;rw[HE.out.2.2.2.1]at c3;rw[HE.out.2.2.2.2]at c4;obtain⟨b0,b1,b2⟩:=(X0.out.below HB4.out X0.out.lt).three.1
 go_upto_region 4 with(go_at_call 60;go_loud ((with_reducible refine(HRN.out).mono ?_));rintro e w5 ⟨rfl,hb5⟩;have HB5:=hid hb5;clear hb5 b0 b1 b2 c0 c1 c2 c3 c4)
 clear HRN
 go_upto_region 5 with(go_at_call 61;go_loud ((with_reducible refine(implCntNew_any _).mono ?_));rintro e w6 ⟨g1,g2,g3,g4,g5,g6,rfl,hsix,hb6⟩;have HSIX:=hid hsix;have HB6:=hid hb6;clear hsix hb6)
 obtain⟨w7,hw7⟩:∃W,W=w6.alloc (.cells #[.int .i64 0,.slice (some ⟨g1,0,none⟩) 3 3,.slice (some ⟨g2,0,none⟩) 3 3,.slice (some ⟨g3,0,none⟩) 3 3,.slice (some ⟨g4,0,none⟩) 4 4,.slice (some ⟨g5,0,none⟩) 4 4,.slice (some ⟨g6,0,none⟩) 4 4] 70):=⟨_,rfl⟩
 obtain⟨g,hg⟩:∃g,g=w6.heap.size:=⟨_,rfl⟩
 have hb7:Below w6.heap.size w6 w7:=by rw[hw7];exact(Below.refl _ _).alloc (Nat.le_refl _) _
 have hx7:Bx w7 g [.int .i64 0,.slice (some ⟨g1,0,none⟩) 3 3,.slice (some ⟨g2,0,none⟩) 3 3,.slice (some ⟨g3,0,none⟩) 3 3,.slice (some ⟨g4,0,none⟩) 4 4,.slice (some ⟨g5,0,none⟩) 4 4,.slice (some ⟨g6,0,none⟩) 4 4]:=by
  rw[hw7,hg];exact Bx.new w6 #[.int .i64 0,.slice (some ⟨g1,0,none⟩) 3 3,.slice (some ⟨g2,0,none⟩) 3 3,.slice (some ⟨g3,0,none⟩) 3 3,.slice (some ⟨g4,0,none⟩) 4 4,.slice (some ⟨g5,0,none⟩) 4 4,.slice (some ⟨g6,0,none⟩) 4 4] 70 (by simp)
 rw[←hw7,←hg];obtain⟨G,rfl,rfl,rfl,rfl,rfl,rfl,hcn,hin⟩:=six_new HSIX.out hb7 (by omega) hx7;have HCN7:=hid hcn;have HIN7:=hid hin;have HB57:=hid (HB6.out.trans (hb7.mono HB6.out.size));have HB47:=hid (HB5.out.trans (HB57.out.mono HB5.out.size));have HCB7:=hid ((HCB4.out.cut HB47.out (m:=w7.heap.size) (Nat.le_refl _)));have HXC:=hid (show ∀b,InC g G b→¬(w0.heap.size≤b∧(b<w4.heap.size∨w7.heap.size≤b))∧w0.heap.size≤b from fun b hb=>by have h1:=HIN7.out b hb;have h2:=HB5.out.size;have h3:=HB4.out.size;exact⟨fun h=>by have:=h.2;omega,by omega⟩)
 have HDF7 := hid (show ∀ b, InC g G b → DFreeS V S w7 b from fun b hb => by
  have h1:=HIN7.out b hb;have h2:=HB5.out.size;exact⟨h1.2,fun κ hκ e=>by have:=(HCB4.out.raw.lt hκ e).2;omega,fun e=>by have:=zA2 HCB4.out.bs;omega⟩)
 have HBW7:=hid (HB04.out.trans (HB47.out.mono HB04.out.size));have X07:=hid (X0.out.below (HB4.out.trans (HB47.out.mono HB4.out.size)) X0.out.lt);have XR7:=hid (XR.out.below (HB4.out.trans (HB47.out.mono HB4.out.size)) XR.out.lt);have HB07:=hid (HB4.out.trans (HB47.out.mono HB4.out.size));clear hcn hin hw7 hg hb7 hx7 HSIX HB6 HCB4 HB57;obtain⟨X,hX⟩:∃X:Nat→Prop,X=fun b=>w0.heap.size≤b∧(b<w4.heap.size∨w7.heap.size≤b):=⟨_,rfl⟩
 rw[←hX]at HCB7;have HXC:=hid (show ∀b,InC g G b→¬X b∧w0.heap.size≤b by rw[hX];exact HXC.out);clear hX
 go_wp2_with fail
 go_loopw [19] (fun i wr=>∃k:Nat,i=.int .i64 k∧k≤il∧(∃V N C D,CyB wr w0.heap.size S X (runC c (ins.take k) cy0) V N C D∧∀b,InC g G b→DFreeS V S wr b)∧CnB wr g G (cntR c (ins.take k) cy0 cn0)∧Below w0.heap.size w0 wr) (fun i _=>il - (intOf i).toNat)
 case atStart=>exact⟨0,by go_num,Nat.zero_le _,⟨V,N,C,D,by simpa[runC]using HCB7.out,HDF7.out⟩,by simpa[cntR]using HCN7.out,HB07.out⟩
 case round=>
  clear HCB7 HDF7 HCN7 HB07 HBW7 HE HIN7 HB47 HB04 HB5;obtain⟨k,rfl,hk,⟨V1,N1,C1,D1,hcb,hdf⟩,hcn,hbr⟩:=hrel;have HCBR:=hid hcb;have HBR:=hid hbr;have HCN:=hid hcn;have HDF:=hid hdf;have HBW:=hid (HB0.out.trans (hbr.mono HSZ.out.2.2.2));have HGR:=hid (show Good c (runC c (ins.take k) cy0) from good_run hbus _ (zK5 c))
  have HOK := hid (show CnOk c k (runC c (ins.take k) cy0) (cntR c (ins.take k) cy0 cn0) from by
   have h:=cnOk_run hbus (ins.take k) (zK5 c) (cnOk_zero c)
   rwa [Nat.zero_add,List.length_take_of_le (by rw[←HIL.out];exact hk)]at h)
  obtain⟨wo,hwo⟩:∃W,W=wr:=⟨_,rfl⟩
  subst hwo;clear hcb hbr hcn hdf;by_cases hlt:k<il
  ·have hki:(k:Int)<(il:Int):=by omega
   obtain⟨b,off,rfl,hbB,hrow⟩:=HCELL.out (by omega);obtain⟨ra,rc,ta,tc,sa,sc,hiv,c0,c1,c2⟩:=hrow k hlt;rw[←HBW.out.cell (p:=⟨b,_,none⟩) (Nat.lt_of_lt_of_le hbB hB)]at c0 c1 c2;have HIV:=hid hiv;have HSN:=hid (runC_snoc c ins k (by rw[←HIL.out];exact hlt) cy0);have HTN:=hid (cntR_snoc c ins k (by rw[←HIL.out];exact hlt) cy0 cn0);clear hrow hiv
   go_upto_region 8 with fail
   clear c0 c1 c2;obtain⟨w5,hw5⟩:∃W,W=wo.alloc (.cells #[.slice ra 3 rc,.slice ta 4 tc,.slice sa 3 sc] 45):=⟨_,rfl⟩
   obtain⟨gi,hgi⟩:∃g,g=wo.heap.size:=⟨_,rfl⟩
   rw[←hw5,←hgi];have hb5:Below wo.heap.size wo w5:=by rw[hw5];exact(Below.refl _ _).alloc (Nat.le_refl _) _
   have X5:=hid (show Bx w5 gi [.slice ra 3 rc,.slice ta 4 tc,.slice sa 3 sc] by rw[hw5,hgi];exact Bx.new wo #[.slice ra 3 rc,.slice ta 4 tc,.slice sa 3 sc] 45 (by simp));have HB5:=hid hb5;have HBW5:=hid (HBW.out.trans (hb5.mono HBW.out.size));have HBR5:=hid (HBR.out.trans (hb5.mono HBR.out.size));obtain⟨b0,b1,b2⟩:=(X0.out.below HBR5.out X0.out.lt).three.1;obtain⟨i0,i1,i2⟩:=X5.out.three.1;obtain⟨st1,hst1⟩:∃s,s=runC c (ins.take k) cy0:=⟨_,rfl⟩
   obtain⟨n1,hn1⟩:∃n,n=cntR c (ins.take k) cy0 cn0:=⟨_,rfl⟩
   rw[←hst1]at HSN HTN HCBR HGR HOK;rw[←hn1]at HTN HCN HOK;have HST:=hid (count_any hbus (HCBR.out.below hb5) HGR.out (HBV.out.below (HBW5.out.mono hB)) (HIV.out.below (HBW5.out.mono hB)) (Nat.le_trans hB HSZ.out.2.2.2) (HCN.out.below hb5) (fun b hb=>⟨⟨Nat.lt_of_lt_of_le (HDF.out b hb).1 hb5.size,(HDF.out b hb).2⟩,HXC.out b hb⟩) (HOK.out.small (by omega)));clear hw5 hgi hb5 hst1 hn1
   go_wp2_with (go_at_call 62;go_loud ((with_reducible refine(HST.out).mono ?_));rintro e w6 ⟨rfl,V', N', C', D', hcb,hcn,hdf,hb6⟩;have HCB6:=hid hcb;have HCN6:=hid hcn;have HDF6:=hid hdf;have HQ6:=hid hb6;clear hcb hcn hdf hb6 b0 b1 b2 i0 i1 i2)
   go_roundw
   case rel=>exact⟨k+1,by go_num,by omega,⟨V', N', C', D', by rw[HSN.out];exact HCB6.out,HDF6.out⟩,by rw[HTN.out];exact HCN6.out,HBR5.out.trans HQ6.out⟩
   case measure=>simp[intOf];omega
  ·obtain rfl:k=il:=by omega
   have hki2:decide ((k:Int)<(k:Int))=false:=by simp
   have hend:ins.take k=ins:=List.take_of_length_le (by rw[HIL.out];exact Nat.le_refl _);rw[hend]at HCN HOK;obtain⟨n1,hn1⟩:∃n,n=cntR c ins cy0 cn0:=⟨_,rfl⟩
   rw[←hn1]at HCN HOK;have HN1:=hid hn1;obtain⟨⟨q0,q1,q2,q3,q4,q5,q6⟩,_⟩:=Bx.seven HCN.out.bx;have HXR:=hid (XR.out.below HBR.out XR.out.lt);obtain⟨⟨r0,r1,r2,r3,r4,r5,r6⟩,f0,f1,f2,f3,f4,f5,f6⟩:=HXR.out.seven;have hrl:=HXR.out.lt;obtain⟨ny,hny⟩:∃y,y=n1.cycles:=⟨_,rfl⟩
   rw[←hny]at q0;have HNY:=hid hny;clear hend hn1 hny
   go_wp2_with fail
   obtain⟨wz,hwz⟩:∃W,W=((((((wo.setCell ⟨gr,0,none⟩ (.int .i64 (ny:Nat))).setCell ⟨gr,1,none⟩ (.slice (some ⟨G 0,0,none⟩) 3 3)).setCell ⟨gr,2,none⟩ (.slice (some ⟨G 1,0,none⟩) 3 3)).setCell ⟨gr,3,none⟩ (.slice (some ⟨G 2,0,none⟩) 3 3)).setCell ⟨gr,4,none⟩ (.slice (some ⟨G 3,0,none⟩) 4 4)).setCell ⟨gr,5,none⟩ (.slice (some ⟨G 4,0,none⟩) 4 4)).setCell ⟨gr,6,none⟩ (.slice (some ⟨G 5,0,none⟩) 4 4):=⟨_,rfl⟩
   rw[←hwz];have hxz:Bx wz gr [.int .i64 (ny:Nat),.slice (some ⟨G 0,0,none⟩) 3 3,.slice (some ⟨G 1,0,none⟩) 3 3,.slice (some ⟨G 2,0,none⟩) 3 3,.slice (some ⟨G 3,0,none⟩) 4 4,.slice (some ⟨G 4,0,none⟩) 4 4,.slice (some ⟨G 5,0,none⟩) 4 4]:=by
    rw[hwz];exact((((((HXR.out.set 0 (by simp) _).set 1 (by simp) _).set 2 (by simp) _).set 3 (by simp) _).set 4 (by simp) _).set 5 (by simp) _).set 6 (by simp) _
   have hcz:CnB wz g G n1:=HCN.out.kept fun b hb=>by
    have hne:b≠gr:=by have:=(HXC.out b hb).2;have:=HSZ.out.1;omega
    rw[hwz]
    repeat rw[Below.heap_setCell _ _ _ _ (show b≠gr from hne)]
   have hbz:Below w.heap.size w wz:=by
    have h:=HSZ.out.2.2.1;rw[hwz];exact((((((HBW.out.setCell (p:=⟨gr,_,none⟩) h _).setCell (p:=⟨gr,_,none⟩) h _).setCell (p:=⟨gr,_,none⟩) h _).setCell (p:=⟨gr,_,none⟩) h _).setCell (p:=⟨gr,_,none⟩) h _).setCell (p:=⟨gr,_,none⟩) h _).setCell (p:=⟨gr,_,none⟩) h _
   have hsm:=(HOK.out.small hl).2;have hin:∀i,i<6→Ints wz wz.heap.size (.slice (some ⟨G i,0,none⟩) (cnL i) (cnL i)) (cnI n1 i):=fun i hi=>hcz.ints hi fun j hj=>by have:=hsm i j hi hj;omega
   obtain⟨⟨z0,z1,z2,z3,z4,z5,z6⟩,_⟩:=hxz.seven;refine bodyPost_ret (zA5 Tryz.results24 _ _ ⟨gr,0,none⟩ (.agg #[.int .i64 (ny:Nat),.slice (some ⟨G 0,0,none⟩) 3 3,.slice (some ⟨G 1,0,none⟩) 3 3,.slice (some ⟨G 2,0,none⟩) 3 3,.slice (some ⟨G 3,0,none⟩) 4 4,.slice (some ⟨G 4,0,none⟩) 4 4,.slice (some ⟨G 5,0,none⟩) 4 4]) rfl (loadVar_cnt z0 z1 z2 z3 z4 z5 z6)) rfl ?_;rw[←HN1.out];exact⟨G,by rw[HNY.out],⟨hin 0 (by omega),hin 1 (by omega),hin 2 (by omega),hin 3 (by omega),hin 4 (by omega),hin 5 (by omega)⟩,hbz,fun i j hi hj=>hcz.cell hi hj,fun i hi=>Nat.le_trans HSZ.out.2.2.2 (HXC.out _ (.at hi)).2⟩
def cnt (xs:List Int) (many most:Int):Bool:=((xs.length:Int)==many)&&xs.all fun n=>inB n 0 most
theorem countedF_any (x most : Int) (g : Nat) (w : World) (hc : w.cell? ⟨g, 0, none⟩ = some (.int .i64 most)) :
  Calls Tryz.prog 121 (#[.int .i64 x]++#[.pointer (some ⟨g,0,none⟩)]) w fun e w' => e=.returned (.bool (!inB x 0 most))∧w=w':=by
 go_enter Tryz.func121,Tryz.ntmps121
 go_wp2_with (first|(go_at_call 63;refine(zF4 _ _ _ _).mono ?_;rintro e w' ⟨rfl,rfl⟩))
 go_ret
 exact⟨rfl,rfl⟩
theorem any_not_all (p:Int→Bool) (xs:List Int):(!xs.any fun x=>!p x)=xs.all p:=by
 induction xs with
 |nil=>rfl
 |cons x xs ih=>simp only[List.any_cons,List.all_cons,Bool.not_or,Bool.not_not,ih]
theorem zG2 (v : Value) (xs : List Int) (many most : Int) (B : Nat) (w : World) (hv : Ints w B v xs) (hB : B ≤ w.heap.size) :
  Calls Tryz.prog 64 #[v,.int .i64 many,.int .i64 most] w fun e w' => e=.returned (.bool (cnt xs many most))∧Below w.heap.size w w':=by
 obtain⟨ao,cap,hve,hlc,hcap,hln,hni,hr⟩:=hv.opened;clear hr;have HV:=hid hv;clear hv;subst hve;have hcl:=hid (fun x=>countedF_any x most w.heap.size (w.alloc (.cells #[.int .i64 most] 3)) (by simp[go_sem]));have hA:=any_not_all (fun n=>inB n 0 most) xs;obtain⟨y,hy⟩:∃y,y=xs.any fun x=>!inB x 0 most:=⟨_,rfl⟩
 obtain⟨q,hq⟩:∃q,q=cnt xs many most:=⟨_,rfl⟩
 rw[←hy]at hA;have hE:q=(((xs.length:Int)==many)&&!y):=by rw[hq,hA];rfl
 rw[←hq];have HY:=hid hy;have HE:=hid hE;clear hy hq hA hE;rcases hl:((xs.length:Int)==many)with _|_
 all_goals
  have HL:=hid hl
  go_enter Tryz.func64,Tryz.ntmps64
  go_wp2_with (first|(go_at_call 98;refine(zG0 121 #[.pointer (some ⟨w.heap.size,0,none⟩)] (zB6 Tryz.func121 (by kernel_rfl) (by kernel_rfl)) (fun x=>!inB x 0 most) _ xs B _ (HV.out.below ((Below.refl _ _).alloc hB _)) (fun x _=>hcl.out x)).mono ?_;rw[←HY.out];rintro e w' ⟨rfl,rfl⟩))
  go_ret
  exact⟨by rw[HE.out,HL.out];simp,(Below.refl _ _).alloc (Nat.le_refl _) _⟩
end Go.Proofs.YtgkdoehkmbhfiaaGreat
namespace Go.Proofs.YtgkdoehkmbhfiaaGreat
open Go.ChangeShapes Go.WideShapes Go.ChangeAt Go.RowKit
theorem oneBox (w:World) (o:Obj):Below w.heap.size w (w.alloc o):=(Below.refl _ _).alloc (Nat.le_refl _) _
def nn (j:Nat):Nat:=if j<3 then 3 else 4
def CellsAt (w:World) (H:Nat) (cs:List Value):Prop:=∀j,j<7→w.cell? ⟨H,j,none⟩=cs[j]?
theorem CellsAt.below {w w':World} {H C:Nat} {cs:List Value} (h:CellsAt w H cs) (hb:Below C w w') (hH:H<C):CellsAt w' H cs:=fun j hj=>by rw[hb.cell (by exact hH)];exact h j hj
theorem Six.below {w w':World} {base g1 g2 g3 g4 g5 g6:Nat} {x1 x2 x3 x4 x5 x6:List Int} (h:Six w base g1 g2 g3 g4 g5 g6 x1 x2 x3 x4 x5 x6) (hb:Below w.heap.size w w'):Six w' base g1 g2 g3 g4 g5 g6 x1 x2 x3 x4 x5 x6 :=
 ⟨h.o1.below hb,h.o2.below hb,h.o3.below hb,h.o4.below hb,h.o5.below hb,h.o6.below hb,h.r1,h.r2,h.r3,h.r4,h.r5,h.r6,Nat.lt_of_lt_of_le h.r7 hb.size,h.l1,h.l2,h.l3,h.l4,h.l5,h.l6⟩
theorem cells_box (w:World) (c0 c1 c2 c3 c4 c5 c6:Value) (T:TypeId):CellsAt (w.alloc (.cells #[c0,c1,c2,c3,c4,c5,c6] T)) w.heap.size [c0,c1,c2,c3,c4,c5,c6]:=fun j hj=>by
 have:j=0∨j=1∨j=2∨j=3∨j=4∨j=5∨j=6:=by omega
 rcases this with rfl|rfl|rfl|rfl|rfl|rfl|rfl <;> simp[go_sem]
end Go.Proofs.YtgkdoehkmbhfiaaGreat
namespace Go.Proofs.YtgkdoehkmbhfiaaGreat
open Go.RowKit
def cntOk (c:Int) (x1 x2 x3 x4 x5 x6:List Int):Bool:=inB c 0 9999&&cnt x1 3 9999&&cnt x2 3 9999&&cnt x3 3 c&&cnt x4 4 9999&&cnt x5 4 9999&&cnt x6 4 c
set_option maxRecDepth 4000 in
theorem implCntOk_any (c : Int) (v1 v2 v3 v4 v5 v6 : Value) (x1 x2 x3 x4 x5 x6 : List Int) (B : Nat) (w : World) (h : SixI w B v1 v2 v3 v4 v5 v6 x1 x2 x3 x4 x5 x6) (hB : B ≤ w.heap.size) :
  Calls Tryz.prog 25 #[.agg #[.int .i64 c,v1,v2,v3,v4,v5,v6]] w fun e w' => e=.returned (.bool (cntOk c x1 x2 x3 x4 x5 x6))∧Below w.heap.size w w':=by
 have HS:=hid h;obtain⟨⟨a1,c1,rfl⟩,⟨a2,c2,rfl⟩,⟨a3,c3,rfl⟩,⟨a4,c4,rfl⟩,⟨a5,c5,rfl⟩,⟨a6,c6,rfl⟩⟩:=h.shape;have S1:=hid h.1;have S2:=hid h.2.1;have S3:=hid h.2.2.1;have S4:=hid h.2.2.2.1;have S5:=hid h.2.2.2.2.1;have S6:=hid h.2.2.2.2.2;clear h;obtain⟨b0,hb0⟩:∃b,b=inB c 0 9999:=⟨_,rfl⟩
 obtain⟨b1,hb1⟩:∃b,b=cnt x1 3 9999:=⟨_,rfl⟩
 obtain⟨b2,hb2⟩:∃b,b=cnt x2 3 9999:=⟨_,rfl⟩
 obtain⟨b3,hb3⟩:∃b,b=cnt x3 3 c:=⟨_,rfl⟩
 obtain⟨b4,hb4⟩:∃b,b=cnt x4 4 9999:=⟨_,rfl⟩
 obtain⟨b5,hb5⟩:∃b,b=cnt x5 4 9999:=⟨_,rfl⟩
 obtain⟨b6,hb6⟩:∃b,b=cnt x6 4 c:=⟨_,rfl⟩
 have hE:cntOk c x1 x2 x3 x4 x5 x6=(b0&&b1&&b2&&b3&&b4&&b5&&b6):=by rw[hb0,hb1,hb2,hb3,hb4,hb5,hb6];rfl
 obtain⟨q,hq⟩:∃q,q=cntOk c x1 x2 x3 x4 x5 x6:=⟨_,rfl⟩
 rw[←hq]at hE ⊢;have HE:=hid hE;have HB0:=hid hb0;have HB1:=hid hb1;have HB2:=hid hb2;have HB3:=hid hb3;have HB4:=hid hb4;have HB5:=hid hb5;have HB6:=hid hb6;clear hE hq hb0 hb1 hb2 hb3 hb4 hb5 hb6;have HW:=hid (oneBox w (.cells #[.int .i64 c,.slice a1 x1.length c1,.slice a2 x2.length c2,.slice a3 x3.length c3,.slice a4 x4.length c4,.slice a5 x5.length c5,.slice a6 x6.length c6] 70));have CA:=hid (cells_box w (.int .i64 c) (.slice a1 x1.length c1) (.slice a2 x2.length c2) (.slice a3 x3.length c3) (.slice a4 x4.length c4) (.slice a5 x5.length c5) (.slice a6 x6.length c6) 70)
 go_enter Tryz.func25,Tryz.ntmps25
 go_wp2_with (first
  |(go_at_call 63;refine(zF4 _ _ _ _).mono ?_;rw[←HB0.out];rintro e w' ⟨rfl,rfl⟩)
  |(go_at_call 64;(with_reducible refine(zG2 (.slice a1 x1.length c1) x1 3 9999 B _ (S1.out.below ((HW.out).mono hB)) (Nat.le_trans hB (HW.out).size)).mono ?_);rw[←HB1.out];rintro e w1 ⟨rfl,hb⟩;have HW1:=hid ((HW.out).trans (hb.mono (HW.out).size));have CA1:=hid (CA.out.below hb (by have:=(HW.out).size;simp));clear hb;have p0:=CA1.out 0 (by omega);have p1:=CA1.out 1 (by omega);have p2:=CA1.out 2 (by omega);have p3:=CA1.out 3 (by omega);have p4:=CA1.out 4 (by omega);have p5:=CA1.out 5 (by omega);have p6:=CA1.out 6 (by omega);simp only[List.getElem?_cons_zero,List.getElem?_cons_succ]at p0 p1 p2 p3 p4 p5 p6;have LT1:=hid (show w.heap.size<w1.heap.size from World.block_lt_of_cell? w1 _ p0))
  |(go_at_call 64;(with_reducible refine(zG2 (.slice a2 x2.length c2) x2 3 9999 B _ (S2.out.below ((HW1.out).mono hB)) (Nat.le_trans hB (HW1.out).size)).mono ?_);rw[←HB2.out];rintro e w2 ⟨rfl,hb⟩;have HW2:=hid ((HW1.out).trans (hb.mono (HW1.out).size));have CA2:=hid (CA1.out.below hb (by have:=(HW1.out).size;have:=LT1.out;omega));clear hb;have p0:=CA2.out 0 (by omega);have p1:=CA2.out 1 (by omega);have p2:=CA2.out 2 (by omega);have p3:=CA2.out 3 (by omega);have p4:=CA2.out 4 (by omega);have p5:=CA2.out 5 (by omega);have p6:=CA2.out 6 (by omega);simp only[List.getElem?_cons_zero,List.getElem?_cons_succ]at p0 p1 p2 p3 p4 p5 p6;have LT2:=hid (show w.heap.size<w2.heap.size from World.block_lt_of_cell? w2 _ p0))
  |(go_at_call 64;(with_reducible refine(zG2 (.slice a3 x3.length c3) x3 3 c B _ (S3.out.below ((HW2.out).mono hB)) (Nat.le_trans hB (HW2.out).size)).mono ?_);rw[←HB3.out];rintro e w3 ⟨rfl,hb⟩;have HW3:=hid ((HW2.out).trans (hb.mono (HW2.out).size));have CA3:=hid (CA2.out.below hb (by have:=(HW2.out).size;have:=LT2.out;omega));clear hb;have p0:=CA3.out 0 (by omega);have p1:=CA3.out 1 (by omega);have p2:=CA3.out 2 (by omega);have p3:=CA3.out 3 (by omega);have p4:=CA3.out 4 (by omega);have p5:=CA3.out 5 (by omega);have p6:=CA3.out 6 (by omega);simp only[List.getElem?_cons_zero,List.getElem?_cons_succ]at p0 p1 p2 p3 p4 p5 p6;have LT3:=hid (show w.heap.size<w3.heap.size from World.block_lt_of_cell? w3 _ p0))
  |(go_at_call 64;(with_reducible refine(zG2 (.slice a4 x4.length c4) x4 4 9999 B _ (S4.out.below ((HW3.out).mono hB)) (Nat.le_trans hB (HW3.out).size)).mono ?_);rw[←HB4.out];rintro e w4 ⟨rfl,hb⟩;have HW4:=hid ((HW3.out).trans (hb.mono (HW3.out).size));have CA4:=hid (CA3.out.below hb (by have:=(HW3.out).size;have:=LT3.out;omega));clear hb;have p0:=CA4.out 0 (by omega);have p1:=CA4.out 1 (by omega);have p2:=CA4.out 2 (by omega);have p3:=CA4.out 3 (by omega);have p4:=CA4.out 4 (by omega);have p5:=CA4.out 5 (by omega);have p6:=CA4.out 6 (by omega);simp only[List.getElem?_cons_zero,List.getElem?_cons_succ]at p0 p1 p2 p3 p4 p5 p6;have LT4:=hid (show w.heap.size<w4.heap.size from World.block_lt_of_cell? w4 _ p0))
  |(go_at_call 64;(with_reducible refine(zG2 (.slice a5 x5.length c5) x5 4 9999 B _ (S5.out.below ((HW4.out).mono hB)) (Nat.le_trans hB (HW4.out).size)).mono ?_);rw[←HB5.out];rintro e w5 ⟨rfl,hb⟩;have HW5:=hid ((HW4.out).trans (hb.mono (HW4.out).size));have CA5:=hid (CA4.out.below hb (by have:=(HW4.out).size;have:=LT4.out;omega));clear hb;have p0:=CA5.out 0 (by omega);have p1:=CA5.out 1 (by omega);have p2:=CA5.out 2 (by omega);have p3:=CA5.out 3 (by omega);have p4:=CA5.out 4 (by omega);have p5:=CA5.out 5 (by omega);have p6:=CA5.out 6 (by omega);simp only[List.getElem?_cons_zero,List.getElem?_cons_succ]at p0 p1 p2 p3 p4 p5 p6;have LT5:=hid (show w.heap.size<w5.heap.size from World.block_lt_of_cell? w5 _ p0))
  |(go_at_call 64;(with_reducible refine(zG2 (.slice a6 x6.length c6) x6 4 c B _ (S6.out.below ((HW5.out).mono hB)) (Nat.le_trans hB (HW5.out).size)).mono ?_);rw[←HB6.out];rintro e w6 ⟨rfl,hb⟩;have HW6:=hid ((HW5.out).trans (hb.mono (HW5.out).size));have CA6:=hid (CA5.out.below hb (by have:=(HW5.out).size;have:=LT5.out;omega));clear hb;have p0:=CA6.out 0 (by omega);have p1:=CA6.out 1 (by omega);have p2:=CA6.out 2 (by omega);have p3:=CA6.out 3 (by omega);have p4:=CA6.out 4 (by omega);have p5:=CA6.out 5 (by omega);have p6:=CA6.out 6 (by omega);simp only[List.getElem?_cons_zero,List.getElem?_cons_succ]at p0 p1 p2 p3 p4 p5 p6;have LT6:=hid (show w.heap.size<w6.heap.size from World.block_lt_of_cell? w6 _ p0))
  |fail)
 all_goals
  go_ret
  refine⟨by rw[HE.out];simp[*],?_⟩
  first|exact HW6.out|exact HW5.out|exact HW4.out|exact HW3.out|exact HW2.out|exact HW1.out|exact HW.out
end Go.Proofs.YtgkdoehkmbhfiaaGreat
namespace Go.Proofs.YtgkdoehkmbhfiaaGreat
theorem cnt_nat {n:Cn} {i:Nat} {most:Int} (h:∀j,j<cnL i→((n.l i j:Nat):Int)≤most):cnt (cnI n i) (cnL i) most=true:=by
 unfold cnt;rw[Bool.and_eq_true];refine⟨by simp[cnI],?_⟩;rw[List.all_eq_true];intro x hx;simp only[cnI,List.mem_map,List.mem_range]at hx;obtain⟨j,hj,rfl⟩:=hx;have:=h j hj;simp only[inB,Bool.and_eq_true,decide_eq_true_eq];omega
theorem cntOk_of {c:Cfg} {k:Nat} {st:Cy} {n:Cn} (h:CnOk c k st n) (hk:k≤300):cntOk (n.cycles:Nat) (cnI n 0) (cnI n 1) (cnI n 2) (cnI n 3) (cnI n 4) (cnI n 5)=true:=by
 have hs:=h.small hk;have hc:=h.cy;have h0:inB (n.cycles:Nat) 0 9999=true:=by simp only[inB,Bool.and_eq_true,decide_eq_true_eq];omega
 have hb:∀i,i<6→∀j,j<cnL i→((n.l i j:Nat):Int)≤9999:=fun i hi j hj=>by have:=hs.2 i j hi hj;omega
 have e0:cnt (cnI n 0) 3 9999=true:=cnt_nat (i:=0) (hb 0 (by omega))
 have e1:cnt (cnI n 1) 3 9999=true:=cnt_nat (i:=1) (hb 1 (by omega))
 have e2:cnt (cnI n 2) 3 (n.cycles:Nat)=true:=cnt_nat (i:=2) fun j _=>by have:=h.waits j;simp only[Cn.l];omega
 have e3:cnt (cnI n 3) 4 9999=true:=cnt_nat (i:=3) (hb 3 (by omega))
 have e4:cnt (cnI n 4) 4 9999=true:=cnt_nat (i:=4) (hb 4 (by omega))
 have e5:cnt (cnI n 5) 4 (n.cycles:Nat)=true:=cnt_nat (i:=5) fun j _=>by have:=h.busy j;simp only[Cn.l];omega
 unfold cntOk;rw[h0,e0,e1,e2,e3,e4,e5];rfl
end Go.Proofs.YtgkdoehkmbhfiaaGreat
namespace Go.Proofs.YtgkdoehkmbhfiaaGreat
open Go.RowKit
def tg (x:Nat×Value):Value:=.tuple #[.int .i64 x.1,x.2]
section
variable {P : Program} {ops : Array Oper} {C : List Value → World → Prop} {fl : List (Nat × Bool)} {bd : List (Nat × Nat)}
end
end Go.Proofs.YtgkdoehkmbhfiaaGreat
namespace Go.Proofs.YtgkdoehkmbhfiaaGreat
open Go.RowKit
structure Yl (R:Nat→Value→World→Prop) (wo:World) (lo:Nat) (v:Value) (W0 W:World):Prop where
 r:R lo v W0
 lo0:wo.heap.size≤lo
 lo1:lo≤W0.heap.size
 sz:W0.heap.size≤W.heap.size
 eq:∀b,lo≤b→b<W0.heap.size→W.heap[b]? = W0.heap[b]?
def ptr (g:Nat):Value:=.pointer (some ⟨g,0,none⟩)
def boxC (R : Nat → Value → World → Prop) (wo : World) (zero : List Value) (kc ka ks : Nat) (us : List Value) (W : World) : Prop := Below wo.heap.size wo W ∧ match us with
 |[]=>True
 |[x]=>(∃v lo W0,x=tg (kc,v)∧Yl R wo lo v W0 W)∨(∃g,x=tg (ka,ptr g)∧wo.heap.size≤g∧Bx W g zero)
 |[x,y]=>∃v lo W0 g,((x=tg (kc,v)∧y=tg (ka,ptr g))∨(x=tg (ka,ptr g)∧y=tg (kc,v)))∧Yl R wo lo v W0 W∧wo.heap.size≤g∧Bx W g zero∧(g<lo∨W0.heap.size≤g)
 |[x,y,_]=>∃cs lo W0 g,(x=tg (ka,ptr g)∨y=tg (ka,ptr g))∧Yl R wo lo (.agg ⟨cs⟩) W0 W∧wo.heap.size≤g∧Bx W g cs∧(g<lo∨W0.heap.size≤g)
 |_=>False
section
variable {R : Nat → Value → World → Prop} {wo W W' : World} {zero : List Value} {kc ka ks : Nat}
end
end Go.Proofs.YtgkdoehkmbhfiaaGreat
namespace Go.Proofs.YtgkdoehkmbhfiaaGreat
open Go.RowKit
theorem Ins.take {w:World} {B n cap m:Nat} {ao:Option Addr} {ins:List Inp} (h:Ins w B (.slice ao n cap) ins) (hm:m≤n):Ins w B (.slice ao m cap) (ins.take m):=ArrV.take h hm
theorem cells_ne {w:World} {g g' T T':Nat} {cs cs':Array Value} (h:w.heap[g]? = some (.cells cs T (0,0))) (h':w.heap[g']? = some (.cells cs' T' (0,0))) (hT:T≠T'):g≠g':=by
 intro e;subst e;rw[h]at h';simp only[Option.some.injEq,Obj.cells.injEq]at h';exact hT h'.2.1
set_option maxRecDepth 20000 in
theorem zG5 {ops : Array Oper} {rest : List Oper} {a : Act} {w : World} {Q : Exit → Act → World → Prop} (d : Option Nat) (ty : Nat) (pos : String) (aft : Array Edge) (t : Nat)
  {x0 x1 x2 x3 x4 x5 x6:Value} (hx:a.tmps.getD t undef=.agg #[x0,x1,x2,x3,x4,x5,x6]) (h1:(#[x0,x1,x2,x3,x4,x5,x6]:Array Value).all (·.oneCell')=true)
  (h:wpList Tryz.prog ops Q rest (a.put d (.slice (some ⟨w.heap.size,0,none⟩) 1 1)) (w.alloc (.cells #[x0,x1,x2,x3,x4,x5,x6] 52))) :
  wpList Tryz.prog ops Q ({ dst:=d,op:=.buildSlice 53 1 #[(0,.tmp t)],type:=ty,pos:=pos,after:=aft,guard:=none }::rest) a w:=by
 refine wpList_plain rfl fun K hK=>?_
 have h2:=hK _ _ h;obtain⟨tmps,defers⟩:=a;simp only[Array.getD_eq_getD_getElem?]at hx;go_simp;exact h2
theorem one7r (rq:Rq) (da la:Option Addr) (dn dc ln lc:Nat):∀u∈rowQ (rq,.slice da dn dc,.slice la ln lc),u.oneCell' = true:=by
 intro u hu;simp only[rowQ,List.mem_cons,List.not_mem_nil,or_false]at hu;rcases hu with rfl|rfl|rfl|rfl|rfl|rfl|rfl <;> rfl
structure BFit (ms:List MR) (lat:List Int) (pss:List (List Rq)):Prop where
 m:ms.length≤1048576
 m6:∀r∈ms,MR64 r
 l:lat.length≤1048576
 l6:∀x∈lat,I64 x
 p:pss.length≤1048576
 q:∀p∈pss,p.length≤1048576∧∀q∈p,RqFit q
theorem BFit.nil:BFit [] [] []:=⟨by simp,by simp,by simp,by simp,by simp,by simp⟩
structure RdO (w:World) (lo:Nat) (v:Value) (qs:List Rq) (vs:List (Value×Value)):Prop where
 len:vs.length=qs.length
 rows:Owns w lo 52 7 rowQ v (zipQ qs vs)
 d:∀j,j<qs.length→Owns w lo 3 1 rowI (vs.getD j default).1 (qs.getD j default).data
 l:∀j,j<qs.length→Owns w lo 3 1 rowI (vs.getD j default).2 (qs.getD j default).lanes
theorem RdO.kept {w w':World} {lo:Nat} {v:Value} {qs:List Rq} {vs:List (Value×Value)} (h:RdO w lo v qs vs) (hk:∀k,lo≤k→k<w.heap.size→w'.heap[k]? = w.heap[k]?):RdO w' lo v qs vs :=
  { h with rows := OwnR.kept h.rows fun k hk2 => hk k (OwnR.lt h.rows k hk2).1 (OwnR.lt h.rows k hk2).2
           d:=fun j hj=>OwnR.kept (h.d j hj) fun k hk2=>hk k (OwnR.lt (h.d j hj) k hk2).1 (OwnR.lt (h.d j hj) k hk2).2
           l:=fun j hj=>OwnR.kept (h.l j hj) fun k hk2=>hk k (OwnR.lt (h.l j hj) k hk2).1 (OwnR.lt (h.l j hj) k hk2).2 }
theorem RdO.below {w w':World} {lo:Nat} {v:Value} {qs:List Rq} {vs:List (Value×Value)} (h:RdO w lo v qs vs) (hb:Below w.heap.size w w'):RdO w' lo v qs vs:=h.kept fun k _ hk=>hb.block k hk
theorem RdO.rebase {w:World} {lo lo':Nat} {v:Value} {qs:List Rq} {vs:List (Value×Value)} (h:RdO w lo v qs vs) (hl:lo' ≤ lo):RdO w lo' v qs vs :=
 { h with rows:=OwnR.rebase h.rows hl,d:=fun j hj=>OwnR.rebase (h.d j hj) hl,l:=fun j hj=>OwnR.rebase (h.l j hj) hl }
theorem RdO.keptT {w w':World} {lo:Nat} {v:Value} {qs:List Rq} {vs:List (Value×Value)} (h:RdO w lo v qs vs) (hk:∀(k:Nat) (cs:Array Value) (T:TypeId),w.heap[k]? = some (Obj.cells cs T (0,0))→(T=52∨T=3)→w'.heap[k]? = w.heap[k]?):RdO w' lo v qs vs:=by
 have key:∀{α:Type} {f:α→List Value} {e sz:Nat} {u:Value} {xs:List α},Owns w lo e sz f u xs→(e=52∨e=3)→Owns w' lo e sz f u xs:=by
  intro α f e sz u xs ho he;refine OwnR.kept ho fun k hk2=>?_
  obtain⟨_,h2⟩:=ho;rcases h2 with⟨rfl,_⟩|⟨g,off,cap,cur,rfl,_,hh,_⟩
  ·simp[Value.ownBlock]at hk2
  ·simp only[Value.ownBlock,Option.some.injEq]at hk2;subst hk2;exact hk _ _ _ hh he
 exact { h with rows:=key h.rows (.inl rfl),d:=fun j hj=>key (h.d j hj) (.inr rfl),l:=fun j hj=>key (h.l j hj) (.inr rfl) }
theorem RdO.reqs {w:World} {lo:Nat} {v:Value} {qs:List Rq} {vs:List (Value×Value)} (h:RdO w lo v qs vs) (hn:qs.length≤1048576) (hq:∀q∈qs,RqFit q):Reqs w w.heap.size v qs:=by
 have hr:=h.rows;have hl1:(zipQ qs vs).length=qs.length:=zC8 h.len;have key:=reqs_of (B:=w.heap.size) (P:=(·<w.heap.size)) (hr.arrD (P:=(·<w.heap.size)) (fun k hk=>(OwnR.lt hr k hk).2) zI5 (by omega)) (fun y hy=>?_) (fun b hb=>hb)
 ·have e:(zipQ qs vs).map (·.1)=qs:=by
   unfold zipQ;rw[List.map_zipWith];apply List.ext_getElem
   ·simp[h.len]
   ·intro i h1 h2;simp
  rw[e]at key;exact key
 ·obtain⟨k,hk,rfl⟩:=List.mem_iff_getElem.1 hy;have hk':k<qs.length:=by omega
  have e:(zipQ qs vs)[k]=(qs.getD k default,vs.getD k default):=by
   rw[←zipQ_get h.len hk' zQ];simp[List.getD,hk]
  rw[e];obtain⟨⟨b1,b2⟩,i1,i2,i3⟩:=hq _ (zD2 (d:=default) hk');exact⟨(h.d k hk').intsD (fun b hb=>(OwnR.lt (h.d k hk') b hb).2) (by omega) i1,(h.l k hk').intsD (fun b hb=>(OwnR.lt (h.l k hk') b hb).2) (by omega) i2,i3⟩
theorem RdO.snoc {w w':World} {lo:Nat} {v v' d l:Value} {qs:List Rq} {vs:List (Value×Value)} {r:Rq} (h:RdO w lo v qs vs) (hr:Owns w' lo 52 7 rowQ v' (zipQ qs vs++[(r,d,l)])) (hk:∀(k:Nat) (cs:Array Value) (T:TypeId),w.heap[k]? = some (Obj.cells cs T (0,0))→T=3→w'.heap[k]? = w.heap[k]?) (hd:Owns w' lo 3 1 rowI d r.data) (hl:Owns w' lo 3 1 rowI l r.lanes):RdO w' lo v' (qs++[r]) (vs++[(d,l)]):=by
 have key:∀{u:Value} {xs:List Int},Owns w lo 3 1 rowI u xs→Owns w' lo 3 1 rowI u xs:=by
  intro u xs ho;refine OwnR.kept ho fun k hk2=>?_
  obtain⟨_,h2⟩:=ho;rcases h2 with⟨rfl,_⟩|⟨g,off,cap,cur,rfl,_,hh,_⟩
  ·simp[Value.ownBlock]at hk2
  ·simp only[Value.ownBlock,Option.some.injEq]at hk2;subst hk2;exact hk _ _ _ hh rfl
 refine⟨by simp[h.len],?_,fun j hj=>?_,fun j hj=>?_⟩
 ·have e:zipQ (qs++[r]) (vs++[(d,l)])=zipQ qs vs++[(r,d,l)]:=by
   unfold zipQ;rw[List.zipWith_append h.len.symm];rfl
  rw[e];exact hr
 ·by_cases e:j<qs.length
  ·rw[zD1 e,zD1 (by rw[h.len];exact e)];exact key (h.d j e)
  ·obtain rfl:j=qs.length:=by simp at hj;omega
   rw[zE0,←h.len,zE0];exact hd
 ·by_cases e:j<qs.length
  ·rw[zD1 e,zD1 (by rw[h.len];exact e)];exact key (h.l j e)
  ·obtain rfl:j=qs.length:=by simp at hj;omega
   rw[zE0,←h.len,zE0];exact hl
end Go.Proofs.YtgkdoehkmbhfiaaGreat
