/- copyJobs: jobs with what was told, copied. -/
import Derived.Test.YtgkdoehkmbhfiaaGreatPDo4
import Derived.Test.YtgkdoehkmbhfiaaGreatPCloneP
import Derived.Test.YtgkdoehkmbhfiaaGreatPDat
import Derived.Test.YtgkdoehkmbhfiaaGreatPE1
import Derived.Deep.MidRow
import Derived.Laws.CopyOwn
import Derived.Deep.OwnRows
import Derived.StillTailTactics
import Derived.Deep.Cut
import Derived.Deep.CutRange
import Derived.Outline
set_option linter.unusedVariables false
set_option linter.unusedSimpArgs false
set_option maxHeartbeats 16000000
namespace Go.Proofs.YtgkdoehkmbhfiaaGreat
open Go.RowKit
theorem crOk_any (w:World):Calls Tryz.prog 17 #[] w fun e w' => e=.returned (.bool true)∧w=w':=by
 go_enter Tryz.func17,Tryz.ntmps17
 go_wp2_with (first|(go_at_call 55;refine(zH0 _ _ _ _).mono ?_;rw[show adrOk 5 1 false=true by decide];rintro e w' ⟨rfl,rfl⟩))
 go_ret
 exact⟨rfl,rfl⟩
theorem crIn_any (v : Value) (xs : List Int) (n : Int) (B : Nat) (w : World) (hv : Ints w B v xs) :
  Calls Tryz.prog 15 #[v,.int .i64 n] w fun e w' => e=.returned (.bool (inLst xs n))∧w=w':=by
 obtain⟨ao,cap,rfl,hlc,hcap,hln,hni,hr⟩:=hv.opened;clear hv
 go_enter Tryz.func15,Tryz.ntmps15
 go_wp2
 go_loop [5] (fun i=>∃k:Nat,k≤xs.length∧i=.int .i64 k∧∀j,j<k→xs.getD j 0≠n) (fun i=>xs.length - (intOf i).toNat)
 case atStart=>exact⟨0,Nat.zero_le _,rfl,by simp⟩
 case round=>
  obtain⟨k,hk,rfl,hno⟩:=hrel;have HN:=hid hno;clear hno;by_cases hlt:k<xs.length
  ·obtain⟨b,off,rfl,hb,hc⟩:=hr (by omega);have hck:=hc k hlt;obtain⟨x,hx⟩:∃x,x=xs.getD k 0:=⟨_,rfl⟩
   rw[←hx]at hck;have HX:=hid hx;clear hx hc hr;by_cases hq:x=n
   ·have HF := hid (show inLst xs n = true by
     rw[inLst,decide_eq_true_eq,←hq,HX.out];simp[List.getD,hlt])
    have hq2:(x==n)=true:=by simp[hq]
    clear hq
    go_wp2
    go_ret
    exact⟨by rw[HF.out];rfl,rfl⟩
   ·have HQ:=hid (zH1 HN.out (by rw[←HX.out];exact hq));have hq2:(x==n)=false:=by simp[hq]
    clear hq
    go_wp2
    go_round
    case rel=>exact⟨k+1,by omega,by go_num,HQ.out⟩
    case measure=>simp[intOf];omega
  ·have HF := hid (show inLst xs n = false by
    rw[inLst,decide_eq_false_iff_not];intro hm;obtain⟨i,hi,e⟩:=List.mem_iff_getElem.1 hm;exact HN.out i (by omega) (by simp[List.getD,hi,e]))
   go_wp2
   go_ret
   exact⟨by rw[HF.out];rfl,rfl⟩
theorem bx1 (w:World) (o:Obj):Below w.heap.size w (w.alloc o):=(Below.refl _ _).alloc (Nat.le_refl _) _
def Rq20 (q:Rq):Prop:=q.data.length≤1048576∧q.lanes.length≤1048576
theorem at_world {P:Program} {f:FuncId} {args:Array Value} {w:World} {Q:Ending→World→Prop} (Z:World→Prop) (hZ:Z w) (h:∀W,Z W→Calls P f args W Q):Calls P f args w Q:=h w hZ
structure Bx (W:World) (H:Nat) (cs:List Value):Prop where
 c:∀j,j<cs.length→W.cell? ⟨H,j,none⟩=cs[j]?
 f:∀j,j<cs.length→W.frozen? ⟨H,j,none⟩=false
 n:0<cs.length
theorem Bx.lt {W:World} {H:Nat} {cs:List Value} (h:Bx W H cs):H<W.heap.size:=by
 have h0:=h.c 0 h.n;have hn:=h.n;rw[List.getElem?_eq_getElem hn]at h0;exact World.block_lt_of_cell? W _ h0
theorem Bx.kept {W W':World} {H:Nat} {cs:List Value} (h:Bx W H cs) (hk:W'.heap[H]? = W.heap[H]?):Bx W' H cs :=
 ⟨fun j hj=>by rw[←h.c j hj];simp only[World.cell?,hk],fun j hj=>by rw[←h.f j hj];simp only[World.frozen?,hk],h.n⟩
theorem Bx.below {W W':World} {H C:Nat} {cs:List Value} (h:Bx W H cs) (hb:Below C W W') (hH:H<C):Bx W' H cs:=h.kept (hb.block H hH)
theorem Bx.set {W:World} {H:Nat} {cs:List Value} (h:Bx W H cs) (j:Nat) (hj:j<cs.length) (u:Value):Bx (W.setCell ⟨H,j,none⟩ u) H (cs.set j u):=by
 refine⟨fun i hi=>?_,fun i hi=>?_,by simpa using h.n⟩
 ·have hi':i<cs.length:=by simpa using hi
  have hci:=h.c i hi';by_cases hij:i=j
  ·subst hij;rw[List.getElem?_set_self hj];have hs:(W.cell? ⟨H,i,none⟩).isSome:=by rw[hci];simp[hj]
   simp[go_sem,hs]
  ·rw[List.getElem?_set_ne (Ne.symm hij),←hci];simp[go_sem,hij,Ne.symm hij]
 ·have:=h.f i (by simpa using hi);simpa[go_sem]using this
theorem Bx.new (w:World) (cs:Array Value) (T:TypeId) (hn:0<cs.size):Bx (w.alloc (.cells cs T)) w.heap.size cs.toList :=
 ⟨fun j hj=>by rw[World.cell?_alloc_at _ _ _ _ rfl];simp,fun j hj=>by simp[go_sem],by simpa using hn⟩
theorem Bx.one {W:World} {H:Nat} {a:Value} (h:Bx W H [a]):W.cell? ⟨H,0,none⟩=some a∧W.frozen? ⟨H,0,none⟩=false:=⟨h.c 0 (by simp),h.f 0 (by simp)⟩
theorem Bx.two {W:World} {H:Nat} {a b:Value} (h:Bx W H [a,b]):(W.cell? ⟨H,0,none⟩=some a∧W.cell? ⟨H,1,none⟩=some b)∧W.frozen? ⟨H,0,none⟩=false∧W.frozen? ⟨H,1,none⟩=false :=
 ⟨⟨h.c 0 (by simp),h.c 1 (by simp)⟩,h.f 0 (by simp),h.f 1 (by simp)⟩
theorem Bx.three {W:World} {H:Nat} {a b c:Value} (h:Bx W H [a,b,c]):(W.cell? ⟨H,0,none⟩=some a∧W.cell? ⟨H,1,none⟩=some b∧W.cell? ⟨H,2,none⟩=some c)∧W.frozen? ⟨H,0,none⟩=false∧W.frozen? ⟨H,1,none⟩=false∧W.frozen? ⟨H,2,none⟩=false :=
 ⟨⟨h.c 0 (by simp),h.c 1 (by simp),h.c 2 (by simp)⟩,h.f 0 (by simp),h.f 1 (by simp),h.f 2 (by simp)⟩
theorem Bx.seven {W : World} {H : Nat} {a b c d e f g : Value} (h : Bx W H [a, b, c, d, e, f, g]) :
  (W.cell? ⟨H,0,none⟩=some a∧W.cell? ⟨H,1,none⟩=some b∧W.cell? ⟨H,2,none⟩=some c∧W.cell? ⟨H,3,none⟩=some d∧W.cell? ⟨H,4,none⟩=some e∧W.cell? ⟨H,5,none⟩=some f∧W.cell? ⟨H,6,none⟩=some g) ∧
  W.frozen? ⟨H,0,none⟩=false∧W.frozen? ⟨H,1,none⟩=false∧W.frozen? ⟨H,2,none⟩=false∧W.frozen? ⟨H,3,none⟩=false∧W.frozen? ⟨H,4,none⟩=false∧W.frozen? ⟨H,5,none⟩=false∧W.frozen? ⟨H,6,none⟩=false :=
 ⟨⟨h.c 0 (by simp),h.c 1 (by simp),h.c 2 (by simp),h.c 3 (by simp),h.c 4 (by simp),h.c 5 (by simp),h.c 6 (by simp)⟩,h.f 0 (by simp),h.f 1 (by simp),h.f 2 (by simp),h.f 3 (by simp),h.f 4 (by simp),h.f 5 (by simp),h.f 6 (by simp)⟩
theorem rowM4 (r:MR):(rowM r).length=4:=rfl
theorem Owns.maps {w:World} {base:Nat} {v:Value} {ms:List MR} (h:Owns w base 144 4 rowM v ms) (hn:ms.length≤1048576) (hx:∀r∈ms,MR64 r):Maps w w.heap.size v ms:=⟨h.arr rowM4 (by omega),hx⟩
theorem mul16 (w:World):Calls Tryz.prog 116 #[.int .u64 1,.int .u64 6] w fun e w' => e=.returned (.tuple #[.int .u64 0,.int .u64 6])∧w=w':=by
 go_enter Tryz.func116,Tryz.ntmps116
 go_wp2
 refine bodyPost_ret (v:=.tuple #[.int .u64 0,.int .u64 6]) (by simp[results,Tryz.results116];first|rfl|decide|exact⟨by rfl,by rfl⟩) rfl ⟨rfl,rfl⟩
def repC (x:Int) (n:Nat):List Value:=List.replicate n (.int .i64 x)++List.replicate (6 - n) (.int .i64 0)
theorem repC_len (x:Int) {n:Nat} (h:n≤6):(repC x n).length=6:=by simp[repC];omega
theorem one_of {cs:List Value} (h:∀v∈cs,∃k:Int,v=.int .i64 k):∀v∈cs,v.oneCell' = true:=fun v hv=>by obtain⟨k,rfl⟩:=h v hv;rfl
def RepP (x:Int) (w:World) (e:Ending) (w':World):Prop:=e=.returned (.slice (some ⟨w.heap.size,0,none⟩) 6 6)∧Owns w' w.heap.size 3 1 rowI (.slice (some ⟨w.heap.size,0,none⟩) 6 6) (List.replicate 6 x)∧Below w.heap.size w w'
theorem infoIs:(Tryz.prog.info? 3).map (·.size)=some 1:=by kernel_rfl
theorem rep_src {w:World} {g n:Nat} {x:Int} (hh:w.heap[g]? = some (.cells (repC x n).toArray 3 (0,0))) (cs:List Value) (hcs:∀(j:Nat) (v:Value),cs[j]? = some v→(repC x n)[j]? = some v):∀(j:Nat) (v:Value),cs[j]? = some v→w.cell? ((⟨g,0,none⟩:Addr).add j)=some v:=fun j v hv=>by
 rw[Addr.add_lit,Nat.zero_add];simp only[World.cell?,hh];simpa using hcs j v hv
def repM (n:Nat):Nat:=if n=1 then 1 else 2
theorem zE8 (g : Nat) : ∀ (cs : List Value) (w : World) (o : Nat), Touch g w (w.setCells g o cs)
 |[],w,_=>Touch.refl g w
 |c::cs,w,o=>(Touch.setCell g o w c).trans (zE8 g cs _ (o+1))
theorem rep_copy {w : World} {g n : Nat} {x : Int} (hn : n = 1 ∨ n = 2 ∨ n = 4) (hh : w.heap[g]? = some (.cells (repC x n).toArray 3 (0, 0))) :
  ∃w2,(∀ty,(Builtin.copy_ #[24,24] ty #[.slice (some ⟨g,n,none⟩) (6 - n) (6 - n),.slice (some ⟨g,0,none⟩) n 6]).run Tryz.prog w=.ok (goInt (repM n)) w2)∧w2.heap[g]? = some (.cells (repC x (n+repM n)).toArray 3 (0,0))∧Touch g w w2:=by
 have hc:∀j,j<6→(w.cell? ⟨g,j,none⟩).isSome=true:=fun j hj=>by
  simp only[World.cell?,hh];have:j<(repC x n).length:=by rw[repC_len x (by omega)];exact hj
  simp[this]
 have hf:∀j,w.frozen? ⟨g,j,none⟩=false:=fun j=>by simp only[World.frozen?,hh];simp
 have key:∀(m:Nat),m≤n→n+m≤6→m=Nat.min n (6 - n)→repM n=m→∃w2,(∀ty,(Builtin.copy_ #[24,24] ty #[.slice (some ⟨g,n,none⟩) (6 - n) (6 - n),.slice (some ⟨g,0,none⟩) n 6]).run Tryz.prog w=.ok (goInt (repM n)) w2)∧w2=w.setCells g n (List.replicate m (.int .i64 x)):=fun m h1 h2 h3 h4=>by
  refine⟨_,fun ty=>?_,rfl⟩
  have := run_copy_cells (P := Tryz.prog) w 24 24 ty 3 g n (6 - n) (6 - n) ⟨g, 0, none⟩ n 6 (List.replicate m (.int .i64 x)) Tryz.underlying24 infoIs (by simpa using h3) (rep_src hh _ (fun j v hv => by
   have hj:=(List.getElem?_eq_some_iff.1 hv).1;simp only[List.length_replicate]at hj;rw[←hv];simp only[repC];rw[List.getElem?_append_left (by simp;omega)];simp[List.getElem?_replicate,hj,show j<n by omega])) (fun j hj=>by simp only[List.length_replicate]at hj;exact hc _ (by omega)) (fun j _=>hf _) (one_of (by intro v hv;exact⟨x,(List.mem_replicate.1 hv).2⟩))
  rw[h4];simpa using this
 rcases hn with rfl|rfl|rfl
 ·obtain⟨w2,h1,h2⟩:=key 1 (by omega) (by omega) (by decide) rfl;refine⟨w2,h1,?_,by rw[h2];exact zE8 _ _ _ _⟩;rw[h2];show(w.setCell ⟨g,1,none⟩ _).heap[g]? = _;simp only[World.setCell,Array.getElem?_modify,hh]
  rfl
 ·obtain⟨w2,h1,h2⟩:=key 2 (by omega) (by omega) (by decide) rfl;refine⟨w2,h1,?_,by rw[h2];exact zE8 _ _ _ _⟩;rw[h2];show((w.setCell ⟨g,2,none⟩ _).setCell ⟨g,3,none⟩ _).heap[g]? = _;simp only[World.setCell,Array.getElem?_modify,hh]
  rfl
 ·obtain⟨w2,h1,h2⟩:=key 2 (by omega) (by omega) (by decide) rfl;refine⟨w2,h1,?_,by rw[h2];exact zE8 _ _ _ _⟩;rw[h2];show((w.setCell ⟨g,4,none⟩ _).setCell ⟨g,5,none⟩ _).heap[g]? = _;simp only[World.setCell,Array.getElem?_modify,hh]
  rfl
theorem sgy {l:Array Bool} {i j:Nat} (h:i≠j):(l.setIfInBounds i true).getD j false=l.getD j false:=Go.getD_set_ne false h
theorem sgiy {l:Array Bool} {i:Nat} (h:l.getD i true=false):(l.setIfInBounds i true).getD i false=true:=by
 have hlt:i<l.size:=by
  rcases Nat.lt_or_ge i l.size with h1|h1
  ·exact h1
  ·simp[Array.getElem?_eq_none h1]at h
 simp[hlt]
theorem zB2 {P : Program} {ops : Array Oper} {Q : Exit → Act → World → Prop} {i : Nat} {o : Oper} {I : Act → World → Prop} {a : Act} {w : World} (ho : ops[i]? = some o) (hg : o.guard = none)
  (h:∀K:Act→World→Prop,(∀a' w', I a' w' → K a' w')→o.wp P a w K Q):wpOp P ops Q i I a w:=wpOp_wp ho hg (h _ fun _ _ h=>h)
def ClosedY (ops:Array Oper) (listed:Array Bool):Prop:=∀i o,ops[i]? = some o→listed.getD i false=true→∀e∈o.after,Region.binds .any e=true→listed.getD e.on false=true
theorem zF5 {P : Program} {ops : Array Oper} {Q : Exit → Act → World → Prop} {id : Nat} {a : Act} {w : World} (I : Array Bool → Act → World → Prop) (hm : P.follows .mixedOrders = true) (hb : backB .any ops = true)
  (start:I (Array.replicate ops.size false) a { w with drawn:=w.drawn+1 })
  (step:∀listed a w i o,I listed a w→listed.size=ops.size→ops[i]? = some o→listed.getD i true=false→(∀e∈o.after,Region.binds .any e=true→listed.getD e.on false=true)→ClosedY ops listed→wpOp P ops Q i (fun a' w' => I (listed.setIfInBounds i true) a' w') a w)
  (done:∀listed a w,I listed a w→(∀i,i<ops.size→listed.getD i false=true)→Q .normal a w):(Code.region id ops true).wp P Q a w:=by
 refine zK2 (fun listed a w=>ClosedY ops listed∧I listed a w) hm hb ⟨fun i o _ hl=>?_,start⟩ ?_ (fun listed a w h hd=>done listed a w h.2 hd)
 ·rw[getD_replicate_false]at hl;cases hl
 ·rintro listed a w i o ⟨hc,hI⟩ hs ho hl he;refine wpOp_mono (fun a' w' h' => ⟨?_,h'⟩) (step listed a w i o hI hs ho hl he hc);intro j o' ho' hj e hem heb;have hset:∀k,listed.getD k false=true→(listed.setIfInBounds i true).getD k false=true:=fun k hk=>by
   by_cases hik:i=k
   ·subst hik;exact sgiy hl
   ·rw[sgy hik];exact hk
  by_cases hij:i=j
  ·subst hij;rw[ho]at ho';obtain rfl:=Option.some.inj ho';exact hset _ (he e hem heb)
  ·rw[sgy hij]at hj;exact hset _ (hc j o' ho' hj e hem heb)
theorem cy {l:Array Bool} {i j:Nat} {b:Bool} {P:Prop} (F:l.getD j false=b→P) (h:Nat.beq i j=false):(l.setIfInBounds i true).getD j false=b→P:=fun hj=>F (by rwa [sgy (Nat.ne_of_beq_eq_false h)]at hj)
theorem cyu {l:Array Bool} {i j k:Nat} {P:Prop} (F:l.getD j false=true→l.getD k false=false→P) (h:Nat.beq i j=false) (h2:Nat.beq i k=false):(l.setIfInBounds i true).getD j false=true→(l.setIfInBounds i true).getD k false=false→P :=
 fun hj hk=>F (by rwa [sgy (Nat.ne_of_beq_eq_false h)]at hj) (by rwa [sgy (Nat.ne_of_beq_eq_false h2)]at hk)
end Go.Proofs.YtgkdoehkmbhfiaaGreat
namespace Go.Proofs.YtgkdoehkmbhfiaaGreat
open Go.RowKit
attribute [local go_sem ↓] Go.wp_at_zero Go.wp_at_succ
theorem four {g n:Nat} (h:g+3<n):g<n∧g+1<n∧g+1+1<n∧g+1+1+1<n:=by omega
theorem Touch2.drewd {a b:Nat} {w w':World} (h:Touch2 a b w w'):Touch2 a b w w'.drew:=h.trans ⟨rfl,rfl,rfl,Nat.le_refl _,fun _ _ _ _=>rfl⟩
theorem Touch2.allocd {a b:Nat} {w w':World} (h:Touch2 a b w w') (o:Obj):Touch2 a b w (w'.alloc o):=h.trans (Touch2.of_below ((Below.refl _ _).alloc (Nat.le_refl _) o) (Nat.le_refl _))
theorem Touch2.bel {a b:Nat} {w w' w'':World} (h:Touch2 a b w w') (hb:Below w'.heap.size w' w''):Touch2 a b w w'':=h.trans (Touch2.of_below hb (Nat.le_refl _))
end Go.Proofs.YtgkdoehkmbhfiaaGreat
namespace Go.Proofs.YtgkdoehkmbhfiaaGreat
open Go.RowKit
theorem sgx {l:Array Bool} {i j:Nat} (h:i≠j):(l.setIfInBounds i true).getD j false=l.getD j false:=Go.getD_set_ne false h
theorem sgix {l:Array Bool} {i:Nat} (h:l.getD i true=false):(l.setIfInBounds i true).getD i false=true:=by
 have hlt:i<l.size:=by
  rcases Nat.lt_or_ge i l.size with h1|h1
  ·exact h1
  ·simp[Array.getElem?_eq_none h1]at h
 simp[hlt]
theorem zA3 {P : Program} {ops : Array Oper} {Q : Exit → Act → World → Prop} {i : Nat} {o : Oper} {I : Act → World → Prop} {a : Act} {w : World} (ho : ops[i]? = some o) (hg : o.guard = none)
  (h:∀K:Act→World→Prop,(∀a' w', I a' w' → K a' w')→o.wp P a w K Q):wpOp P ops Q i I a w:=wpOp_wp ho hg (h _ fun _ _ h=>h)
def Closed (ops:Array Oper) (listed:Array Bool):Prop:=∀i o,ops[i]? = some o→listed.getD i false=true→∀e∈o.after,Region.binds .any e=true→listed.getD e.on false=true
theorem zF6 {P : Program} {ops : Array Oper} {Q : Exit → Act → World → Prop} {id : Nat} {a : Act} {w : World} (I : Array Bool → Act → World → Prop) (hm : P.follows .mixedOrders = true) (hb : backB .any ops = true)
  (start:I (Array.replicate ops.size false) a { w with drawn:=w.drawn+1 })
  (step:∀listed a w i o,I listed a w→listed.size=ops.size→ops[i]? = some o→listed.getD i true=false→(∀e∈o.after,Region.binds .any e=true→listed.getD e.on false=true)→Closed ops listed→wpOp P ops Q i (fun a' w' => I (listed.setIfInBounds i true) a' w') a w)
  (done:∀listed a w,I listed a w→(∀i,i<ops.size→listed.getD i false=true)→Q .normal a w):(Code.region id ops true).wp P Q a w:=by
 refine zK2 (fun listed a w=>Closed ops listed∧I listed a w) hm hb ⟨fun i o _ hl=>?_,start⟩ ?_ (fun listed a w h hd=>done listed a w h.2 hd)
 ·rw[getD_replicate_false]at hl;cases hl
 ·rintro listed a w i o ⟨hc,hI⟩ hs ho hl he;refine wpOp_mono (fun a' w' h' => ⟨?_,h'⟩) (step listed a w i o hI hs ho hl he hc);intro j o' ho' hj e hem heb;have hset:∀k,listed.getD k false=true→(listed.setIfInBounds i true).getD k false=true:=fun k hk=>by
   by_cases hik:i=k
   ·subst hik;exact sgix hl
   ·rw[sgx hik];exact hk
  by_cases hij:i=j
  ·subst hij;rw[ho]at ho';obtain rfl:=Option.some.inj ho';exact hset _ (he e hem heb)
  ·rw[sgx hij]at hj;exact hset _ (hc j o' ho' hj e hem heb)
theorem heap_lt {w:World} {r:Nat} {o:Obj} (h:w.heap[r]? = some o):r<w.heap.size:=by
 rcases Nat.lt_or_ge r w.heap.size with h1|h1
 ·exact h1
 ·rw[Array.getElem?_eq_none h1]at h;simp at h
theorem Owns.touchN {w w':World} {base g:Nat} {v:Value} {xs:List Int} (h:Owns w base 3 1 rowI v xs) (ht:Touch g w w') (hg:∀k,v.ownBlock=some k→k≠g):Owns w' base 3 1 rowI v xs :=
 OwnR.kept h fun k hk=>ht.block k (OwnR.lt h k hk).2 (hg k hk)
theorem Below.touchN {B x:Nat} {a w w':World} (h:Below B a w) (ht:Touch x w w') (hx:B≤x) (hB:B≤a.heap.size):Below B a w':=h.trans (ht.below hx (Nat.le_trans hB h.size))
end Go.Proofs.YtgkdoehkmbhfiaaGreat
namespace Go.Proofs.YtgkdoehkmbhfiaaGreat
open Go.RowKit
attribute [local go_sem ↓] Go.wp_at_zero Go.wp_at_succ
def zI6 (n : Nat) : Code → Option Code
 | .region id ops d=>if id=n then some (.region id ops d) else none
 | .seq a b => match zI6 n a with
  |some c=>some c
  |none=>zI6 n b
 | .loop c=>zI6 n c
 | .block _ c=>zI6 n c
 | .scope c=>zI6 n c
 | .cond _ a b => match zI6 n a with
  |some c=>some c
  |none=>zI6 n b
 |_=>none
def rpA (i0 i1 i2 i3 i4 i5 i6 i9 i10 i11 i12 i13 i14 i15 i16 i17 i18 i19 i20 i21 i22 i23 i24 i25 i26 i27 i28 i29 i30 i31 i32 i33 i34 i35 i36 i37 i47:Value) (g n:Nat) (u8 u38 u39 u40 u41 u42 u43 u44 u45 u46:Value):Act:={ tmps:=#[i0,i1,i2,i3,i4,i5,i6,.slice (some ⟨g,0,none⟩) 6 6,u8,i9,i10,i11,i12,i13,i14,i15,i16,i17,i18,i19,i20,i21,i22,i23,i24,i25,i26,i27,i28,i29,i30,i31,i32,i33,i34,i35,i36,i37,u38,u39,u40,u41,u42,u43,u44,u45,u46,i47],defers:=[] }
def rpI (i0 i1 i2 i3 i4 i5 i6 i9 i10 i11 i12 i13 i14 i15 i16 i17 i18 i19 i20 i21 i22 i23 i24 i25 i26 i27 i28 i29 i30 i31 i32 i33 i34 i35 i36 i37 i47:Value) (g n:Nat) (x:Int) (w0 wq:World) (listed:Array Bool) (a:Act) (w':World):Prop :=
 ∃ u8 u38 u39 u40 u41 u42 u43 u44 u45 u46 : Value, a = rpA i0 i1 i2 i3 i4 i5 i6 i9 i10 i11 i12 i13 i14 i15 i16 i17 i18 i19 i20 i21 i22 i23 i24 i25 i26 i27 i28 i29 i30 i31 i32 i33 i34 i35 i36 i37 i47 g n u8 u38 u39 u40 u41 u42 u43 u44 u45 u46 ∧
   (listed.getD 0 false=true→u38=.int .i64 (n:Nat)) ∧
   (listed.getD 1 false=true→u39=.slice (some ⟨g,0,none⟩) 6 6) ∧
   (listed.getD 2 false=true→u40=.int .i64 (n:Nat)) ∧
   (listed.getD 3 false=true→u41=.slice (some ⟨g,n,none⟩) (6 - n) (6 - n)) ∧
   (listed.getD 4 false=true→u42=.slice (some ⟨g,0,none⟩) 6 6) ∧
   (listed.getD 5 false=true→u43=.int .i64 (n:Nat)) ∧
   (listed.getD 6 false=true→u44=.slice (some ⟨g,0,none⟩) n 6) ∧
   (listed.getD 7 false=true→u45=.int .i64 ((repM n:Nat):Int)∧w'.heap[g]? = some (.cells (repC x (n+repM n)).toArray 3 (0,0))) ∧
   (listed.getD 8 false=true→u46=.int .i64 ((n+repM n:Nat):Int)) ∧
   (listed.getD 9 false=true→u8=.int .i64 ((n+repM n:Nat):Int)) ∧
   (listed.getD 9 false=false→u8=.int .i64 (n:Nat)) ∧
   (listed.getD 7 false=false→w'.heap[g]? = some (.cells (repC x n).toArray 3 (0,0))) ∧
   Below w0.heap.size w0 w'
noncomputable def rpCode:Code:=(Tryz.f69.body.bind (zI6 9)).getD .skip
set_option maxRecDepth 100000 in
theorem rp_region (i0 i1 i2 i3 i4 i5 i6 i9 i10 i11 i12 i13 i14 i15 i16 i17 i18 i19 i20 i21 i22 i23 i24 i25 i26 i27 i28 i29 i30 i31 i32 i33 i34 i35 i36 i37 i47 j38 j39 j40 j41 j42 j43 j44 j45 j46 : Value) (g n : Nat) (x : Int) (w0 wq : World) (hn : n = 1 ∨ n = 2 ∨ n = 4) (hG : wq.heap[g]? = some (.cells (repC x n).toArray 3 (0, 0))) (hB : Below w0.heap.size w0 wq) (hHg : w0.heap.size ≤ g)
  {Q:Exit→Act→World→Prop}
  (hK:∀(u8 u38 u39 u40 u41 u42 u43 u44 u45 u46:Value) w', u8=.int .i64 ((n+repM n:Nat):Int)∧w'.heap[g]? = some (.cells (repC x (n+repM n)).toArray 3 (0,0))∧Below w0.heap.size w0 w' → Q .normal (rpA i0 i1 i2 i3 i4 i5 i6 i9 i10 i11 i12 i13 i14 i15 i16 i17 i18 i19 i20 i21 i22 i23 i24 i25 i26 i27 i28 i29 i30 i31 i32 i33 i34 i35 i36 i37 i47 g n u8 u38 u39 u40 u41 u42 u43 u44 u45 u46) w'):rpCode.wp Tryz.prog Q (rpA i0 i1 i2 i3 i4 i5 i6 i9 i10 i11 i12 i13 i14 i15 i16 i17 i18 i19 i20 i21 i22 i23 i24 i25 i26 i27 i28 i29 i30 i31 i32 i33 i34 i35 i36 i37 i47 g n (.int .i64 (n:Nat)) j38 j39 j40 j41 j42 j43 j44 j45 j46) wq:=by
 conv=>arg 2;whnf
 refine zF6 (rpI i0 i1 i2 i3 i4 i5 i6 i9 i10 i11 i12 i13 i14 i15 i16 i17 i18 i19 i20 i21 i22 i23 i24 i25 i26 i27 i28 i29 i30 i31 i32 i33 i34 i35 i36 i37 i47 g n x w0 wq) (by kernel_rfl) (by kernel_rfl) ?_ ?_ ?_
 ·exact⟨_,_,_,_,_,_,_,_,_,_,rfl,(fun h=>absurd h (by rw[getD_replicate_false];simp)),(fun h=>absurd h (by rw[getD_replicate_false];simp)),(fun h=>absurd h (by rw[getD_replicate_false];simp)),(fun h=>absurd h (by rw[getD_replicate_false];simp)),(fun h=>absurd h (by rw[getD_replicate_false];simp)),(fun h=>absurd h (by rw[getD_replicate_false];simp)),(fun h=>absurd h (by rw[getD_replicate_false];simp)),(fun h=>absurd h (by rw[getD_replicate_false];simp)),(fun h=>absurd h (by rw[getD_replicate_false];simp)),(fun h=>absurd h (by rw[getD_replicate_false];simp)),(fun _=>rfl),(fun _=>hG),hB.drew⟩
 ·intro listed a w' i o hI hsz ho hl he hcl;have hi:i<10:=(Array.getElem?_eq_some_iff.1 ho).1;have e:i=0∨i=1∨i=2∨i=3∨i=4∨i=5∨i=6∨i=7∨i=8∨i=9:=by omega
  clear hi;rcases e with rfl|rfl|rfl|rfl|rfl|rfl|rfl|rfl|rfl|rfl
  all_goals (have ho2:=ho;obtain rfl:=Option.some.inj ho2.symm;clear ho2)
  ·as_aux_lemma=>
    obtain⟨u8,u38,u39,u40,u41,u42,u43,u44,u45,u46,rfl,F0,F1,F2,F3,F4,F5,F6,F7,F8,F9,N9,N7,hx⟩:=hI
    have e9 : u8 = .int .i64 n := N9 (by
     rcases hq:listed.getD 9 false with _|_
     ·rfl
     ·exact absurd (hcl 9 _ rfl hq ⟨0,.phase⟩ (by simp) rfl) (by rw[getD_both hl];simp))
    subst e9;refine zA3 ho rfl (fun K hK=>?_);unfold rpA;go_simp;exact hK _ _ ⟨_,_,_,_,_,_,_,_,_,_,rfl,fun _=>rfl,cy F1 rfl,cy F2 rfl,cy F3 rfl,cy F4 rfl,cy F5 rfl,cy F6 rfl,cy F7 rfl,cy F8 rfl,cy F9 rfl,cy N9 rfl,cy N7 rfl,hx⟩
  ·as_aux_lemma=>
    obtain⟨u8,u38,u39,u40,u41,u42,u43,u44,u45,u46,rfl,F0,F1,F2,F3,F4,F5,F6,F7,F8,F9,N9,N7,hx⟩:=hI;refine zA3 ho rfl (fun K hK=>?_);unfold rpA;go_simp;exact hK _ _ ⟨_,_,_,_,_,_,_,_,_,_,rfl,cy F0 rfl,fun _=>rfl,cy F2 rfl,cy F3 rfl,cy F4 rfl,cy F5 rfl,cy F6 rfl,cy F7 rfl,cy F8 rfl,cy F9 rfl,cy N9 rfl,cy N7 rfl,hx⟩
  ·as_aux_lemma=>
    obtain⟨u8,u38,u39,u40,u41,u42,u43,u44,u45,u46,rfl,F0,F1,F2,F3,F4,F5,F6,F7,F8,F9,N9,N7,hx⟩:=hI
    have e9 : u8 = .int .i64 n := N9 (by
     rcases hq:listed.getD 9 false with _|_
     ·rfl
     ·exact absurd (hcl 9 _ rfl hq ⟨2,.phase⟩ (by simp) rfl) (by rw[getD_both hl];simp))
    subst e9;refine zA3 ho rfl (fun K hK=>?_);unfold rpA;go_simp;exact hK _ _ ⟨_,_,_,_,_,_,_,_,_,_,rfl,cy F0 rfl,cy F1 rfl,fun _=>rfl,cy F3 rfl,cy F4 rfl,cy F5 rfl,cy F6 rfl,cy F7 rfl,cy F8 rfl,cy F9 rfl,cy N9 rfl,cy N7 rfl,hx⟩
  ·as_aux_lemma=>
    obtain⟨u8,u38,u39,u40,u41,u42,u43,u44,u45,u46,rfl,F0,F1,F2,F3,F4,F5,F6,F7,F8,F9,N9,N7,hx⟩:=hI;have l1:=he ⟨1,.data⟩ (by simp) rfl;have l2:=he ⟨2,.data⟩ (by simp) rfl;have e:=F1 l1;subst e;have e:=F2 l2;subst e;have h1:n≤6:=by omega
    have h2:¬6=n:=by omega
    refine zA3 ho rfl (fun K hK=>?_);unfold rpA;rcases hn with rfl|rfl|rfl
    all_goals
     go_simp;exact hK _ _ ⟨_,_,_,_,_,_,_,_,_,_,rfl,cy F0 rfl,cy F1 rfl,cy F2 rfl,fun _=>rfl,cy F4 rfl,cy F5 rfl,cy F6 rfl,cy F7 rfl,cy F8 rfl,cy F9 rfl,cy N9 rfl,cy N7 rfl,hx⟩
  ·as_aux_lemma=>
    obtain⟨u8,u38,u39,u40,u41,u42,u43,u44,u45,u46,rfl,F0,F1,F2,F3,F4,F5,F6,F7,F8,F9,N9,N7,hx⟩:=hI;refine zA3 ho rfl (fun K hK=>?_);unfold rpA;go_simp;exact hK _ _ ⟨_,_,_,_,_,_,_,_,_,_,rfl,cy F0 rfl,cy F1 rfl,cy F2 rfl,cy F3 rfl,fun _=>rfl,cy F5 rfl,cy F6 rfl,cy F7 rfl,cy F8 rfl,cy F9 rfl,cy N9 rfl,cy N7 rfl,hx⟩
  ·as_aux_lemma=>
    obtain⟨u8,u38,u39,u40,u41,u42,u43,u44,u45,u46,rfl,F0,F1,F2,F3,F4,F5,F6,F7,F8,F9,N9,N7,hx⟩:=hI
    have e9 : u8 = .int .i64 n := N9 (by
     rcases hq:listed.getD 9 false with _|_
     ·rfl
     ·exact absurd (hcl 9 _ rfl hq ⟨5,.phase⟩ (by simp) rfl) (by rw[getD_both hl];simp))
    subst e9;refine zA3 ho rfl (fun K hK=>?_);unfold rpA;go_simp;exact hK _ _ ⟨_,_,_,_,_,_,_,_,_,_,rfl,cy F0 rfl,cy F1 rfl,cy F2 rfl,cy F3 rfl,cy F4 rfl,fun _=>rfl,cy F6 rfl,cy F7 rfl,cy F8 rfl,cy F9 rfl,cy N9 rfl,cy N7 rfl,hx⟩
  ·as_aux_lemma=>
    obtain⟨u8,u38,u39,u40,u41,u42,u43,u44,u45,u46,rfl,F0,F1,F2,F3,F4,F5,F6,F7,F8,F9,N9,N7,hx⟩:=hI;have l4:=he ⟨4,.data⟩ (by simp) rfl;have l5:=he ⟨5,.data⟩ (by simp) rfl;have e:=F4 l4;subst e;have e:=F5 l5;subst e;have h1:n≤6:=by omega
    refine zA3 ho rfl (fun K hK=>?_);unfold rpA;rcases hn with rfl|rfl|rfl
    all_goals
     go_simp;exact hK _ _ ⟨_,_,_,_,_,_,_,_,_,_,rfl,cy F0 rfl,cy F1 rfl,cy F2 rfl,cy F3 rfl,cy F4 rfl,cy F5 rfl,fun _=>rfl,cy F7 rfl,cy F8 rfl,cy F9 rfl,cy N9 rfl,cy N7 rfl,hx⟩
  ·as_aux_lemma=>
    obtain⟨u8,u38,u39,u40,u41,u42,u43,u44,u45,u46,rfl,F0,F1,F2,F3,F4,F5,F6,F7,F8,F9,N9,N7,hx⟩:=hI;have l3:=he ⟨3,.data⟩ (by simp) rfl;have l6:=he ⟨6,.data⟩ (by simp) rfl;have e:=F3 l3;subst e;have e:=F6 l6;subst e;obtain⟨w2,hcp,hg2,ht2⟩:=rep_copy hn (N7 (getD_both hl));have HG2:=hid hg2;have HT2:=hid ht2;clear hg2 ht2;refine zA3 ho rfl (fun K hK=>?_);unfold rpA;go_simp;exact hK _ _ ⟨_,_,_,_,_,_,_,_,_,_,rfl,cy F0 rfl,cy F1 rfl,cy F2 rfl,cy F3 rfl,cy F4 rfl,cy F5 rfl,cy F6 rfl,fun _=>⟨rfl,HG2.out⟩,cy F8 rfl,cy F9 rfl,cy N9 rfl,fun hj=>absurd hj (by rw[sgix hl];simp),hx.trans (HT2.out.below hHg hx.size)⟩
  ·as_aux_lemma=>
    obtain⟨u8,u38,u39,u40,u41,u42,u43,u44,u45,u46,rfl,F0,F1,F2,F3,F4,F5,F6,F7,F8,F9,N9,N7,hx⟩:=hI;have l0:=he ⟨0,.data⟩ (by simp) rfl;have l7:=he ⟨7,.data⟩ (by simp) rfl;have e:=F0 l0;subst e;obtain⟨e,hg7⟩:=F7 l7;subst e;have HG7:=hid hg7;clear hg7;have hm:repM n≤2:=by unfold repM;split <;> omega
    have h1:n≤6:=by omega
    refine zA3 ho rfl (fun K hK=>?_);unfold rpA;go_simp;exact hK _ _ ⟨_,_,_,_,_,_,_,_,_,_,rfl,cy F0 rfl,cy F1 rfl,cy F2 rfl,cy F3 rfl,cy F4 rfl,cy F5 rfl,cy F6 rfl,fun hj=>⟨rfl,HG7.out⟩,fun _=>(by rcases hn with rfl|rfl|rfl <;> rfl),cy F9 rfl,cy N9 rfl,cy N7 rfl,hx⟩
  ·as_aux_lemma=>
    obtain⟨u8,u38,u39,u40,u41,u42,u43,u44,u45,u46,rfl,F0,F1,F2,F3,F4,F5,F6,F7,F8,F9,N9,N7,hx⟩:=hI;have l8:=he ⟨8,.data⟩ (by simp) rfl;have e:=F8 l8;subst e;refine zA3 ho rfl (fun K hK=>?_);unfold rpA;go_simp;exact hK _ _ ⟨_,_,_,_,_,_,_,_,_,_,rfl,cy F0 rfl,cy F1 rfl,cy F2 rfl,cy F3 rfl,cy F4 rfl,cy F5 rfl,cy F6 rfl,cy F7 rfl,cy F8 rfl,fun _=>rfl,fun hj=>absurd hj (by rw[sgix hl];simp),cy N7 rfl,hx⟩
 ·intro listed a w' hI hd;obtain⟨u8,u38,u39,u40,u41,u42,u43,u44,u45,u46,rfl,F0,F1,F2,F3,F4,F5,F6,F7,F8,F9,N9,N7,hx⟩:=hI;obtain⟨e7,hg7⟩:=F7 (hd 7 (by show 7<10;omega));have e9:=F9 (hd 9 (by show 9<10;omega));exact hK _ _ _ _ _ _ _ _ _ _ w' ⟨e9,hg7,hx⟩
set_option maxRecDepth 4000 in
theorem repeat6_any (x : Int) (b o : Nat) (w : World) (hc : w.cell? ⟨b, o, none⟩ = some (.int .i64 x)) :
  Calls Tryz.prog 69 #[.slice (some ⟨b,o,none⟩) 1 1,.int .i64 6] w (RepP x w):=by
 have hbl:b<w.heap.size:=World.block_lt_of_cell? w _ hc
 have HC := hid (show ∀ j v, ([.int .i64 x] : List Value)[j]? = some v → (w.alloc (.cells (madeCells #[.int .i64 0] 6) 3)).cell? ((⟨b, o, none⟩ : Addr).add j) = some v from fun j v hv => by
  have hj:j=0:=by have:=(List.getElem?_eq_some_iff.1 hv).1;simpa using this
  subst hj;simp only[List.getElem?_cons_zero,Option.some.injEq]at hv;subst hv;rw[Addr.add_lit,Nat.add_zero,(bx1 w _).cell (p:=⟨b,o,none⟩) hbl];exact hc)
 have hh := hid (show (w.alloc (.cells (madeCells #[.int .i64 0] 6) 3)).heap[w.heap.size]? = some (.cells (repC x 0).toArray 3 (0, 0)) by
  show(w.heap.push _)[w.heap.size]? = _;rw[Array.getElem?_push_size,show madeCells #[Value.int .i64 0] 6=(repC x 0).toArray by rw[←Array.toList_inj,toList_madeCells_one];rfl])
 have hbx:=hid (bx1 w (.cells (madeCells #[.int .i64 0] 6) 3));clear hc;obtain⟨W2,hW2⟩:∃W2,W2=(w.alloc (.cells (madeCells #[.int .i64 0] 6) 3)).setCells w.heap.size 0 [.int .i64 x]:=⟨_,rfl⟩
 have hcp:∀ty,(Builtin.copy_ #[24,24] ty #[.slice (some ⟨w.heap.size,0,none⟩) 6 6,.slice (some ⟨b,o,none⟩) 1 1]).run Tryz.prog (w.alloc (.cells (madeCells #[.int .i64 0] 6) 3))=.ok (goInt 1) W2:=fun ty=>by
  rw[hW2]
  exact run_copy_cells (P := Tryz.prog) _ 24 24 ty 3 w.heap.size 0 6 6 ⟨b, o, none⟩ 1 1 [.int .i64 x] Tryz.underlying24 infoIs rfl HC.out (fun j hj => by
   obtain rfl:j=0:=by simpa using hj
   simp only[World.cell?,hh.out];simp[repC]) (fun j hj=>by simp only[World.frozen?,hh.out];simp) (one_of (by simp))
 have HG2 := hid (show W2.heap[w.heap.size]? = some (.cells (repC x 1).toArray 3 (0, 0)) by
  rw[hW2];show((w.alloc _).setCell ⟨w.heap.size,0,none⟩ _).heap[w.heap.size]? = _;simp only[World.setCell,Array.getElem?_modify,hh.out]
  rfl)
 have HB2:=hid (show Below w.heap.size w W2 by rw[hW2];exact hbx.out.setCell (p:=⟨w.heap.size,0,none⟩) (Nat.le_refl _) _);clear hW2;obtain⟨i1,hj,jz0,jz1,jz2⟩:=info_parts infoI
 go_enter Tryz.func69,Tryz.ntmps69
 go_wp2_with (first
  |(go_at_call 116;refine(mul16 _).mono ?_;rintro e w' ⟨rfl,rfl⟩)
  |(at_make;go_must (refine wpList_make_row _ rfl _ _ 24 rfl 3 i1 (.int .i64 0) Tryz.underlying24 hj jz0 jz1 rfl _ _ 6 rfl rfl (by rw[jz2];omega) (by omega) ?_))
  |fail)
 clear hh hbx HC hcp
 go_loopw [8] (fun n' wr=>∃n:Nat,(n=1∨n=2∨n=4∨n=6)∧n' = .int .i64 n∧wr.heap[w.heap.size]? = some (.cells (repC x n).toArray 3 (0,0))∧Below w.heap.size w wr) (fun n' _=>6 - (intOf n').toNat)
 case atStart=>exact⟨1,.inl rfl,rfl,HG2.out,HB2.out⟩
 case round=>
  obtain⟨n,hn,rfl,hg,hb⟩:=hrel;have HG:=hid hg;have HB:=hid hb;clear hg hb HG2 HB2;by_cases h6:n=6
  ·subst h6
   go_wp2_with fail
   go_ret
   refine⟨rfl,?_,HB.out⟩;have e:(repC x 6)=(List.replicate 6 x).flatMap rowI:=by simp[repC,rowI,List.replicate]
   have hg:=HG.out;rw[e]at hg;exact⟨by simp[rowI],.inr ⟨w.heap.size,0,6,_,rfl,Nat.le_refl _,hg,by simp,by unfold maxLen;omega,by simp[rowI],fun j hj=>by simp⟩⟩
  ·have hn3:n=1∨n=2∨n=4:=by omega
   have HN:=hid hn3;have hlt:(n:Int)<6:=by omega
   clear hn h6 hn3
   go_upto_region 9 with fail
   refine rp_region _ _ _ _ _ _ _ _ _ _ _ _ _ _ _ _ _ _ _ _ _ _ _ _ _ _ _ _ _ _ _ _ _ _ _ _ _ _ _ _ _ _ _ _ _ _ w.heap.size n x w wr HN.out HG.out HB.out (Nat.le_refl _) ?_;intro u8 u38 u39 u40 u41 u42 u43 u44 u45 u46 w5 h5;obtain⟨rfl,hg,hb⟩:=h5;have HG5:=hid hg;have HB5:=hid hb;clear hg hb;unfold rpA
   go_wp2_with fail
   go_roundw
   case rel=>exact⟨n+repM n,by have:=HN.out;unfold repM;rcases this with rfl|rfl|rfl <;> simp,rfl,HG5.out,HB5.out⟩
   case measure=>
    have:=HN.out;simp only[intOf];unfold repM;rcases this with rfl|rfl|rfl <;> simp
end Go.Proofs.YtgkdoehkmbhfiaaGreat
namespace Go.Proofs.YtgkdoehkmbhfiaaGreat
open Go.RowKit
theorem implMemNew_any (w:World):Calls Tryz.prog 68 #[] w fun e w' => ∃g off c,e=.returned (.agg #[.slice (some ⟨g,off,none⟩) 64 c])∧Owns w' w.heap.size 3 1 rowI (.slice (some ⟨g,off,none⟩) 64 c) (List.replicate 64 0)∧64≤c∧c≤9223372036854775807∧Below w.heap.size w w':=by
 obtain⟨i1,hj,jz0,jz1,jz2⟩:=info_parts infoI
 go_enter Tryz.func68,Tryz.ntmps68
 go_wp2_with (at_make;go_must (refine wpList_make_full _ rfl _ _ 24 rfl (w.heap.size+1) 3 i1 (.int .i64 0) 1 Tryz.underlying24 hj jz0 jz1 _ _ _ _ 64 rfl rfl rfl rfl (by rw[jz2];omega) (by unfold maxLen;omega) (by simp) ?_);intro w1 hown hgrow;have hbx:=(show Below (w.heap.size+1) (w.alloc (.cells #[.slice none 0 0] 32)) w1 from(Below.refl _ _).grown hgrow (by simp) (by simp));have d0:w1.cell? ⟨w.heap.size,0,none⟩=some (.slice none 0 0):=(by rw[hbx.cell (p:=⟨w.heap.size,0,none⟩) (by simp)];simp[go_sem]);have d1:w1.frozen? ⟨w.heap.size,0,none⟩=false:=(by rw[hbx.frozen (p:=⟨w.heap.size,0,none⟩) (by simp)];simp[go_sem]))
 rw[show madeCells (Value.int .i64 0).cells (64 * 1)=madeCells #[.int .i64 0] 64 by rfl,toList_madeCells_one]at hown;have HO:=hid (owns_made hown);simp only[World.size_alloc]at HO;have HB:=hid hbx;clear hown hgrow hbx
 go_wp2_with fail
 refine bodyPost_ret (v:=.agg #[.slice (some ⟨w.heap.size+1,0,none⟩) 64 64]) (by simp[results,Tryz.results68,go_sem,d0]) rfl ⟨_,_,_,rfl,?_,by omega,by omega,?_⟩
 ·exact(HO.out.rebase (by omega)).set' _ _ _ (fun k hk=>by have:=(OwnR.lt HO.out k hk).1;omega)
 ·exact(((Below.refl _ _).alloc (Nat.le_refl _) _).trans (HB.out.mono (by omega))).setCell (by simp) _
def AtmNewW (w:World) (e:Ending) (w':World):Prop :=
 ∃ wa wc g ga go gc, e = .returned (.agg #[.slice (some ⟨g, wa, none⟩) 64 wc, .slice (some ⟨ga, go, none⟩) 6 gc]) ∧ Owns w' w.heap.size 3 1 rowI (.slice (some ⟨g, wa, none⟩) 64 wc) (List.replicate 64 0) ∧ Owns w' w.heap.size 3 1 rowI (.slice (some ⟨ga, go, none⟩) 6 gc) (List.replicate 6 (-1)) ∧
  6≤gc∧gc≤9223372036854775807∧Apart (.slice (some ⟨g,wa,none⟩) 64 wc) (.slice (some ⟨ga,go,none⟩) 6 gc)∧Below w.heap.size w w'
theorem implAtmNewW_any (w:World):Calls Tryz.prog 33 #[] w (AtmNewW w):=by
 go_enter Tryz.func33,Tryz.ntmps33
 go_wp2_with fail
 refine(implMemNew_any _).mono ?_;rintro e w1 ⟨g,off,c,rfl,hown,hc1,hc2,hb⟩;have HB1:=hid ((bx1 w _).trans (hb.mono (by simp)));have HO:=hid hown;have d0:w1.cell? ⟨w.heap.size,0,none⟩=some (.slice none 0 0):=by rw[hb.cell (p:=⟨w.heap.size,0,none⟩) (by simp)];simp[go_sem]
 have d1:w1.cell? ⟨w.heap.size,1,none⟩=some (.slice none 0 0):=by rw[hb.cell (p:=⟨w.heap.size,1,none⟩) (by simp)];simp[go_sem]
 have f0:w1.frozen? ⟨w.heap.size,0,none⟩=false:=by rw[hb.frozen (p:=⟨w.heap.size,0,none⟩) (by simp)];simp[go_sem]
 have f1:w1.frozen? ⟨w.heap.size,1,none⟩=false:=by rw[hb.frozen (p:=⟨w.heap.size,1,none⟩) (by simp)];simp[go_sem]
 have hz1:w.heap.size<w1.heap.size:=World.block_lt_of_cell? w1 _ d0;clear hown hb
 go_wp2_with fail
 refine(repeat6_any (-1) w1.heap.size 0 _ (by simp[go_sem])).mono ?_;rintro e w2 ⟨rfl,ho2,hb2⟩;simp only[World.size_alloc]at ho2 hb2 ⊢;have HB2:=hid ((bx1 w1 _).trans (hb2.mono (by omega)));have HO2:=hid ho2;have e0:w2.cell? ⟨w.heap.size,0,none⟩=some (.slice none 0 0):=by rw[HB2.out.cell (p:=⟨w.heap.size,0,none⟩) hz1];exact d0
 have e1:w2.cell? ⟨w.heap.size,1,none⟩=some (.slice none 0 0):=by rw[HB2.out.cell (p:=⟨w.heap.size,1,none⟩) hz1];exact d1
 have g0:w2.frozen? ⟨w.heap.size,0,none⟩=false:=by rw[HB2.out.frozen (p:=⟨w.heap.size,0,none⟩) hz1];exact f0
 have g1:w2.frozen? ⟨w.heap.size,1,none⟩=false:=by rw[HB2.out.frozen (p:=⟨w.heap.size,1,none⟩) hz1];exact f1
 have hz2:w.heap.size<w2.heap.size:=World.block_lt_of_cell? w2 _ e0;clear ho2 hb2 d0 d1 f0 f1
 go_wp2_with fail
 refine bodyPost_ret (zB3 Tryz.results33 _ _ ⟨w.heap.size,0,none⟩ (.agg #[.slice (some ⟨g,off,none⟩) 64 c,.slice (some ⟨w1.heap.size+1,0,none⟩) 6 6]) rfl (loadVar_atm _ _ _ _ (by simp[go_sem, *]) (by simp[go_sem, *]))) rfl ⟨_,_,_,_,_,_,rfl,?_,?_,by omega,by omega,fun k hk hk2=>?_,?_⟩
 ·have X:=(HO.out.below HB2.out).rebase (show w.heap.size≤_ by simp);have hl:=fun k hk=>(OwnR.lt HO.out k hk).1
  repeat(first|with_reducible exact X|with_reducible refine Owns.set' ?_ _ _ _ (fun j hj=>by have:=hl j hj;simp at this;omega))
 ·have X:=HO2.out.rebase (show w.heap.size≤_ by omega)
  repeat(first|with_reducible exact X|with_reducible refine Owns.set' ?_ _ _ _ (fun j hj=>by simp[Value.ownBlock]at hj;omega))
 ·have h1:=(OwnR.lt HO.out k hk).2;simp only[Value.ownBlock,Option.some.injEq]at hk2;omega
 ·exact((HB1.out.trans (HB2.out.mono (by omega))).setCell (by exact Nat.le_refl _) _).setCell (by exact Nat.le_refl _) _
end Go.Proofs.YtgkdoehkmbhfiaaGreat
namespace Go.Proofs.YtgkdoehkmbhfiaaGreat
open Go.RowKit
attribute [local go_sem ↓] Go.wp_at_zero Go.wp_at_succ
theorem Ints.touch {w w':World} {r:Nat} {v:Value} {xs:List Int} (h:Ints w w.heap.size v xs) (ht:Touch r w w') (hr:∀k,v.ownBlock=some k→k≠r):Ints w' w'.heap.size v xs :=
 (h.heap fun k hk hlt=>ht.block k hlt (hr k hk)).mono ht.size
theorem Ints.setc {w:World} {B:Nat} {v:Value} {xs:List Int} (h:Ints w B v xs) (g o:Nat) (u:Value) (hr:∀k,v.ownBlock=some k→k≠g):Ints (w.setCell ⟨g,o,none⟩ u) B v xs :=
 h.heap fun k hk _=>Below.heap_setCell _ _ _ _ (hr k hk)
theorem World.size_setCell (w:World) (p:Addr) (u:Value):(w.setCell p u).heap.size=w.heap.size:=by simp[World.setCell]
end Go.Proofs.YtgkdoehkmbhfiaaGreat
namespace Go.Proofs.YtgkdoehkmbhfiaaGreat
open Go.RowKit
abbrev vnil:Value:=.slice none 0 0
def rowP (x:Int×Int):List Value:=[.int .i64 x.1,vnil,vnil,.int .i64 x.2]
def rowS (x:Int):List Value:=[vnil,vnil,.int .i64 x]
theorem rowP_len (x:Int×Int):(rowP x).length=4:=rfl
theorem rowS_len (x:Int):(rowS x).length=3:=rfl
theorem rowP_one (x:Int×Int):∀u∈rowP x,u.oneCell' = true:=by
 intro u hu;simp only[rowP,List.mem_cons,List.not_mem_nil,or_false]at hu;rcases hu with rfl|rfl|rfl|rfl <;> rfl
theorem rowS_one (x:Int):∀u∈rowS x,u.oneCell' = true:=by
 intro u hu;simp only[rowS,List.mem_cons,List.not_mem_nil,or_false]at hu;rcases hu with rfl|rfl|rfl <;> rfl
theorem elem_portY:Elem 35 48 4 64:=zE9 Tryz.underlying35 (z:=.agg #[.int .i64 0,.slice none 0 0,.slice none 0 0,.int .i64 0]) (by kernel_rfl) rfl (by omega)
theorem elem_slaveY:Elem 36 94 3 56:=zE9 Tryz.underlying36 (z:=.agg #[.slice none 0 0,.slice none 0 0,.int .i64 0]) (by kernel_rfl) rfl (by omega)
structure CyO (W:World) (lo:Nat) (a b p s:Value) (xs ys:List Int) (ps:List (Int×Int)) (ss:List Int):Prop where
 oa:Owns W lo 3 1 rowI a xs
 ob:Owns W lo 3 1 rowI b ys
 op:Owns W lo 48 4 rowP p ps
 os:Owns W lo 94 3 rowS s ss
 dab:Apart a b
 dap:Apart a p
 das:Apart a s
 dbp:Apart b p
 dbs:Apart b s
 dps:Apart p s
theorem CyO.kept {W W':World} {lo:Nat} {a b p s:Value} {xs ys:List Int} {ps:List (Int×Int)} {ss:List Int} (h:CyO W lo a b p s xs ys ps ss) (hk:∀k,lo≤k→k<W.heap.size→W'.heap[k]? = W.heap[k]?):CyO W' lo a b p s xs ys ps ss :=
  { h with oa := OwnR.kept h.oa fun k hk2 => hk k (OwnR.lt h.oa k hk2).1 (OwnR.lt h.oa k hk2).2
           ob:=OwnR.kept h.ob fun k hk2=>hk k (OwnR.lt h.ob k hk2).1 (OwnR.lt h.ob k hk2).2
           op:=OwnR.kept h.op fun k hk2=>hk k (OwnR.lt h.op k hk2).1 (OwnR.lt h.op k hk2).2
           os:=OwnR.kept h.os fun k hk2=>hk k (OwnR.lt h.os k hk2).1 (OwnR.lt h.os k hk2).2 }
theorem CyO.below {W W':World} {lo:Nat} {a b p s:Value} {xs ys:List Int} {ps:List (Int×Int)} {ss:List Int} (h:CyO W lo a b p s xs ys ps ss) (hb:Below W.heap.size W W'):CyO W' lo a b p s xs ys ps ss:=h.kept fun k _ hk=>hb.block k hk
theorem CyO.rebase {W:World} {lo lo':Nat} {a b p s:Value} {xs ys:List Int} {ps:List (Int×Int)} {ss:List Int} (h:CyO W lo a b p s xs ys ps ss) (hl:lo' ≤ lo):CyO W lo' a b p s xs ys ps ss :=
 { h with oa:=OwnR.rebase h.oa hl,ob:=OwnR.rebase h.ob hl,op:=OwnR.rebase h.op hl,os:=OwnR.rebase h.os hl }
abbrev z64:List Int:=List.replicate 64 0
abbrev z6:List Int:=List.replicate 6 (-1)
abbrev z3:List (Int×Int):=List.replicate 3 (0,3)
abbrev z4:List Int:=List.replicate 4 2
theorem Bx.five {W:World} {H:Nat} {a b c d e:Value} (h:Bx W H [a,b,c,d,e]):(W.cell? ⟨H,0,none⟩=some a∧W.cell? ⟨H,1,none⟩=some b∧W.cell? ⟨H,2,none⟩=some c∧W.cell? ⟨H,3,none⟩=some d∧W.cell? ⟨H,4,none⟩=some e)∧W.frozen? ⟨H,0,none⟩=false∧W.frozen? ⟨H,1,none⟩=false∧W.frozen? ⟨H,2,none⟩=false∧W.frozen? ⟨H,3,none⟩=false∧W.frozen? ⟨H,4,none⟩=false :=
 ⟨⟨h.c 0 (by simp),h.c 1 (by simp),h.c 2 (by simp),h.c 3 (by simp),h.c 4 (by simp)⟩,h.f 0 (by simp),h.f 1 (by simp),h.f 2 (by simp),h.f 3 (by simp),h.f 4 (by simp)⟩
theorem loadVar_cyc (w:World) (g:Nat) (a b c d e:Value) (h0:w.cell? ⟨g,0,none⟩=some a) (h1:w.cell? ⟨g,1,none⟩=some b) (h2:w.cell? ⟨g,2,none⟩=some c) (h3:w.cell? ⟨g,3,none⟩=some d) (h4:w.cell? ⟨g,4,none⟩=some e):(loadVar 39 ⟨g,0,none⟩).run Tryz.prog w=.ok (.agg #[a,b,c,d,e]) w:=by
 simp[loadVar,go_sem,h0,h1,h2,h3,h4]
abbrev TJA:=TJ×(Option Addr×Nat×Nat)
def toA (x:TJA):TJV:=(x.1,.slice x.2.1 x.2.2.1 x.2.2.2)
def rowA (x:TJA):List Value:=tjRow (toA x)
theorem zD5 (x:TJA):(rowA x).length=5:=rfl
theorem rowA_one (x:TJA):∀u∈rowA x,u.oneCell' = true:=by
 intro u hu;simp only[rowA,toA,tjRow,List.mem_cons,List.not_mem_nil,or_false]at hu;rcases hu with rfl|rfl|rfl|rfl|rfl <;> rfl
theorem exA : ∀ (D : List TJV), (∀ x ∈ D, ∃ a n c, x.2 = .slice a n c) → ∃ A : List TJA, A.map toA = D
 |[],_=>⟨[],rfl⟩
 |x::D,h=>by
  obtain⟨A,hA⟩:=exA D fun y hy=>h y (by simp[hy])
  obtain⟨a,n,c,e⟩:=h x (by simp);exact⟨(x.1,a,n,c)::A,by simp only[List.map_cons,hA,toA,←e]⟩
theorem owns_map {α β:Type} {w:World} {base e sz:Nat} {f:β→List Value} {g:α→β} {v:Value} {xs:List α} (h:Owns w base e sz (fun x=>f (g x)) v xs):Owns w base e sz f v (xs.map g):=by
 unfold Owns at h ⊢;rw[List.length_map,List.flatMap_map];exact h
def CjP (D:List TJV) (w:World) (e:Ending) (w':World):Prop :=
 ∃u D', e=.returned u∧Owns w' w.heap.size 65 5 tjRow u D' ∧ D'.map (·.1)=D.map (·.1)∧(∀x∈D', IntsD w' (fun b=>w.heap.size≤b∧b<w'.heap.size∧u.ownBlock≠some b) x.2 x.1.rsp.data)∧Below w.heap.size w w'
theorem zG3 (D : List TJV) (v : Value) (B : Nat) (w : World) (hv : Arr w B 5 v (D.map tjRow)) (hd : ∀ x ∈ D, Ints w B x.2 x.1.rsp.data) (hB : B ≤ w.heap.size) (hl : D.length ≤ 1000) (hdl : ∀ x ∈ D, x.1.rsp.data.length ≤ 1000) :
  Calls Tryz.prog 87 #[v] w (CjP D w):=by
 obtain⟨A,rfl⟩:=exA D fun x hx=>by obtain⟨ao,cap,e,_⟩:=(hd x hx).1;exact⟨_,_,_,e⟩
 rw[List.map_map]at hv;have HV:=hid hv;have HD:=hid hd;have HDL:=hid hdl;rw[List.length_map]at hl;clear hv hd hdl
 go_enter Tryz.func87,Tryz.ntmps87
 go_wp2_with fail
 refine(clone_TlmJob rowA zD5 rowA_one _ A B w HV.out (by omega)).mono ?_;rintro e w1 ⟨u,rfl,ho,hb⟩;obtain⟨ua,uc,rfl,huc,huc2⟩:=ho.shape;have HO:=hid ho;have HB:=hid hb;clear ho hb
 go_wp2_with fail
 go_loopw [10] (fun i wr=>∃k:Nat,k≤A.length∧i=.int .i64 k∧(∃A', A'.length=A.length∧Owns wr w.heap.size 65 5 rowA (.slice ua A.length uc) A' ∧ A'.map (·.1)=A.map (·.1)∧(∀j,j<k→∀x,A'[j]? = some x→IntsD wr (fun b=>w.heap.size≤b∧b<wr.heap.size∧(Value.slice ua A.length uc).ownBlock≠some b) (toA x).2 x.1.rsp.data)∧(∀j,k≤j→A'[j]? = A[j]?))∧Below w.heap.size w wr) (fun i _=>A.length - (intOf i).toNat)
 case atStart=>exact⟨0,by omega,rfl,⟨A,rfl,HO.out,rfl,fun j hj=>by omega,fun _ _=>rfl⟩,HB.out⟩
 case round=>
  obtain⟨k,hk,rfl,⟨A', hl', ho', hm', hn', hs'⟩,hbl⟩:=hrel;by_cases hlt:k<A.length
  ·have hlti:(k:Int)<(A.length:Int):=by omega
   obtain⟨g,off,cap,hvs,hcap,hcap2,hgb,hgz⟩:=OwnR.addr ho' (by omega);simp only[Value.slice.injEq]at hvs;obtain⟨rfl,hll,rfl⟩:=hvs;clear hll;obtain⟨x,hx⟩:∃x,A'[k]? = some x:=⟨A'[k]'(by omega),List.getElem?_eq_getElem _⟩
   have hgd:A'.getD k default=x:=by simp[List.getD,hx]
   have hc:∀i,i<5→wr.cell? ⟨g,off+k * 5+i,none⟩=(rowA x)[i]?:=fun i hi=>by rw[←hgd];exact Owns.cellAt ho' zD5 k i default (by omega) hi
   obtain⟨⟨wh,n,ri,rc,rd⟩,da,dn,dc⟩:=x;have c0:=hc 0 (by omega);have c1:=hc 1 (by omega);have c2:=hc 2 (by omega);have c3:=hc 3 (by omega);have c4:=hc 4 (by omega);simp only[rowA,toA,tjRow,List.getElem?_cons_zero,List.getElem?_cons_succ,Nat.add_zero]at c0 c1 c2 c3 c4;have hfz:=Owns.frozenAt ho';have hxm:((⟨wh,n,ri,rc,rd⟩,da,dn,dc):TJA)∈A:=List.mem_of_getElem? (by rw[←hs' k (by omega)];exact hx);have hxd:Ints w B (.slice da dn dc) rd:=HD.out _ (List.mem_map.2 ⟨_,hxm,rfl⟩);have hxl:rd.length≤1000:=HDL.out _ (List.mem_map.2 ⟨_,hxm,rfl⟩);have hsz:=ho'.1;have hbl2:Below w.heap.size w (wr.alloc (.cells #[.int .i64 (wh:Nat),.int .i64 (n:Nat),.int .i64 ri,.int .i64 rc,.slice da dn dc] 65)):=hbl.alloc hbl.size _;have hbl1:Below wr.heap.size wr (wr.alloc (.cells #[.int .i64 (wh:Nat),.int .i64 (n:Nat),.int .i64 ri,.int .i64 rc,.slice da dn dc] 65)):=(Below.refl _ _).alloc (Nat.le_refl _) _;have HL:=hid hl';have HO':=hid ho';have HM:=hid hm';have HN:=hid hn';have HS:=hid hs';have HBL:=hid hbl;have HX:=hid hx;have HFZ:=hid hfz;have HB2:=hid hbl2;have HB1:=hid hbl1;have HXD:=hid hxd;have HXL:=hid hxl;clear hl' ho' hm' hn' hs' hbl hx hgd hc hfz hbl2 hbl1 hxm hxd hsz
   go_upto_region 5 with fail
   obtain⟨w2,hw2⟩:∃W,W=wr.alloc (.cells #[.int .i64 (wh:Nat),.int .i64 (n:Nat),.int .i64 ri,.int .i64 rc,.slice da dn dc] 65):=⟨_,rfl⟩
   rw[←hw2]at HB2 HB1;rw[←hw2];have d4:w2.cell? ⟨wr.heap.size,4,none⟩=some (.slice da dn dc):=by rw[hw2,World.cell?_alloc_at _ _ _ _ rfl];rfl
   have hz2:w2.heap.size=wr.heap.size+1:=by rw[hw2];simp
   clear hw2 c0 c1 c2 c3 c4;have hfz2:w2.frozen? ⟨g,off+k * 5+4,none⟩=false:=(HB1.out.frozen (p:=⟨g,_,none⟩) hgz).trans (HFZ.out _);have c42:w2.cell? ⟨g,off+k * 5+4,none⟩=some (.slice da dn dc):=by
    rw[HB1.out.cell (p:=⟨g,_,none⟩) hgz];have:=Owns.cellAt HO'.out zD5 k 4 default (by rw[HL.out];exact hlt) (by omega);rw[this,show A'.getD k default=((⟨wh,n,ri,rc,rd⟩,da,dn,dc):TJA) by simp[List.getD,HX.out]];rfl
   have hg2:g<w2.heap.size:=by omega
   have HXA:=hid (show Arr w2 B 1 (.slice da dn dc) (rd.map rowI) from(HXD.out.below (HB2.out.mono hB)).1)
   go_wp2_with (first
    |(go_at_call 88;(with_reducible refine(clone_int rowI zG7 rowI_one _ rd B w2 HXA.out (by omega)).mono ?_);rintro e w3 ⟨u2,rfl,ho2,hb2⟩;obtain⟨ba,bc,rfl,_,_⟩:=ho2.shape;have hfz3:=(hb2.frozen (p:=⟨g,off+k * 5+4,none⟩) hg2).trans hfz2;have c43:=(hb2.cell (p:=⟨g,off+k * 5+4,none⟩) hg2).trans c42;have HO2:=hid ho2;have HB3:=hid hb2;clear ho2 hb2))
   have hw:=HB1.out.trans (HB3.out.mono HB1.out.size);have hbw:Below w.heap.size w w3:=HB2.out.trans (HB3.out.mono HB2.out.size);have hsz3:=HB3.out.size;obtain⟨y,hy⟩:∃y:TJA,y=(⟨wh,n,ri,rc,rd⟩,ba,rd.length,bc):=⟨_,rfl⟩
   have ho4:=Owns.putRow (OwnR.kept HO'.out (fun b hb=>hw.block b (OwnR.lt HO'.out b hb).2)) zD5 k 4 default y (.slice ba rd.length bc) (by rw[HL.out];exact hlt) (by omega) (by rw[show A'.getD k default=((⟨wh,n,ri,rc,rd⟩,da,dn,dc):TJA) by simp[List.getD,HX.out],hy];rfl);have hset:∀b,b≠g→(w3.setCell ⟨g,off+k * 5+4,none⟩ (.slice ba rd.length bc)).heap[b]? = w3.heap[b]?:=fun b hb=>Below.heap_setCell _ _ _ _ hb
   have hz4:(w3.setCell ⟨g,off+k * 5+4,none⟩ (.slice ba rd.length bc)).heap.size=w3.heap.size:=by simp
   have hyd:IntsD (w3.setCell ⟨g,off+k * 5+4,none⟩ (.slice ba rd.length bc)) (fun b=>w.heap.size≤b∧b<(w3.setCell ⟨g,off+k * 5+4,none⟩ (.slice ba rd.length bc)).heap.size∧(Value.slice (some ⟨g,off,none⟩) A.length uc).ownBlock≠some b) (toA y).2 y.1.rsp.data:=by
    rw[hy];refine Owns.intsD (xs:=rd) (OwnR.kept HO2.out (fun b hb=>hset b (by have:=(OwnR.lt HO2.out b hb).1;omega))) (fun b hb=>?_) (by omega) HXD.out.2;have h1:=OwnR.lt HO2.out b hb;have h2:=HB2.out.size;refine⟨by omega,by rw[hz4];exact h1.2,?_⟩;simp only[Value.ownBlock,ne_eq,Option.some.injEq];omega
   go_roundw
   case rel=>
    refine⟨k+1,by omega,by go_num,⟨A'.set k y,by rw[List.length_set];exact HL.out,ho4,?_,fun j hj z hz=>?_,fun j hj=>?_⟩,hbw.setCell (p:=⟨g,_,none⟩) hgb _⟩
    ·rw[←HM.out];apply List.ext_getElem?;intro i;rw[List.getElem?_map,List.getElem?_map,List.getElem?_set]
     split
     ·rename_i e;subst e;rw[HX.out,if_pos (by rw[HL.out];exact hlt),hy];rfl
     ·rfl
    ·rw[List.getElem?_set]at hz
     split at hz
     ·rename_i e;subst e;rw[if_pos (by rw[HL.out];exact hlt)]at hz;obtain rfl:=Option.some.inj hz;exact hyd
     ·exact((HN.out j (by omega) z hz).kept fun b hb=>(hset b (fun e=>hb.2.2 (by rw[e];rfl))).trans (hw.block b hb.2.1)).weak fun b hb=>⟨hb.1,by rw[hz4];exact Nat.lt_of_lt_of_le hb.2.1 hw.size,hb.2.2⟩
    ·rw[List.getElem?_set,if_neg (by omega)];exact HS.out j (by omega)
   case measure=>simp[intOf];omega
  ·obtain rfl:k=A.length:=by omega
   have hkf:decide ((A.length:Int)<(A.length:Int))=false:=by simp
   go_wp2_with fail
   go_ret
   refine⟨_,A'.map toA,rfl,owns_map ho', by rw[List.map_map,List.map_map];exact hm', fun x hx=>?_,hbl⟩;obtain⟨y,hy,rfl⟩:=List.mem_map.1 hx;obtain⟨j,hj,e⟩:=List.getElem_of_mem hy;exact hn' j (by omega) y (by rw[List.getElem?_eq_getElem hj,e])
end Go.Proofs.YtgkdoehkmbhfiaaGreat
