/- What FnCycOne's walk reads: the bits of what comes from outside, the stores' rows, how many were done. -/
import Derived.Test.YthnlalffjepdaaaGreatGCa
import Derived.Test.YthnlalffjepdaaaGreatGSd2
import Derived.Test.YthnlalffjepdaaaGreatGWk
import Derived.Test.YthnlalffjepdaaaGreatGMs
import Derived.Test.YthnlalffjepdaaaGreatGE1
import Derived.Test.YthnlalffjepdaaaGreatGFl
import Derived.Test.YthnlalffjepdaaaGreatGLib
import Derived.StillTail
import Derived.StillTailTactics
import Derived.Deep.RegionWith
import Derived.Deep.Cut
import Derived.Deep.CutRange
set_option linter.unusedVariables false
set_option linter.unusedSimpArgs false
set_option maxHeartbeats 16000000
namespace Go.Proofs.YthnlalffjepdaaaGreat
open Go.RowKit
instance:Inhabited Inp:=⟨⟨[],[],[]⟩⟩
def Ins (w:World) (B:Nat) (v:Value) (ins:List Inp):Prop:=ArrV InV w B 3 v ins
theorem Ins.below {w w':World} {B:Nat} {v:Value} {ins:List Inp} (h:Ins w B v ins) (hb:Below B w w'):Ins w' B v ins:=ArrV.below h hb fun _ _ h=>h.below hb
theorem Ins.mono {w:World} {B B':Nat} {v:Value} {ins:List Inp} (h:Ins w B v ins) (hb:B≤B'):Ins w B' v ins:=ArrV.mono h hb fun _ _ h=>h.mono hb
theorem Ins.opened {w : World} {B : Nat} {v : Value} {ins : List Inp} (h : Ins w B v ins) :
  ∃ ao cap, v = .slice ao ins.length cap ∧ ins.length ≤ cap ∧ cap ≤ 9223372036854775807 ∧ ins.length ≤ 140737488351232 ∧ (ao = none → cap = 0) ∧
   (ins.length ≠ 0 → ∃ b off, ao = some ⟨b, off, none⟩ ∧ b < B ∧ ∀ t, t < ins.length → ∃ ra rc ta tc sa sc, InV w B (.agg #[.slice ra 3 rc, .slice ta 4 tc, .slice sa 3 sc]) (ins.getD t default) ∧
    w.cell? ⟨b,off+t * 3,none⟩=some (.slice ra 3 rc)∧w.cell? ⟨b,off+t * 3+1,none⟩=some (.slice ta 4 tc)∧w.cell? ⟨b,off+t * 3+2,none⟩=some (.slice sa 3 sc)):=by
 obtain⟨ao,cap,rfl,h1,h2,h0,h9⟩:=ArrV.shape h;refine⟨ao,cap,rfl,h1,h2,h0,h9,fun hn=>?_⟩;obtain⟨b,off,ha,hlt,hc⟩:=ArrV.at h hn;refine⟨b,off,ha,hlt,fun t ht=>?_⟩;obtain⟨u,hu,hcell⟩:=hc t ht;have hu':=hu default;have hu2:=hu';obtain⟨⟨ra,rc,ta,tc,sa,sc,rfl,k1,k2,k3⟩,l1,l2,l3⟩:=hu';rw[l1,l2,l3]at hu2 hcell;refine⟨_,_,_,_,_,_,hu2,?_,?_,?_⟩
 ·have:=hcell 0 (by omega);simpa[Value.cells]using this
 ·have:=hcell 1 (by omega);simpa[Value.cells]using this
 ·have:=hcell 2 (by omega);simpa[Value.cells]using this
theorem InV.three {w:World} {B:Nat} {v:Value} {inp:Inp} (h:InV w B v inp):∃ra rc ta tc sa sc,v=.agg #[.slice ra 3 rc,.slice ta 4 tc,.slice sa 3 sc]:=by
 obtain⟨⟨ra,rc,ta,tc,sa,sc,rfl,k1,k2,k3⟩,l1,l2,l3⟩:=h;rw[l1,l2,l3];exact⟨_,_,_,_,_,_,rfl⟩
theorem inOk_any {w:World} (ra ta sa:Option Addr) (rc tc sc:Nat):Calls Tryz.prog 53 #[.agg #[.slice ra 3 rc,.slice ta 4 tc,.slice sa 3 sc]] w fun e w' => e=.returned (.bool true)∧Below w.heap.size w w':=by
 go_enter Tryz.func53,Tryz.ntmps53
 go_wp2_with fail
 go_ret
 exact⟨rfl,(Below.refl _ _).alloc (Nat.le_refl _) _⟩
theorem runsIn_any {w:World} (ra ta sa:Option Addr) (rc tc sc:Nat):Calls Tryz.prog 107 #[.agg #[.slice ra 3 rc,.slice ta 4 tc,.slice sa 3 sc]] w fun e w' => e=.returned (.bool false)∧Below w.heap.size w w':=by
 go_enter Tryz.func107,Tryz.ntmps107
 go_wp2_with (go_at_call 53;go_loud ((with_reducible refine(inOk_any _ _ _ _ _ _).mono ?_));rintro e w1 ⟨rfl,hb1⟩)
 go_ret
 exact⟨rfl,((Below.refl _ _).alloc (Nat.le_refl _) _).trans (hb1.mono (by simp))⟩
theorem idxIn_any (K : FuncId) (cap : Array Value) (hK : zE1 K) (v : Value) (rs : List Inp) (B : Nat) (w : World) (hv : Ins w B v rs) (hB : B ≤ w.heap.size)
  (hf:∀(ra ta sa:Option Addr) (rc tc sc:Nat) (w1:World),Calls Tryz.prog K (#[.agg #[.slice ra 3 rc,.slice ta 4 tc,.slice sa 3 sc]]++cap) w1 fun e w' => e=.returned (.bool false)∧Below w1.heap.size w1 w') :
  Calls Tryz.prog 151 #[v,.func (.func K) #[] cap] w fun e w' => e=.returned (.int .i64 (-1))∧Below w.heap.size w w':=by
 obtain⟨ao,cap', rfl,hlc,hcap,hln,hni,hr⟩:=hv.opened;have HF:=hid hf;clear hf hv;have hK2:=fun args w=>hK args w
 go_enter Tryz.func151,Tryz.ntmps151
 go_wp2_with fail
 go_loopw [8] (fun i wr=>∃k:Nat,k≤rs.length∧i=.int .i64 k∧Below w.heap.size w wr) (fun i _=>rs.length - (intOf i).toNat)
 case atStart=>exact⟨0,Nat.zero_le _,rfl,Below.refl _ _⟩
 case round=>
  obtain⟨k,hk,rfl,hbl⟩:=hrel;by_cases hlt:k<rs.length
  ·obtain⟨b,off,rfl,hb,hc⟩:=hr (by omega);obtain⟨ra,rc,ta,tc,sa,sc,_,c0,c1,c2⟩:=hc k hlt;rw[←hbl.cell (p:=⟨b,_,none⟩) (Nat.lt_of_lt_of_le hb hB)]at c0 c1 c2;clear hc hr
   go_wp2_with fail
   refine(HF.out ra ta sa rc tc sc _).mono ?_;rintro e w' ⟨rfl,hb'⟩;have hsz:=hbl.size;have HB:=hid (hbl.trans (hb'.mono hsz));clear hbl
   go_wp2_with fail
   go_roundw
   case rel=>exact⟨k+1,by omega,by go_num,HB.out⟩
   case measure=>simp[intOf];omega
  ·go_wp2_with fail
   go_ret
   exact⟨rfl,hbl⟩
theorem hasIn_any (K : FuncId) (cap : Array Value) (hK : zE1 K) (v : Value) (rs : List Inp) (B : Nat) (w : World) (hv : Ins w B v rs) (hB : B ≤ w.heap.size)
  (hf:∀(ra ta sa:Option Addr) (rc tc sc:Nat) (w1:World),Calls Tryz.prog K (#[.agg #[.slice ra 3 rc,.slice ta 4 tc,.slice sa 3 sc]]++cap) w1 fun e w' => e=.returned (.bool false)∧Below w1.heap.size w1 w') :
  Calls Tryz.prog 106 #[v,.func (.func K) #[] cap] w fun e w' => e=.returned (.bool false)∧Below w.heap.size w w':=by
 go_enter Tryz.func106,Tryz.ntmps106
 go_wp2_with fail
 refine(idxIn_any K cap hK v rs B _ hv hB hf).mono ?_;rintro e w' ⟨rfl,hb⟩
 go_wp2_with fail
 go_ret
 exact⟨rfl,hb⟩
theorem Raw.sl {w:World} {base:Nat} {V:Nat→Value} {N:Nat→Nat} {C:Nat→List Value} (h:Raw w base V N C):∃(A:Nat→Option Addr) (n K:Nat→Nat),V 0=.slice (A 0) (n 0) (K 0)∧V 1=.slice (A 1) (n 1) (K 1)∧V 2=.slice (A 2) (n 2) (K 2)∧V 3=.slice (A 3) (n 3) (K 3)∧V 4=.slice (A 4) (n 4) (K 4):=by
 have:∀κ,∃(a:Option Addr) (k:Nat),κ<20→V κ=.slice a (N κ) k:=fun κ=>by
  by_cases hκ:κ<20
  ·obtain⟨a,k,e,_⟩:=(h.own κ hκ).form;exact⟨a,k,fun _=>e⟩
  ·exact⟨none,0,fun h2=>absurd h2 hκ⟩
 exact⟨fun κ=>(this κ).choose,N,fun κ=>(this κ).choose_spec.choose,(this 0).choose_spec.choose_spec (by omega),(this 1).choose_spec.choose_spec (by omega),(this 2).choose_spec.choose_spec (by omega),(this 3).choose_spec.choose_spec (by omega),(this 4).choose_spec.choose_spec (by omega)⟩
theorem CyV.sl {w:World} {B:Nat} {a0 a1 a2 a3 a4:Value} {st:Cy} {P:List PS} {Q:List SS} (h:CyV w B a0 a1 a2 a3 a4 st P Q):∃(b0 b1 b2 b3 b4:Option Addr) (n0 n1 n2 n3 n4 k0 k1 k2 k3 k4:Nat),a0=.slice b0 n0 k0∧a1=.slice b1 n1 k1∧a2=.slice b2 n2 k2∧a3=.slice b3 n3 k3∧a4=.slice b4 n4 k4:=by
 obtain⟨x0,y0,e0,_⟩:=h.ws.1;obtain⟨x1,y1,e1,_⟩:=h.hs.1;obtain⟨x2,y2,e2,_⟩:=h.ps;obtain⟨x3,y3,e3,_⟩:=h.ss;obtain⟨D,⟨x4,y4,e4,_⟩,_⟩:=h.told;exact⟨_,_,_,_,_,_,_,_,_,_,_,_,_,_,_,e0,e1,e2,e3,e4⟩
set_option maxRecDepth 8000 in
theorem runs_any {c : Cfg} (hbus : Bus c) {w : World} {B : Nat} {u v : Value} (hc : BusV w B u c) {a0 a1 a2 a3 a4 : Value} {st : Cy} {P : List PS} {Q : List SS} (h : CyV w B a0 a1 a2 a3 a4 st P Q) {ins : List Inp} (hi : Ins w B v ins) (hB : B ≤ w.heap.size) (hg : Good c st) (hl : ins.length ≤ 300) :
  Calls Tryz.prog 58 #[u,.agg #[a0,a1,a2,a3,a4],v] w fun e w' => e=.returned (.bool true)∧Below w.heap.size w w':=by
 obtain⟨mv,lb,lo,lc,pb,po,pc,QQ,K,rfl,⟨ma,mn,mk,rfl⟩,_,_,_,_,_,_⟩:=hc.opened hbus;obtain⟨z0,z1,z2,z3,z4,n0,n1,n2,n3,n4,k0,k1,k2,k3,k4,rfl,rfl,rfl,rfl,rfl⟩:=h.sl;obtain⟨ia,ic,rfl,ic1,ic2,_,_,_⟩:=hi.opened;have HOK:=hid (fun(W:World) (hW:Below w.heap.size w W)=>cycOk_any hbus (hc.below (hW.mono hB)) (h.below (hW.mono hB)) (Nat.le_trans hB hW.size) hg);have HIN:=hid (fun(W:World) (hW:Below w.heap.size w W)=>(hasIn_any 107 #[] (zB7 Tryz.func107 (by kernel_rfl) (by kernel_rfl)) (.slice ia ins.length ic) ins B W (hi.below (hW.mono hB)) (Nat.le_trans hB hW.size) (fun ra ta sa rc tc sc w1=>by simpa using runsIn_any ra ta sa rc tc sc)));obtain⟨w0,hw0⟩:∃W,W=(w.alloc (.cells #[.slice ma mn mk,.slice (some ⟨lb,lo,none⟩) 4 lc,.slice (some ⟨pb,po,none⟩) 3 pc] 27)).alloc (.cells #[.slice z0 n0 k0,.slice z1 n1 k1,.slice z2 n2 k2,.slice z3 n3 k3,.slice z4 n4 k4] 46):=⟨_,rfl⟩
 have hb0:Below w.heap.size w w0:=by rw[hw0];exact((Below.refl _ _).alloc (Nat.le_refl _) _).alloc (by simp) _
 have hli:(ins.length:Int)≤300:=by omega
 clear hc h hi
 go_enter Tryz.func58,Tryz.ntmps58
 go_upto_region 1 with fail
 have HB0:=hid hb0;have HW0:=hid hw0;clear hb0 hw0
 go_wp2_with (first
  |(go_at_call 30;rw[←HW0.out];go_loud ((with_reducible refine(HOK.out _ HB0.out).mono ?_));rintro e w1 ⟨rfl,hb1⟩;have HB1:=hid (HB0.out.trans (hb1.mono HB0.out.size));clear hb1)
  |(go_at_call 106;go_loud ((with_reducible refine(HIN.out _ HB1.out).mono ?_));rintro e w2 ⟨rfl,hb2⟩;have HB2:=hid (HB1.out.trans (hb2.mono HB1.out.size));clear hb2))
 go_ret
 exact⟨rfl,HB2.out⟩
theorem CopP.below {st:Cy} {w w0:World} {e:Ending} {w':World} (h:CopP st w0 e w') (hb:Below w.heap.size w w0):CopP st w e w':=by
 obtain⟨V,N,C,D,he,hr,h3⟩:=h;exact⟨V,N,C,D,he,hr.rebase hb.size,hb.trans (h3.mono hb.size)⟩
theorem runC_app (c : Cfg) : ∀ (a b : List Inp) (st : Cy), runC c (a ++ b) st = runC c b (runC c a st)
 |[],_,_=>rfl
 |_::a,b,_=>runC_app c a b _
theorem runC_snoc (c:Cfg) (ins:List Inp) (k:Nat) (hk:k<ins.length) (st:Cy):runC c (ins.take (k+1)) st=cyc c (ins.getD k default) (runC c (ins.take k) st):=by
 rw[List.take_succ_eq_append_getElem hk,runC_app];simp[runC,List.getD,hk]
set_option maxRecDepth 8000 in
theorem cycRun_any {c : Cfg} (hbus : Bus c) {w : World} {B : Nat} {u v : Value} (hc : BusV w B u c) {a0 a1 a2 a3 a4 : Value} {st : Cy} {P : List PS} {Q : List SS} (h : CyV w B a0 a1 a2 a3 a4 st P Q) {ins : List Inp} (hi : Ins w B v ins) (hB : B ≤ w.heap.size) (hg : Good c st) (hl : ins.length ≤ 300) :
  Calls Tryz.prog 40 #[u,.agg #[a0,a1,a2,a3,a4],v] w (CopP (runC c ins st) w):=by
 obtain⟨mv,lb,lo,lc,pb,po,pc,QQ,K,rfl,⟨ma,mn,mk,rfl⟩,_,_,_,_,_,_⟩:=hc.opened hbus;obtain⟨z0,z1,z2,z3,z4,n0,n1,n2,n3,n4,k0,k1,k2,k3,k4,rfl,rfl,rfl,rfl,rfl⟩:=h.sl;obtain⟨ia,ic,rfl,ic1,ic2,ic3,_,hcell⟩:=hi.opened;have HRN:=hid (fun(W:World) (hW:Below w.heap.size w W)=>runs_any hbus (hc.below (hW.mono hB)) (h.below (hW.mono hB)) (hi.below (hW.mono hB)) (Nat.le_trans hB hW.size) hg hl);have HCP:=hid (fun(W:World) (hW:Below w.heap.size w W)=>cycCopyV_any (h.below (hW.mono hB)) (Nat.le_trans hB hW.size) (zK4 hbus hg));have HBV:=hid hc;have HCELL:=hid hcell;obtain⟨il,hil⟩:∃x,x=ins.length:=⟨_,rfl⟩
 rw[←hil]at HRN HCELL ic1 ic3 ⊢;have HIL:=hid hil;obtain⟨w0,hw0⟩:∃W,W=((w.alloc (.cells #[.slice ma mn mk,.slice (some ⟨lb,lo,none⟩) 4 lc,.slice (some ⟨pb,po,none⟩) 3 pc] 27)).alloc (.cells #[.slice z0 n0 k0,.slice z1 n1 k1,.slice z2 n2 k2,.slice z3 n3 k3,.slice z4 n4 k4] 46)).alloc (.cells #[.slice none 0 0,.slice none 0 0,.slice none 0 0,.slice none 0 0,.slice none 0 0] 46):=⟨_,rfl⟩
 have hb0:Below w.heap.size w w0:=by rw[hw0];exact(((Below.refl _ _).alloc (Nat.le_refl _) _).alloc (by simp) _).alloc (by simp <;> omega) _
 obtain⟨g1,hg1⟩:∃g,g=w.heap.size+1:=⟨_,rfl⟩
 obtain⟨g3,hg3⟩:∃g,g=w.heap.size+1+1:=⟨_,rfl⟩
 have X0 := hid (show Bx w0 w.heap.size [.slice ma mn mk, .slice (some ⟨lb, lo, none⟩) 4 lc, .slice (some ⟨pb, po, none⟩) 3 pc] by
  rw[hw0];exact((Bx.new w #[.slice ma mn mk,.slice (some ⟨lb,lo,none⟩) 4 lc,.slice (some ⟨pb,po,none⟩) 3 pc] 27 (by simp)).below ((Below.refl _ _).alloc (Nat.le_refl _) _) (by simp)).below ((Below.refl _ _).alloc (Nat.le_refl _) _) (by simp <;> omega))
 have X1 := hid (show Bx w0 g1 [.slice z0 n0 k0, .slice z1 n1 k1, .slice z2 n2 k2, .slice z3 n3 k3, .slice z4 n4 k4] by
  rw[hw0,hg1];have:=(Bx.new (w.alloc (.cells #[.slice ma mn mk,.slice (some ⟨lb,lo,none⟩) 4 lc,.slice (some ⟨pb,po,none⟩) 3 pc] 27)) #[.slice z0 n0 k0,.slice z1 n1 k1,.slice z2 n2 k2,.slice z3 n3 k3,.slice z4 n4 k4] 46 (by simp)).below ((Below.refl _ _).alloc (Nat.le_refl _) (.cells #[.slice none 0 0,.slice none 0 0,.slice none 0 0,.slice none 0 0,.slice none 0 0] 46)) (by simp);simpa using this)
 have X3 := hid (show Bx w0 g3 [vnil, vnil, vnil, vnil, vnil] by
  rw[hw0,hg3];have:=Bx.new ((w.alloc (.cells #[.slice ma mn mk,.slice (some ⟨lb,lo,none⟩) 4 lc,.slice (some ⟨pb,po,none⟩) 3 pc] 27)).alloc (.cells #[.slice z0 n0 k0,.slice z1 n1 k1,.slice z2 n2 k2,.slice z3 n3 k3,.slice z4 n4 k4] 46)) #[vnil,vnil,vnil,vnil,vnil] 46 (by simp);simpa using this)
 have HB0:=hid hb0;have HSZ:=hid (show w0.heap.size=w.heap.size+3 by rw[hw0];simp);obtain⟨b0,b1,b2⟩:=X0.out.three.1;obtain⟨t0,t1,t2,t3,t4⟩:=X1.out.five.1;clear hc h hi hb0 hcell hil
 go_enter Tryz.func40,Tryz.ntmps40
 go_upto_region 1 with fail
 rw[←hw0,←hg3,←hg1];have HG1:=hid hg1;have HG3:=hid hg3;clear hw0 hg1 hg3
 go_upto_region 3 with(go_at_call 58;go_loud ((with_reducible refine(HRN.out _ HB0.out).mono ?_));rintro e w2 ⟨rfl,hb2⟩;have HQ2:=hid hb2;have HB2:=hid (HB0.out.trans (hb2.mono HB0.out.size));clear hb2 t0 t1 t2 t3 t4 b0 b1 b2)
 obtain⟨t0,t1,t2,t3,t4⟩:=(X1.out.below HQ2.out X1.out.lt).five.1
 go_upto_region 4 with(go_at_call 65;go_loud ((with_reducible refine(HCP.out _ HB2.out).mono ?_));rintro e w3 ⟨V,N,C,D,rfl,hcr,hb3⟩;have HQ3:=hid (HQ2.out.trans (hb3.mono HQ2.out.size));have HB3:=hid (HB2.out.trans (hb3.mono HB2.out.size));have HQ23:=hid hb3;obtain⟨A,m,KK,e0,e1,e2,e3,e4⟩:=hcr.raw.sl;have HE:=hid (show V 0=.slice (A 0) (m 0) (KK 0)∧V 1=.slice (A 1) (m 1) (KK 1)∧V 2=.slice (A 2) (m 2) (KK 2)∧V 3=.slice (A 3) (m 3) (KK 3)∧V 4=.slice (A 4) (m 4) (KK 4) from⟨e0,e1,e2,e3,e4⟩);rw[e0,e1,e2,e3,e4];have HCR:=hid hcr;clear hcr hb3 e0 e1 e2 e3 e4 t0 t1 t2 t3 t4)
 obtain⟨w4,hw4⟩:∃W,W=w3.alloc (.cells #[.slice (A 0) (m 0) (KK 0),.slice (A 1) (m 1) (KK 1),.slice (A 2) (m 2) (KK 2),.slice (A 3) (m 3) (KK 3),.slice (A 4) (m 4) (KK 4)] 46):=⟨_,rfl⟩
 obtain⟨S,hS⟩:∃g,g=w3.heap.size:=⟨_,rfl⟩
 rw[←hw4,←hS];have hb4:Below w3.heap.size w3 w4:=by rw[hw4];exact(Below.refl _ _).alloc (Nat.le_refl _) _
 have HCB:=hid (HCR.out.box (S:=S) hb4 (by omega) (by rw[HE.out.1,HE.out.2.1,HE.out.2.2.1,HE.out.2.2.2.1,HE.out.2.2.2.2,hw4];exact zA8 _ _ hS) HQ23.out.size);have HQ4:=hid (HQ3.out.trans (hb4.mono HQ3.out.size));have HB4:=hid (HB3.out.trans (hb4.mono HB3.out.size));have HX03:=hid (show w0.heap.size≤w2.heap.size from HQ2.out.size);clear hw4 hS hb4
 go_wp2_with fail
 go_loopw [20] (fun i wr=>∃k:Nat,i=.int .i64 k∧k≤il∧(∃V N C D,CyB wr w2.heap.size S (fun b=>w2.heap.size≤b) (runC c (ins.take k) st) V N C D)∧Below w2.heap.size w4 wr) (fun i _=>il - (intOf i).toNat)
 case atStart=>exact⟨0,by go_num,Nat.zero_le _,⟨V,N,C,D,by simpa[runC]using HCB.out⟩,Below.refl _ _⟩
 case round=>
  obtain⟨k,rfl,hk,⟨V1,N1,C1,D1,hcb⟩,hbr⟩:=hrel;have HCBR:=hid hcb;have HBR:=hid hbr;have HBW:=hid (HB4.out.trans (hbr.mono HB2.out.size));have HQR:=hid (HQ4.out.trans (hbr.mono HX03.out));have HGR:=hid (show Good c (runC c (ins.take k) st) from good_run hbus _ hg);obtain⟨wo,hwo⟩:∃W,W=wr:=⟨_,rfl⟩
  subst hwo;clear hcb hbr;by_cases hlt:k<il
  ·have hki:(k:Int)<(il:Int):=by omega
   obtain⟨b,off,rfl,hbB,hrow⟩:=HCELL.out (by omega);obtain⟨ra,rc,ta,tc,sa,sc,hiv,c0,c1,c2⟩:=hrow k hlt;rw[←HBW.out.cell (p:=⟨b,_,none⟩) (Nat.lt_of_lt_of_le hbB hB)]at c0 c1 c2;have HIV:=hid hiv;have HSN:=hid (runC_snoc c ins k (by rw[←HIL.out];exact hlt) st);clear hrow hiv
   go_upto_region 7 with fail
   clear c0 c1 c2;obtain⟨w5,hw5⟩:∃W,W=wo.alloc (.cells #[.slice ra 3 rc,.slice ta 4 tc,.slice sa 3 sc] 64):=⟨_,rfl⟩
   obtain⟨gi,hgi⟩:∃g,g=wo.heap.size:=⟨_,rfl⟩
   rw[←hw5,←hgi];have hb5:Below wo.heap.size wo w5:=by rw[hw5];exact(Below.refl _ _).alloc (Nat.le_refl _) _
   have X5:=hid (show Bx w5 gi [.slice ra 3 rc,.slice ta 4 tc,.slice sa 3 sc] by rw[hw5,hgi];exact Bx.new wo #[.slice ra 3 rc,.slice ta 4 tc,.slice sa 3 sc] 64 (by simp));have HB5:=hid hb5;have HBW5:=hid (HBW.out.trans (hb5.mono HBW.out.size));obtain⟨b0,b1,b2⟩:=(X0.out.below (HQR.out.trans (hb5.mono HQR.out.size)) X0.out.lt).three.1;obtain⟨i0,i1,i2⟩:=X5.out.three.1;have HST:=hid (step_any hbus (HCBR.out.below hb5) HGR.out (HBV.out.below (HBW5.out.mono hB)) (HIV.out.below (HBW5.out.mono hB)) (Nat.le_trans hB HB2.out.size));clear hw5 hgi hb5
   go_wp2_with (go_at_call 66;go_loud ((with_reducible refine(HST.out).mono ?_));rintro e w6 ⟨V', N', C', D', ve,rfl,hcb,_,hb6,_,_⟩;have HCB6:=hid hcb;have HQ6:=hid hb6;clear hcb hb6 b0 b1 b2 i0 i1 i2)
   go_roundw
   case rel=>exact⟨k+1,by go_num,by omega,⟨V', N', C', D', by rw[HSN.out];exact HCB6.out⟩,(HBR.out.trans (HB5.out.mono (by have:=HBR.out.size;have:=HB4.out.size;have:=HQ23.out.size;have:=HQ4.out.size;have:=HBW.out.size;exact Nat.le_trans (HCBR.out.s0) (Nat.le_of_lt HCBR.out.cells.2.2.2.2.2)))).trans HQ6.out⟩
   case measure=>simp[intOf];omega
  ·obtain rfl:k=il:=by omega
   have hki2:decide ((k:Int)<(k:Int))=false:=by simp
   have hend:ins.take k=ins:=List.take_of_length_le (by rw[HIL.out];exact Nat.le_refl _);rw[hend]at HCBR HGR;obtain⟨A', m', KK', e0,e1,e2,e3,e4⟩:=HCBR.out.raw.sl;obtain⟨c0,c1,c2,c3,c4,_⟩:=HCBR.out.cells;rw[e0]at c0;rw[e1]at c1;rw[e2]at c2;rw[e3]at c3;rw[e4]at c4
   have HCP5 := hid (show Calls Tryz.prog 65 #[.agg #[.slice (A' 0) (m' 0) (KK' 0), .slice (A' 1) (m' 1) (KK' 1), .slice (A' 2) (m' 2) (KK' 2), .slice (A' 3) (m' 3) (KK' 3), .slice (A' 4) (m' 4) (KK' 4)]] wo (CopP (runC c ins st) wo) from by
    obtain⟨P', Q', hv⟩:=HCBR.out.toV hbus HGR.out;rw[e0,e1,e2,e3,e4]at hv;exact cycCopyV_any hv (Nat.le_refl _) (zK4 hbus HGR.out))
   clear e0 e1 e2 e3 e4 hend;have HX35:=hid (show Bx wo g3 [vnil,vnil,vnil,vnil,vnil] from(X3.out.below HQR.out X3.out.lt))
   go_wp2_with (go_at_call 65;go_loud ((with_reducible refine(HCP5.out).mono ?_));rintro e w6 ⟨V6,N6,C6,D6,rfl,hcr,hb6⟩;obtain⟨A6,m6,K6,e0,e1,e2,e3,e4⟩:=hcr.raw.sl;have HE6:=hid (show V6 0=.slice (A6 0) (m6 0) (K6 0)∧V6 1=.slice (A6 1) (m6 1) (K6 1)∧V6 2=.slice (A6 2) (m6 2) (K6 2)∧V6 3=.slice (A6 3) (m6 3) (K6 3)∧V6 4=.slice (A6 4) (m6 4) (K6 4) from⟨e0,e1,e2,e3,e4⟩);rw[e0,e1,e2,e3,e4];have HCR6:=hid hcr;have HQ6:=hid hb6;have HX6:=hid (HX35.out.below hb6 HX35.out.lt);clear hcr hb6 e0 e1 e2 e3 e4 c0 c1 c2 c3 c4;obtain⟨⟨q0,q1,q2,q3,q4⟩,f0,f1,f2,f3,f4⟩:=HX6.out.five;have hrl:=HX6.out.lt)
   refine bodyPost_ret (zA4 Tryz.results40 _ _ ⟨g3,0,none⟩ (.agg #[.slice (A6 0) (m6 0) (K6 0),.slice (A6 1) (m6 1) (K6 1),.slice (A6 2) (m6 2) (K6 2),.slice (A6 3) (m6 3) (K6 3),.slice (A6 4) (m6 4) (K6 4)]) rfl (zL5 _ _ _ _ _ _ _ (by simp[go_sem, *]) (by simp[go_sem, *]) (by simp[go_sem, *]) (by simp[go_sem, *]) (by simp[go_sem, *]))) rfl ⟨V6,N6,C6,D6,?_,?_,?_⟩
   ·rw[HE6.out.1,HE6.out.2.1,HE6.out.2.2.1,HE6.out.2.2.2.1,HE6.out.2.2.2.2]
   ·have h35:=HX35.out.lt;exact(HCR6.out.kept (fun b h1 h2=>(touchC g3 _ _ _ _ _ _).block b h2 (by omega)) (touchC g3 _ _ _ _ _ _).size).rebase HBW.out.size
   ·have hg3:=HG3.out;have h5:w.heap.size≤g3:=by omega
    exact((((((HBW.out.trans (HQ6.out.mono HBW.out.size)).setCell (p:=⟨g3,_,none⟩) h5 _).setCell (p:=⟨g3,_,none⟩) h5 _).setCell (p:=⟨g3,_,none⟩) h5 _).setCell (p:=⟨g3,_,none⟩) h5 _).setCell (p:=⟨g3,_,none⟩) h5 _)
theorem CyO.toR {w:World} {lo:Nat} {a b p s:Value} (h:CyO w lo a b p s z64 z6 z3 z4):∃V N C D,CyR w lo cy0 V N C D∧V 0=a∧V 1=b∧V 2=p∧V 3=s∧V 4=vnil:=by
 have nil:∀(e sz:Nat),OwnR w lo e sz vnil 0 []:=fun e sz=>⟨by simp,.inl ⟨rfl,rfl⟩⟩
 have an:∀v:Value,Apart v vnil:=fun v k _ h2=>by simp[vnil,Value.ownBlock]at h2
 have na:∀v:Value,Apart vnil v:=fun v k h2=>by simp[vnil,Value.ownBlock]at h2
 refine ⟨fun κ => if κ = 0 then a else if κ = 1 then b else if κ = 2 then p else if κ = 3 then s else vnil, fun κ => if κ = 0 then 64 else if κ = 1 then 6 else if κ = 2 then 3 else if κ = 3 then 4 else 0,
  fun κ=>if κ=0 then z64.flatMap rowI else if κ=1 then z6.flatMap rowI else if κ=2 then z3.flatMap rowP else if κ=3 then z4.flatMap rowS else[],fun _=>[],⟨⟨fun κ hκ=>?_,fun κ μ hκ hμ hne=>?_⟩,?_,rfl,fun κ hκ x hx=>by cases hx⟩,rfl,rfl,rfl,rfl,rfl⟩
 ·rcases κ with _|_|_|_|κ
  ·exact h.oa
  ·exact h.ob
  ·exact h.op
  ·exact h.os
  ·exact nil _ _
 ·rcases κ with _|_|_|_|κ <;> rcases μ with _|_|_|_|μ <;> first|exact absurd rfl hne|exact an _|exact na _|exact h.dab|exact h.dab.symm|exact h.dap|exact h.dap.symm|exact h.das|exact h.das.symm|exact h.dbp|exact h.dbp.symm|exact h.dbs|exact h.dbs.symm|exact h.dps|exact h.dps.symm
 ·have q:∀i:Nat,((5+i=0)=False∧(5+i=1)=False∧(5+i=2)=False∧(5+i=3)=False)∧((8+i=0)=False∧(8+i=1)=False∧(8+i=2)=False∧(8+i=3)=False)∧((11+i=0)=False∧(11+i=1)=False∧(11+i=2)=False∧(11+i=3)=False)∧((15+i=0)=False∧(15+i=1)=False∧(15+i=2)=False∧(15+i=3)=False):=fun i=>by
   refine⟨⟨?_,?_,?_,?_⟩,⟨?_,?_,?_,?_⟩,⟨?_,?_,?_,?_⟩,⟨?_,?_,?_,?_⟩⟩ <;> exact eq_false (by omega)
  refine⟨rfl,rfl,rfl,rfl,rfl,rfl,rfl,rfl,rfl,rfl,rfl,fun i hi=>?_,fun i hi=>?_,fun i hi=>?_,fun i hi=>?_,fun i hi=>?_,fun i hi=>?_,fun i hi=>?_,fun i hi=>?_,fun i hi=>rfl,rfl,rfl⟩ <;> simp[q i,cy0]
theorem i64_z64:∀x∈z64,I64 x:=by intro x hx;obtain⟨_,rfl⟩:=List.mem_replicate.1 hx;exact⟨by omega,by omega⟩
theorem i64_z6:∀x∈z6,I64 x:=by intro x hx;obtain⟨_,rfl⟩:=List.mem_replicate.1 hx;exact⟨by omega,by omega⟩
theorem small_zero:SmallC cy0:=⟨by simp[cy0],by simp[cy0],⟨by simp[cy0],by simp[cy0]⟩,fun i _=>by simp[cy0],fun i _=>by simp[cy0],fun s _=>by simp[cy0],fun s _=>⟨by simp[cy0],by simp[cy0]⟩⟩
theorem CyO.toV {w:World} {lo:Nat} {a b p s:Value} (h:CyO w lo a b p s z64 z6 z3 z4):∃P Q,CyV w w.heap.size a b p s vnil cy0 P Q:=by
 obtain⟨V,N,C,D,hr,rfl,rfl,rfl,rfl,e4⟩:=h.toR;rw[←e4];exact cyV_raw hr.raw hr.con (fun κ hκ x hx=>(hr.dat κ hκ x hx).to fun b hb=>hb.2.1) small_zero i64_z64 i64_z6
theorem CopP.sl {st:Cy} {w:World} {e:Ending} {w':World} (h:CopP st w e w'):∃V N C D b0 b1 b2 b3 b4 n0 n1 n2 n3 n4 k0 k1 k2 k3 k4,(V 0=.slice b0 n0 k0∧V 1=.slice b1 n1 k1∧V 2=.slice b2 n2 k2∧V 3=.slice b3 n3 k3∧V 4=.slice b4 n4 k4)∧e=.returned (.agg #[.slice b0 n0 k0,.slice b1 n1 k1,.slice b2 n2 k2,.slice b3 n3 k3,.slice b4 n4 k4])∧CyR w' w.heap.size st V N C D∧Below w.heap.size w w':=by
 obtain⟨V,N,C,D,rfl,hr,hbl⟩:=h;obtain⟨A,n,K,e0,e1,e2,e3,e4⟩:=hr.raw.sl;exact⟨V,N,C,D,_,_,_,_,_,_,_,_,_,_,_,_,_,_,_,⟨e0,e1,e2,e3,e4⟩,by rw[e0,e1,e2,e3,e4],hr,hbl⟩
theorem CopP.out {st : Cy} {w wa : World} {V : Nat → Value} {N : Nat → Nat} {C : Nat → List Value} {D : Nat → List TJV} {b0 b1 b2 b3 b4 : Option Addr} {n0 n1 n2 n3 n4 k0 k1 k2 k3 k4 base : Nat} (hE : V 0 = .slice b0 n0 k0 ∧ V 1 = .slice b1 n1 k1 ∧ V 2 = .slice b2 n2 k2 ∧ V 3 = .slice b3 n3 k3 ∧ V 4 = .slice b4 n4 k4) (hr : CyR wa base st V N C D) (hw : Below w.heap.size w wa) (g : Nat) (hg : g < base) (hg2 : w.heap.size ≤ g) :
  CopP st w (.returned (.agg #[.slice b0 n0 k0,.slice b1 n1 k1,.slice b2 n2 k2,.slice b3 n3 k3,.slice b4 n4 k4])) (((((wa.setCell ⟨g,0,none⟩ (.slice b0 n0 k0)).setCell ⟨g,1,none⟩ (.slice b1 n1 k1)).setCell ⟨g,2,none⟩ (.slice b2 n2 k2)).setCell ⟨g,3,none⟩ (.slice b3 n3 k3)).setCell ⟨g,4,none⟩ (.slice b4 n4 k4)):=by
 obtain⟨e0,e1,e2,e3,e4⟩:=hE;refine⟨V,N,C,D,by rw[e0,e1,e2,e3,e4],(hr.kept (fun b h1 h2=>(touchC g _ _ _ _ _ _).block b h2 (by omega)) (touchC g _ _ _ _ _ _).size).rebase (by omega),?_⟩;exact((((hw.setCell (p:=⟨g,_,none⟩) hg2 _).setCell (p:=⟨g,_,none⟩) hg2 _).setCell (p:=⟨g,_,none⟩) hg2 _).setCell (p:=⟨g,_,none⟩) hg2 _).setCell (p:=⟨g,_,none⟩) hg2 _
set_option maxRecDepth 8000 in
theorem cycNew_any (w:World):Calls Tryz.prog 23 #[] w (CopP cy0 w):=by
 go_enter Tryz.func23,Tryz.ntmps23
 go_wp2_with fail
 refine(implAtmNewW_any _).mono ?_;rintro e w1 ⟨wa,wc,g,ga,go,gc,rfl,o1,o2,_,_,hap,hb⟩;have HR:=hid ((Bx.new w #[vnil,vnil,vnil,vnil,vnil] 46 (by simp)).below hb (by simp));have HB1:=hid ((bx1 w _).trans (hb.mono (by simp)));have O1:=hid o1;have O2:=hid o2;have AP:=hid hap;clear o1 o2 hap hb;obtain⟨⟨r0,r1,r2,r3,r4⟩,f0,f1,f2,f3,f4⟩:=HR.out.five;have hz1:=HR.out.lt
 go_wp2_with fail
 clear r0 r1 r2 r3 r4 f0 f1 f2 f3 f4;obtain⟨W2,hW2⟩:∃W2,W2=w1.alloc (.cells #[.slice (some ⟨g,wa,none⟩) 64 wc,.slice (some ⟨ga,go,none⟩) 6 gc,.slice none 0 0,.slice none 0 0,.slice none 0 0] 46):=⟨_,rfl⟩
 rw[←hW2];have hb2:Below w1.heap.size w1 W2:=by rw[hW2];exact bx1 _ _
 have hz2:W2.heap.size=w1.heap.size+1:=by rw[hW2];simp
 have HS:=hid (show Bx W2 w1.heap.size [.slice (some ⟨g,wa,none⟩) 64 wc,.slice (some ⟨ga,go,none⟩) 6 gc,vnil,vnil,vnil] by rw[hW2];exact Bx.new w1 #[.slice (some ⟨g,wa,none⟩) 64 wc,.slice (some ⟨ga,go,none⟩) 6 gc,vnil,vnil,vnil] _ (by simp));have HR2:=hid (HR.out.below hb2 hz1);have HB2:=hid hb2;have HZ2:=hid hz2;clear hW2 hb2 HR hz2
 go_loopw [4] (fun i wr=>∃(k:Nat) (u:Value),i=.int .i64 k∧k≤3∧Owns wr (w1.heap.size+1) 52 4 rowP u (List.replicate k ((0,3):Int×Int))∧Below w1.heap.size W2 wr∧Bx wr w.heap.size [vnil,vnil,vnil,vnil,vnil]∧Bx wr w1.heap.size [.slice (some ⟨g,wa,none⟩) 64 wc,.slice (some ⟨ga,go,none⟩) 6 gc,u,vnil,vnil]∧w1.heap.size+1≤wr.heap.size) (fun i _=>3 - (intOf i).toNat)
 case atStart=>exact⟨0,_,rfl,by omega,Owns.zero,Below.refl _ _,HR2.out,HS.out,by have:=HZ2.out;omega⟩
 case round=>
  clear HS HR2;obtain⟨k,u,rfl,hk3,hown,hbl,hr,hs,hsz⟩:=hrel;have HOW:=hid hown;have HBL:=hid hbl;have HR:=hid hr;have HS:=hid hs;have HSZ:=hid hsz;clear hown hbl hr hs hsz;have hrep:=hid (show List.replicate k ((0,3):Int×Int)++[(0,3)]=List.replicate (k+1) (0,3) from by rw[List.replicate_succ']);have hlr:=hid (show(List.replicate k ((0,3):Int×Int)).length=k from by simp);obtain⟨⟨s0,s1,s2,s3,s4⟩,e0,e1,e2,e3,e4⟩:=HS.out.five;have hsl:=HS.out.lt;by_cases hlt:k<3
  ·go_wp2_with (at_builtin;go_must (refine wpList_push elem_portY rowP rowP_len rowP_one wr rfl _ _ rfl (w1.heap.size+1) _ _ (0,3) (by rfl) HOW.out _ (by rfl) (by rfl) (by rw[hlr.out];omega) (by rw[hlr.out];omega) HSZ.out ?_);intro v' w3 hown1 hb1;rw[hrep.out]at hown1;obtain⟨va,vc,hv', hvc1,hvc2⟩:=hown1.shape;rw[List.length_replicate]at hv';subst hv';have HS3:=hid (HS.out.below hb1 (by omega));have HR3:=hid (HR.out.below hb1 (by omega));obtain⟨⟨s0,s1,s2,s3,s4⟩,e0,e1,e2,e3,e4⟩:=HS3.out.five;have hsl3:=HS3.out.lt;have HO1:=hid hown1;have HB1':=hid hb1;clear hown1 hb1)
   go_roundw
   case rel=>exact⟨k+1,_,by go_num,by omega,HO1.out.set' _ _ _ (fun j hj=>by have:=(OwnR.lt HO1.out j hj).1;omega),(HBL.out.trans (HB1'.out.mono (by omega))).setCell (by exact Nat.le_refl _) _,HR3.out.kept (Below.heap_setCell _ _ _ _ (by show w.heap.size≠w1.heap.size;omega)),HS3.out.set 2 (by simp) _,by have:=HB1'.out.size;have:=HSZ.out;simp[World.setCell];omega⟩
   case measure=>simp[intOf];omega
  ·obtain rfl:k=3:=by omega
   go_wp2_with fail
   obtain⟨wo,hwo⟩:∃W,W=wr:=⟨_,rfl⟩
   subst hwo;have hz3:w1.heap.size<wo.heap.size:=hsl;clear s0 s1 s2 s3 s4 e0 e1 e2 e3 e4;have hc3:((3:Nat):Int)=3:=rfl;simp only[hc3];clear hc3
   go_loopw [13] (fun i wx=>∃(k:Nat) (v:Value),i=.int .i64 k∧k≤4∧Owns wx wo.heap.size 50 3 rowS v (List.replicate k (2:Int))∧Owns wx (w1.heap.size+1) 52 4 rowP u (List.replicate 3 ((0,3):Int×Int))∧Below w1.heap.size W2 wx∧Bx wx w.heap.size [vnil,vnil,vnil,vnil,vnil]∧Bx wx w1.heap.size [.slice (some ⟨g,wa,none⟩) 64 wc,.slice (some ⟨ga,go,none⟩) 6 gc,u,v,vnil]∧wo.heap.size≤wx.heap.size) (fun i _=>4 - (intOf i).toNat)
   case atStart=>exact⟨0,_,rfl,by omega,Owns.zero,HOW.out,HBL.out,HR.out,HS.out,Nat.le_refl _⟩
   case round=>
    have hul:=hid (fun j hj=>(OwnR.lt HOW.out j hj).2);clear HBL HR HS;obtain⟨k,v,rfl,hk4,hown,hop,hbl,hr,hs,hsz⟩:=hrel;have HOS:=hid hown;have HOP:=hid hop;have HBL:=hid hbl;have HR:=hid hr;have HS:=hid hs;have HSZ2:=hid hsz;clear hown hop hbl hr hs hsz;have hrep:=hid (show List.replicate k (2:Int)++[2]=List.replicate (k+1) 2 from by rw[List.replicate_succ']);have hlr:=hid (show(List.replicate k (2:Int)).length=k from by simp);obtain⟨⟨s0,s1,s2,s3,s4⟩,e0,e1,e2,e3,e4⟩:=HS.out.five;have hsl:=HS.out.lt;by_cases hlt4:k<4
    ·have hle3:(k:Int)≤3:=by omega
     go_wp2_with (at_builtin;go_must (refine wpList_push elem_slaveY rowS rowS_len rowS_one _ rfl _ _ rfl wo.heap.size _ _ 2 (by rfl) HOS.out _ (by rfl) (by rfl) (by rw[hlr.out];omega) (by rw[hlr.out];omega) HSZ2.out ?_);intro v' w3 hown1 hb1;rw[hrep.out]at hown1;obtain⟨va,vc,hv', hvc1,hvc2⟩:=hown1.shape;rw[List.length_replicate]at hv';subst hv';have HS3:=hid (HS.out.below hb1 (by omega));have HR3:=hid (HR.out.below hb1 (by omega));have HOP3:=hid (OwnR.below HOP.out hb1 (fun j hj=>hul.out j hj));obtain⟨⟨s0,s1,s2,s3,s4⟩,e0,e1,e2,e3,e4⟩:=HS3.out.five;have hsl3:=HS3.out.lt;have HO1:=hid hown1;have HB1':=hid hb1;clear hown1 hb1)
     go_roundw
     case rel=>exact⟨k+1,_,by go_num,by omega,HO1.out.set' _ _ _ (fun j hj=>by have:=(OwnR.lt HO1.out j hj).1;omega),Owns.set' HOP3.out _ _ _ (fun j hj=>by have:=(OwnR.lt HOP3.out j hj).1;omega),(HBL.out.trans (HB1'.out.mono (by omega))).setCell (by exact Nat.le_refl _) _,HR3.out.kept (Below.heap_setCell _ _ _ _ (by show w.heap.size≠w1.heap.size;omega)),HS3.out.set 3 (by simp) _,by have:=HB1'.out.size;have:=HSZ2.out;simp[World.setCell];omega⟩
     case measure=>simp[intOf];omega
    ·obtain rfl:k=4:=by omega
     obtain⟨pa,pc,rfl,_,_⟩:=HOP.out.shape;obtain⟨sa,sc,rfl,_,_⟩:=HOS.out.shape;simp only[List.length_replicate]at *;have O1W:=hid (OwnR.below (O1.out.below HB2.out) HBL.out (fun j hj=>(OwnR.lt O1.out j hj).2));have O2W:=hid (OwnR.below (O2.out.below HB2.out) HBL.out (fun j hj=>(OwnR.lt O2.out j hj).2));have hg1:∀j,(Value.slice (some ⟨g,wa,none⟩) 64 wc).ownBlock=some j→w.heap.size+1≤j∧j<w1.heap.size:=fun j hj=>by have:=OwnR.lt O1.out j hj;simpa using this
     have hg2:∀j,(Value.slice (some ⟨ga,go,none⟩) 6 gc).ownBlock=some j→w.heap.size+1≤j∧j<w1.heap.size:=fun j hj=>by have:=OwnR.lt O2.out j hj;simpa using this
     have hg3:∀j,(Value.slice pa 3 pc).ownBlock=some j→w1.heap.size+1≤j∧j<wo.heap.size:=fun j hj=>⟨(OwnR.lt HOP.out j hj).1,hul.out j hj⟩
     have hg4:∀j,(Value.slice sa 4 sc).ownBlock=some j→wo.heap.size≤j:=fun j hj=>(OwnR.lt HOS.out j hj).1
     have HCY := hid (show CyO _ w.heap.size (.slice (some ⟨g, wa, none⟩) 64 wc) (.slice (some ⟨ga, go, none⟩) 6 gc) (.slice pa 3 pc) (.slice sa 4 sc) z64 z6 z3 z4 from
      ⟨OwnR.rebase O1W.out (show w.heap.size ≤ _ by simp), OwnR.rebase O2W.out (show w.heap.size ≤ _ by simp), OwnR.rebase HOP.out (show w.heap.size ≤ w1.heap.size + 1 by omega), OwnR.rebase HOS.out (show w.heap.size ≤ wo.heap.size by omega),
       AP.out,Apart.of_lt (m:=w1.heap.size) (fun j hj=>(hg1 j hj).2) (fun j hj=>by have:=hg3 j hj;omega),Apart.of_lt (m:=w1.heap.size) (fun j hj=>(hg1 j hj).2) (fun j hj=>by have:=hg4 j hj;omega),
       Apart.of_lt (m:=w1.heap.size) (fun j hj=>(hg2 j hj).2) (fun j hj=>by have:=hg3 j hj;omega),Apart.of_lt (m:=w1.heap.size) (fun j hj=>(hg2 j hj).2) (fun j hj=>by have:=hg4 j hj;omega),Apart.of_lt (m:=wo.heap.size) (fun j hj=>(hg3 j hj).2) (fun j hj=>hg4 j hj)⟩)
     clear hg1 hg2 hg3 hg4;obtain⟨⟨s0,s1,s2,s3,s4⟩,_⟩:=HS.out.five
     go_wp2_with fail
     clear s0 s1 s2 s3 s4;obtain⟨PP,QQ,hvv⟩:=HCY.out.toV;refine(cycCopyV_any hvv (Nat.le_refl _) small_zero).mono ?_;rintro e w5 hcop;obtain⟨V,N,C,D,y0,y1,y2,y3,y4,m0,m1,m2,m3,m4,j0,j1,j2,j3,j4,hE,rfl,hC,hb5⟩:=hcop.sl;have HC5:=hid hC;have HB5:=hid hb5;have HE:=hid hE;clear hC hb5 hcop hE hvv;have HR5:=hid (HR.out.below HB5.out HR.out.lt);obtain⟨⟨r0,r1,r2,r3,r4⟩,f0,f1,f2,f3,f4⟩:=HR5.out.five;have hrl:=HR.out.lt;have hr5:=HR5.out.lt;have hbE:Below w.heap.size w w5:=((HB1.out.trans (HB2.out.mono (by omega))).trans (HBL.out.mono (by omega))).trans (HB5.out.mono (by omega));have HBE:=hid hbE;clear hbE
     go_wp2_with fail
     refine bodyPost_ret (zA4 Tryz.results23 _ _ ⟨w.heap.size,0,none⟩ (.agg #[.slice y0 m0 j0,.slice y1 m1 j1,.slice y2 m2 j2,.slice y3 m3 j3,.slice y4 m4 j4]) rfl (zL5 _ _ _ _ _ _ _ (by simp[go_sem, *]) (by simp[go_sem, *]) (by simp[go_sem, *]) (by simp[go_sem, *]) (by simp[go_sem, *]))) rfl ?_;exact CopP.out HE.out HC5.out HBE.out w.heap.size (by omega) (Nat.le_refl _)
theorem CopP.view {c:Cfg} (hb:Bus c) {st:Cy} (hg:Good c st) {w:World} {e:Ending} {w':World} (h:CopP st w e w'):∃b0 b1 b2 b3 b4 n0 n1 n2 n3 n4 k0 k1 k2 k3 k4 P Q,e=.returned (.agg #[.slice b0 n0 k0,.slice b1 n1 k1,.slice b2 n2 k2,.slice b3 n3 k3,.slice b4 n4 k4])∧CyV w' w'.heap.size (.slice b0 n0 k0) (.slice b1 n1 k1) (.slice b2 n2 k2) (.slice b3 n3 k3) (.slice b4 n4 k4) st P Q∧Below w.heap.size w w':=by
 obtain⟨V,N,C,D,rfl,hr,hbl⟩:=h;obtain⟨P,Q,hv⟩:=hr.toV hb hg;obtain⟨b0,b1,b2,b3,b4,n0,n1,n2,n3,n4,k0,k1,k2,k3,k4,e0,e1,e2,e3,e4⟩:=hv.sl;rw[e0,e1,e2,e3,e4]at hv;exact⟨b0,b1,b2,b3,b4,n0,n1,n2,n3,n4,k0,k1,k2,k3,k4,P,Q,by rw[e0,e1,e2,e3,e4],hv,hbl⟩
set_option maxRecDepth 8000 in
theorem crPlay_any {c : Cfg} (hbus : Bus c) {w : World} {B : Nat} {u v : Value} (hc : BusV w B u c) {ins : List Inp} (hi : Ins w B v ins) (hB : B ≤ w.heap.size) (hl : ins.length ≤ 300) :
  Calls Tryz.prog 20 #[u,v] w (CopP (runC c ins cy0) w):=by
 obtain⟨mv,lb,lo,lc,pb,po,pc,QQ,K,rfl,⟨ma,mn,mk,rfl⟩,_,_,_,_,_,_⟩:=hc.opened hbus;obtain⟨ia,ic,rfl,ic1,ic2,ic3,_,_⟩:=hi.opened;obtain⟨il,hil⟩:∃x,x=ins.length:=⟨_,rfl⟩
 rw[←hil]at hi ⊢;have HBV:=hid hc;have HIV:=hid hi;obtain⟨w0,hw0⟩:∃W,W=(w.alloc (.cells #[.slice ma mn mk,.slice (some ⟨lb,lo,none⟩) 4 lc,.slice (some ⟨pb,po,none⟩) 3 pc] 27)).alloc (.cells #[.slice none 0 0,.slice none 0 0,.slice none 0 0,.slice none 0 0,.slice none 0 0] 46):=⟨_,rfl⟩
 have hb0:Below w.heap.size w w0:=by rw[hw0];exact((Below.refl _ _).alloc (Nat.le_refl _) _).alloc (by simp) _
 obtain⟨g3,hg3⟩:∃g,g=w.heap.size+1:=⟨_,rfl⟩
 have X0 := hid (show Bx w0 w.heap.size [.slice ma mn mk, .slice (some ⟨lb, lo, none⟩) 4 lc, .slice (some ⟨pb, po, none⟩) 3 pc] by
  rw[hw0];exact(Bx.new w #[.slice ma mn mk,.slice (some ⟨lb,lo,none⟩) 4 lc,.slice (some ⟨pb,po,none⟩) 3 pc] 27 (by simp)).below ((Below.refl _ _).alloc (Nat.le_refl _) _) (by simp))
 have X3 := hid (show Bx w0 g3 [vnil, vnil, vnil, vnil, vnil] by
  rw[hw0,hg3];have:=Bx.new (w.alloc (.cells #[.slice ma mn mk,.slice (some ⟨lb,lo,none⟩) 4 lc,.slice (some ⟨pb,po,none⟩) 3 pc] 27)) #[vnil,vnil,vnil,vnil,vnil] 46 (by simp);simpa using this)
 have HB0:=hid hb0;obtain⟨b0,b1,b2⟩:=X0.out.three.1;have bz:=X0.out.lt;clear hc hi hb0 hil
 go_enter Tryz.func20,Tryz.ntmps20
 go_upto_region 1 with fail
 rw[←hw0,←hg3];have HG3:=hid hg3;clear hw0 hg3
 go_region_with (first
  |(go_at_call 23;go_loud ((with_reducible refine(cycNew_any _).mono ?_));rintro e w2 hcop;obtain⟨z0,z1,z2,z3,z4,n0,n1,n2,n3,n4,k0,k1,k2,k3,k4,P,Q,rfl,hv,hb2⟩:=hcop.view hbus (zE3 c);have HB2:=hid ((show Below w0.heap.size w0 w0.drew from(Below.refl _ _).drew).trans hb2);have HV2:=hid hv;have b0:=(HB2.out.cell (p:=⟨w.heap.size,0,none⟩) bz).trans b0;have b1:=(HB2.out.cell (p:=⟨w.heap.size,1,none⟩) bz).trans b1;have b2:=(HB2.out.cell (p:=⟨w.heap.size,2,none⟩) bz).trans b2;clear hcop hv hb2)
  |(go_at_call 40;go_loud ((with_reducible refine(cycRun_any hbus ((HBV.out.below ((HB0.out.trans (HB2.out.mono HB0.out.size)).mono hB)).mono (Nat.le_trans hB (Nat.le_trans HB0.out.size HB2.out.size))) HV2.out ((HIV.out.below ((HB0.out.trans (HB2.out.mono HB0.out.size)).mono hB)).mono (Nat.le_trans hB (Nat.le_trans HB0.out.size HB2.out.size))) (Nat.le_refl _) (zE3 c) hl).mono ?_));rintro e w3 hcop;obtain⟨V,N,C,D,y0,y1,y2,y3,y4,m0,m1,m2,m3,m4,j0,j1,j2,j3,j4,hE,rfl,hr,hb3⟩:=hcop.sl;have HE:=hid hE;have HR:=hid hr;have HB3:=hid (HB2.out.trans (hb3.mono HB2.out.size));have HX3:=hid (X3.out.below HB3.out X3.out.lt);have HQ3:=hid hb3;obtain⟨⟨q0,q1,q2,q3,q4⟩,f0,f1,f2,f3,f4⟩:=HX3.out.five;have hrl:=HX3.out.lt;clear hcop hE hr hb3))
 all_goals
  go_wp2_with fail
  refine bodyPost_ret (zA4 Tryz.results20 _ _ ⟨g3,0,none⟩ (.agg #[.slice y0 m0 j0,.slice y1 m1 j1,.slice y2 m2 j2,.slice y3 m3 j3,.slice y4 m4 j4]) rfl (zL5 _ _ _ _ _ _ _ (by simp[go_sem, *]) (by simp[go_sem, *]) (by simp[go_sem, *]) (by simp[go_sem, *]) (by simp[go_sem, *]))) rfl ?_;exact CopP.out HE.out HR.out (HB0.out.trans (HB3.out.mono HB0.out.size)) g3 (by have:=X3.out.lt;have:=HB2.out.size;omega) (by have:=HG3.out;omega)
def PlayP (w:World) (e:Ending) (w':World):Prop:=∃u v c ins,e=.returned (.tuple #[u,v])∧Bus c∧BusV w' w'.heap.size u c∧Ins w' w'.heap.size v ins∧ins.length≤89∧Below w.heap.size w w'
def DrawPl:Prop:=∀(v:Value) (bs:List Nat) (B:Nat) (w:World),Bytes w B v bs→B≤w.heap.size→Calls Tryz.prog 15 #[v] w (PlayP w)
def CyBox (w:World) (gs:Nat) (st:Cy):Prop:=∃(V:Nat→Value) (N:Nat→Nat) (C:Nat→List Value) (D:Nat→List TJV),Bx w gs [V 0,V 1,V 2,V 3,V 4]∧Raw w 0 V N C∧Cont st [] V N C D∧Free V gs∧∀κ,κ<20→∀x∈D κ,IntsD w (fun b=>b<w.heap.size∧b≠gs) x.2 x.1.rsp.data
theorem CyBox.below {w w':World} {gs:Nat} {st:Cy} (h:CyBox w gs st) (hb:Below w.heap.size w w'):CyBox w' gs st:=by
 obtain⟨V,N,C,D,h1,h2,h3,h4,h5⟩:=h;exact⟨V,N,C,D,h1.below hb h1.lt,h2.below hb,h3,h4,fun κ hκ x hx=>((h5 κ hκ x hx).kept fun b hb2=>hb.block b hb2.1).weak fun b hb2=>⟨Nat.lt_of_lt_of_le hb2.1 hb.size,hb2.2⟩⟩
theorem CyBox.lt {w:World} {gs:Nat} {st:Cy} (h:CyBox w gs st):gs<w.heap.size:=by obtain⟨V,N,C,D,h1,_⟩:=h;exact h1.lt
theorem raw_zero {w:World} {base:Nat} {V:Nat→Value} {N:Nat→Nat} {C:Nat→List Value} (h:Raw w base V N C):Raw w 0 V N C:=⟨fun κ hκ=>OwnR.rebase (h.own κ hκ) (Nat.zero_le _),h.ap⟩
theorem CyBox.new {w w':World} {base gs:Nat} {st:Cy} {V:Nat→Value} {N:Nat→Nat} {C:Nat→List Value} {D:Nat→List TJV} (h:CyR w base st V N C D) (hb:Below w.heap.size w w') (hg:w.heap.size≤gs) (hx:Bx w' gs [V 0,V 1,V 2,V 3,V 4]):CyBox w' gs st :=
 ⟨V,N,C,D,hx,raw_zero (h.raw.below hb),h.con,fun κ hκ e=>by have:=(h.raw.lt hκ e).2;omega,fun κ hκ x hx2=>((h.dat κ hκ x hx2).kept fun b hb2=>hb.block b hb2.2.1).weak fun b hb2=>⟨Nat.lt_of_lt_of_le hb2.2.1 hb.size,by have:=hb2.2.1;omega⟩⟩
theorem CyBox.set {w w':World} {base gs:Nat} {st:Cy} {V:Nat→Value} {N:Nat→Nat} {C:Nat→List Value} {D:Nat→List TJV} (h:CyR w base st V N C D) (hk:∀b,b≠gs→w'.heap[b]? = w.heap[b]?) (hz:w'.heap.size=w.heap.size) (hg:gs<base) (hx:Bx w' gs [V 0,V 1,V 2,V 3,V 4]):CyBox w' gs st:=by
 have hf:Free V gs:=fun κ hκ e=>by have:=(h.raw.lt hκ e).1;omega
 exact⟨V,N,C,D,hx,raw_zero (h.raw.kept fun b _ hb=>hk b fun e=>hb (e▸hf)),h.con,hf,fun κ hκ x hx2=>((h.dat κ hκ x hx2).kept fun b hb2=>hk b (by have:=hb2.1;omega)).weak fun b hb2=>⟨by rw[hz];exact hb2.2.1,by have:=hb2.1;omega⟩⟩
theorem CyBox.view {c:Cfg} (hb:Bus c) {w:World} {gs:Nat} {st:Cy} (h:CyBox w gs st) (hg:Good c st):∃b0 b1 b2 b3 b4 n0 n1 n2 n3 n4 k0 k1 k2 k3 k4 P Q,Bx w gs [.slice b0 n0 k0,.slice b1 n1 k1,.slice b2 n2 k2,.slice b3 n3 k3,.slice b4 n4 k4]∧CyV w w.heap.size (.slice b0 n0 k0) (.slice b1 n1 k1) (.slice b2 n2 k2) (.slice b3 n3 k3) (.slice b4 n4 k4) st P Q:=by
 obtain⟨V,N,C,D,h1,h2,h3,h4,h5⟩:=h;obtain⟨P,Q,hv⟩:=cyV_raw h2 h3 (fun κ hκ x hx=>(h5 κ hκ x hx).to fun b hb=>hb.1) (zK4 hb hg) (atm_i64 hg.atm).1 (atm_i64 hg.atm).2;obtain⟨b0,b1,b2,b3,b4,n0,n1,n2,n3,n4,k0,k1,k2,k3,k4,e0,e1,e2,e3,e4⟩:=hv.sl;rw[e0,e1,e2,e3,e4]at hv h1;exact⟨b0,b1,b2,b3,b4,n0,n1,n2,n3,n4,k0,k1,k2,k3,k4,P,Q,h1,hv⟩
theorem Bx.put5 {w:World} {g:Nat} {a b c d e:Value} (h:Bx w g [a,b,c,d,e]) (a' b' c' d' e':Value):Bx (((((w.setCell ⟨g,0,none⟩ a').setCell ⟨g,1,none⟩ b').setCell ⟨g,2,none⟩ c').setCell ⟨g,3,none⟩ d').setCell ⟨g,4,none⟩ e') g [a', b', c', d', e']:=by
 have:=((((h.set 0 (by simp) a').set 1 (by simp) b').set 2 (by simp) c').set 3 (by simp) d').set 4 (by simp) e';simpa using this
theorem put5_other {w:World} {g:Nat} {a' b' c' d' e':Value} (b:Nat) (hb:b≠g):(((((w.setCell ⟨g,0,none⟩ a').setCell ⟨g,1,none⟩ b').setCell ⟨g,2,none⟩ c').setCell ⟨g,3,none⟩ d').setCell ⟨g,4,none⟩ e').heap[b]? = w.heap[b]?:=by
 rw[Below.heap_setCell _ _ _ _ hb,Below.heap_setCell _ _ _ _ hb,Below.heap_setCell _ _ _ _ hb,Below.heap_setCell _ _ _ _ hb,Below.heap_setCell _ _ _ _ hb]
theorem CopP.store {st st' : Cy} {w wa : World} {e : Ending} {gs : Nat} (hs : CyBox w gs st) (h : CopP st' w e wa) : ∃ b0 b1 b2 b3 b4 n0 n1 n2 n3 n4 k0 k1 k2 k3 k4, e = .returned (.agg #[.slice b0 n0 k0, .slice b1 n1 k1, .slice b2 n2 k2, .slice b3 n3 k3, .slice b4 n4 k4]) ∧ (∃ a b c d f, Bx wa gs [a, b, c, d, f]) ∧ Below w.heap.size w wa ∧
  CyBox (((((wa.setCell ⟨gs,0,none⟩ (.slice b0 n0 k0)).setCell ⟨gs,1,none⟩ (.slice b1 n1 k1)).setCell ⟨gs,2,none⟩ (.slice b2 n2 k2)).setCell ⟨gs,3,none⟩ (.slice b3 n3 k3)).setCell ⟨gs,4,none⟩ (.slice b4 n4 k4)) gs st':=by
 obtain⟨V,N,C,D,b0,b1,b2,b3,b4,n0,n1,n2,n3,n4,k0,k1,k2,k3,k4,⟨e0,e1,e2,e3,e4⟩,he,hr,hb⟩:=h.sl;obtain⟨V0,N0,C0,D0,hx,_⟩:=hs;have hx2:=hx.below hb hx.lt;refine⟨b0,b1,b2,b3,b4,n0,n1,n2,n3,n4,k0,k1,k2,k3,k4,he,⟨_,_,_,_,_,hx2⟩,hb,CyBox.set hr put5_other (by simp) hx.lt ?_⟩;rw[e0,e1,e2,e3,e4];exact hx2.put5 _ _ _ _ _
theorem CyBox.rows {c : Cfg} (hb : Bus c) {w : World} {gs : Nat} {st : Cy} (h : CyBox w gs st) (hg : Good c st) : ∃ (b0 b1 b4 : Option Addr) (n0 n1 k0 k1 k4 pg po pc tg tp tc : Nat) (P : List PS) (Q : List SS), Bx w gs [.slice b0 n0 k0, .slice b1 n1 k1, .slice (some ⟨pg, po, none⟩) 3 pc, .slice (some ⟨tg, tp, none⟩) 4 tc, .slice b4 st.told.length k4] ∧
  CyV w w.heap.size (.slice b0 n0 k0) (.slice b1 n1 k1) (.slice (some ⟨pg,po,none⟩) 3 pc) (.slice (some ⟨tg,tp,none⟩) 4 tc) (.slice b4 st.told.length k4) st P Q ∧
  (∀k,k<3→∀j,j<4→w.cell? ⟨pg,po+k * 4+j,none⟩=(rowPS (P.getD k default))[j]?)∧(∀k,k<4→∀j,j<3→w.cell? ⟨tg,tp+k * 3+j,none⟩=(rowSS (Q.getD k default))[j]?) ∧
  (∀k,k<3→∃qa qc oa oc,P.getD k default=⟨(st.ports k).next,(qa,(st.ports k).queue.length,qc),(oa,(st.ports k).out.length,oc),(st.ports k).last⟩) ∧
  (∀k,k<4→∃qa qc oa oc,Q.getD k default=⟨(qa,(st.slaves k).pipe.length,qc),(oa,(st.slaves k).done.length,oc),(st.slaves k).last⟩):=by
 obtain⟨b0,b1,b2,b3,b4,n0,n1,n2,n3,n4,k0,k1,k2,k3,k4,P,Q,hx,hv⟩:=h.view hb hg;obtain⟨pg,po,pc,e2,_,_,_,hpc⟩:=hv.ps.at (by rw[hv.lp];omega)
 obtain⟨tg,tp,tc,e3,_,_,_,htc⟩:=hv.ss.at (by rw[hv.lq];omega)
 rw[hv.lp]at e2 hpc;rw[hv.lq]at e3 htc;have e4:=hv.told.len;rw[e2,e3,e4]at hx hv;refine⟨b0,b1,b4,n0,n1,k0,k1,k4,pg,po,pc,tg,tp,tc,P,Q,hx,hv,fun k hk j hj=>hpc k default hk j hj,fun k hk j hj=>htc k default hk j hj,fun k hk=>?_,fun k hk=>?_⟩
 ·have h1:=hv.pn k hk;have h2:=hv.q k hk;have h3:=hv.o k hk;obtain⟨x,hx⟩:∃x,x=P.getD k default:=⟨_,rfl⟩
  rw[←hx]at h1 h2 h3 ⊢;obtain⟨nx,⟨qa,qn,qc⟩,⟨oa,on,oc⟩,la⟩:=x;simp only[sl]at h1 h2 h3;rw[←h1.1,←h1.2,←h2.len,←h3.len];exact⟨_,_,_,_,rfl⟩
 ·have h1:=hv.sn k hk;have h2:=hv.p k hk;have h3:=hv.d k hk;obtain⟨x,hx⟩:∃x,x=Q.getD k default:=⟨_,rfl⟩
  rw[←hx]at h1 h2 h3 ⊢;obtain⟨⟨qa,qn,qc⟩,⟨oa,on,oc⟩,la⟩:=x;simp only[sl]at h1 h2 h3;rw[←h1,←h2.len,←h3.len];exact⟨_,_,_,_,rfl⟩
theorem JobsV.cells {w : World} {B : Nat} {v : Value} {js : List TJ} (h : JobsV w B v js) :
  ∃ ao cap, v = .slice ao js.length cap ∧ js.length ≤ cap ∧ cap ≤ 9223372036854775807 ∧ js.length ≤ 140737488351232 ∧
   (js.length≠0→∃b off,ao=some ⟨b,off,none⟩∧b<B∧∀t,t<js.length→∃da dn dc,w.cell? ⟨b,off+t * 5,none⟩=some (.int .i64 ((js.getD t default).who:Nat))∧w.cell? ⟨b,off+t * 5+1,none⟩=some (.int .i64 ((js.getD t default).n:Nat))∧w.cell? ⟨b,off+t * 5+2,none⟩=some (.int .i64 (js.getD t default).rsp.id)∧w.cell? ⟨b,off+t * 5+3,none⟩=some (.int .i64 (js.getD t default).rsp.code)∧w.cell? ⟨b,off+t * 5+4,none⟩=some (.slice da dn dc)∧Ints w B (.slice da dn dc) (js.getD t default).rsp.data):=by
 obtain⟨D,⟨ao,cap,hv,h1,h2,h0,h9,h3⟩,rfl,hd⟩:=h;simp only[List.length_map]at hv h1 h0 h3 ⊢;refine⟨ao,cap,hv,h1,h2,h0,fun hn=>?_⟩;obtain⟨b,off,ha,hlt,hc⟩:=h3 hn;refine⟨b,off,ha,hlt,fun t ht=>?_⟩;have e:(D.map tjRow).getD t []=tjRow (D[t]):=by simp[List.getD,ht]
 have e2:(D.map (·.1)).getD t default=(D[t]).1:=by simp[List.getD,ht]
 have c0:=hc t ht 0 (by omega);have c1:=hc t ht 1 (by omega);have c2:=hc t ht 2 (by omega);have c3:=hc t ht 3 (by omega);have c4:=hc t ht 4 (by omega);have hi:=hd _ (List.getElem_mem ht);obtain⟨da,dc,he,_⟩:=hi.opened;rw[e]at c0 c1 c2 c3 c4;rw[e2];rw[he]at hi;exact⟨da,_,dc,by simpa[tjRow]using c0,by simpa[tjRow]using c1,by simpa[tjRow]using c2,by simpa[tjRow]using c3,by simpa[tjRow,he]using c4,hi⟩
theorem take_filter {α:Type} [Inhabited α] (p:α→Bool) (l:List α) {m:Nat} (h:m<l.length):(l.take (m+1)).filter p=(l.take m).filter p++(if p (l.getD m default) then[l.getD m default] else[]):=by
 rw[List.take_add_one,List.filter_append];have:l[m]?.toList=[l.getD m default]:=by simp[List.getD,h]
 rw[this];by_cases hp:p (l.getD m default)=true
 ·rw[if_pos hp,List.filter_cons_of_pos hp,List.filter_nil]
 ·rw[if_neg hp,List.filter_cons_of_neg hp,List.filter_nil]
set_option maxRecDepth 8000 in
theorem toldOf_any {w : World} {B : Nat} {v : Value} {js : List TJ} {k : Nat} (hj : JobsV w B v js) (hB : B ≤ w.heap.size) (hl : js.length ≤ 1000) (hdl : ∀ j ∈ js, j.rsp.data.length ≤ 1000) :
  Calls Tryz.prog 21 #[v,.int .i64 k] w fun e w' => ∃a cap,e=.returned (.slice a (js.filter (fun j=>j.who==k)).length cap)∧Below w.heap.size w w':=by
 obtain⟨D,hA,rfl,hD⟩:=hj;obtain⟨ao,cap,hv,h1,h2,h0,h9,h3⟩:=hA;simp only[List.length_map]at hv h1 h0 h3 hl;subst hv;have H3:=hid h3;have HD:=hid hD;have HDL:=hid hdl;obtain⟨dl,hdn⟩:∃x,x=D.length:=⟨_,rfl⟩
 rw[←hdn]at h1 h0 hl H3 ⊢;have HDN:=hid hdn;clear h3 hD hdl hdn
 go_enter Tryz.func21,Tryz.ntmps21
 go_wp2_with fail
 go_loopw [5,10] (fun s i wr=>∃m:Nat,i=.int .i64 m∧m≤dl∧Owns wr w.heap.size 85 5 tjRow s ((D.take m).filter (fun x=>x.1.who==k))∧Below w.heap.size w wr) (fun _ i _=>dl - (intOf i).toNat)
 case atStart=>exact⟨0,rfl,Nat.zero_le _,by simpa using Owns.zero,Below.refl _ _⟩
 case round=>
  obtain⟨m,rfl,hm,ho,hbr⟩:=hrel;have HO:=hid ho;have HBR:=hid hbr;obtain⟨sa,sc,rfl,_⟩:=ho.shape;obtain⟨ys,hys⟩:∃l,l=(D.take m).filter (fun x=>x.1.who==k):=⟨_,rfl⟩
  have hyl:ys.length≤1000:=by
   have e1:ys.length≤(D.take m).length:=by rw[hys];exact List.length_filter_le _ _
   rw[List.length_take]at e1;omega
  have HYS:=hid hys;rw[←hys]at HO;rw[←hys];clear ho hbr hys;by_cases hlt:m<dl
  ·have hmi:(m:Int)<(dl:Int):=by omega
   obtain⟨b,off,rfl,hbB,hc⟩:=H3.out (by omega);have hln:m<D.length:=by rw[←HDN.out];exact hlt
   have e:(D.map tjRow).getD m []=tjRow (D.getD m default):=by simp[List.getD,hln]
   have c0:=hc m hlt 0 (by omega);have c1:=hc m hlt 1 (by omega);have c2:=hc m hlt 2 (by omega);have c3:=hc m hlt 3 (by omega);have c4:=hc m hlt 4 (by omega);rw[e]at c0 c1 c2 c3 c4;have HTF:=hid (take_filter (fun x:TJV=>x.1.who==k) D hln);have hxd:=HD.out (D.getD m default) (zC6 hln);obtain⟨x,hx⟩:∃x,x=D.getD m default:=⟨_,rfl⟩
   rw[←hx]at c0 c1 c2 c3 c4 HTF hxd;obtain⟨⟨wh,nn,ri,rc,rd⟩,xv⟩:=x;simp only at hxd;obtain⟨da,dc,rfl,_⟩:=hxd.opened;simp only[tjRow,List.getElem?_cons_zero,List.getElem?_cons_succ,Nat.add_zero]at c0 c1 c2 c3 c4;have hbw:b<w.heap.size:=Nat.lt_of_lt_of_le hbB hB;rw[←HBR.out.cell (p:=⟨b,_,none⟩) hbw]at c0 c1 c2 c3 c4;have HXD:=hid hxd;rw[←HYS.out]at HTF;clear hc e hln hx hxd
   go_upto_region 5 with fail
   obtain⟨w3,hw3⟩:∃W,W=wr.alloc (.cells #[.int .i64 wh,.int .i64 nn,.int .i64 ri,.int .i64 rc,.slice da rd.length dc] 85):=⟨_,rfl⟩
   obtain⟨gx,hgx⟩:∃g,g=wr.heap.size:=⟨_,rfl⟩
   have X:=hid (show Bx w3 gx [.int .i64 wh,.int .i64 nn,.int .i64 ri,.int .i64 rc,.slice da rd.length dc] by rw[hw3,hgx];exact Bx.new wr #[.int .i64 wh,.int .i64 nn,.int .i64 ri,.int .i64 rc,.slice da rd.length dc] 85 (by simp));have hb3:Below wr.heap.size wr w3:=by rw[hw3];exact(Below.refl _ _).alloc (Nat.le_refl _) _
   have HO3:=hid (HO.out.below hb3);have HB3:=hid (HBR.out.trans (hb3.mono HBR.out.size));rw[←hw3,←hgx];clear hw3 hgx c0 c1 c2 c3 c4 hb3;have hsz:=HB3.out.size;obtain⟨x0,x1,x2,x3,x4⟩:=X.out.five.1;by_cases hq:wh=k
   ·have q1:((wh:Int)==(k:Int))=true:=by simp[hq]
    have HTG:=hid (show(D.take (m+1)).filter (fun x=>x.1.who==k)=ys++[((⟨wh,nn,ri,rc,rd⟩,.slice da rd.length dc):TJV)] by rw[HTF.out];simp[hq]);clear HTF hq
    go_wp2_with (at_builtin;go_must (refine zC1 elem_tj tjRow (fun _=>rfl) ((⟨wh,nn,ri,rc,rd⟩,.slice da rd.length dc):TJV) (tjRow_one _ ⟨_,_,_,rfl⟩) w3 rfl _ _ rfl w.heap.size _ ys (by rfl) HO3.out _ (by rfl) (by rfl) (by omega) (by omega) hsz ?_);intro v' w4 ho4 hz4 hk4 hv4 hb4;have HO4:=hid ho4;have HB4:=hid (HB3.out.trans hb4);clear ho4 hz4 hk4 hv4 hb4 x0 x1 x2 x3 x4)
    go_roundw
    case rel=>exact⟨m+1,by go_num,by omega,by rw[HTG.out];exact HO4.out,HB4.out⟩
    case measure=>simp[intOf];omega
   ·have q1:((wh:Int)==(k:Int))=false:=by simp;omega
    have HTG:=hid (show(D.take (m+1)).filter (fun x=>x.1.who==k)=ys by rw[HTF.out];simp[hq]);clear HTF hq
    go_wp2_with fail
    go_roundw
    case rel=>exact⟨m+1,by go_num,by omega,by rw[HTG.out];exact HO3.out,HB3.out⟩
    case measure=>simp[intOf];omega
  ·obtain rfl:m=dl:=by omega
   have hmm:decide ((m:Int)<(m:Int))=false:=by simp
   have hA:=HO.out.arr (fun _=>rfl) (by omega);have hsub:∀x∈ys,x∈D:=fun x hx=>by rw[HYS.out]at hx;exact List.mem_of_mem_take (List.mem_filter.1 hx).1
   have HCJ:=hid (zF0 ys _ wr.heap.size wr hA (fun x hx=>((HD.out x (hsub x hx)).below (HBR.out.mono hB)).mono (Nat.le_trans hB HBR.out.size)) (Nat.le_refl _) hyl (fun x hx=>HDL.out _ (List.mem_map.2 ⟨x,hsub x hx,rfl⟩)));have HLN:=hid (show ys.length=((D.map (·.1)).filter (fun j=>j.who==k)).length by rw[HYS.out,HDN.out,List.take_length,List.filter_map,List.length_map];rfl);clear hA hsub
   go_wp2_with (go_at_call 64;go_loud ((with_reducible refine HCJ.out.mono ?_));rintro e w5 ⟨u,D', rfl,ho5,hmp,_,hb5⟩;have HMP:=hid (congrArg List.length hmp);have HO5:=hid ho5;have HB5:=hid hb5;clear ho5 hmp hb5)
   go_ret
   obtain⟨a5,c5,rfl,_⟩:=HO5.out.shape;have:=HMP.out;simp only[List.length_map]at this;rw[←HLN.out,←this];exact⟨_,_,rfl,HBR.out.trans (HB5.out.mono HBR.out.size)⟩
theorem Nats.ints {w:World} {B:Nat} {v:Value} {xs:List Nat} (h:Nats w B v xs) (hx:∀x∈xs,x<1000):Ints w B v (xs.map fun(x:Nat)=>(x:Int)) :=
 ⟨by rw[List.map_map];exact h,fun x hx2=>by obtain⟨y,hy,rfl⟩:=List.mem_map.1 hx2;have:=hx y hy;unfold I64;omega⟩
theorem CyV.rows {w : World} {B : Nat} {a0 a1 a2 a3 a4 : Value} {st : Cy} {P : List PS} {Q : List SS} (hv : CyV w B a0 a1 a2 a3 a4 st P Q) : ∃ (d0 d1 d4 : Option Addr) (c0 c1 c4 pg po pc tg tp tc : Nat), a0 = .slice d0 st.ws.length c0 ∧ a1 = .slice d1 st.hs.length c1 ∧ a2 = .slice (some ⟨pg, po, none⟩) 3 pc ∧ a3 = .slice (some ⟨tg, tp, none⟩) 4 tc ∧ a4 = .slice d4 st.told.length c4 ∧ pg < B ∧ tg < B ∧
  (∀k,k<3→∃qa qc oa oc,w.cell? ⟨pg,po+k * 4,none⟩=some (.int .i64 ((st.ports k).next:Nat))∧w.cell? ⟨pg,po+k * 4+1,none⟩=some (.slice qa (st.ports k).queue.length qc)∧w.cell? ⟨pg,po+k * 4+2,none⟩=some (.slice oa (st.ports k).out.length oc)∧w.cell? ⟨pg,po+k * 4+3,none⟩=some (.int .i64 ((st.ports k).last:Nat))∧Nats w B (.slice qa (st.ports k).queue.length qc) (st.ports k).queue∧Jbs w B (.slice oa (st.ports k).out.length oc) (st.ports k).out) ∧
  (∀k,k<4→∃qa qc oa oc,w.cell? ⟨tg,tp+k * 3,none⟩=some (.slice qa (st.slaves k).pipe.length qc)∧w.cell? ⟨tg,tp+k * 3+1,none⟩=some (.slice oa (st.slaves k).done.length oc)∧w.cell? ⟨tg,tp+k * 3+2,none⟩=some (.int .i64 ((st.slaves k).last:Nat))∧Jbs w B (.slice qa (st.slaves k).pipe.length qc) (st.slaves k).pipe∧JobsV w B (.slice oa (st.slaves k).done.length oc) (st.slaves k).done):=by
 obtain⟨d0,c0,e0,_⟩:=hv.ws.opened;obtain⟨d1,c1,e1,_⟩:=hv.hs.opened;obtain⟨pg,po,pc,e2,_,_,hpg,hpc⟩:=hv.ps.at (by rw[hv.lp];omega)
 obtain⟨tg,tp,tc,e3,_,_,htg,htc⟩:=hv.ss.at (by rw[hv.lq];omega)
 obtain⟨d4,c4,e4,_⟩:=hv.told.cells;rw[hv.lp]at e2 hpc;rw[hv.lq]at e3 htc;refine⟨d0,d1,d4,c0,c1,c4,pg,po,pc,tg,tp,tc,e0,e1,e2,e3,e4,hpg,htg,fun k hk=>?_,fun k hk=>?_⟩
 ·have h1:=hv.pn k hk;have h2:=hv.q k hk;have h3:=hv.o k hk;have h4:=hpc k default hk;obtain⟨x,hx⟩:∃x,x=P.getD k default:=⟨_,rfl⟩
  rw[←hx]at h1 h2 h3 h4;obtain⟨nx,⟨qa,qn,qc⟩,⟨oa,on,oc⟩,la⟩:=x;simp only[sl]at h1 h2 h3;obtain rfl:=h2.len;obtain rfl:=h3.len;have g0:=h4 0 (by omega);have g1:=h4 1 (by omega);have g2:=h4 2 (by omega);have g3:=h4 3 (by omega);rw[←h1.1,←h1.2];exact⟨qa,qc,oa,oc,by simp only[rowPS,List.getElem?_cons_zero,List.getElem?_cons_succ]at g0;exact g0,by simp only[rowPS,List.getElem?_cons_zero,List.getElem?_cons_succ]at g1;exact g1,by simp only[rowPS,List.getElem?_cons_zero,List.getElem?_cons_succ]at g2;exact g2,by simp only[rowPS,List.getElem?_cons_zero,List.getElem?_cons_succ]at g3;exact g3,h2,h3⟩
 ·have h1:=hv.sn k hk;have h2:=hv.p k hk;have h3:=hv.d k hk;have h4:=htc k default hk;obtain⟨x,hx⟩:∃x,x=Q.getD k default:=⟨_,rfl⟩
  rw[←hx]at h1 h2 h3 h4;obtain⟨⟨qa,qn,qc⟩,⟨oa,on,oc⟩,la⟩:=x;simp only[sl]at h1 h2 h3;obtain rfl:=h2.len;obtain rfl:=h3.len;have g0:=h4 0 (by omega);have g1:=h4 1 (by omega);have g2:=h4 2 (by omega);rw[←h1];exact⟨qa,qc,oa,oc,by simp only[rowSS,List.getElem?_cons_zero,List.getElem?_cons_succ]at g0;exact g0,by simp only[rowSS,List.getElem?_cons_zero,List.getElem?_cons_succ]at g1;exact g1,by simp only[rowSS,List.getElem?_cons_zero,List.getElem?_cons_succ]at g2;exact g2,h2,h3⟩
theorem JobsV.take {w:World} {B:Nat} {a:Option Addr} {n k m:Nat} {js:List TJ} (h:JobsV w B (.slice a n k) js) (hm:m≤n):JobsV w B (.slice a m k) (js.take m):=by
 obtain⟨D,⟨ao,cap,hv,h1,h2,h0,h9,h3⟩,rfl,hd⟩:=h;simp only[List.length_map,Value.slice.injEq]at hv h1 h0 h3;obtain⟨rfl,rfl,rfl⟩:=hv;have hl:(D.take m).length=m:=by rw[List.length_take];omega
 refine⟨D.take m,⟨a,k,by rw[List.length_map,hl],by rw[List.length_map,hl];omega,h2,by rw[List.length_map,hl];omega,h9,fun hn=>?_⟩,by rw[List.map_take],fun x hx=>hd x (List.mem_of_mem_take hx)⟩;rw[List.length_map,hl]at hn;obtain⟨b,off,ha,hlt,hc⟩:=h3 (by omega);refine⟨b,off,ha,hlt,fun t ht j hj=>?_⟩;rw[List.length_map,hl]at ht;rw[hc t (by omega) j hj];simp[List.getD,List.getElem?_take,ht]
theorem InV.bits {w:World} {B:Nat} {ra ta sa:Option Addr} {rc tc sc:Nat} {inp:Inp} (h:InV w B (.agg #[.slice ra 3 rc,.slice ta 4 tc,.slice sa 3 sc]) inp):∃rb ro sb so,ra=some ⟨rb,ro,none⟩∧sa=some ⟨sb,so,none⟩∧rb<B∧sb<B∧(∀j,j<3→w.cell? ⟨rb,ro+j,none⟩=some (.bool (inp.ready.getD j false)))∧(∀j,j<3→w.cell? ⟨sb,so+j,none⟩=some (.bool (inp.send.getD j false))):=by
 obtain⟨⟨ra', rc', ta', tc', sa', sc', e,k1,_,k3⟩,l1,_,l3⟩:=h;simp only[Value.agg.injEq,Array.mk.injEq,List.cons.injEq,Value.slice.injEq,and_true]at e;obtain⟨⟨rfl,_,rfl⟩,_,⟨rfl,_,rfl⟩⟩:=e;obtain⟨a1,c1,e1,_,_,_,_,h1⟩:=k1.opened;obtain⟨a3,c3,e3,_,_,_,_,h3⟩:=k3.opened;simp only[Value.slice.injEq,true_and]at e1 e3;obtain⟨rb,ro,rfl,q1,q2⟩:=h1 (by omega);obtain⟨sb,so,rfl,q3,q4⟩:=h3 (by omega);exact⟨rb,ro,sb,so,e1.1,e3.1,q1,q3,fun j hj=>q2 j (by omega),fun j hj=>q4 j (by omega)⟩
theorem evs_len (c:Cfg) (inp:Inp) (st:Cy):(evs c inp st).length≤10:=by
 have h1:=tellAll_len inp (st,[]);have h2:=workAll_len c inp (zB2 inp (st,[]));have h3:∀x:Cy×List Ev,(zI5 c inp x).2.length≤x.2.length+3:=fun x=>by
  have g0:=ask1_len c inp 0 x;have g1:=ask1_len c inp 1 (ask1 c inp 0 x);have g2:=ask1_len c inp 2 (ask1 c inp 1 (ask1 c inp 0 x));show(ask1 c inp 2 (ask1 c inp 1 (ask1 c inp 0 x))).2.length≤_;omega
 have h4:=h3 ((zD2 c (zA9 c inp (zB2 inp (st,[]))).1).st,(zA9 c inp (zB2 inp (st,[]))).2);show(zI5 c inp ((zD2 c (zA9 c inp (zB2 inp (st,[]))).1).st,(zA9 c inp (zB2 inp (st,[]))).2)).2.length≤10;simp only[List.length_nil]at h1;simp only at h4;omega
theorem doneN_one1 {c:Cfg} (s:Nat) (l:List Ev) (e:Ev):doneN c s (l++[e])=doneN c s l+(if e.kind=2∧c.slv e.who e.n=s then 1 else 0):=by
 rw[doneN_app]
 congr 1
 unfold doneN;by_cases h:e.kind=2∧c.slv e.who e.n=s
 ·simp[h.1,h.2]
 ·rw[if_neg h,List.filter_cons_of_neg (by simpa using h)];rfl
end Go.Proofs.YthnlalffjepdaaaGreat
