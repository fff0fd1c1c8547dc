/- CycRun of a bus that stands as it may. -/
import Derived.Test.YtenjbhbcacocjaaGreatGCs
set_option linter.unusedVariables false
set_option linter.unusedSimpArgs false
namespace Go.Proofs.YtenjbhbcacocjaaGreat
open Go.RowKit
instance:Inhabited Inp:=⟨⟨[],[],[]⟩⟩
def Ins (w:World) (B:Nat) (v:Value) (ins:List Inp):Prop:=ArrV InV w B 3 v ins
theorem Ins.below {w w':World} {B:Nat} {v:Value} {ins:List Inp} (h:Ins w B v ins) (hb:Below B w w'):Ins w' B v ins:=ArrV.below h hb fun _ _ h => h.below hb
theorem Ins.mono {w:World} {B B':Nat} {v:Value} {ins:List Inp} (h:Ins w B v ins) (hb:B ≤ B'):Ins w B' v ins:=ArrV.mono h hb fun _ _ h => h.mono hb
theorem Ins.opened {w:World} {B:Nat} {v:Value} {ins:List Inp} (h:Ins w B v ins) :
  ∃ ao cap,v = .slice ao ins.length cap ∧ ins.length ≤ cap ∧ cap ≤ 9223372036854775807 ∧ ins.length ≤ 140737488351232 ∧ (ao = none → cap = 0) ∧
   (ins.length ≠ 0 → ∃ b off,ao = some ⟨b,off,none⟩ ∧ b < B ∧ ∀ t,t < ins.length → ∃ ra rc ta tc sa sc,InV w B (.agg #[.slice ra 3 rc,.slice ta 4 tc,.slice sa 3 sc]) (ins.getD t default) ∧
    w.cell? ⟨b,off + t * 3,none⟩ = some (.slice ra 3 rc) ∧ w.cell? ⟨b,off + t * 3 + 1,none⟩ = some (.slice ta 4 tc) ∧ w.cell? ⟨b,off + t * 3 + 2,none⟩ = some (.slice sa 3 sc)):=by
 obtain ⟨ao,cap,rfl,h1,h2,h0,h9⟩:=ArrV.shape h
 refine ⟨ao,cap,rfl,h1,h2,h0,h9,fun hn => ?_⟩
 obtain ⟨b,off,ha,hlt,hc⟩:=ArrV.at h hn
 refine ⟨b,off,ha,hlt,fun t ht => ?_⟩
 obtain ⟨u,hu,hcell⟩:=hc t ht
 have hu':=hu default
 have hu2:=hu'
 obtain ⟨⟨ra,rc,ta,tc,sa,sc,rfl,k1,k2,k3⟩,l1,l2,l3⟩:=hu'
 rw [l1,l2,l3] at hu2 hcell
 refine ⟨_,_,_,_,_,_,hu2,?_,?_,?_⟩
 ·have:=hcell 0 (by omega);simpa [Value.cells] using this
 ·have:=hcell 1 (by omega);simpa [Value.cells] using this
 ·have:=hcell 2 (by omega);simpa [Value.cells] using this
theorem InV.three {w:World} {B:Nat} {v:Value} {inp:Inp} (h:InV w B v inp):∃ ra rc ta tc sa sc,v = .agg #[.slice ra 3 rc,.slice ta 4 tc,.slice sa 3 sc]:=by
 obtain ⟨⟨ra,rc,ta,tc,sa,sc,rfl,k1,k2,k3⟩,l1,l2,l3⟩:=h
 rw [l1,l2,l3]
 exact ⟨_,_,_,_,_,_,rfl⟩
set_option maxHeartbeats 1000000 in
theorem inOk_any {w:World} (ra ta sa:Option Addr) (rc tc sc:Nat):Calls Tryz.prog 47 #[.agg #[.slice ra 3 rc,.slice ta 4 tc,.slice sa 3 sc]] w fun e w' => e = .returned (.bool true) ∧ Below w.heap.size w w':=by
 go_enter Tryz.func47,Tryz.ntmps47
 go_wp2_with fail
 go_ret
 exact ⟨rfl,(Below.refl _ _).alloc (Nat.le_refl _) _⟩
set_option maxHeartbeats 1000000 in
theorem runsIn_any {w:World} (ra ta sa:Option Addr) (rc tc sc:Nat):Calls Tryz.prog 119 #[.agg #[.slice ra 3 rc,.slice ta 4 tc,.slice sa 3 sc]] w fun e w' => e = .returned (.bool false) ∧ Below w.heap.size w w':=by
 go_enter Tryz.func119,Tryz.ntmps119
 go_wp2_with (go_at_call 47;go_loud ((with_reducible refine (inOk_any _ _ _ _ _ _).mono ?_));rintro e w1 ⟨rfl,hb1⟩)
 go_ret
 exact ⟨rfl,((Below.refl _ _).alloc (Nat.le_refl _) _).trans (hb1.mono (by simp))⟩
set_option maxHeartbeats 1000000 in
theorem idxIn_any (K:FuncId) (cap:Array Value) (hK:Callable K) (v:Value) (rs:List Inp) (B:Nat) (w:World) (hv:Ins w B v rs) (hB:B ≤ w.heap.size)
  (hf:∀ (ra ta sa:Option Addr) (rc tc sc:Nat) (w1:World),Calls Tryz.prog K (#[.agg #[.slice ra 3 rc,.slice ta 4 tc,.slice sa 3 sc]] ++ cap) w1 fun e w' => e = .returned (.bool false) ∧ Below w1.heap.size w1 w') :
  Calls Tryz.prog 153 #[v,.func (.func K) #[] cap] w fun e w' => e = .returned (.int .i64 (-1)) ∧ Below w.heap.size w w':=by
 obtain ⟨ao,cap', rfl,hlc,hcap,hln,hni,hr⟩:=hv.opened
 have HF:=hid hf;clear hf hv
 have hK2:=fun args w => hK args w
 go_enter Tryz.func153,Tryz.ntmps153
 go_wp2_with fail
 go_loopw [8] (fun i wr => ∃ k:Nat,k ≤ rs.length ∧ i = .int .i64 k ∧ Below w.heap.size w wr) (fun i _ => rs.length - (intOf i).toNat)
 case atStart => exact ⟨0,Nat.zero_le _,rfl,Below.refl _ _⟩
 case round =>
  obtain ⟨k,hk,rfl,hbl⟩:=hrel
  by_cases hlt:k < rs.length
  ·obtain ⟨b,off,rfl,hb,hc⟩:=hr (by omega)
   obtain ⟨ra,rc,ta,tc,sa,sc,_,c0,c1,c2⟩:=hc k hlt
   rw [← hbl.cell (p:=⟨b,_,none⟩) (Nat.lt_of_lt_of_le hb hB)] at c0 c1 c2
   clear hc hr
   go_wp2_with fail
   refine (HF.out ra ta sa rc tc sc _).mono ?_
   rintro e w' ⟨rfl,hb'⟩
   have hsz:=hbl.size
   have HB:=hid (hbl.trans (hb'.mono hsz))
   clear hbl
   go_wp2_with fail
   go_roundw
   case rel => exact ⟨k + 1,by omega,by go_num,HB.out⟩
   case measure => simp [intOf];omega
  ·go_wp2_with fail
   go_ret
   exact ⟨rfl,hbl⟩
set_option maxHeartbeats 1000000 in
theorem hasIn_any (K:FuncId) (cap:Array Value) (hK:Callable K) (v:Value) (rs:List Inp) (B:Nat) (w:World) (hv:Ins w B v rs) (hB:B ≤ w.heap.size)
  (hf:∀ (ra ta sa:Option Addr) (rc tc sc:Nat) (w1:World),Calls Tryz.prog K (#[.agg #[.slice ra 3 rc,.slice ta 4 tc,.slice sa 3 sc]] ++ cap) w1 fun e w' => e = .returned (.bool false) ∧ Below w1.heap.size w1 w') :
  Calls Tryz.prog 118 #[v,.func (.func K) #[] cap] w fun e w' => e = .returned (.bool false) ∧ Below w.heap.size w w':=by
 go_enter Tryz.func118,Tryz.ntmps118
 go_wp2_with fail
 refine (idxIn_any K cap hK v rs B _ hv hB hf).mono ?_
 rintro e w' ⟨rfl,hb⟩
 go_wp2_with fail
 go_ret
 exact ⟨rfl,hb⟩
theorem Raw.sl {w:World} {base:Nat} {V:Nat → Value} {N:Nat → Nat} {C:Nat → List Value} (h:Raw w base V N C):∃ (A:Nat → Option Addr) (n K:Nat → Nat),V 0 = .slice (A 0) (n 0) (K 0) ∧ V 1 = .slice (A 1) (n 1) (K 1) ∧ V 2 = .slice (A 2) (n 2) (K 2) ∧ V 3 = .slice (A 3) (n 3) (K 3) ∧ V 4 = .slice (A 4) (n 4) (K 4):=by
 have:∀ κ,∃ (a:Option Addr) (k:Nat),κ < 20 → V κ = .slice a (N κ) k:=fun κ => by
  by_cases hκ:κ < 20
  ·obtain ⟨a,k,e,_⟩:=(h.own κ hκ).form;exact ⟨a,k,fun _ => e⟩
  ·exact ⟨none,0,fun h2 => absurd h2 hκ⟩
 exact ⟨fun κ => (this κ).choose,N,fun κ => (this κ).choose_spec.choose,(this 0).choose_spec.choose_spec (by omega),(this 1).choose_spec.choose_spec (by omega),(this 2).choose_spec.choose_spec (by omega),(this 3).choose_spec.choose_spec (by omega),(this 4).choose_spec.choose_spec (by omega)⟩
theorem CyV.sl {w:World} {B:Nat} {a0 a1 a2 a3 a4:Value} {st:Cy} {P:List PS} {Q:List SS} (h:CyV w B a0 a1 a2 a3 a4 st P Q):∃ (b0 b1 b2 b3 b4:Option Addr) (n0 n1 n2 n3 n4 k0 k1 k2 k3 k4:Nat),a0 = .slice b0 n0 k0 ∧ a1 = .slice b1 n1 k1 ∧ a2 = .slice b2 n2 k2 ∧ a3 = .slice b3 n3 k3 ∧ a4 = .slice b4 n4 k4:=by
 obtain ⟨x0,y0,e0,_⟩:=h.ws.1
 obtain ⟨x1,y1,e1,_⟩:=h.hs.1
 obtain ⟨x2,y2,e2,_⟩:=h.ps
 obtain ⟨x3,y3,e3,_⟩:=h.ss
 obtain ⟨D,⟨x4,y4,e4,_⟩,_⟩:=h.told
 exact ⟨_,_,_,_,_,_,_,_,_,_,_,_,_,_,_,e0,e1,e2,e3,e4⟩
set_option maxRecDepth 8000 in
set_option maxHeartbeats 8000000 in
theorem runs_any {c:Cfg} (hbus:Bus c) {w:World} {B:Nat} {u v:Value} (hc:BusV w B u c) {a0 a1 a2 a3 a4:Value} {st:Cy} {P:List PS} {Q:List SS} (h:CyV w B a0 a1 a2 a3 a4 st P Q) {ins:List Inp} (hi:Ins w B v ins) (hB:B ≤ w.heap.size) (hg:Good c st) (hl:ins.length ≤ 300) :
  Calls Tryz.prog 71 #[u,.agg #[a0,a1,a2,a3,a4],v] w fun e w' => e = .returned (.bool true) ∧ Below w.heap.size w w':=by
 obtain ⟨mv,lb,lo,lc,pb,po,pc,QQ,K,rfl,⟨ma,mn,mk,rfl⟩,_,_,_,_,_,_⟩:=hc.opened hbus
 obtain ⟨z0,z1,z2,z3,z4,n0,n1,n2,n3,n4,k0,k1,k2,k3,k4,rfl,rfl,rfl,rfl,rfl⟩:=h.sl
 obtain ⟨ia,ic,rfl,ic1,ic2,_,_,_⟩:=hi.opened
 have HOK:=hid (fun (W:World) (hW:Below w.heap.size w W) => cycOk_any hbus (hc.below (hW.mono hB)) (h.below (hW.mono hB)) (Nat.le_trans hB hW.size) hg)
 have HIN:=hid (fun (W:World) (hW:Below w.heap.size w W) => (hasIn_any 119 #[] (callable_of Tryz.func119 (by kernel_rfl) (by kernel_rfl)) (.slice ia ins.length ic) ins B W (hi.below (hW.mono hB)) (Nat.le_trans hB hW.size) (fun ra ta sa rc tc sc w1 => by simpa using runsIn_any ra ta sa rc tc sc)))
 obtain ⟨w0,hw0⟩:∃ W,W = (w.alloc (.cells #[.slice ma mn mk,.slice (some ⟨lb,lo,none⟩) 4 lc,.slice (some ⟨pb,po,none⟩) 3 pc] 27)).alloc (.cells #[.slice z0 n0 k0,.slice z1 n1 k1,.slice z2 n2 k2,.slice z3 n3 k3,.slice z4 n4 k4] 39):=⟨_,rfl⟩
 have hb0:Below w.heap.size w w0:=by rw [hw0];exact ((Below.refl _ _).alloc (Nat.le_refl _) _).alloc (by simp) _
 have hli:(ins.length:Int) ≤ 300:=by omega
 clear hc h hi
 go_enter Tryz.func71,Tryz.ntmps71
 go_upto_region 1 with fail
 have HB0:=hid hb0;have HW0:=hid hw0
 clear hb0 hw0
 go_wp2_with (first
  | (go_at_call 20;rw [← HW0.out];go_loud ((with_reducible refine (HOK.out _ HB0.out).mono ?_));rintro e w1 ⟨rfl,hb1⟩;have HB1:=hid (HB0.out.trans (hb1.mono HB0.out.size));clear hb1)
  | (go_at_call 118;go_loud ((with_reducible refine (HIN.out _ HB1.out).mono ?_));rintro e w2 ⟨rfl,hb2⟩;have HB2:=hid (HB1.out.trans (hb2.mono HB1.out.size));clear hb2))
 go_ret
 exact ⟨rfl,HB2.out⟩
theorem CopP.below {st:Cy} {w w0:World} {e:Ending} {w':World} (h:CopP st w0 e w') (hb:Below w.heap.size w w0):CopP st w e w':=by
 obtain ⟨V,N,C,D,he,hr,h3⟩:=h
 exact ⟨V,N,C,D,he,hr.rebase hb.size,hb.trans (h3.mono hb.size)⟩
theorem runC_app (c:Cfg):∀ (a b:List Inp) (st:Cy),runC c (a ++ b) st = runC c b (runC c a st)
 | [],_,_ => rfl
 | _ :: a,b,_ => runC_app c a b _
theorem runC_snoc (c:Cfg) (ins:List Inp) (k:Nat) (hk:k < ins.length) (st:Cy):runC c (ins.take (k + 1)) st = cyc c (ins.getD k default) (runC c (ins.take k) st):=by
 rw [List.take_succ_eq_append_getElem hk,runC_app]
 simp [runC,List.getD,hk]
set_option maxRecDepth 8000 in
set_option maxHeartbeats 8000000 in
theorem cycRun_any {c:Cfg} (hbus:Bus c) {w:World} {B:Nat} {u v:Value} (hc:BusV w B u c) {a0 a1 a2 a3 a4:Value} {st:Cy} {P:List PS} {Q:List SS} (h:CyV w B a0 a1 a2 a3 a4 st P Q) {ins:List Inp} (hi:Ins w B v ins) (hB:B ≤ w.heap.size) (hg:Good c st) (hl:ins.length ≤ 300) :
  Calls Tryz.prog 27 #[u,.agg #[a0,a1,a2,a3,a4],v] w (CopP (runC c ins st) w):=by
 obtain ⟨mv,lb,lo,lc,pb,po,pc,QQ,K,rfl,⟨ma,mn,mk,rfl⟩,_,_,_,_,_,_⟩:=hc.opened hbus
 obtain ⟨z0,z1,z2,z3,z4,n0,n1,n2,n3,n4,k0,k1,k2,k3,k4,rfl,rfl,rfl,rfl,rfl⟩:=h.sl
 obtain ⟨ia,ic,rfl,ic1,ic2,ic3,_,hcell⟩:=hi.opened
 have HRN:=hid (fun (W:World) (hW:Below w.heap.size w W) => runs_any hbus (hc.below (hW.mono hB)) (h.below (hW.mono hB)) (hi.below (hW.mono hB)) (Nat.le_trans hB hW.size) hg hl)
 have HCP:=hid (fun (W:World) (hW:Below w.heap.size w W) => cycCopyV_any (h.below (hW.mono hB)) (Nat.le_trans hB hW.size) (smallC_of hbus hg))
 have HBV:=hid hc;have HCELL:=hid hcell
 obtain ⟨il,hil⟩:∃ x,x = ins.length:=⟨_,rfl⟩
 rw [← hil] at HRN HCELL ic1 ic3 ⊢
 have HIL:=hid hil
 obtain ⟨w0,hw0⟩:∃ W,W = ((w.alloc (.cells #[.slice ma mn mk,.slice (some ⟨lb,lo,none⟩) 4 lc,.slice (some ⟨pb,po,none⟩) 3 pc] 27)).alloc (.cells #[.slice z0 n0 k0,.slice z1 n1 k1,.slice z2 n2 k2,.slice z3 n3 k3,.slice z4 n4 k4] 39)).alloc (.cells #[.slice none 0 0,.slice none 0 0,.slice none 0 0,.slice none 0 0,.slice none 0 0] 39):=⟨_,rfl⟩
 have hb0:Below w.heap.size w w0:=by rw [hw0];exact (((Below.refl _ _).alloc (Nat.le_refl _) _).alloc (by simp) _).alloc (by simp <;> omega) _
 obtain ⟨g1,hg1⟩:∃ g,g = w.heap.size + 1:=⟨_,rfl⟩
 obtain ⟨g3,hg3⟩:∃ g,g = w.heap.size + 1 + 1:=⟨_,rfl⟩
 have X0:=hid (show Bx w0 w.heap.size [.slice ma mn mk,.slice (some ⟨lb,lo,none⟩) 4 lc,.slice (some ⟨pb,po,none⟩) 3 pc] by
  rw [hw0];exact ((Bx.new w #[.slice ma mn mk,.slice (some ⟨lb,lo,none⟩) 4 lc,.slice (some ⟨pb,po,none⟩) 3 pc] 27 (by simp)).below ((Below.refl _ _).alloc (Nat.le_refl _) _) (by simp)).below ((Below.refl _ _).alloc (Nat.le_refl _) _) (by simp <;> omega))
 have X1:=hid (show Bx w0 g1 [.slice z0 n0 k0,.slice z1 n1 k1,.slice z2 n2 k2,.slice z3 n3 k3,.slice z4 n4 k4] by
  rw [hw0,hg1];have:=(Bx.new (w.alloc (.cells #[.slice ma mn mk,.slice (some ⟨lb,lo,none⟩) 4 lc,.slice (some ⟨pb,po,none⟩) 3 pc] 27)) #[.slice z0 n0 k0,.slice z1 n1 k1,.slice z2 n2 k2,.slice z3 n3 k3,.slice z4 n4 k4] 39 (by simp)).below ((Below.refl _ _).alloc (Nat.le_refl _) (.cells #[.slice none 0 0,.slice none 0 0,.slice none 0 0,.slice none 0 0,.slice none 0 0] 39)) (by simp);simpa using this)
 have X3:=hid (show Bx w0 g3 [vnil,vnil,vnil,vnil,vnil] by
  rw [hw0,hg3];have:=Bx.new ((w.alloc (.cells #[.slice ma mn mk,.slice (some ⟨lb,lo,none⟩) 4 lc,.slice (some ⟨pb,po,none⟩) 3 pc] 27)).alloc (.cells #[.slice z0 n0 k0,.slice z1 n1 k1,.slice z2 n2 k2,.slice z3 n3 k3,.slice z4 n4 k4] 39)) #[vnil,vnil,vnil,vnil,vnil] 39 (by simp);simpa using this)
 have HB0:=hid hb0
 have HSZ:=hid (show w0.heap.size = w.heap.size + 3 by rw [hw0];simp)
 obtain ⟨b0,b1,b2⟩:=X0.out.three.1
 obtain ⟨t0,t1,t2,t3,t4⟩:=X1.out.five.1
 clear hc h hi hb0 hcell hil
 go_enter Tryz.func27,Tryz.ntmps27
 go_upto_region 1 with fail
 rw [← hw0,← hg3,← hg1]
 have HG1:=hid hg1;have HG3:=hid hg3
 clear hw0 hg1 hg3
 go_upto_region 3 with (go_at_call 71;go_loud ((with_reducible refine (HRN.out _ HB0.out).mono ?_));rintro e w2 ⟨rfl,hb2⟩;have HQ2:=hid hb2;have HB2:=hid (HB0.out.trans (hb2.mono HB0.out.size));clear hb2 t0 t1 t2 t3 t4 b0 b1 b2)
 obtain ⟨t0,t1,t2,t3,t4⟩:=(X1.out.below HQ2.out X1.out.lt).five.1
 go_upto_region 4 with (go_at_call 46;go_loud ((with_reducible refine (HCP.out _ HB2.out).mono ?_));rintro e w3 ⟨V,N,C,D,rfl,hcr,hb3⟩;have HQ3:=hid (HQ2.out.trans (hb3.mono HQ2.out.size));have HB3:=hid (HB2.out.trans (hb3.mono HB2.out.size));have HQ23:=hid hb3;obtain ⟨A,m,KK,e0,e1,e2,e3,e4⟩:=hcr.raw.sl;have HE:=hid (show V 0 = .slice (A 0) (m 0) (KK 0) ∧ V 1 = .slice (A 1) (m 1) (KK 1) ∧ V 2 = .slice (A 2) (m 2) (KK 2) ∧ V 3 = .slice (A 3) (m 3) (KK 3) ∧ V 4 = .slice (A 4) (m 4) (KK 4) from ⟨e0,e1,e2,e3,e4⟩);rw [e0,e1,e2,e3,e4];have HCR:=hid hcr;clear hcr hb3 e0 e1 e2 e3 e4 t0 t1 t2 t3 t4)
 obtain ⟨w4,hw4⟩:∃ W,W = w3.alloc (.cells #[.slice (A 0) (m 0) (KK 0),.slice (A 1) (m 1) (KK 1),.slice (A 2) (m 2) (KK 2),.slice (A 3) (m 3) (KK 3),.slice (A 4) (m 4) (KK 4)] 39):=⟨_,rfl⟩
 obtain ⟨S,hS⟩:∃ g,g = w3.heap.size:=⟨_,rfl⟩
 rw [← hw4,← hS]
 have hb4:Below w3.heap.size w3 w4:=by rw [hw4];exact (Below.refl _ _).alloc (Nat.le_refl _) _
 have HCB:=hid (HCR.out.box (S:=S) hb4 (by omega) (by rw [HE.out.1,HE.out.2.1,HE.out.2.2.1,HE.out.2.2.2.1,HE.out.2.2.2.2,hw4];exact alloc_at _ _ hS) HQ23.out.size)
 have HQ4:=hid (HQ3.out.trans (hb4.mono HQ3.out.size))
 have HB4:=hid (HB3.out.trans (hb4.mono HB3.out.size))
 have HX03:=hid (show w0.heap.size ≤ w2.heap.size from HQ2.out.size)
 clear hw4 hS hb4
 go_wp2_with fail
 go_loopw [20] (fun i wr => ∃ k:Nat,i = .int .i64 k ∧ k ≤ il ∧ (∃ V N C D,CyB wr w2.heap.size S (fun b => w2.heap.size ≤ b) (runC c (ins.take k) st) V N C D) ∧ Below w2.heap.size w4 wr) (fun i _ => il - (intOf i).toNat)
 case atStart => exact ⟨0,by go_num,Nat.zero_le _,⟨V,N,C,D,by simpa [runC] using HCB.out⟩,Below.refl _ _⟩
 case round =>
  obtain ⟨k,rfl,hk,⟨V1,N1,C1,D1,hcb⟩,hbr⟩:=hrel
  have HCBR:=hid hcb;have HBR:=hid hbr
  have HBW:=hid (HB4.out.trans (hbr.mono HB2.out.size))
  have HQR:=hid (HQ4.out.trans (hbr.mono HX03.out))
  have HGR:=hid (show Good c (runC c (ins.take k) st) from good_run hbus _ hg)
  obtain ⟨wo,hwo⟩:∃ W,W = wr:=⟨_,rfl⟩
  subst hwo
  clear hcb hbr
  by_cases hlt:k < il
  ·have hki:(k:Int) < (il:Int):=by omega
   obtain ⟨b,off,rfl,hbB,hrow⟩:=HCELL.out (by omega)
   obtain ⟨ra,rc,ta,tc,sa,sc,hiv,c0,c1,c2⟩:=hrow k hlt
   rw [← HBW.out.cell (p:=⟨b,_,none⟩) (Nat.lt_of_lt_of_le hbB hB)] at c0 c1 c2
   have HIV:=hid hiv
   have HSN:=hid (runC_snoc c ins k (by rw [← HIL.out];exact hlt) st)
   clear hrow hiv
   go_upto_region 7 with fail
   clear c0 c1 c2
   obtain ⟨w5,hw5⟩:∃ W,W = wo.alloc (.cells #[.slice ra 3 rc,.slice ta 4 tc,.slice sa 3 sc] 44):=⟨_,rfl⟩
   obtain ⟨gi,hgi⟩:∃ g,g = wo.heap.size:=⟨_,rfl⟩
   rw [← hw5,← hgi]
   have hb5:Below wo.heap.size wo w5:=by rw [hw5];exact (Below.refl _ _).alloc (Nat.le_refl _) _
   have X5:=hid (show Bx w5 gi [.slice ra 3 rc,.slice ta 4 tc,.slice sa 3 sc] by rw [hw5,hgi];exact Bx.new wo #[.slice ra 3 rc,.slice ta 4 tc,.slice sa 3 sc] 44 (by simp))
   have HB5:=hid hb5
   have HBW5:=hid (HBW.out.trans (hb5.mono HBW.out.size))
   obtain ⟨b0,b1,b2⟩:=(X0.out.below (HQR.out.trans (hb5.mono HQR.out.size)) X0.out.lt).three.1
   obtain ⟨i0,i1,i2⟩:=X5.out.three.1
   have HST:=hid (step_any hbus (HCBR.out.below hb5) HGR.out (HBV.out.below (HBW5.out.mono hB)) (HIV.out.below (HBW5.out.mono hB)) (Nat.le_trans hB HB2.out.size))
   clear hw5 hgi hb5
   go_wp2_with (go_at_call 48;go_loud ((with_reducible refine (HST.out).mono ?_));rintro e w6 ⟨V', N', C', D', ve,rfl,hcb,_,hb6,_,_⟩;have HCB6:=hid hcb;have HQ6:=hid hb6;clear hcb hb6 b0 b1 b2 i0 i1 i2)
   go_roundw
   case rel => exact ⟨k + 1,by go_num,by omega,⟨V', N', C', D', by rw [HSN.out];exact HCB6.out⟩,(HBR.out.trans (HB5.out.mono (by have:=HBR.out.size;have:=HB4.out.size;have:=HQ23.out.size;have:=HQ4.out.size;have:=HBW.out.size;exact Nat.le_trans (HCBR.out.s0) (Nat.le_of_lt HCBR.out.cells.2.2.2.2.2)))).trans HQ6.out⟩
   case measure => simp [intOf];omega
  ·obtain rfl:k = il:=by omega
   have hki2:decide ((k:Int) < (k:Int)) = false:=by simp
   have hend:ins.take k = ins:=List.take_of_length_le (by rw [HIL.out];exact Nat.le_refl _)
   rw [hend] at HCBR HGR
   obtain ⟨A', m', KK', e0,e1,e2,e3,e4⟩:=HCBR.out.raw.sl
   obtain ⟨c0,c1,c2,c3,c4,_⟩:=HCBR.out.cells
   rw [e0] at c0;rw [e1] at c1;rw [e2] at c2;rw [e3] at c3;rw [e4] at c4
   have HCP5:=hid (show Calls Tryz.prog 46 #[.agg #[.slice (A' 0) (m' 0) (KK' 0),.slice (A' 1) (m' 1) (KK' 1),.slice (A' 2) (m' 2) (KK' 2),.slice (A' 3) (m' 3) (KK' 3),.slice (A' 4) (m' 4) (KK' 4)]] wo (CopP (runC c ins st) wo) from by
    obtain ⟨P', Q', hv⟩:=HCBR.out.toV hbus HGR.out
    rw [e0,e1,e2,e3,e4] at hv
    exact cycCopyV_any hv (Nat.le_refl _) (smallC_of hbus HGR.out))
   clear e0 e1 e2 e3 e4 hend
   have HX35:=hid (show Bx wo g3 [vnil,vnil,vnil,vnil,vnil] from (X3.out.below HQR.out X3.out.lt))
   go_wp2_with (go_at_call 46;go_loud ((with_reducible refine (HCP5.out).mono ?_));rintro e w6 ⟨V6,N6,C6,D6,rfl,hcr,hb6⟩;obtain ⟨A6,m6,K6,e0,e1,e2,e3,e4⟩:=hcr.raw.sl;have HE6:=hid (show V6 0 = .slice (A6 0) (m6 0) (K6 0) ∧ V6 1 = .slice (A6 1) (m6 1) (K6 1) ∧ V6 2 = .slice (A6 2) (m6 2) (K6 2) ∧ V6 3 = .slice (A6 3) (m6 3) (K6 3) ∧ V6 4 = .slice (A6 4) (m6 4) (K6 4) from ⟨e0,e1,e2,e3,e4⟩);rw [e0,e1,e2,e3,e4];have HCR6:=hid hcr;have HQ6:=hid hb6;have HX6:=hid (HX35.out.below hb6 HX35.out.lt);clear hcr hb6 e0 e1 e2 e3 e4 c0 c1 c2 c3 c4;obtain ⟨⟨q0,q1,q2,q3,q4⟩,f0,f1,f2,f3,f4⟩:=HX6.out.five;have hrl:=HX6.out.lt)
   refine bodyPost_ret (results_c1 Tryz.results27 _ _ ⟨g3,0,none⟩ (.agg #[.slice (A6 0) (m6 0) (K6 0),.slice (A6 1) (m6 1) (K6 1),.slice (A6 2) (m6 2) (K6 2),.slice (A6 3) (m6 3) (K6 3),.slice (A6 4) (m6 4) (K6 4)]) rfl (loadVar_cyc _ _ _ _ _ _ _ (by simp [go_sem, *]) (by simp [go_sem, *]) (by simp [go_sem, *]) (by simp [go_sem, *]) (by simp [go_sem, *]))) rfl ⟨V6,N6,C6,D6,?_,?_,?_⟩
   ·rw [HE6.out.1,HE6.out.2.1,HE6.out.2.2.1,HE6.out.2.2.2.1,HE6.out.2.2.2.2]
   ·have h35:=HX35.out.lt
    exact (HCR6.out.kept (fun b h1 h2 => (touchC g3 _ _ _ _ _ _).block b h2 (by omega)) (touchC g3 _ _ _ _ _ _).size).rebase HBW.out.size
   ·have hg3:=HG3.out
    have h5:w.heap.size ≤ g3:=by omega
    exact ((((((HBW.out.trans (HQ6.out.mono HBW.out.size)).setCell (p:=⟨g3,_,none⟩) h5 _).setCell (p:=⟨g3,_,none⟩) h5 _).setCell (p:=⟨g3,_,none⟩) h5 _).setCell (p:=⟨g3,_,none⟩) h5 _).setCell (p:=⟨g3,_,none⟩) h5 _)
end Go.Proofs.YtenjbhbcacocjaaGreat
