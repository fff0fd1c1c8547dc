/- What DrawPlay draws, as a statement. -/
import Derived.Test.YtenjbhbcacocjaaGreatGGp
import Derived.Test.YtenjbhbcacocjaaGreatGCs
import Derived.Test.YtenjbhbcacocjaaGreatGY1
import Derived.Deep.RegionWith
set_option linter.unusedVariables false
set_option linter.unusedSimpArgs false
namespace Go.Proofs.YtenjbhbcacocjaaGreat
open Go.RowKit
theorem bA {w w':World} {o:Obj} (h:Below w.heap.size w w'):Below w.heap.size w (w'.alloc o):=h.alloc h.size o
theorem bD {w w':World} (h:Below w.heap.size w w'):Below w.heap.size w w'.drew:=h.drew
theorem bR {w W W1:World} {g N n:Nat} {xs:List Value} (r:RepI W g N xs n W1) (h:Below w.heap.size w W):Below w.heap.size w W1:=h.trans (r.bel.mono h.size)
theorem mk4b (w:World):(Instr.makeSlice 42 (.int .i64 4) (.int .i64 4)).run Tryz.prog w = .ok (.slice (some ⟨w.heap.size,0,none⟩) 4 4) (w.alloc (.cells #[.bool false,.bool false,.bool false,.bool false] 4)):=by kernel_rfl
theorem bools_of {F:World} {g n:Nat} {v:Bool} (hg:g < F.heap.size) (hn:n ≤ 4) (h:∀ i,i < n → F.cell? ⟨g,i,none⟩ = some (.bool v)):Bools F F.heap.size (.slice (some ⟨g,0,none⟩) n n) (List.replicate n v):=by
 refine ⟨some ⟨g,0,none⟩,n,by simp,by simp,by omega,by simp only [List.length_map,List.length_replicate];omega,(fun h => nomatch h),fun hn => ⟨g,0,rfl,hg,fun t ht j hj => ?_⟩⟩
 have hj0:j = 0:=by omega
 subst hj0
 rw [List.length_map,List.length_replicate] at ht
 rw [Nat.zero_add,Nat.mul_one,Nat.add_zero,h t ht]
 simp [List.getD,ht,rowB]
def InAllR (w:World) (e:Ending) (w':World):Prop:=∃ ra ta sa,e = .returned (.agg #[.slice ra 3 3,.slice ta 4 4,.slice sa 3 3]) ∧ InV w' w'.heap.size (.agg #[.slice ra 3 3,.slice ta 4 4,.slice sa 3 3]) inAll ∧ Below w.heap.size w w'
theorem inAll_done {w F W1 W3 W1' W3':World} {g1 g2 g3:Nat} (hb:Below w.heap.size w F) (h1:RepI W1' g1 3 [.bool true] 3 W1) (l1:g1 < W1.heap.size) (q1:w.heap.size < g1) (b1:Below W1.heap.size W1 F) (h3:RepI W3' g3 3 [.bool true] 3 W3) (l3:g3 < W3.heap.size) (q3:w.heap.size < g3) (b3:Below W3.heap.size W3 F)
  (q2:w.heap.size < g2) (l2:g2 < F.heap.size) (r2:∀ i,i < 4 → F.cell? ⟨g2,i,none⟩ = some (.bool false)) (x y z:Value) :
  InAllR w (.returned (.agg #[.slice (some ⟨g1,0,none⟩) 3 3,.slice (some ⟨g2,0,none⟩) 4 4,.slice (some ⟨g3,0,none⟩) 3 3])) (((F.setCell ⟨w.heap.size,0,none⟩ x).setCell ⟨w.heap.size,1,none⟩ y).setCell ⟨w.heap.size,2,none⟩ z):=by
 have hk:∀ (g i:Nat),w.heap.size < g → (((F.setCell ⟨w.heap.size,0,none⟩ x).setCell ⟨w.heap.size,1,none⟩ y).setCell ⟨w.heap.size,2,none⟩ z).cell? ⟨g,i,none⟩ = F.cell? ⟨g,i,none⟩:=fun g i hg => by
  have:¬ g = w.heap.size:=by omega
  have:¬ w.heap.size = g:=by omega
  rw [World.cell?_setCell_other,World.cell?_setCell_other,World.cell?_setCell_other]
  all_goals (intro e;injection e;omega)
 have hz:(((F.setCell ⟨w.heap.size,0,none⟩ x).setCell ⟨w.heap.size,1,none⟩ y).setCell ⟨w.heap.size,2,none⟩ z).heap.size = F.heap.size:=by simp
 have r1:∀ i,i < 3 → F.cell? ⟨g1,i,none⟩ = some (.bool true):=fun i hi => by
  rw [b1.cell (p:=⟨g1,i,none⟩) l1]
  have:=h1.rws i hi 0 (by simp)
  simpa using this
 have r3:∀ i,i < 3 → F.cell? ⟨g3,i,none⟩ = some (.bool true):=fun i hi => by
  rw [b3.cell (p:=⟨g3,i,none⟩) l3]
  have:=h3.rws i hi 0 (by simp)
  simpa using this
 refine ⟨_,_,_,rfl,⟨⟨some ⟨g1,0,none⟩,3,some ⟨g2,0,none⟩,4,some ⟨g3,0,none⟩,3,rfl,?_,?_,?_⟩,rfl,rfl,rfl⟩,?_⟩
 ·exact bools_of (n:=3) (v:=true) (by rw [hz];exact Nat.lt_of_lt_of_le l1 b1.size) (by omega) fun i hi => by rw [hk _ _ q1];exact r1 i hi
 ·exact bools_of (n:=4) (v:=false) (by rw [hz];exact l2) (by omega) fun i hi => by rw [hk _ _ q2];exact r2 i hi
 ·exact bools_of (n:=3) (v:=true) (by rw [hz];exact Nat.lt_of_lt_of_le l3 b3.size) (by omega) fun i hi => by rw [hk _ _ q3];exact r3 i hi
 ·exact ((hb.setCell (p:=⟨w.heap.size,_,none⟩) (Nat.le_refl _) _).setCell (p:=⟨w.heap.size,_,none⟩) (Nat.le_refl _) _).setCell (p:=⟨w.heap.size,_,none⟩) (Nat.le_refl _) _
theorem three_alloc {w:World} {gb:Nat} {x y z:Value} {o:Obj} (h:gb < w.heap.size):(((w.setCell ⟨gb,0,none⟩ x).setCell ⟨gb,1,none⟩ y).setCell ⟨gb,2,none⟩ z).alloc o = (((w.alloc o).setCell ⟨gb,0,none⟩ x).setCell ⟨gb,1,none⟩ y).setCell ⟨gb,2,none⟩ z:=by
 simp [World.setCell_alloc_past,h]
theorem inAll_ret {Q:Ending → World → Prop} {F:World} {gb:Nat} (hX:Bx F gb [vnil,vnil,vnil]) (x y z:Value) {tmps:Array Value} (ha:tmps.getD 0 undef = .pointer (some ⟨gb,0,none⟩)) (hp:Q (.returned (.agg #[x,y,z])) (((F.setCell ⟨gb,0,none⟩ x).setCell ⟨gb,1,none⟩ y).setCell ⟨gb,2,none⟩ z)) :
  bodyPost Tryz.prog Tryz.f61 Q Exit.ret ⟨tmps,[]⟩ (((F.setCell ⟨gb,0,none⟩ x).setCell ⟨gb,1,none⟩ y).setCell ⟨gb,2,none⟩ z):=by
 have h3:Bx (((F.setCell ⟨gb,0,none⟩ x).setCell ⟨gb,1,none⟩ y).setCell ⟨gb,2,none⟩ z) gb [x,y,z]:=by
  have:=((hX.set 0 (by simp) x).set 1 (by simp) y).set 2 (by simp) z
  simpa using this
 obtain ⟨⟨q0,q1,q2⟩,_⟩:=h3.three
 exact bodyPost_ret (results_c1 Tryz.results61 _ _ ⟨gb,0,none⟩ (.agg #[x,y,z]) ha (loadVar_in _ _ _ _ _ q0 q1 q2)) rfl hp
theorem repeatB3 (b:Nat) (v:Bool) (w:World) (hb:b < w.heap.size) (hc0:w.cell? ⟨b,0,none⟩ = some (.bool v)) :
  Calls Tryz.prog 114 #[.slice (some ⟨b,0,none⟩) 1 1,.int .i64 3] w fun e w' => ∃ g,e = .returned (.slice (some ⟨g,0,none⟩) 3 3) ∧ RepI w g 3 [.bool v] 3 w' ∧ w.heap.size ≤ g ∧ g < w'.heap.size:=repeatB_any 3 (by omega) b v w hb hc0
theorem litK {W w1 cur:World} {g N n b:Nat} {xs:List Value} {v:Option Value} (_:RepI W g N xs n w1) (h:Below W.heap.size W cur) (hlt:b < W.heap.size) {o:Nat} (hc:W.cell? ⟨b,o,none⟩ = v):cur.cell? ⟨b,o,none⟩ = v:=(h.cell (p:=⟨b,o,none⟩) hlt).trans hc
attribute [local go_sem] mk4b
set_option maxHeartbeats 4000000 in
theorem implInAll_any (w:World):Calls Tryz.prog 61 #[] w (InAllR w):=by
  go_enter Tryz.func61,Tryz.ntmps61
  go_upto_region 1 with fail
  obtain ⟨w0,hw0⟩:∃ W,W = w.alloc (.cells #[.slice none 0 0,.slice none 0 0,.slice none 0 0] 44):=⟨_,rfl⟩
  obtain ⟨gb,hgb⟩:∃ g,g = w.heap.size:=⟨_,rfl⟩
  have X0:=hid (show Bx w0 gb [vnil,vnil,vnil] by rw [hw0,hgb];exact Bx.new w #[vnil,vnil,vnil] 44 (by simp))
  have HB0:=hid (show Below w.heap.size w w0 by rw [hw0];exact (Below.refl _ _).alloc (Nat.le_refl _) _)
  have hz0:w0.heap.size = gb + 1:=by rw [hw0,hgb];simp
  rw [← hw0,← hgb]
  have HGB:=hid hgb
  clear hw0 hgb
  obtain ⟨⟨q0,q1,q2⟩,z0,z1,z2⟩:=X0.out.three
  have hl:=X0.out.lt
  have HZ0:=hid hz0
  clear hz0
  go_region_with (first
    | (go_at_call 114;have _hh:=HRa.out;clear _hh;(with_reducible refine (repeatB3 _ true _ (by first | (simp [go_sem];done) | (have hs:=HRa.out.bel.size;simp [go_sem] at hs ⊢;omega)) (by first | (simp [go_sem];done) | (refine litK HRa.out ?_ ?_ ?_;(repeat (first | exact HRa.out.bel | refine bA ?_ | refine bD ?_));all_goals (simp [go_sem])))).mono ?_);rintro e w1b ⟨g1b,rfl,hr1,hg1,hl1⟩;have hbv:Below w0.heap.size w0 w1b:=bR hr1 (by repeat (first | exact HBa.out | refine bA ?_ | refine bD ?_));have HBb:=hid hbv;clear hbv q0 q1 q2 z0 z1 z2 hl;obtain ⟨⟨q0,q1,q2⟩,z0,z1,z2⟩:=(X0.out.below HBb.out X0.out.lt).three;have hl:=(X0.out.below HBb.out X0.out.lt).lt;have HRb:=hid hr1;have HGb:=hid hg1;have HLb:=hid hl1;clear hr1 hg1 hl1)
    | (go_at_call 114;(with_reducible refine (repeatB3 _ true _ (by simp [go_sem]) (by simp [go_sem])).mono ?_);rintro e w1a ⟨g1a,rfl,hr1,hg1,hl1⟩;have hbv:Below w0.heap.size w0 w1a:=bR hr1 (by repeat (first | exact Below.refl _ _ | refine bA ?_ | refine bD ?_));have HBa:=hid hbv;clear hbv q0 q1 q2 z0 z1 z2 hl;obtain ⟨⟨q0,q1,q2⟩,z0,z1,z2⟩:=(X0.out.below HBa.out X0.out.lt).three;have hl:=(X0.out.below HBa.out X0.out.lt).lt;have HRa:=hid hr1;have HGa:=hid hg1;have HLa:=hid hl1;clear hr1 hg1 hl1))
  all_goals
    go_wp2_with fail
    have sa:=HBa.out.size;have sb:=HBb.out.size;have ta:=HRa.out.bel.size;have tb:=HRb.out.bel.size;have ga:=HGa.out;have gc:=HGb.out
    simp at ta tb ga gc
    try rw [three_alloc hl]
    refine inAll_ret ?_ _ _ _ ?_ ?_
    · refine X0.out.below (show Below w0.heap.size w0 _ from ?_) X0.out.lt
      repeat (first | exact HBb.out | refine bA ?_ | refine bD ?_)
    · rfl
    rw [HGB.out]
    have hz0:=HZ0.out
    have hgb:=HGB.out
    refine inAll_done (HB0.out.trans ((show Below w0.heap.size w0 _ from ?_).mono HB0.out.size)) HRa.out HLa.out (by have:=HGB.out;omega) ?_ HRb.out HLb.out (by have:=HGB.out;omega) ?_ (by have:=HGB.out;omega) ?_ (fun i hi => ?_) _ _ _
    · repeat (first | exact HBb.out | refine bA ?_ | refine bD ?_)
    · repeat (first | exact Below.refl _ _ | refine bA ?_ | refine bD ?_ | refine bR HRb.out ?_)
    · repeat (first | exact Below.refl _ _ | refine bA ?_ | refine bD ?_)
    · first
        | omega
        | (simp;done)
        | (simp;omega)
    · clear hz0 hgb
      obtain rfl | rfl | rfl | rfl:i = 0 ∨ i = 1 ∨ i = 2 ∨ i = 3:=by omega
      all_goals first
        | (simp [go_sem];done)
        | (refine litK HRb.out ?_ ?_ ?_
           · repeat (first | exact HRb.out.bel | refine bA ?_ | refine bD ?_)
           · have hz0:=HZ0.out
             have hgb:=HGB.out
             first
               | omega
               | (simp;done)
               | (simp;omega)
           · first
               | (simp [go_sem];done)
               | (refine litK HRa.out ?_ ?_ ?_
                  · repeat (first | exact HRa.out.bel | refine bA ?_ | refine bD ?_)
                  · have hz0:=HZ0.out
                    have hgb:=HGB.out
                    first
                      | omega
                      | (simp;done)
                      | (simp;omega)
                  · simp [go_sem]))
end Go.Proofs.YtenjbhbcacocjaaGreat
namespace Go.Proofs.YtenjbhbcacocjaaGreat
open Go.RowKit
theorem CopP.below {st:Cy} {w w0:World} {e:Ending} {w':World} (h:CopP st w0 e w') (hb:Below w.heap.size w w0):CopP st w e w':=by
 obtain ⟨V,N,C,D,he,hr,h3⟩:=h
 exact ⟨V,N,C,D,he,hr.rebase hb.size,hb.trans (h3.mono hb.size)⟩
theorem runC_app (c:Cfg):∀ (a b:List Inp) (st:Cy),runC c (a ++ b) st = runC c b (runC c a st)
 | [],_,_ => rfl
 | _ :: a,b,_ => runC_app c a b _
theorem runC_snoc (c:Cfg) (ins:List Inp) (k:Nat) (hk:k < ins.length) (st:Cy):runC c (ins.take (k + 1)) st = cyc c (ins.getD k default) (runC c (ins.take k) st):=by
 rw [List.take_succ_eq_append_getElem hk,runC_app]
 simp [runC,List.getD,hk]
set_option maxRecDepth 8000 in
set_option maxHeartbeats 8000000 in
theorem cycRun_any {c:Cfg} (hbus:Bus c) {w:World} {B:Nat} {u v:Value} (hc:BusV w B u c) {a0 a1 a2 a3 a4:Value} {st:Cy} {P:List PS} {Q:List SS} (h:CyV w B a0 a1 a2 a3 a4 st P Q) {ins:List Inp} (hi:Ins w B v ins) (hB:B ≤ w.heap.size) (hg:Good c st) (hl:ins.length ≤ 300) :
  Calls Tryz.prog 27 #[u,.agg #[a0,a1,a2,a3,a4],v] w (CopP (runC c ins st) w):=by
 obtain ⟨mv,lb,lo,lc,pb,po,pc,QQ,K,rfl,⟨ma,mn,mk,rfl⟩,_,_,_,_,_,_⟩:=hc.opened hbus
 obtain ⟨z0,z1,z2,z3,z4,n0,n1,n2,n3,n4,k0,k1,k2,k3,k4,rfl,rfl,rfl,rfl,rfl⟩:=h.sl
 obtain ⟨ia,ic,rfl,ic1,ic2,ic3,_,hcell⟩:=hi.opened
 have HRN:=hid (fun (W:World) (hW:Below w.heap.size w W) => runs_any hbus (hc.below (hW.mono hB)) (h.below (hW.mono hB)) (hi.below (hW.mono hB)) (Nat.le_trans hB hW.size) hg hl)
 have HCP:=hid (fun (W:World) (hW:Below w.heap.size w W) => cycCopyV_any (h.below (hW.mono hB)) (Nat.le_trans hB hW.size) (smallC_of hbus hg))
 have HBV:=hid hc;have HCELL:=hid hcell
 obtain ⟨il,hil⟩:∃ x,x = ins.length:=⟨_,rfl⟩
 rw [← hil] at HRN HCELL ic1 ic3 ⊢
 have HIL:=hid hil
 obtain ⟨w0,hw0⟩:∃ W,W = ((w.alloc (.cells #[.slice ma mn mk,.slice (some ⟨lb,lo,none⟩) 4 lc,.slice (some ⟨pb,po,none⟩) 3 pc] 27)).alloc (.cells #[.slice z0 n0 k0,.slice z1 n1 k1,.slice z2 n2 k2,.slice z3 n3 k3,.slice z4 n4 k4] 39)).alloc (.cells #[.slice none 0 0,.slice none 0 0,.slice none 0 0,.slice none 0 0,.slice none 0 0] 39):=⟨_,rfl⟩
 have hb0:Below w.heap.size w w0:=by rw [hw0];exact (((Below.refl _ _).alloc (Nat.le_refl _) _).alloc (by simp) _).alloc (by simp <;> omega) _
 obtain ⟨g1,hg1⟩:∃ g,g = w.heap.size + 1:=⟨_,rfl⟩
 obtain ⟨g3,hg3⟩:∃ g,g = w.heap.size + 1 + 1:=⟨_,rfl⟩
 have X0:=hid (show Bx w0 w.heap.size [.slice ma mn mk,.slice (some ⟨lb,lo,none⟩) 4 lc,.slice (some ⟨pb,po,none⟩) 3 pc] by
  rw [hw0];exact ((Bx.new w #[.slice ma mn mk,.slice (some ⟨lb,lo,none⟩) 4 lc,.slice (some ⟨pb,po,none⟩) 3 pc] 27 (by simp)).below ((Below.refl _ _).alloc (Nat.le_refl _) _) (by simp)).below ((Below.refl _ _).alloc (Nat.le_refl _) _) (by simp <;> omega))
 have X1:=hid (show Bx w0 g1 [.slice z0 n0 k0,.slice z1 n1 k1,.slice z2 n2 k2,.slice z3 n3 k3,.slice z4 n4 k4] by
  rw [hw0,hg1];have:=(Bx.new (w.alloc (.cells #[.slice ma mn mk,.slice (some ⟨lb,lo,none⟩) 4 lc,.slice (some ⟨pb,po,none⟩) 3 pc] 27)) #[.slice z0 n0 k0,.slice z1 n1 k1,.slice z2 n2 k2,.slice z3 n3 k3,.slice z4 n4 k4] 39 (by simp)).below ((Below.refl _ _).alloc (Nat.le_refl _) (.cells #[.slice none 0 0,.slice none 0 0,.slice none 0 0,.slice none 0 0,.slice none 0 0] 39)) (by simp);simpa using this)
 have X3:=hid (show Bx w0 g3 [vnil,vnil,vnil,vnil,vnil] by
  rw [hw0,hg3];have:=Bx.new ((w.alloc (.cells #[.slice ma mn mk,.slice (some ⟨lb,lo,none⟩) 4 lc,.slice (some ⟨pb,po,none⟩) 3 pc] 27)).alloc (.cells #[.slice z0 n0 k0,.slice z1 n1 k1,.slice z2 n2 k2,.slice z3 n3 k3,.slice z4 n4 k4] 39)) #[vnil,vnil,vnil,vnil,vnil] 39 (by simp);simpa using this)
 have HB0:=hid hb0
 have HSZ:=hid (show w0.heap.size = w.heap.size + 3 by rw [hw0];simp)
 obtain ⟨b0,b1,b2⟩:=X0.out.three.1
 obtain ⟨t0,t1,t2,t3,t4⟩:=X1.out.five.1
 clear hc h hi hb0 hcell hil
 go_enter Tryz.func27,Tryz.ntmps27
 go_upto_region 1 with fail
 rw [← hw0,← hg3,← hg1]
 have HG1:=hid hg1;have HG3:=hid hg3
 clear hw0 hg1 hg3
 go_upto_region 3 with (go_at_call 71;go_loud ((with_reducible refine (HRN.out _ HB0.out).mono ?_));rintro e w2 ⟨rfl,hb2⟩;have HQ2:=hid hb2;have HB2:=hid (HB0.out.trans (hb2.mono HB0.out.size));clear hb2 t0 t1 t2 t3 t4 b0 b1 b2)
 obtain ⟨t0,t1,t2,t3,t4⟩:=(X1.out.below HQ2.out X1.out.lt).five.1
 go_upto_region 4 with (go_at_call 46;go_loud ((with_reducible refine (HCP.out _ HB2.out).mono ?_));rintro e w3 ⟨V,N,C,D,rfl,hcr,hb3⟩;have HQ3:=hid (HQ2.out.trans (hb3.mono HQ2.out.size));have HB3:=hid (HB2.out.trans (hb3.mono HB2.out.size));have HQ23:=hid hb3;obtain ⟨A,m,KK,e0,e1,e2,e3,e4⟩:=hcr.raw.sl;have HE:=hid (show V 0 = .slice (A 0) (m 0) (KK 0) ∧ V 1 = .slice (A 1) (m 1) (KK 1) ∧ V 2 = .slice (A 2) (m 2) (KK 2) ∧ V 3 = .slice (A 3) (m 3) (KK 3) ∧ V 4 = .slice (A 4) (m 4) (KK 4) from ⟨e0,e1,e2,e3,e4⟩);rw [e0,e1,e2,e3,e4];have HCR:=hid hcr;clear hcr hb3 e0 e1 e2 e3 e4 t0 t1 t2 t3 t4)
 obtain ⟨w4,hw4⟩:∃ W,W = w3.alloc (.cells #[.slice (A 0) (m 0) (KK 0),.slice (A 1) (m 1) (KK 1),.slice (A 2) (m 2) (KK 2),.slice (A 3) (m 3) (KK 3),.slice (A 4) (m 4) (KK 4)] 39):=⟨_,rfl⟩
 obtain ⟨S,hS⟩:∃ g,g = w3.heap.size:=⟨_,rfl⟩
 rw [← hw4,← hS]
 have hb4:Below w3.heap.size w3 w4:=by rw [hw4];exact (Below.refl _ _).alloc (Nat.le_refl _) _
 have HCB:=hid (HCR.out.box (S:=S) hb4 (by omega) (by rw [HE.out.1,HE.out.2.1,HE.out.2.2.1,HE.out.2.2.2.1,HE.out.2.2.2.2,hw4];exact alloc_at _ _ hS) HQ23.out.size)
 have HQ4:=hid (HQ3.out.trans (hb4.mono HQ3.out.size))
 have HB4:=hid (HB3.out.trans (hb4.mono HB3.out.size))
 have HX03:=hid (show w0.heap.size ≤ w2.heap.size from HQ2.out.size)
 clear hw4 hS hb4
 go_wp2_with fail
 go_loopw [20] (fun i wr => ∃ k:Nat,i = .int .i64 k ∧ k ≤ il ∧ (∃ V N C D,CyB wr w2.heap.size S (fun b => w2.heap.size ≤ b) (runC c (ins.take k) st) V N C D) ∧ Below w2.heap.size w4 wr) (fun i _ => il - (intOf i).toNat)
 case atStart => exact ⟨0,by go_num,Nat.zero_le _,⟨V,N,C,D,by simpa [runC] using HCB.out⟩,Below.refl _ _⟩
 case round =>
  obtain ⟨k,rfl,hk,⟨V1,N1,C1,D1,hcb⟩,hbr⟩:=hrel
  have HCBR:=hid hcb;have HBR:=hid hbr
  have HBW:=hid (HB4.out.trans (hbr.mono HB2.out.size))
  have HQR:=hid (HQ4.out.trans (hbr.mono HX03.out))
  have HGR:=hid (show Good c (runC c (ins.take k) st) from good_run hbus _ hg)
  obtain ⟨wo,hwo⟩:∃ W,W = wr:=⟨_,rfl⟩
  subst hwo
  clear hcb hbr
  by_cases hlt:k < il
  ·have hki:(k:Int) < (il:Int):=by omega
   obtain ⟨b,off,rfl,hbB,hrow⟩:=HCELL.out (by omega)
   obtain ⟨ra,rc,ta,tc,sa,sc,hiv,c0,c1,c2⟩:=hrow k hlt
   rw [← HBW.out.cell (p:=⟨b,_,none⟩) (Nat.lt_of_lt_of_le hbB hB)] at c0 c1 c2
   have HIV:=hid hiv
   have HSN:=hid (runC_snoc c ins k (by rw [← HIL.out];exact hlt) st)
   clear hrow hiv
   go_upto_region 7 with fail
   clear c0 c1 c2
   obtain ⟨w5,hw5⟩:∃ W,W = wo.alloc (.cells #[.slice ra 3 rc,.slice ta 4 tc,.slice sa 3 sc] 44):=⟨_,rfl⟩
   obtain ⟨gi,hgi⟩:∃ g,g = wo.heap.size:=⟨_,rfl⟩
   rw [← hw5,← hgi]
   have hb5:Below wo.heap.size wo w5:=by rw [hw5];exact (Below.refl _ _).alloc (Nat.le_refl _) _
   have X5:=hid (show Bx w5 gi [.slice ra 3 rc,.slice ta 4 tc,.slice sa 3 sc] by rw [hw5,hgi];exact Bx.new wo #[.slice ra 3 rc,.slice ta 4 tc,.slice sa 3 sc] 44 (by simp))
   have HB5:=hid hb5
   have HBW5:=hid (HBW.out.trans (hb5.mono HBW.out.size))
   obtain ⟨b0,b1,b2⟩:=(X0.out.below (HQR.out.trans (hb5.mono HQR.out.size)) X0.out.lt).three.1
   obtain ⟨i0,i1,i2⟩:=X5.out.three.1
   have HST:=hid (step_any hbus (HCBR.out.below hb5) HGR.out (HBV.out.below (HBW5.out.mono hB)) (HIV.out.below (HBW5.out.mono hB)) (Nat.le_trans hB HB2.out.size))
   clear hw5 hgi hb5
   go_wp2_with (go_at_call 48;go_loud ((with_reducible refine (HST.out).mono ?_));rintro e w6 ⟨V', N', C', D', ve,rfl,hcb,_,hb6,_,_⟩;have HCB6:=hid hcb;have HQ6:=hid hb6;clear hcb hb6 b0 b1 b2 i0 i1 i2)
   go_roundw
   case rel => exact ⟨k + 1,by go_num,by omega,⟨V', N', C', D', by rw [HSN.out];exact HCB6.out⟩,(HBR.out.trans (HB5.out.mono (by have:=HBR.out.size;have:=HB4.out.size;have:=HQ23.out.size;have:=HQ4.out.size;have:=HBW.out.size;exact Nat.le_trans (HCBR.out.s0) (Nat.le_of_lt HCBR.out.cells.2.2.2.2.2)))).trans HQ6.out⟩
   case measure => simp [intOf];omega
  ·obtain rfl:k = il:=by omega
   have hki2:decide ((k:Int) < (k:Int)) = false:=by simp
   have hend:ins.take k = ins:=List.take_of_length_le (by rw [HIL.out];exact Nat.le_refl _)
   rw [hend] at HCBR HGR
   obtain ⟨A', m', KK', e0,e1,e2,e3,e4⟩:=HCBR.out.raw.sl
   obtain ⟨c0,c1,c2,c3,c4,_⟩:=HCBR.out.cells
   rw [e0] at c0;rw [e1] at c1;rw [e2] at c2;rw [e3] at c3;rw [e4] at c4
   have HCP5:=hid (show Calls Tryz.prog 46 #[.agg #[.slice (A' 0) (m' 0) (KK' 0),.slice (A' 1) (m' 1) (KK' 1),.slice (A' 2) (m' 2) (KK' 2),.slice (A' 3) (m' 3) (KK' 3),.slice (A' 4) (m' 4) (KK' 4)]] wo (CopP (runC c ins st) wo) from by
    obtain ⟨P', Q', hv⟩:=HCBR.out.toV hbus HGR.out
    rw [e0,e1,e2,e3,e4] at hv
    exact cycCopyV_any hv (Nat.le_refl _) (smallC_of hbus HGR.out))
   clear e0 e1 e2 e3 e4 hend
   have HX35:=hid (show Bx wo g3 [vnil,vnil,vnil,vnil,vnil] from (X3.out.below HQR.out X3.out.lt))
   go_wp2_with (go_at_call 46;go_loud ((with_reducible refine (HCP5.out).mono ?_));rintro e w6 ⟨V6,N6,C6,D6,rfl,hcr,hb6⟩;obtain ⟨A6,m6,K6,e0,e1,e2,e3,e4⟩:=hcr.raw.sl;have HE6:=hid (show V6 0 = .slice (A6 0) (m6 0) (K6 0) ∧ V6 1 = .slice (A6 1) (m6 1) (K6 1) ∧ V6 2 = .slice (A6 2) (m6 2) (K6 2) ∧ V6 3 = .slice (A6 3) (m6 3) (K6 3) ∧ V6 4 = .slice (A6 4) (m6 4) (K6 4) from ⟨e0,e1,e2,e3,e4⟩);rw [e0,e1,e2,e3,e4];have HCR6:=hid hcr;have HQ6:=hid hb6;have HX6:=hid (HX35.out.below hb6 HX35.out.lt);clear hcr hb6 e0 e1 e2 e3 e4 c0 c1 c2 c3 c4;obtain ⟨⟨q0,q1,q2,q3,q4⟩,f0,f1,f2,f3,f4⟩:=HX6.out.five;have hrl:=HX6.out.lt)
   refine bodyPost_ret (results_c1 Tryz.results27 _ _ ⟨g3,0,none⟩ (.agg #[.slice (A6 0) (m6 0) (K6 0),.slice (A6 1) (m6 1) (K6 1),.slice (A6 2) (m6 2) (K6 2),.slice (A6 3) (m6 3) (K6 3),.slice (A6 4) (m6 4) (K6 4)]) rfl (loadVar_cyc _ _ _ _ _ _ _ (by simp [go_sem, *]) (by simp [go_sem, *]) (by simp [go_sem, *]) (by simp [go_sem, *]) (by simp [go_sem, *]))) rfl ⟨V6,N6,C6,D6,?_,?_,?_⟩
   ·rw [HE6.out.1,HE6.out.2.1,HE6.out.2.2.1,HE6.out.2.2.2.1,HE6.out.2.2.2.2]
   ·have h35:=HX35.out.lt
    exact (HCR6.out.kept (fun b h1 h2 => (touchC g3 _ _ _ _ _ _).block b h2 (by omega)) (touchC g3 _ _ _ _ _ _).size).rebase HBW.out.size
   ·have hg3:=HG3.out
    have h5:w.heap.size ≤ g3:=by omega
    exact ((((((HBW.out.trans (HQ6.out.mono HBW.out.size)).setCell (p:=⟨g3,_,none⟩) h5 _).setCell (p:=⟨g3,_,none⟩) h5 _).setCell (p:=⟨g3,_,none⟩) h5 _).setCell (p:=⟨g3,_,none⟩) h5 _).setCell (p:=⟨g3,_,none⟩) h5 _)
theorem CyO.toR {w:World} {lo:Nat} {a b p s:Value} (h:CyO w lo a b p s z64 z6 z3 z4):∃ V N C D,CyR w lo cy0 V N C D ∧ V 0 = a ∧ V 1 = b ∧ V 2 = p ∧ V 3 = s ∧ V 4 = vnil:=by
 have nil:∀ (e sz:Nat),OwnR w lo e sz vnil 0 []:=fun e sz => ⟨by simp,.inl ⟨rfl,rfl⟩⟩
 have an:∀ v:Value,Apart v vnil:=fun v k _ h2 => by simp [vnil,Value.ownBlock] at h2
 have na:∀ v:Value,Apart vnil v:=fun v k h2 => by simp [vnil,Value.ownBlock] at h2
 refine ⟨fun κ => if κ = 0 then a else if κ = 1 then b else if κ = 2 then p else if κ = 3 then s else vnil,fun κ => if κ = 0 then 64 else if κ = 1 then 6 else if κ = 2 then 3 else if κ = 3 then 4 else 0,
  fun κ => if κ = 0 then z64.flatMap rowI else if κ = 1 then z6.flatMap rowI else if κ = 2 then z3.flatMap rowP else if κ = 3 then z4.flatMap rowS else [],fun _ => [],⟨⟨fun κ hκ => ?_,fun κ μ hκ hμ hne => ?_⟩,?_,rfl,fun κ hκ x hx => by cases hx⟩,rfl,rfl,rfl,rfl,rfl⟩
 ·rcases κ with _ | _ | _ | _ | κ
  ·exact h.oa
  ·exact h.ob
  ·exact h.op
  ·exact h.os
  ·exact nil _ _
 ·rcases κ with _ | _ | _ | _ | κ <;> rcases μ with _ | _ | _ | _ | μ <;> first | exact absurd rfl hne | exact an _ | exact na _ | exact h.dab | exact h.dab.symm | exact h.dap | exact h.dap.symm | exact h.das | exact h.das.symm | exact h.dbp | exact h.dbp.symm | exact h.dbs | exact h.dbs.symm | exact h.dps | exact h.dps.symm
 ·have q:∀ i:Nat,((5 + i = 0) = False ∧ (5 + i = 1) = False ∧ (5 + i = 2) = False ∧ (5 + i = 3) = False) ∧ ((8 + i = 0) = False ∧ (8 + i = 1) = False ∧ (8 + i = 2) = False ∧ (8 + i = 3) = False) ∧ ((11 + i = 0) = False ∧ (11 + i = 1) = False ∧ (11 + i = 2) = False ∧ (11 + i = 3) = False) ∧ ((15 + i = 0) = False ∧ (15 + i = 1) = False ∧ (15 + i = 2) = False ∧ (15 + i = 3) = False):=fun i => by
   refine ⟨⟨?_,?_,?_,?_⟩,⟨?_,?_,?_,?_⟩,⟨?_,?_,?_,?_⟩,⟨?_,?_,?_,?_⟩⟩ <;> exact eq_false (by omega)
  refine ⟨rfl,rfl,rfl,rfl,rfl,rfl,rfl,rfl,rfl,rfl,rfl,fun i hi => ?_,fun i hi => ?_,fun i hi => ?_,fun i hi => ?_,fun i hi => ?_,fun i hi => ?_,fun i hi => ?_,fun i hi => ?_,fun i hi => rfl,rfl,rfl⟩ <;> simp [q i,cy0]
theorem i64_z64:∀ x ∈ z64,I64 x:=by intro x hx;obtain ⟨_,rfl⟩:=List.mem_replicate.1 hx;exact ⟨by omega,by omega⟩
theorem i64_z6:∀ x ∈ z6,I64 x:=by intro x hx;obtain ⟨_,rfl⟩:=List.mem_replicate.1 hx;exact ⟨by omega,by omega⟩
theorem small_zero:SmallC cy0:=⟨by simp [cy0],by simp [cy0],⟨by simp [cy0],by simp [cy0]⟩,fun i _ => by simp [cy0],fun i _ => by simp [cy0],fun s _ => by simp [cy0],fun s _ => ⟨by simp [cy0],by simp [cy0]⟩⟩
theorem CyO.toV {w:World} {lo:Nat} {a b p s:Value} (h:CyO w lo a b p s z64 z6 z3 z4):∃ P Q,CyV w w.heap.size a b p s vnil cy0 P Q:=by
 obtain ⟨V,N,C,D,hr,rfl,rfl,rfl,rfl,e4⟩:=h.toR
 rw [← e4]
 exact cyV_raw hr.raw hr.con (fun κ hκ x hx => (hr.dat κ hκ x hx).to fun b hb => hb.2.1) small_zero i64_z64 i64_z6
theorem CopP.sl {st:Cy} {w:World} {e:Ending} {w':World} (h:CopP st w e w'):∃ V N C D b0 b1 b2 b3 b4 n0 n1 n2 n3 n4 k0 k1 k2 k3 k4,(V 0 = .slice b0 n0 k0 ∧ V 1 = .slice b1 n1 k1 ∧ V 2 = .slice b2 n2 k2 ∧ V 3 = .slice b3 n3 k3 ∧ V 4 = .slice b4 n4 k4) ∧ e = .returned (.agg #[.slice b0 n0 k0,.slice b1 n1 k1,.slice b2 n2 k2,.slice b3 n3 k3,.slice b4 n4 k4]) ∧ CyR w' w.heap.size st V N C D ∧ Below w.heap.size w w':=by
 obtain ⟨V,N,C,D,rfl,hr,hbl⟩:=h
 obtain ⟨A,n,K,e0,e1,e2,e3,e4⟩:=hr.raw.sl
 exact ⟨V,N,C,D,_,_,_,_,_,_,_,_,_,_,_,_,_,_,_,⟨e0,e1,e2,e3,e4⟩,by rw [e0,e1,e2,e3,e4],hr,hbl⟩
theorem CopP.out {st:Cy} {w wa:World} {V:Nat → Value} {N:Nat → Nat} {C:Nat → List Value} {D:Nat → List TJV} {b0 b1 b2 b3 b4:Option Addr} {n0 n1 n2 n3 n4 k0 k1 k2 k3 k4 base:Nat} (hE:V 0 = .slice b0 n0 k0 ∧ V 1 = .slice b1 n1 k1 ∧ V 2 = .slice b2 n2 k2 ∧ V 3 = .slice b3 n3 k3 ∧ V 4 = .slice b4 n4 k4) (hr:CyR wa base st V N C D) (hw:Below w.heap.size w wa) (g:Nat) (hg:g < base) (hg2:w.heap.size ≤ g) :
  CopP st w (.returned (.agg #[.slice b0 n0 k0,.slice b1 n1 k1,.slice b2 n2 k2,.slice b3 n3 k3,.slice b4 n4 k4])) (((((wa.setCell ⟨g,0,none⟩ (.slice b0 n0 k0)).setCell ⟨g,1,none⟩ (.slice b1 n1 k1)).setCell ⟨g,2,none⟩ (.slice b2 n2 k2)).setCell ⟨g,3,none⟩ (.slice b3 n3 k3)).setCell ⟨g,4,none⟩ (.slice b4 n4 k4)):=by
 obtain ⟨e0,e1,e2,e3,e4⟩:=hE
 refine ⟨V,N,C,D,by rw [e0,e1,e2,e3,e4],(hr.kept (fun b h1 h2 => (touchC g _ _ _ _ _ _).block b h2 (by omega)) (touchC g _ _ _ _ _ _).size).rebase (by omega),?_⟩
 exact ((((hw.setCell (p:=⟨g,_,none⟩) hg2 _).setCell (p:=⟨g,_,none⟩) hg2 _).setCell (p:=⟨g,_,none⟩) hg2 _).setCell (p:=⟨g,_,none⟩) hg2 _).setCell (p:=⟨g,_,none⟩) hg2 _
set_option maxRecDepth 8000 in
set_option maxHeartbeats 8000000 in
theorem cycNew_any (w:World):Calls Tryz.prog 16 #[] w (CopP cy0 w):=by
 go_enter Tryz.func16,Tryz.ntmps16
 go_wp2_with fail
 refine (implAtmNewW_any _).mono ?_
 rintro e w1 ⟨wa,wc,g,ga,go,gc,rfl,o1,o2,_,_,hap,hb⟩
 have HR:=hid ((Bx.new w #[vnil,vnil,vnil,vnil,vnil] 39 (by simp)).below hb (by simp))
 have HB1:=hid ((bx1 w _).trans (hb.mono (by simp)))
 have O1:=hid o1;have O2:=hid o2;have AP:=hid hap
 clear o1 o2 hap hb
 obtain ⟨⟨r0,r1,r2,r3,r4⟩,f0,f1,f2,f3,f4⟩:=HR.out.five
 have hz1:=HR.out.lt
 go_wp2_with fail
 clear r0 r1 r2 r3 r4 f0 f1 f2 f3 f4
 obtain ⟨W2,hW2⟩:∃ W2,W2 = w1.alloc (.cells #[.slice (some ⟨g,wa,none⟩) 64 wc,.slice (some ⟨ga,go,none⟩) 6 gc,.slice none 0 0,.slice none 0 0,.slice none 0 0] 39):=⟨_,rfl⟩
 rw [← hW2]
 have hb2:Below w1.heap.size w1 W2:=by rw [hW2];exact bx1 _ _
 have hz2:W2.heap.size = w1.heap.size + 1:=by rw [hW2];simp
 have HS:=hid (show Bx W2 w1.heap.size [.slice (some ⟨g,wa,none⟩) 64 wc,.slice (some ⟨ga,go,none⟩) 6 gc,vnil,vnil,vnil] by rw [hW2];exact Bx.new w1 #[.slice (some ⟨g,wa,none⟩) 64 wc,.slice (some ⟨ga,go,none⟩) 6 gc,vnil,vnil,vnil] _ (by simp))
 have HR2:=hid (HR.out.below hb2 hz1)
 have HB2:=hid hb2
 have HZ2:=hid hz2
 clear hW2 hb2 HR hz2
 go_loopw [4] (fun i wr => ∃ (k:Nat) (u:Value),i = .int .i64 k ∧ k ≤ 3 ∧ Owns wr (w1.heap.size + 1) 49 4 rowP u (List.replicate k ((0,3):Int × Int)) ∧ Below w1.heap.size W2 wr ∧ Bx wr w.heap.size [vnil,vnil,vnil,vnil,vnil] ∧ Bx wr w1.heap.size [.slice (some ⟨g,wa,none⟩) 64 wc,.slice (some ⟨ga,go,none⟩) 6 gc,u,vnil,vnil] ∧ w1.heap.size + 1 ≤ wr.heap.size) (fun i _ => 3 - (intOf i).toNat)
 case atStart => exact ⟨0,_,rfl,by omega,Owns.zero,Below.refl _ _,HR2.out,HS.out,by have:=HZ2.out;omega⟩
 case round =>
  clear HS HR2
  obtain ⟨k,u,rfl,hk3,hown,hbl,hr,hs,hsz⟩:=hrel
  have HOW:=hid hown;have HBL:=hid hbl;have HR:=hid hr;have HS:=hid hs;have HSZ:=hid hsz
  clear hown hbl hr hs hsz
  have hrep:=hid (show List.replicate k ((0,3):Int × Int) ++ [(0,3)] = List.replicate (k + 1) (0,3) from by rw [List.replicate_succ'])
  have hlr:=hid (show (List.replicate k ((0,3):Int × Int)).length = k from by simp)
  obtain ⟨⟨s0,s1,s2,s3,s4⟩,e0,e1,e2,e3,e4⟩:=HS.out.five
  have hsl:=HS.out.lt
  by_cases hlt:k < 3
  ·go_wp2_with (at_builtin;go_must (refine wpList_push elem_portY rowP rowP_len rowP_one wr rfl _ _ rfl (w1.heap.size + 1) _ _ (0,3) (by rfl) HOW.out _ (by rfl) (by rfl) (by rw [hlr.out];omega) (by rw [hlr.out];omega) HSZ.out ?_);intro v' w3 hown1 hb1;rw [hrep.out] at hown1;obtain ⟨va,vc,hv', hvc1,hvc2⟩:=hown1.shape;rw [List.length_replicate] at hv';subst hv';have HS3:=hid (HS.out.below hb1 (by omega));have HR3:=hid (HR.out.below hb1 (by omega));obtain ⟨⟨s0,s1,s2,s3,s4⟩,e0,e1,e2,e3,e4⟩:=HS3.out.five;have hsl3:=HS3.out.lt;have HO1:=hid hown1;have HB1':=hid hb1;clear hown1 hb1)
   go_roundw
   case rel => exact ⟨k + 1,_,by go_num,by omega,HO1.out.set' _ _ _ (fun j hj => by have:=(OwnR.lt HO1.out j hj).1;omega),(HBL.out.trans (HB1'.out.mono (by omega))).setCell (by exact Nat.le_refl _) _,HR3.out.kept (Below.heap_setCell _ _ _ _ (by show w.heap.size ≠ w1.heap.size;omega)),HS3.out.set 2 (by simp) _,by have:=HB1'.out.size;have:=HSZ.out;simp [World.setCell];omega⟩
   case measure => simp [intOf];omega
  ·obtain rfl:k = 3:=by omega
   go_wp2_with fail
   obtain ⟨wo,hwo⟩:∃ W,W = wr:=⟨_,rfl⟩
   subst hwo
   have hz3:w1.heap.size < wo.heap.size:=hsl
   clear s0 s1 s2 s3 s4 e0 e1 e2 e3 e4
   have hc3:((3:Nat):Int) = 3:=rfl
   simp only [hc3]
   clear hc3
   go_loopw [13] (fun i wx => ∃ (k:Nat) (v:Value),i = .int .i64 k ∧ k ≤ 4 ∧ Owns wx wo.heap.size 62 3 rowS v (List.replicate k (2:Int)) ∧ Owns wx (w1.heap.size + 1) 49 4 rowP u (List.replicate 3 ((0,3):Int × Int)) ∧ Below w1.heap.size W2 wx ∧ Bx wx w.heap.size [vnil,vnil,vnil,vnil,vnil] ∧ Bx wx w1.heap.size [.slice (some ⟨g,wa,none⟩) 64 wc,.slice (some ⟨ga,go,none⟩) 6 gc,u,v,vnil] ∧ wo.heap.size ≤ wx.heap.size) (fun i _ => 4 - (intOf i).toNat)
   case atStart => exact ⟨0,_,rfl,by omega,Owns.zero,HOW.out,HBL.out,HR.out,HS.out,Nat.le_refl _⟩
   case round =>
    have hul:=hid (fun j hj => (OwnR.lt HOW.out j hj).2)
    clear HBL HR HS
    obtain ⟨k,v,rfl,hk4,hown,hop,hbl,hr,hs,hsz⟩:=hrel
    have HOS:=hid hown;have HOP:=hid hop;have HBL:=hid hbl;have HR:=hid hr;have HS:=hid hs;have HSZ2:=hid hsz
    clear hown hop hbl hr hs hsz
    have hrep:=hid (show List.replicate k (2:Int) ++ [2] = List.replicate (k + 1) 2 from by rw [List.replicate_succ'])
    have hlr:=hid (show (List.replicate k (2:Int)).length = k from by simp)
    obtain ⟨⟨s0,s1,s2,s3,s4⟩,e0,e1,e2,e3,e4⟩:=HS.out.five
    have hsl:=HS.out.lt
    by_cases hlt4:k < 4
    ·have hle3:(k:Int) ≤ 3:=by omega
     go_wp2_with (at_builtin;go_must (refine wpList_push elem_slaveY rowS rowS_len rowS_one _ rfl _ _ rfl wo.heap.size _ _ 2 (by rfl) HOS.out _ (by rfl) (by rfl) (by rw [hlr.out];omega) (by rw [hlr.out];omega) HSZ2.out ?_);intro v' w3 hown1 hb1;rw [hrep.out] at hown1;obtain ⟨va,vc,hv', hvc1,hvc2⟩:=hown1.shape;rw [List.length_replicate] at hv';subst hv';have HS3:=hid (HS.out.below hb1 (by omega));have HR3:=hid (HR.out.below hb1 (by omega));have HOP3:=hid (OwnR.below HOP.out hb1 (fun j hj => hul.out j hj));obtain ⟨⟨s0,s1,s2,s3,s4⟩,e0,e1,e2,e3,e4⟩:=HS3.out.five;have hsl3:=HS3.out.lt;have HO1:=hid hown1;have HB1':=hid hb1;clear hown1 hb1)
     go_roundw
     case rel => exact ⟨k + 1,_,by go_num,by omega,HO1.out.set' _ _ _ (fun j hj => by have:=(OwnR.lt HO1.out j hj).1;omega),Owns.set' HOP3.out _ _ _ (fun j hj => by have:=(OwnR.lt HOP3.out j hj).1;omega),(HBL.out.trans (HB1'.out.mono (by omega))).setCell (by exact Nat.le_refl _) _,HR3.out.kept (Below.heap_setCell _ _ _ _ (by show w.heap.size ≠ w1.heap.size;omega)),HS3.out.set 3 (by simp) _,by have:=HB1'.out.size;have:=HSZ2.out;simp [World.setCell];omega⟩
     case measure => simp [intOf];omega
    ·obtain rfl:k = 4:=by omega
     obtain ⟨pa,pc,rfl,_,_⟩:=HOP.out.shape
     obtain ⟨sa,sc,rfl,_,_⟩:=HOS.out.shape
     simp only [List.length_replicate] at *
     have O1W:=hid (OwnR.below (O1.out.below HB2.out) HBL.out (fun j hj => (OwnR.lt O1.out j hj).2))
     have O2W:=hid (OwnR.below (O2.out.below HB2.out) HBL.out (fun j hj => (OwnR.lt O2.out j hj).2))
     have hg1:∀ j,(Value.slice (some ⟨g,wa,none⟩) 64 wc).ownBlock = some j → w.heap.size + 1 ≤ j ∧ j < w1.heap.size:=fun j hj => by have:=OwnR.lt O1.out j hj;simpa using this
     have hg2:∀ j,(Value.slice (some ⟨ga,go,none⟩) 6 gc).ownBlock = some j → w.heap.size + 1 ≤ j ∧ j < w1.heap.size:=fun j hj => by have:=OwnR.lt O2.out j hj;simpa using this
     have hg3:∀ j,(Value.slice pa 3 pc).ownBlock = some j → w1.heap.size + 1 ≤ j ∧ j < wo.heap.size:=fun j hj => ⟨(OwnR.lt HOP.out j hj).1,hul.out j hj⟩
     have hg4:∀ j,(Value.slice sa 4 sc).ownBlock = some j → wo.heap.size ≤ j:=fun j hj => (OwnR.lt HOS.out j hj).1
     have HCY:=hid (show CyO _ w.heap.size (.slice (some ⟨g,wa,none⟩) 64 wc) (.slice (some ⟨ga,go,none⟩) 6 gc) (.slice pa 3 pc) (.slice sa 4 sc) z64 z6 z3 z4 from
      ⟨OwnR.rebase O1W.out (show w.heap.size ≤ _ by simp),OwnR.rebase O2W.out (show w.heap.size ≤ _ by simp),OwnR.rebase HOP.out (show w.heap.size ≤ w1.heap.size + 1 by omega),OwnR.rebase HOS.out (show w.heap.size ≤ wo.heap.size by omega),
       AP.out,Apart.of_lt (m:=w1.heap.size) (fun j hj => (hg1 j hj).2) (fun j hj => by have:=hg3 j hj;omega),Apart.of_lt (m:=w1.heap.size) (fun j hj => (hg1 j hj).2) (fun j hj => by have:=hg4 j hj;omega),
       Apart.of_lt (m:=w1.heap.size) (fun j hj => (hg2 j hj).2) (fun j hj => by have:=hg3 j hj;omega),Apart.of_lt (m:=w1.heap.size) (fun j hj => (hg2 j hj).2) (fun j hj => by have:=hg4 j hj;omega),Apart.of_lt (m:=wo.heap.size) (fun j hj => (hg3 j hj).2) (fun j hj => hg4 j hj)⟩)
     clear hg1 hg2 hg3 hg4
     obtain ⟨⟨s0,s1,s2,s3,s4⟩,_⟩:=HS.out.five
     go_wp2_with fail
     clear s0 s1 s2 s3 s4
     obtain ⟨PP,QQ,hvv⟩:=HCY.out.toV
     refine (cycCopyV_any hvv (Nat.le_refl _) small_zero).mono ?_
     rintro e w5 hcop
     obtain ⟨V,N,C,D,y0,y1,y2,y3,y4,m0,m1,m2,m3,m4,j0,j1,j2,j3,j4,hE,rfl,hC,hb5⟩:=hcop.sl
     have HC5:=hid hC;have HB5:=hid hb5;have HE:=hid hE
     clear hC hb5 hcop hE hvv
     have HR5:=hid (HR.out.below HB5.out HR.out.lt)
     obtain ⟨⟨r0,r1,r2,r3,r4⟩,f0,f1,f2,f3,f4⟩:=HR5.out.five
     have hrl:=HR.out.lt
     have hr5:=HR5.out.lt
     have hbE:Below w.heap.size w w5:=((HB1.out.trans (HB2.out.mono (by omega))).trans (HBL.out.mono (by omega))).trans (HB5.out.mono (by omega))
     have HBE:=hid hbE
     clear hbE
     go_wp2_with fail
     refine bodyPost_ret (results_c1 Tryz.results16 _ _ ⟨w.heap.size,0,none⟩ (.agg #[.slice y0 m0 j0,.slice y1 m1 j1,.slice y2 m2 j2,.slice y3 m3 j3,.slice y4 m4 j4]) rfl (loadVar_cyc _ _ _ _ _ _ _ (by simp [go_sem, *]) (by simp [go_sem, *]) (by simp [go_sem, *]) (by simp [go_sem, *]) (by simp [go_sem, *]))) rfl ?_
     exact CopP.out HE.out HC5.out HBE.out w.heap.size (by omega) (Nat.le_refl _)
theorem CopP.view {c:Cfg} (hb:Bus c) {st:Cy} (hg:Good c st) {w:World} {e:Ending} {w':World} (h:CopP st w e w'):∃ b0 b1 b2 b3 b4 n0 n1 n2 n3 n4 k0 k1 k2 k3 k4 P Q,e = .returned (.agg #[.slice b0 n0 k0,.slice b1 n1 k1,.slice b2 n2 k2,.slice b3 n3 k3,.slice b4 n4 k4]) ∧ CyV w' w'.heap.size (.slice b0 n0 k0) (.slice b1 n1 k1) (.slice b2 n2 k2) (.slice b3 n3 k3) (.slice b4 n4 k4) st P Q ∧ Below w.heap.size w w':=by
 obtain ⟨V,N,C,D,rfl,hr,hbl⟩:=h
 obtain ⟨P,Q,hv⟩:=hr.toV hb hg
 obtain ⟨b0,b1,b2,b3,b4,n0,n1,n2,n3,n4,k0,k1,k2,k3,k4,e0,e1,e2,e3,e4⟩:=hv.sl
 rw [e0,e1,e2,e3,e4] at hv
 exact ⟨b0,b1,b2,b3,b4,n0,n1,n2,n3,n4,k0,k1,k2,k3,k4,P,Q,by rw [e0,e1,e2,e3,e4],hv,hbl⟩
def PlayP (w:World) (e:Ending) (w':World):Prop:=∃ u v c ins,e = .returned (.tuple #[u,v]) ∧ Bus c ∧ BusV w' w'.heap.size u c ∧ Ins w' w'.heap.size v ins ∧ ins.length ≤ 89 ∧ Below w.heap.size w w'
def DrawPl:Prop:=∀ (v:Value) (bs:List Nat) (B:Nat) (w:World),Bytes w B v bs → B ≤ w.heap.size → Calls Tryz.prog 15 #[v] w (PlayP w)
end Go.Proofs.YtenjbhbcacocjaaGreat
