/- The same bus is the same, as the laws hold two side by side. -/
import Derived.Test.YtenjbhbcacocjaaGreatGRn
import Derived.Test.YtenjbhbcacocjaaGreatGY2
import Derived.Test.YtenjbhbcacocjaaGreatGDr3
import Derived.StillTail
import Derived.StillTailTactics
set_option linter.unusedVariables false
set_option linter.unusedSimpArgs false
namespace Go.Proofs.YtenjbhbcacocjaaGreat
open Go.RowKit
theorem CyO.toR {w:World} {lo:Nat} {a b p s:Value} (h:CyO w lo a b p s z64 z6 z3 z4):∃ V N C D,CyR w lo cy0 V N C D ∧ V 0 = a ∧ V 1 = b ∧ V 2 = p ∧ V 3 = s ∧ V 4 = vnil:=by
 have nil:∀ (e sz:Nat),OwnR w lo e sz vnil 0 []:=fun e sz => ⟨by simp,.inl ⟨rfl,rfl⟩⟩
 have an:∀ v:Value,Apart v vnil:=fun v k _ h2 => by simp [vnil,Value.ownBlock] at h2
 have na:∀ v:Value,Apart vnil v:=fun v k h2 => by simp [vnil,Value.ownBlock] at h2
 refine ⟨fun κ => if κ = 0 then a else if κ = 1 then b else if κ = 2 then p else if κ = 3 then s else vnil,fun κ => if κ = 0 then 64 else if κ = 1 then 6 else if κ = 2 then 3 else if κ = 3 then 4 else 0,
  fun κ => if κ = 0 then z64.flatMap rowI else if κ = 1 then z6.flatMap rowI else if κ = 2 then z3.flatMap rowP else if κ = 3 then z4.flatMap rowS else [],fun _ => [],⟨⟨fun κ hκ => ?_,fun κ μ hκ hμ hne => ?_⟩,?_,rfl,fun κ hκ x hx => by cases hx⟩,rfl,rfl,rfl,rfl,rfl⟩
 ·rcases κ with _ | _ | _ | _ | κ
  ·exact h.oa
  ·exact h.ob
  ·exact h.op
  ·exact h.os
  ·exact nil _ _
 ·rcases κ with _ | _ | _ | _ | κ <;> rcases μ with _ | _ | _ | _ | μ <;> first | exact absurd rfl hne | exact an _ | exact na _ | exact h.dab | exact h.dab.symm | exact h.dap | exact h.dap.symm | exact h.das | exact h.das.symm | exact h.dbp | exact h.dbp.symm | exact h.dbs | exact h.dbs.symm | exact h.dps | exact h.dps.symm
 ·have q:∀ i:Nat,((5 + i = 0) = False ∧ (5 + i = 1) = False ∧ (5 + i = 2) = False ∧ (5 + i = 3) = False) ∧ ((8 + i = 0) = False ∧ (8 + i = 1) = False ∧ (8 + i = 2) = False ∧ (8 + i = 3) = False) ∧ ((11 + i = 0) = False ∧ (11 + i = 1) = False ∧ (11 + i = 2) = False ∧ (11 + i = 3) = False) ∧ ((15 + i = 0) = False ∧ (15 + i = 1) = False ∧ (15 + i = 2) = False ∧ (15 + i = 3) = False):=fun i => by
   refine ⟨⟨?_,?_,?_,?_⟩,⟨?_,?_,?_,?_⟩,⟨?_,?_,?_,?_⟩,⟨?_,?_,?_,?_⟩⟩ <;> exact eq_false (by omega)
  refine ⟨rfl,rfl,rfl,rfl,rfl,rfl,rfl,rfl,rfl,rfl,rfl,fun i hi => ?_,fun i hi => ?_,fun i hi => ?_,fun i hi => ?_,fun i hi => ?_,fun i hi => ?_,fun i hi => ?_,fun i hi => ?_,fun i hi => rfl,rfl,rfl⟩ <;> simp [q i,cy0]
theorem i64_z64:∀ x ∈ z64,I64 x:=by intro x hx;obtain ⟨_,rfl⟩:=List.mem_replicate.1 hx;exact ⟨by omega,by omega⟩
theorem i64_z6:∀ x ∈ z6,I64 x:=by intro x hx;obtain ⟨_,rfl⟩:=List.mem_replicate.1 hx;exact ⟨by omega,by omega⟩
theorem small_zero:SmallC cy0:=⟨by simp [cy0],by simp [cy0],⟨by simp [cy0],by simp [cy0]⟩,fun i _ => by simp [cy0],fun i _ => by simp [cy0],fun s _ => by simp [cy0],fun s _ => ⟨by simp [cy0],by simp [cy0]⟩⟩
theorem CyO.toV {w:World} {lo:Nat} {a b p s:Value} (h:CyO w lo a b p s z64 z6 z3 z4):∃ P Q,CyV w w.heap.size a b p s vnil cy0 P Q:=by
 obtain ⟨V,N,C,D,hr,rfl,rfl,rfl,rfl,e4⟩:=h.toR
 rw [← e4]
 exact cyV_raw hr.raw hr.con (fun κ hκ x hx => (hr.dat κ hκ x hx).to fun b hb => hb.2.1) small_zero i64_z64 i64_z6
theorem CopP.sl {st:Cy} {w:World} {e:Ending} {w':World} (h:CopP st w e w'):∃ V N C D b0 b1 b2 b3 b4 n0 n1 n2 n3 n4 k0 k1 k2 k3 k4,(V 0 = .slice b0 n0 k0 ∧ V 1 = .slice b1 n1 k1 ∧ V 2 = .slice b2 n2 k2 ∧ V 3 = .slice b3 n3 k3 ∧ V 4 = .slice b4 n4 k4) ∧ e = .returned (.agg #[.slice b0 n0 k0,.slice b1 n1 k1,.slice b2 n2 k2,.slice b3 n3 k3,.slice b4 n4 k4]) ∧ CyR w' w.heap.size st V N C D ∧ Below w.heap.size w w':=by
 obtain ⟨V,N,C,D,rfl,hr,hbl⟩:=h
 obtain ⟨A,n,K,e0,e1,e2,e3,e4⟩:=hr.raw.sl
 exact ⟨V,N,C,D,_,_,_,_,_,_,_,_,_,_,_,_,_,_,_,⟨e0,e1,e2,e3,e4⟩,by rw [e0,e1,e2,e3,e4],hr,hbl⟩
theorem CopP.out {st:Cy} {w wa:World} {V:Nat → Value} {N:Nat → Nat} {C:Nat → List Value} {D:Nat → List TJV} {b0 b1 b2 b3 b4:Option Addr} {n0 n1 n2 n3 n4 k0 k1 k2 k3 k4 base:Nat} (hE:V 0 = .slice b0 n0 k0 ∧ V 1 = .slice b1 n1 k1 ∧ V 2 = .slice b2 n2 k2 ∧ V 3 = .slice b3 n3 k3 ∧ V 4 = .slice b4 n4 k4) (hr:CyR wa base st V N C D) (hw:Below w.heap.size w wa) (g:Nat) (hg:g < base) (hg2:w.heap.size ≤ g) :
  CopP st w (.returned (.agg #[.slice b0 n0 k0,.slice b1 n1 k1,.slice b2 n2 k2,.slice b3 n3 k3,.slice b4 n4 k4])) (((((wa.setCell ⟨g,0,none⟩ (.slice b0 n0 k0)).setCell ⟨g,1,none⟩ (.slice b1 n1 k1)).setCell ⟨g,2,none⟩ (.slice b2 n2 k2)).setCell ⟨g,3,none⟩ (.slice b3 n3 k3)).setCell ⟨g,4,none⟩ (.slice b4 n4 k4)):=by
 obtain ⟨e0,e1,e2,e3,e4⟩:=hE
 refine ⟨V,N,C,D,by rw [e0,e1,e2,e3,e4],(hr.kept (fun b h1 h2 => (touchC g _ _ _ _ _ _).block b h2 (by omega)) (touchC g _ _ _ _ _ _).size).rebase (by omega),?_⟩
 exact ((((hw.setCell (p:=⟨g,_,none⟩) hg2 _).setCell (p:=⟨g,_,none⟩) hg2 _).setCell (p:=⟨g,_,none⟩) hg2 _).setCell (p:=⟨g,_,none⟩) hg2 _).setCell (p:=⟨g,_,none⟩) hg2 _
set_option maxRecDepth 8000 in
set_option maxHeartbeats 8000000 in
theorem cycNew_any (w:World):Calls Tryz.prog 16 #[] w (CopP cy0 w):=by
 go_enter Tryz.func16,Tryz.ntmps16
 go_wp2_with fail
 refine (implAtmNewW_any _).mono ?_
 rintro e w1 ⟨wa,wc,g,ga,go,gc,rfl,o1,o2,_,_,hap,hb⟩
 have HR:=hid ((Bx.new w #[vnil,vnil,vnil,vnil,vnil] 39 (by simp)).below hb (by simp))
 have HB1:=hid ((bx1 w _).trans (hb.mono (by simp)))
 have O1:=hid o1;have O2:=hid o2;have AP:=hid hap
 clear o1 o2 hap hb
 obtain ⟨⟨r0,r1,r2,r3,r4⟩,f0,f1,f2,f3,f4⟩:=HR.out.five
 have hz1:=HR.out.lt
 go_wp2_with fail
 clear r0 r1 r2 r3 r4 f0 f1 f2 f3 f4
 obtain ⟨W2,hW2⟩:∃ W2,W2 = w1.alloc (.cells #[.slice (some ⟨g,wa,none⟩) 64 wc,.slice (some ⟨ga,go,none⟩) 6 gc,.slice none 0 0,.slice none 0 0,.slice none 0 0] 39):=⟨_,rfl⟩
 rw [← hW2]
 have hb2:Below w1.heap.size w1 W2:=by rw [hW2];exact bx1 _ _
 have hz2:W2.heap.size = w1.heap.size + 1:=by rw [hW2];simp
 have HS:=hid (show Bx W2 w1.heap.size [.slice (some ⟨g,wa,none⟩) 64 wc,.slice (some ⟨ga,go,none⟩) 6 gc,vnil,vnil,vnil] by rw [hW2];exact Bx.new w1 #[.slice (some ⟨g,wa,none⟩) 64 wc,.slice (some ⟨ga,go,none⟩) 6 gc,vnil,vnil,vnil] _ (by simp))
 have HR2:=hid (HR.out.below hb2 hz1)
 have HB2:=hid hb2
 have HZ2:=hid hz2
 clear hW2 hb2 HR hz2
 go_loopw [4] (fun i wr => ∃ (k:Nat) (u:Value),i = .int .i64 k ∧ k ≤ 3 ∧ Owns wr (w1.heap.size + 1) 49 4 rowP u (List.replicate k ((0,3):Int × Int)) ∧ Below w1.heap.size W2 wr ∧ Bx wr w.heap.size [vnil,vnil,vnil,vnil,vnil] ∧ Bx wr w1.heap.size [.slice (some ⟨g,wa,none⟩) 64 wc,.slice (some ⟨ga,go,none⟩) 6 gc,u,vnil,vnil] ∧ w1.heap.size + 1 ≤ wr.heap.size) (fun i _ => 3 - (intOf i).toNat)
 case atStart => exact ⟨0,_,rfl,by omega,Owns.zero,Below.refl _ _,HR2.out,HS.out,by have:=HZ2.out;omega⟩
 case round =>
  clear HS HR2
  obtain ⟨k,u,rfl,hk3,hown,hbl,hr,hs,hsz⟩:=hrel
  have HOW:=hid hown;have HBL:=hid hbl;have HR:=hid hr;have HS:=hid hs;have HSZ:=hid hsz
  clear hown hbl hr hs hsz
  have hrep:=hid (show List.replicate k ((0,3):Int × Int) ++ [(0,3)] = List.replicate (k + 1) (0,3) from by rw [List.replicate_succ'])
  have hlr:=hid (show (List.replicate k ((0,3):Int × Int)).length = k from by simp)
  obtain ⟨⟨s0,s1,s2,s3,s4⟩,e0,e1,e2,e3,e4⟩:=HS.out.five
  have hsl:=HS.out.lt
  by_cases hlt:k < 3
  ·go_wp2_with (at_builtin;go_must (refine wpList_push elem_portY rowP rowP_len rowP_one wr rfl _ _ rfl (w1.heap.size + 1) _ _ (0,3) (by rfl) HOW.out _ (by rfl) (by rfl) (by rw [hlr.out];omega) (by rw [hlr.out];omega) HSZ.out ?_);intro v' w3 hown1 hb1;rw [hrep.out] at hown1;obtain ⟨va,vc,hv', hvc1,hvc2⟩:=hown1.shape;rw [List.length_replicate] at hv';subst hv';have HS3:=hid (HS.out.below hb1 (by omega));have HR3:=hid (HR.out.below hb1 (by omega));obtain ⟨⟨s0,s1,s2,s3,s4⟩,e0,e1,e2,e3,e4⟩:=HS3.out.five;have hsl3:=HS3.out.lt;have HO1:=hid hown1;have HB1':=hid hb1;clear hown1 hb1)
   go_roundw
   case rel => exact ⟨k + 1,_,by go_num,by omega,HO1.out.set' _ _ _ (fun j hj => by have:=(OwnR.lt HO1.out j hj).1;omega),(HBL.out.trans (HB1'.out.mono (by omega))).setCell (by exact Nat.le_refl _) _,HR3.out.kept (Below.heap_setCell _ _ _ _ (by show w.heap.size ≠ w1.heap.size;omega)),HS3.out.set 2 (by simp) _,by have:=HB1'.out.size;have:=HSZ.out;simp [World.setCell];omega⟩
   case measure => simp [intOf];omega
  ·obtain rfl:k = 3:=by omega
   go_wp2_with fail
   obtain ⟨wo,hwo⟩:∃ W,W = wr:=⟨_,rfl⟩
   subst hwo
   have hz3:w1.heap.size < wo.heap.size:=hsl
   clear s0 s1 s2 s3 s4 e0 e1 e2 e3 e4
   have hc3:((3:Nat):Int) = 3:=rfl
   simp only [hc3]
   clear hc3
   go_loopw [13] (fun i wx => ∃ (k:Nat) (v:Value),i = .int .i64 k ∧ k ≤ 4 ∧ Owns wx wo.heap.size 62 3 rowS v (List.replicate k (2:Int)) ∧ Owns wx (w1.heap.size + 1) 49 4 rowP u (List.replicate 3 ((0,3):Int × Int)) ∧ Below w1.heap.size W2 wx ∧ Bx wx w.heap.size [vnil,vnil,vnil,vnil,vnil] ∧ Bx wx w1.heap.size [.slice (some ⟨g,wa,none⟩) 64 wc,.slice (some ⟨ga,go,none⟩) 6 gc,u,v,vnil] ∧ wo.heap.size ≤ wx.heap.size) (fun i _ => 4 - (intOf i).toNat)
   case atStart => exact ⟨0,_,rfl,by omega,Owns.zero,HOW.out,HBL.out,HR.out,HS.out,Nat.le_refl _⟩
   case round =>
    have hul:=hid (fun j hj => (OwnR.lt HOW.out j hj).2)
    clear HBL HR HS
    obtain ⟨k,v,rfl,hk4,hown,hop,hbl,hr,hs,hsz⟩:=hrel
    have HOS:=hid hown;have HOP:=hid hop;have HBL:=hid hbl;have HR:=hid hr;have HS:=hid hs;have HSZ2:=hid hsz
    clear hown hop hbl hr hs hsz
    have hrep:=hid (show List.replicate k (2:Int) ++ [2] = List.replicate (k + 1) 2 from by rw [List.replicate_succ'])
    have hlr:=hid (show (List.replicate k (2:Int)).length = k from by simp)
    obtain ⟨⟨s0,s1,s2,s3,s4⟩,e0,e1,e2,e3,e4⟩:=HS.out.five
    have hsl:=HS.out.lt
    by_cases hlt4:k < 4
    ·have hle3:(k:Int) ≤ 3:=by omega
     go_wp2_with (at_builtin;go_must (refine wpList_push elem_slaveY rowS rowS_len rowS_one _ rfl _ _ rfl wo.heap.size _ _ 2 (by rfl) HOS.out _ (by rfl) (by rfl) (by rw [hlr.out];omega) (by rw [hlr.out];omega) HSZ2.out ?_);intro v' w3 hown1 hb1;rw [hrep.out] at hown1;obtain ⟨va,vc,hv', hvc1,hvc2⟩:=hown1.shape;rw [List.length_replicate] at hv';subst hv';have HS3:=hid (HS.out.below hb1 (by omega));have HR3:=hid (HR.out.below hb1 (by omega));have HOP3:=hid (OwnR.below HOP.out hb1 (fun j hj => hul.out j hj));obtain ⟨⟨s0,s1,s2,s3,s4⟩,e0,e1,e2,e3,e4⟩:=HS3.out.five;have hsl3:=HS3.out.lt;have HO1:=hid hown1;have HB1':=hid hb1;clear hown1 hb1)
     go_roundw
     case rel => exact ⟨k + 1,_,by go_num,by omega,HO1.out.set' _ _ _ (fun j hj => by have:=(OwnR.lt HO1.out j hj).1;omega),Owns.set' HOP3.out _ _ _ (fun j hj => by have:=(OwnR.lt HOP3.out j hj).1;omega),(HBL.out.trans (HB1'.out.mono (by omega))).setCell (by exact Nat.le_refl _) _,HR3.out.kept (Below.heap_setCell _ _ _ _ (by show w.heap.size ≠ w1.heap.size;omega)),HS3.out.set 3 (by simp) _,by have:=HB1'.out.size;have:=HSZ2.out;simp [World.setCell];omega⟩
     case measure => simp [intOf];omega
    ·obtain rfl:k = 4:=by omega
     obtain ⟨pa,pc,rfl,_,_⟩:=HOP.out.shape
     obtain ⟨sa,sc,rfl,_,_⟩:=HOS.out.shape
     simp only [List.length_replicate] at *
     have O1W:=hid (OwnR.below (O1.out.below HB2.out) HBL.out (fun j hj => (OwnR.lt O1.out j hj).2))
     have O2W:=hid (OwnR.below (O2.out.below HB2.out) HBL.out (fun j hj => (OwnR.lt O2.out j hj).2))
     have hg1:∀ j,(Value.slice (some ⟨g,wa,none⟩) 64 wc).ownBlock = some j → w.heap.size + 1 ≤ j ∧ j < w1.heap.size:=fun j hj => by have:=OwnR.lt O1.out j hj;simpa using this
     have hg2:∀ j,(Value.slice (some ⟨ga,go,none⟩) 6 gc).ownBlock = some j → w.heap.size + 1 ≤ j ∧ j < w1.heap.size:=fun j hj => by have:=OwnR.lt O2.out j hj;simpa using this
     have hg3:∀ j,(Value.slice pa 3 pc).ownBlock = some j → w1.heap.size + 1 ≤ j ∧ j < wo.heap.size:=fun j hj => ⟨(OwnR.lt HOP.out j hj).1,hul.out j hj⟩
     have hg4:∀ j,(Value.slice sa 4 sc).ownBlock = some j → wo.heap.size ≤ j:=fun j hj => (OwnR.lt HOS.out j hj).1
     have HCY:=hid (show CyO _ w.heap.size (.slice (some ⟨g,wa,none⟩) 64 wc) (.slice (some ⟨ga,go,none⟩) 6 gc) (.slice pa 3 pc) (.slice sa 4 sc) z64 z6 z3 z4 from
      ⟨OwnR.rebase O1W.out (show w.heap.size ≤ _ by simp),OwnR.rebase O2W.out (show w.heap.size ≤ _ by simp),OwnR.rebase HOP.out (show w.heap.size ≤ w1.heap.size + 1 by omega),OwnR.rebase HOS.out (show w.heap.size ≤ wo.heap.size by omega),
       AP.out,Apart.of_lt (m:=w1.heap.size) (fun j hj => (hg1 j hj).2) (fun j hj => by have:=hg3 j hj;omega),Apart.of_lt (m:=w1.heap.size) (fun j hj => (hg1 j hj).2) (fun j hj => by have:=hg4 j hj;omega),
       Apart.of_lt (m:=w1.heap.size) (fun j hj => (hg2 j hj).2) (fun j hj => by have:=hg3 j hj;omega),Apart.of_lt (m:=w1.heap.size) (fun j hj => (hg2 j hj).2) (fun j hj => by have:=hg4 j hj;omega),Apart.of_lt (m:=wo.heap.size) (fun j hj => (hg3 j hj).2) (fun j hj => hg4 j hj)⟩)
     clear hg1 hg2 hg3 hg4
     obtain ⟨⟨s0,s1,s2,s3,s4⟩,_⟩:=HS.out.five
     go_wp2_with fail
     clear s0 s1 s2 s3 s4
     obtain ⟨PP,QQ,hvv⟩:=HCY.out.toV
     refine (cycCopyV_any hvv (Nat.le_refl _) small_zero).mono ?_
     rintro e w5 hcop
     obtain ⟨V,N,C,D,y0,y1,y2,y3,y4,m0,m1,m2,m3,m4,j0,j1,j2,j3,j4,hE,rfl,hC,hb5⟩:=hcop.sl
     have HC5:=hid hC;have HB5:=hid hb5;have HE:=hid hE
     clear hC hb5 hcop hE hvv
     have HR5:=hid (HR.out.below HB5.out HR.out.lt)
     obtain ⟨⟨r0,r1,r2,r3,r4⟩,f0,f1,f2,f3,f4⟩:=HR5.out.five
     have hrl:=HR.out.lt
     have hr5:=HR5.out.lt
     have hbE:Below w.heap.size w w5:=((HB1.out.trans (HB2.out.mono (by omega))).trans (HBL.out.mono (by omega))).trans (HB5.out.mono (by omega))
     have HBE:=hid hbE
     clear hbE
     go_wp2_with fail
     refine bodyPost_ret (results_c1 Tryz.results16 _ _ ⟨w.heap.size,0,none⟩ (.agg #[.slice y0 m0 j0,.slice y1 m1 j1,.slice y2 m2 j2,.slice y3 m3 j3,.slice y4 m4 j4]) rfl (loadVar_cyc _ _ _ _ _ _ _ (by simp [go_sem, *]) (by simp [go_sem, *]) (by simp [go_sem, *]) (by simp [go_sem, *]) (by simp [go_sem, *]))) rfl ?_
     exact CopP.out HE.out HC5.out HBE.out w.heap.size (by omega) (Nat.le_refl _)
theorem CopP.view {c:Cfg} (hb:Bus c) {st:Cy} (hg:Good c st) {w:World} {e:Ending} {w':World} (h:CopP st w e w'):∃ b0 b1 b2 b3 b4 n0 n1 n2 n3 n4 k0 k1 k2 k3 k4 P Q,e = .returned (.agg #[.slice b0 n0 k0,.slice b1 n1 k1,.slice b2 n2 k2,.slice b3 n3 k3,.slice b4 n4 k4]) ∧ CyV w' w'.heap.size (.slice b0 n0 k0) (.slice b1 n1 k1) (.slice b2 n2 k2) (.slice b3 n3 k3) (.slice b4 n4 k4) st P Q ∧ Below w.heap.size w w':=by
 obtain ⟨V,N,C,D,rfl,hr,hbl⟩:=h
 obtain ⟨P,Q,hv⟩:=hr.toV hb hg
 obtain ⟨b0,b1,b2,b3,b4,n0,n1,n2,n3,n4,k0,k1,k2,k3,k4,e0,e1,e2,e3,e4⟩:=hv.sl
 rw [e0,e1,e2,e3,e4] at hv
 exact ⟨b0,b1,b2,b3,b4,n0,n1,n2,n3,n4,k0,k1,k2,k3,k4,P,Q,by rw [e0,e1,e2,e3,e4],hv,hbl⟩
def PlayP (w:World) (e:Ending) (w':World):Prop:=∃ u v c ins,e = .returned (.tuple #[u,v]) ∧ Bus c ∧ BusV w' w'.heap.size u c ∧ Ins w' w'.heap.size v ins ∧ ins.length ≤ 89 ∧ Below w.heap.size w w'
def DrawPl:Prop:=∀ (v:Value) (bs:List Nat) (B:Nat) (w:World),Bytes w B v bs → B ≤ w.heap.size → Calls Tryz.prog 15 #[v] w (PlayP w)
def CyBox (w:World) (gs:Nat) (st:Cy):Prop:=∃ (V:Nat → Value) (N:Nat → Nat) (C:Nat → List Value) (D:Nat → List TJV),Bx w gs [V 0,V 1,V 2,V 3,V 4] ∧ Raw w 0 V N C ∧ Cont st [] V N C D ∧ Free V gs ∧ ∀ κ,κ < 20 → ∀ x ∈ D κ,IntsD w (fun b => b < w.heap.size ∧ b ≠ gs) x.2 x.1.rsp.data
theorem CyBox.below {w w':World} {gs:Nat} {st:Cy} (h:CyBox w gs st) (hb:Below w.heap.size w w'):CyBox w' gs st:=by
 obtain ⟨V,N,C,D,h1,h2,h3,h4,h5⟩:=h
 exact ⟨V,N,C,D,h1.below hb h1.lt,h2.below hb,h3,h4,fun κ hκ x hx => ((h5 κ hκ x hx).kept fun b hb2 => hb.block b hb2.1).weak fun b hb2 => ⟨Nat.lt_of_lt_of_le hb2.1 hb.size,hb2.2⟩⟩
theorem CyBox.lt {w:World} {gs:Nat} {st:Cy} (h:CyBox w gs st):gs < w.heap.size:=by obtain ⟨V,N,C,D,h1,_⟩:=h;exact h1.lt
theorem raw_zero {w:World} {base:Nat} {V:Nat → Value} {N:Nat → Nat} {C:Nat → List Value} (h:Raw w base V N C):Raw w 0 V N C:=⟨fun κ hκ => OwnR.rebase (h.own κ hκ) (Nat.zero_le _),h.ap⟩
theorem CyBox.new {w w':World} {base gs:Nat} {st:Cy} {V:Nat → Value} {N:Nat → Nat} {C:Nat → List Value} {D:Nat → List TJV} (h:CyR w base st V N C D) (hb:Below w.heap.size w w') (hg:w.heap.size ≤ gs) (hx:Bx w' gs [V 0,V 1,V 2,V 3,V 4]):CyBox w' gs st :=
 ⟨V,N,C,D,hx,raw_zero (h.raw.below hb),h.con,fun κ hκ e => by have:=(h.raw.lt hκ e).2;omega,fun κ hκ x hx2 => ((h.dat κ hκ x hx2).kept fun b hb2 => hb.block b hb2.2.1).weak fun b hb2 => ⟨Nat.lt_of_lt_of_le hb2.2.1 hb.size,by have:=hb2.2.1;omega⟩⟩
theorem CyBox.set {w w':World} {base gs:Nat} {st:Cy} {V:Nat → Value} {N:Nat → Nat} {C:Nat → List Value} {D:Nat → List TJV} (h:CyR w base st V N C D) (hk:∀ b,b ≠ gs → w'.heap[b]? = w.heap[b]?) (hz:w'.heap.size = w.heap.size) (hg:gs < base) (hx:Bx w' gs [V 0,V 1,V 2,V 3,V 4]):CyBox w' gs st:=by
 have hf:Free V gs:=fun κ hκ e => by have:=(h.raw.lt hκ e).1;omega
 exact ⟨V,N,C,D,hx,raw_zero (h.raw.kept fun b _ hb => hk b fun e => hb (e ▸ hf)),h.con,hf,fun κ hκ x hx2 => ((h.dat κ hκ x hx2).kept fun b hb2 => hk b (by have:=hb2.1;omega)).weak fun b hb2 => ⟨by rw [hz];exact hb2.2.1,by have:=hb2.1;omega⟩⟩
theorem CyBox.view {c:Cfg} (hb:Bus c) {w:World} {gs:Nat} {st:Cy} (h:CyBox w gs st) (hg:Good c st):∃ b0 b1 b2 b3 b4 n0 n1 n2 n3 n4 k0 k1 k2 k3 k4 P Q,Bx w gs [.slice b0 n0 k0,.slice b1 n1 k1,.slice b2 n2 k2,.slice b3 n3 k3,.slice b4 n4 k4] ∧ CyV w w.heap.size (.slice b0 n0 k0) (.slice b1 n1 k1) (.slice b2 n2 k2) (.slice b3 n3 k3) (.slice b4 n4 k4) st P Q:=by
 obtain ⟨V,N,C,D,h1,h2,h3,h4,h5⟩:=h
 obtain ⟨P,Q,hv⟩:=cyV_raw h2 h3 (fun κ hκ x hx => (h5 κ hκ x hx).to fun b hb => hb.1) (smallC_of hb hg) (atm_i64 hg.atm).1 (atm_i64 hg.atm).2
 obtain ⟨b0,b1,b2,b3,b4,n0,n1,n2,n3,n4,k0,k1,k2,k3,k4,e0,e1,e2,e3,e4⟩:=hv.sl
 rw [e0,e1,e2,e3,e4] at hv h1
 exact ⟨b0,b1,b2,b3,b4,n0,n1,n2,n3,n4,k0,k1,k2,k3,k4,P,Q,h1,hv⟩
theorem Bx.put5 {w:World} {g:Nat} {a b c d e:Value} (h:Bx w g [a,b,c,d,e]) (a' b' c' d' e':Value):Bx (((((w.setCell ⟨g,0,none⟩ a').setCell ⟨g,1,none⟩ b').setCell ⟨g,2,none⟩ c').setCell ⟨g,3,none⟩ d').setCell ⟨g,4,none⟩ e') g [a', b', c', d', e']:=by
 have:=((((h.set 0 (by simp) a').set 1 (by simp) b').set 2 (by simp) c').set 3 (by simp) d').set 4 (by simp) e'
 simpa using this
theorem put5_other {w:World} {g:Nat} {a' b' c' d' e':Value} (b:Nat) (hb:b ≠ g):(((((w.setCell ⟨g,0,none⟩ a').setCell ⟨g,1,none⟩ b').setCell ⟨g,2,none⟩ c').setCell ⟨g,3,none⟩ d').setCell ⟨g,4,none⟩ e').heap[b]? = w.heap[b]?:=by
 rw [Below.heap_setCell _ _ _ _ hb,Below.heap_setCell _ _ _ _ hb,Below.heap_setCell _ _ _ _ hb,Below.heap_setCell _ _ _ _ hb,Below.heap_setCell _ _ _ _ hb]
theorem CopP.store {st st':Cy} {w wa:World} {e:Ending} {gs:Nat} (hs:CyBox w gs st) (h:CopP st' w e wa):∃ b0 b1 b2 b3 b4 n0 n1 n2 n3 n4 k0 k1 k2 k3 k4,e = .returned (.agg #[.slice b0 n0 k0,.slice b1 n1 k1,.slice b2 n2 k2,.slice b3 n3 k3,.slice b4 n4 k4]) ∧ (∃ a b c d f,Bx wa gs [a,b,c,d,f]) ∧ Below w.heap.size w wa ∧
  CyBox (((((wa.setCell ⟨gs,0,none⟩ (.slice b0 n0 k0)).setCell ⟨gs,1,none⟩ (.slice b1 n1 k1)).setCell ⟨gs,2,none⟩ (.slice b2 n2 k2)).setCell ⟨gs,3,none⟩ (.slice b3 n3 k3)).setCell ⟨gs,4,none⟩ (.slice b4 n4 k4)) gs st':=by
 obtain ⟨V,N,C,D,b0,b1,b2,b3,b4,n0,n1,n2,n3,n4,k0,k1,k2,k3,k4,⟨e0,e1,e2,e3,e4⟩,he,hr,hb⟩:=h.sl
 obtain ⟨V0,N0,C0,D0,hx,_⟩:=hs
 have hx2:=hx.below hb hx.lt
 refine ⟨b0,b1,b2,b3,b4,n0,n1,n2,n3,n4,k0,k1,k2,k3,k4,he,⟨_,_,_,_,_,hx2⟩,hb,CyBox.set hr put5_other (by simp) hx.lt ?_⟩
 rw [e0,e1,e2,e3,e4]
 exact hx2.put5 _ _ _ _ _
theorem CyBox.rows {c:Cfg} (hb:Bus c) {w:World} {gs:Nat} {st:Cy} (h:CyBox w gs st) (hg:Good c st):∃ (b0 b1 b4:Option Addr) (n0 n1 k0 k1 k4 pg po pc tg tp tc:Nat) (P:List PS) (Q:List SS),Bx w gs [.slice b0 n0 k0,.slice b1 n1 k1,.slice (some ⟨pg,po,none⟩) 3 pc,.slice (some ⟨tg,tp,none⟩) 4 tc,.slice b4 st.told.length k4] ∧
  CyV w w.heap.size (.slice b0 n0 k0) (.slice b1 n1 k1) (.slice (some ⟨pg,po,none⟩) 3 pc) (.slice (some ⟨tg,tp,none⟩) 4 tc) (.slice b4 st.told.length k4) st P Q ∧
  (∀ k,k < 3 → ∀ j,j < 4 → w.cell? ⟨pg,po + k * 4 + j,none⟩ = (rowPS (P.getD k default))[j]?) ∧ (∀ k,k < 4 → ∀ j,j < 3 → w.cell? ⟨tg,tp + k * 3 + j,none⟩ = (rowSS (Q.getD k default))[j]?) ∧
  (∀ k,k < 3 → ∃ qa qc oa oc,P.getD k default = ⟨(st.ports k).next,(qa,(st.ports k).queue.length,qc),(oa,(st.ports k).out.length,oc),(st.ports k).last⟩) ∧
  (∀ k,k < 4 → ∃ qa qc oa oc,Q.getD k default = ⟨(qa,(st.slaves k).pipe.length,qc),(oa,(st.slaves k).done.length,oc),(st.slaves k).last⟩):=by
 obtain ⟨b0,b1,b2,b3,b4,n0,n1,n2,n3,n4,k0,k1,k2,k3,k4,P,Q,hx,hv⟩:=h.view hb hg
 obtain ⟨pg,po,pc,e2,_,_,_,hpc⟩:=hv.ps.at (by rw [hv.lp];omega)
 obtain ⟨tg,tp,tc,e3,_,_,_,htc⟩:=hv.ss.at (by rw [hv.lq];omega)
 rw [hv.lp] at e2 hpc
 rw [hv.lq] at e3 htc
 have e4:=hv.told.len
 rw [e2,e3,e4] at hx hv
 refine ⟨b0,b1,b4,n0,n1,k0,k1,k4,pg,po,pc,tg,tp,tc,P,Q,hx,hv,fun k hk j hj => hpc k default hk j hj,fun k hk j hj => htc k default hk j hj,fun k hk => ?_,fun k hk => ?_⟩
 ·have h1:=hv.pn k hk
  have h2:=hv.q k hk
  have h3:=hv.o k hk
  obtain ⟨x,hx⟩:∃ x,x = P.getD k default:=⟨_,rfl⟩
  rw [← hx] at h1 h2 h3 ⊢
  obtain ⟨nx,⟨qa,qn,qc⟩,⟨oa,on,oc⟩,la⟩:=x
  simp only [sl] at h1 h2 h3
  rw [← h1.1,← h1.2,← h2.len,← h3.len]
  exact ⟨_,_,_,_,rfl⟩
 ·have h1:=hv.sn k hk
  have h2:=hv.p k hk
  have h3:=hv.d k hk
  obtain ⟨x,hx⟩:∃ x,x = Q.getD k default:=⟨_,rfl⟩
  rw [← hx] at h1 h2 h3 ⊢
  obtain ⟨⟨qa,qn,qc⟩,⟨oa,on,oc⟩,la⟩:=x
  simp only [sl] at h1 h2 h3
  rw [← h1,← h2.len,← h3.len]
  exact ⟨_,_,_,_,rfl⟩
theorem JobsV.cells {w:World} {B:Nat} {v:Value} {js:List TJ} (h:JobsV w B v js) :
  ∃ ao cap,v = .slice ao js.length cap ∧ js.length ≤ cap ∧ cap ≤ 9223372036854775807 ∧ js.length ≤ 140737488351232 ∧
   (js.length ≠ 0 → ∃ b off,ao = some ⟨b,off,none⟩ ∧ b < B ∧ ∀ t,t < js.length → ∃ da dn dc,w.cell? ⟨b,off + t * 5,none⟩ = some (.int .i64 ((js.getD t default).who:Nat)) ∧ w.cell? ⟨b,off + t * 5 + 1,none⟩ = some (.int .i64 ((js.getD t default).n:Nat)) ∧ w.cell? ⟨b,off + t * 5 + 2,none⟩ = some (.int .i64 (js.getD t default).rsp.id) ∧ w.cell? ⟨b,off + t * 5 + 3,none⟩ = some (.int .i64 (js.getD t default).rsp.code) ∧ w.cell? ⟨b,off + t * 5 + 4,none⟩ = some (.slice da dn dc) ∧ Ints w B (.slice da dn dc) (js.getD t default).rsp.data):=by
 obtain ⟨D,⟨ao,cap,hv,h1,h2,h0,h9,h3⟩,rfl,hd⟩:=h
 simp only [List.length_map] at hv h1 h0 h3 ⊢
 refine ⟨ao,cap,hv,h1,h2,h0,fun hn => ?_⟩
 obtain ⟨b,off,ha,hlt,hc⟩:=h3 hn
 refine ⟨b,off,ha,hlt,fun t ht => ?_⟩
 have e:(D.map tjRow).getD t [] = tjRow (D[t]):=by simp [List.getD,ht]
 have e2:(D.map (·.1)).getD t default = (D[t]).1:=by simp [List.getD,ht]
 have c0:=hc t ht 0 (by omega);have c1:=hc t ht 1 (by omega);have c2:=hc t ht 2 (by omega);have c3:=hc t ht 3 (by omega);have c4:=hc t ht 4 (by omega)
 have hi:=hd _ (List.getElem_mem ht)
 obtain ⟨da,dc,he,_⟩:=hi.opened
 rw [e] at c0 c1 c2 c3 c4
 rw [e2]
 rw [he] at hi
 exact ⟨da,_,dc,by simpa [tjRow] using c0,by simpa [tjRow] using c1,by simpa [tjRow] using c2,by simpa [tjRow] using c3,by simpa [tjRow,he] using c4,hi⟩
set_option maxRecDepth 4000 in
set_option maxHeartbeats 4000000 in
theorem crOuts_same (xs:List Jb) (v u:Value) (B:Nat) (w:World) (hv:Jbs w B v xs) (hu:Jbs w B u xs) :
  Calls Tryz.prog 63 #[v,u] w fun e w' => e = .returned (.bool true) ∧ Drew w w':=by
 obtain ⟨ao,cap,rfl,hlc,hcap,hln,hni,hr⟩:=hv.opened
 obtain ⟨bo,cbp,rfl,hlc2,hcap2,hln2,hni2,hr2⟩:=hu.opened
 clear hv hu
 obtain ⟨wo,hwo⟩:∃ W,W = w:=⟨_,rfl⟩
 rw [← hwo] at hr hr2 ⊢
 clear hwo
 go_enter Tryz.func63,Tryz.ntmps63
 go_wp2_with fail
 go_loopw [5] (fun i wr => ∃ k:Nat,k ≤ xs.length ∧ i = .int .i64 k ∧ ∃ nd,wr = wo.drewN nd) (fun i _ => xs.length - (intOf i).toNat)
 case atStart => exact ⟨0,Nat.zero_le _,rfl,0,rfl⟩
 case round =>
  obtain ⟨k,hk,rfl,nd,hnd⟩:=hrel
  have kd:∀ {p:Addr} {v:Value},wo.cell? p = some v → wr.cell? p = some v:=fun h => by rw [hnd];exact h
  have HND:=hid hnd
  by_cases hlt:k < xs.length
  ·obtain ⟨b,off,rfl,hb,hc⟩:=hr (by omega)
   obtain ⟨b2,off2,rfl,hb2,hc2⟩:=hr2 (by omega)
   obtain ⟨c0,c1,c2⟩:=hc k hlt
   obtain ⟨e0,e1,e2⟩:=hc2 k hlt
   obtain ⟨x,hx⟩:∃ x,x = xs.getD k default:=⟨_,rfl⟩
   rw [← hx] at c0 c1 c2 e0 e1 e2
   replace c0:=kd c0;replace c1:=kd c1;replace c2:=kd c2;replace e0:=kd e0;replace e1:=kd e1;replace e2:=kd e2
   clear hc hr hc2 hr2 hx kd hnd
   go_upto_region 6 with fail
   go_quiet (fail)
   go_wp2_with fail
   go_roundw
   case rel => exact ⟨k + 1,by omega,by go_num,by rw [HND.out];first | exact ⟨_,rfl⟩ | exact ⟨nd + 1,rfl⟩ | exact ⟨_,World.drewN_drewN ..⟩ | exact ⟨_,by simp⟩⟩
   case measure => simp [intOf];omega
  ·clear hnd kd
   go_wp2_with fail
   go_ret
   exact ⟨rfl,by rw [HND.out];exact ⟨_,rfl⟩⟩
theorem slice_len {w:World} {B:Nat} {a:Option Addr} {n k:Nat} {xs:List Int} (h:Ints w B (.slice a n k) xs):n = xs.length:=by
 obtain ⟨_,_,e,_⟩:=h.opened
 simp only [Value.slice.injEq] at e
 exact e.2.1
theorem le_drewQ {B:Nat} {w:World} (h:B ≤ w.heap.size):B ≤ w.drew.heap.size:=h
theorem five_kept {w w':World} {b b2 o o2:Nat} {v0 v1 v2 v3 v4 u0 u1 u2 u3 u4:Option Value} (h:Below w.heap.size w.drew w') (hb:b < w.heap.size) (hb2:b2 < w.heap.size) (c0:w.cell? ⟨b,o,none⟩ = v0) (c1:w.cell? ⟨b,o + 1,none⟩ = v1) (c2:w.cell? ⟨b,o + 2,none⟩ = v2) (c3:w.cell? ⟨b,o + 3,none⟩ = v3) (c4:w.cell? ⟨b,o + 4,none⟩ = v4) (e0:w.cell? ⟨b2,o2,none⟩ = u0) (e1:w.cell? ⟨b2,o2 + 1,none⟩ = u1) (e2:w.cell? ⟨b2,o2 + 2,none⟩ = u2) (e3:w.cell? ⟨b2,o2 + 3,none⟩ = u3) (e4:w.cell? ⟨b2,o2 + 4,none⟩ = u4) :
  w'.cell? ⟨b,o,none⟩ = v0 ∧ w'.cell? ⟨b,o + 1,none⟩ = v1 ∧ w'.cell? ⟨b,o + 2,none⟩ = v2 ∧ w'.cell? ⟨b,o + 3,none⟩ = v3 ∧ w'.cell? ⟨b,o + 4,none⟩ = v4 ∧ w'.cell? ⟨b2,o2,none⟩ = u0 ∧ w'.cell? ⟨b2,o2 + 1,none⟩ = u1 ∧ w'.cell? ⟨b2,o2 + 2,none⟩ = u2 ∧ w'.cell? ⟨b2,o2 + 3,none⟩ = u3 ∧ w'.cell? ⟨b2,o2 + 4,none⟩ = u4 :=
 ⟨(h.cell (p:=⟨b,_,none⟩) hb).trans c0,(h.cell (p:=⟨b,_,none⟩) hb).trans c1,(h.cell (p:=⟨b,_,none⟩) hb).trans c2,(h.cell (p:=⟨b,_,none⟩) hb).trans c3,(h.cell (p:=⟨b,_,none⟩) hb).trans c4,(h.cell (p:=⟨b2,_,none⟩) hb2).trans e0,(h.cell (p:=⟨b2,_,none⟩) hb2).trans e1,(h.cell (p:=⟨b2,_,none⟩) hb2).trans e2,(h.cell (p:=⟨b2,_,none⟩) hb2).trans e3,(h.cell (p:=⟨b2,_,none⟩) hb2).trans e4⟩
set_option maxRecDepth 4000 in
set_option maxHeartbeats 4000000 in
theorem crJobs_same (xs:List TJ) (v u:Value) (B:Nat) (w:World) (hv:JobsV w B v xs) (hu:JobsV w B u xs) (hB:B ≤ w.heap.size) :
  Calls Tryz.prog 18 #[v,u] w fun e w' => e = .returned (.bool true) ∧ Below w.heap.size w w':=by
 obtain ⟨ao,cap,rfl,hlc,hcap,hln,hr⟩:=hv.cells
 obtain ⟨bo,cbp,rfl,hlc2,hcap2,hln2,hr2⟩:=hu.cells
 clear hv hu
 go_enter Tryz.func18,Tryz.ntmps18
 go_wp2_with fail
 go_loopw [5] (fun i wr => ∃ k:Nat,k ≤ xs.length ∧ i = .int .i64 k ∧ Below w.heap.size w wr) (fun i _ => xs.length - (intOf i).toNat)
 case atStart => exact ⟨0,Nat.zero_le _,rfl,by first | exact Below.refl _ _ | exact (Below.refl _ _).drew⟩
 case round =>
  obtain ⟨k,hk,rfl,hbl⟩:=hrel
  have hsz:=hbl.size
  by_cases hlt:k < xs.length
  ·obtain ⟨b,off,rfl,hb,hc⟩:=hr (by omega)
   obtain ⟨b2,off2,rfl,hb2,hc2⟩:=hr2 (by omega)
   obtain ⟨da,dn,dc,c0,c1,c2,c3,c4,hd⟩:=hc k hlt
   obtain ⟨ea,en,ec,e0,e1,e2,e3,e4,he⟩:=hc2 k hlt
   obtain ⟨x,hx⟩:∃ x,x = xs.getD k default:=⟨_,rfl⟩
   rw [← hx] at c0 c1 c2 c3 e0 e1 e2 e3 hd he
   obtain rfl:=slice_len hd
   obtain rfl:=slice_len he
   rw [← hbl.cell (p:=⟨b,_,none⟩) (Nat.lt_of_lt_of_le hb hB)] at c0 c1 c2 c3 c4
   rw [← hbl.cell (p:=⟨b2,_,none⟩) (Nat.lt_of_lt_of_le hb2 hB)] at e0 e1 e2 e3 e4
   have HD:=hid (hd.below (hbl.mono hB));have HE:=hid (he.below (hbl.mono hB))
   have HBL:=hid hbl.drew
   obtain ⟨wh,hwh⟩:∃ n,n = x.who:=⟨_,rfl⟩
   obtain ⟨nn,hnn⟩:∃ n,n = x.n:=⟨_,rfl⟩
   obtain ⟨rs,hrs⟩:∃ n,n = x.rsp:=⟨_,rfl⟩
   rw [← hwh] at c0 e0;rw [← hnn] at c1 e1;rw [← hrs] at c2 c3 c4 e2 e3 e4 HD HE
   have q1:((wh:Int) != (wh:Int)) = false:=by simp
   have q2:((nn:Int) != (nn:Int)) = false:=by simp
   clear hc hr hc2 hr2 hx hd he hbl hwh hnn hrs
   go_wp2_with fail
   go_region_held3 (fun w' => w'.cell? ⟨b,off + k * 5,none⟩ = some (.int .i64 wh) ∧ w'.cell? ⟨b,off + k * 5 + 1,none⟩ = some (.int .i64 nn) ∧ w'.cell? ⟨b,off + k * 5 + 2,none⟩ = some (.int .i64 rs.id) ∧ w'.cell? ⟨b,off + k * 5 + 3,none⟩ = some (.int .i64 rs.code) ∧ w'.cell? ⟨b,off + k * 5 + 4,none⟩ = some (.slice da rs.data.length dc) ∧ w'.cell? ⟨b2,off2 + k * 5,none⟩ = some (.int .i64 wh) ∧ w'.cell? ⟨b2,off2 + k * 5 + 1,none⟩ = some (.int .i64 nn) ∧ w'.cell? ⟨b2,off2 + k * 5 + 2,none⟩ = some (.int .i64 rs.id) ∧ w'.cell? ⟨b2,off2 + k * 5 + 3,none⟩ = some (.int .i64 rs.code) ∧ w'.cell? ⟨b2,off2 + k * 5 + 4,none⟩ = some (.slice ea rs.data.length ec))
    (first | exact s6 | go_keep)
    (first
     | (go_at_call 41;(with_reducible refine (crRsp_same rs _ _ _ _ B _ (HD.out.below (Below.refl _ _).drew) (HE.out.below (Below.refl _ _).drew) (le_drewQ (Nat.le_trans hB hsz))).mono ?_);rintro e w2 ⟨rfl,hb3⟩;have s6:=five_kept hb3 (Nat.lt_of_lt_of_le hb (Nat.le_trans hB hsz)) (Nat.lt_of_lt_of_le hb2 (Nat.le_trans hB hsz)) c0 c1 c2 c3 c4 e0 e1 e2 e3 e4))
   go_wp2_with fail
   go_roundw
   case rel => exact ⟨k + 1,by omega,by go_num,HBL.out.trans (hb3.mono (by simpa using hsz))⟩
   case measure => simp [intOf];omega
  ·go_wp2_with fail
   go_ret
   exact ⟨rfl,hbl⟩
end Go.Proofs.YtenjbhbcacocjaaGreat
