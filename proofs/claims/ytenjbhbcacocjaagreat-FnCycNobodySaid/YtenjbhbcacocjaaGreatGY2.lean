/- slices.SortStableFunc of jobs by compareJobs, of a list of at most 19. -/
import Derived.Test.YtenjbhbcacocjaaGreatGXt
import Derived.Test.YtenjbhbcacocjaaGreatGDr3
import Derived.Test.YtenjbhbcacocjaaGreatGMc
import Derived.Test.YtenjbhbcacocjaaGreatGClInt
import Derived.Test.YtenjbhbcacocjaaGreatGD1
import Derived.Test.YtenjbhbcacocjaaGreatGAb0
import Derived.Outline
set_option linter.unusedVariables false
set_option linter.unusedSimpArgs false
namespace Go.Proofs.YtenjbhbcacocjaaGreat
open Go.RowKit
set_option maxHeartbeats 1000000 in
theorem implMemNew_any (w:World):Calls Tryz.prog 83 #[] w fun e w' => ∃ g off c,e = .returned (.agg #[.slice (some ⟨g,off,none⟩) 64 c]) ∧ Owns w' w.heap.size 3 1 rowI (.slice (some ⟨g,off,none⟩) 64 c) (List.replicate 64 0) ∧ 64 ≤ c ∧ c ≤ 9223372036854775807 ∧ Below w.heap.size w w':=by
 obtain ⟨i1,hj,jz0,jz1,jz2⟩:=info_parts infoI
 go_enter Tryz.func83,Tryz.ntmps83
 go_wp2_with (at_make;go_must (refine wpList_make_full _ rfl _ _ 24 rfl (w.heap.size + 1) 3 i1 (.int .i64 0) 1 Tryz.underlying24 hj jz0 jz1 _ _ _ _ 64 rfl rfl rfl rfl (by rw [jz2];omega) (by unfold maxLen;omega) (by simp) ?_);intro w1 hown hgrow;have hbx:=(show Below (w.heap.size + 1) (w.alloc (.cells #[.slice none 0 0] 32)) w1 from (Below.refl _ _).grown hgrow (by simp) (by simp));have d0:w1.cell? ⟨w.heap.size,0,none⟩ = some (.slice none 0 0):=(by rw [hbx.cell (p:=⟨w.heap.size,0,none⟩) (by simp)];simp [go_sem]);have d1:w1.frozen? ⟨w.heap.size,0,none⟩ = false:=(by rw [hbx.frozen (p:=⟨w.heap.size,0,none⟩) (by simp)];simp [go_sem]))
 rw [show madeCells (Value.int .i64 0).cells (64 * 1) = madeCells #[.int .i64 0] 64 by rfl,toList_madeCells_one] at hown
 have HO:=hid (owns_made hown)
 simp only [World.size_alloc] at HO
 have HB:=hid hbx
 clear hown hgrow hbx
 go_wp2_with fail
 refine bodyPost_ret (v:=.agg #[.slice (some ⟨w.heap.size + 1,0,none⟩) 64 64]) (by simp [results,Tryz.results83,go_sem,d0]) rfl ⟨_,_,_,rfl,?_,by omega,by omega,?_⟩
 ·exact (HO.out.rebase (by omega)).set' _ _ _ (fun k hk => by have:=(OwnR.lt HO.out k hk).1;omega)
 ·exact (((Below.refl _ _).alloc (Nat.le_refl _) _).trans (HB.out.mono (by omega))).setCell (by simp) _
def AtmNewW (w:World) (e:Ending) (w':World):Prop :=
 ∃ wa wc g ga go gc,e = .returned (.agg #[.slice (some ⟨g,wa,none⟩) 64 wc,.slice (some ⟨ga,go,none⟩) 6 gc]) ∧ Owns w' w.heap.size 3 1 rowI (.slice (some ⟨g,wa,none⟩) 64 wc) (List.replicate 64 0) ∧ Owns w' w.heap.size 3 1 rowI (.slice (some ⟨ga,go,none⟩) 6 gc) (List.replicate 6 (-1)) ∧
  6 ≤ gc ∧ gc ≤ 9223372036854775807 ∧ Apart (.slice (some ⟨g,wa,none⟩) 64 wc) (.slice (some ⟨ga,go,none⟩) 6 gc) ∧ Below w.heap.size w w'
set_option maxHeartbeats 4000000 in
theorem implAtmNewW_any (w:World):Calls Tryz.prog 45 #[] w (AtmNewW w):=by
 go_enter Tryz.func45,Tryz.ntmps45
 go_wp2_with fail
 refine (implMemNew_any _).mono ?_
 rintro e w1 ⟨g,off,c,rfl,hown,hc1,hc2,hb⟩
 have HB1:=hid ((bx1 w _).trans (hb.mono (by simp)))
 have HO:=hid hown
 have d0:w1.cell? ⟨w.heap.size,0,none⟩ = some (.slice none 0 0):=by rw [hb.cell (p:=⟨w.heap.size,0,none⟩) (by simp)];simp [go_sem]
 have d1:w1.cell? ⟨w.heap.size,1,none⟩ = some (.slice none 0 0):=by rw [hb.cell (p:=⟨w.heap.size,1,none⟩) (by simp)];simp [go_sem]
 have f0:w1.frozen? ⟨w.heap.size,0,none⟩ = false:=by rw [hb.frozen (p:=⟨w.heap.size,0,none⟩) (by simp)];simp [go_sem]
 have f1:w1.frozen? ⟨w.heap.size,1,none⟩ = false:=by rw [hb.frozen (p:=⟨w.heap.size,1,none⟩) (by simp)];simp [go_sem]
 have hz1:w.heap.size < w1.heap.size:=World.block_lt_of_cell? w1 _ d0
 clear hown hb
 go_wp2_with fail
 refine (repeat6_any (-1) w1.heap.size 0 _ (by simp [go_sem])).mono ?_
 rintro e w2 ⟨rfl,ho2,hb2⟩
 simp only [World.size_alloc] at ho2 hb2 ⊢
 have HB2:=hid ((bx1 w1 _).trans (hb2.mono (by omega)))
 have HO2:=hid ho2
 have e0:w2.cell? ⟨w.heap.size,0,none⟩ = some (.slice none 0 0):=by rw [HB2.out.cell (p:=⟨w.heap.size,0,none⟩) hz1];exact d0
 have e1:w2.cell? ⟨w.heap.size,1,none⟩ = some (.slice none 0 0):=by rw [HB2.out.cell (p:=⟨w.heap.size,1,none⟩) hz1];exact d1
 have g0:w2.frozen? ⟨w.heap.size,0,none⟩ = false:=by rw [HB2.out.frozen (p:=⟨w.heap.size,0,none⟩) hz1];exact f0
 have g1:w2.frozen? ⟨w.heap.size,1,none⟩ = false:=by rw [HB2.out.frozen (p:=⟨w.heap.size,1,none⟩) hz1];exact f1
 have hz2:w.heap.size < w2.heap.size:=World.block_lt_of_cell? w2 _ e0
 clear ho2 hb2 d0 d1 f0 f1
 go_wp2_with fail
 refine bodyPost_ret (results_c1 Tryz.results45 _ _ ⟨w.heap.size,0,none⟩ (.agg #[.slice (some ⟨g,off,none⟩) 64 c,.slice (some ⟨w1.heap.size + 1,0,none⟩) 6 6]) rfl (loadVar_atm _ _ _ _ (by simp [go_sem, *]) (by simp [go_sem, *]))) rfl ⟨_,_,_,_,_,_,rfl,?_,?_,by omega,by omega,fun k hk hk2 => ?_,?_⟩
 ·have X:=(HO.out.below HB2.out).rebase (show w.heap.size ≤ _ by simp)
  have hl:=fun k hk => (OwnR.lt HO.out k hk).1
  repeat (first | with_reducible exact X | with_reducible refine Owns.set' ?_ _ _ _ (fun j hj => by have:=hl j hj;simp at this;omega))
 ·have X:=HO2.out.rebase (show w.heap.size ≤ _ by omega)
  repeat (first | with_reducible exact X | with_reducible refine Owns.set' ?_ _ _ _ (fun j hj => by simp [Value.ownBlock] at hj;omega))
 ·have h1:=(OwnR.lt HO.out k hk).2;simp only [Value.ownBlock,Option.some.injEq] at hk2;omega
 ·exact ((HB1.out.trans (HB2.out.mono (by omega))).setCell (by exact Nat.le_refl _) _).setCell (by exact Nat.le_refl _) _
end Go.Proofs.YtenjbhbcacocjaaGreat
namespace Go.Proofs.YtenjbhbcacocjaaGreat
open Go.RowKit
attribute [local go_sem ↓] Go.wp_at_zero Go.wp_at_succ
theorem Ints.touch {w w':World} {r:Nat} {v:Value} {xs:List Int} (h:Ints w w.heap.size v xs) (ht:Touch r w w') (hr:∀ k,v.ownBlock = some k → k ≠ r):Ints w' w'.heap.size v xs :=
 (h.heap fun k hk hlt => ht.block k hlt (hr k hk)).mono ht.size
theorem Ints.setc {w:World} {B:Nat} {v:Value} {xs:List Int} (h:Ints w B v xs) (g o:Nat) (u:Value) (hr:∀ k,v.ownBlock = some k → k ≠ g):Ints (w.setCell ⟨g,o,none⟩ u) B v xs :=
 h.heap fun k hk _ => Below.heap_setCell _ _ _ _ (hr k hk)
end Go.Proofs.YtenjbhbcacocjaaGreat
namespace Go.Proofs.YtenjbhbcacocjaaGreat
open Go.RowKit
abbrev vnil:Value:=.slice none 0 0
def rowP (x:Int × Int):List Value:=[.int .i64 x.1,vnil,vnil,.int .i64 x.2]
def rowS (x:Int):List Value:=[vnil,vnil,.int .i64 x]
theorem rowP_len (x:Int × Int):(rowP x).length = 4:=rfl
theorem rowS_len (x:Int):(rowS x).length = 3:=rfl
theorem rowP_one (x:Int × Int):∀ u ∈ rowP x,u.oneCell' = true:=by
 intro u hu;simp only [rowP,List.mem_cons,List.not_mem_nil,or_false] at hu;rcases hu with rfl | rfl | rfl | rfl <;> rfl
theorem rowS_one (x:Int):∀ u ∈ rowS x,u.oneCell' = true:=by
 intro u hu;simp only [rowS,List.mem_cons,List.not_mem_nil,or_false] at hu;rcases hu with rfl | rfl | rfl <;> rfl
theorem elem_portY:Elem 35 49 4 64:=elem_of Tryz.underlying35 (z:=.agg #[.int .i64 0,.slice none 0 0,.slice none 0 0,.int .i64 0]) (by kernel_rfl) rfl (by omega)
theorem elem_slaveY:Elem 36 62 3 56:=elem_of Tryz.underlying36 (z:=.agg #[.slice none 0 0,.slice none 0 0,.int .i64 0]) (by kernel_rfl) rfl (by omega)
structure CyO (W:World) (lo:Nat) (a b p s:Value) (xs ys:List Int) (ps:List (Int × Int)) (ss:List Int):Prop where
 oa:Owns W lo 3 1 rowI a xs
 ob:Owns W lo 3 1 rowI b ys
 op:Owns W lo 49 4 rowP p ps
 os:Owns W lo 62 3 rowS s ss
 dab:Apart a b
 dap:Apart a p
 das:Apart a s
 dbp:Apart b p
 dbs:Apart b s
 dps:Apart p s
theorem CyO.kept {W W':World} {lo:Nat} {a b p s:Value} {xs ys:List Int} {ps:List (Int × Int)} {ss:List Int} (h:CyO W lo a b p s xs ys ps ss) (hk:∀ k,lo ≤ k → k < W.heap.size → W'.heap[k]? = W.heap[k]?):CyO W' lo a b p s xs ys ps ss :=
  { h with oa:=OwnR.kept h.oa fun k hk2 => hk k (OwnR.lt h.oa k hk2).1 (OwnR.lt h.oa k hk2).2
           ob:=OwnR.kept h.ob fun k hk2 => hk k (OwnR.lt h.ob k hk2).1 (OwnR.lt h.ob k hk2).2
           op:=OwnR.kept h.op fun k hk2 => hk k (OwnR.lt h.op k hk2).1 (OwnR.lt h.op k hk2).2
           os:=OwnR.kept h.os fun k hk2 => hk k (OwnR.lt h.os k hk2).1 (OwnR.lt h.os k hk2).2 }
theorem CyO.below {W W':World} {lo:Nat} {a b p s:Value} {xs ys:List Int} {ps:List (Int × Int)} {ss:List Int} (h:CyO W lo a b p s xs ys ps ss) (hb:Below W.heap.size W W'):CyO W' lo a b p s xs ys ps ss:=h.kept fun k _ hk => hb.block k hk
theorem CyO.rebase {W:World} {lo lo':Nat} {a b p s:Value} {xs ys:List Int} {ps:List (Int × Int)} {ss:List Int} (h:CyO W lo a b p s xs ys ps ss) (hl:lo' ≤ lo):CyO W lo' a b p s xs ys ps ss :=
 { h with oa:=OwnR.rebase h.oa hl,ob:=OwnR.rebase h.ob hl,op:=OwnR.rebase h.op hl,os:=OwnR.rebase h.os hl }
abbrev z64:List Int:=List.replicate 64 0
abbrev z6:List Int:=List.replicate 6 (-1)
abbrev z3:List (Int × Int):=List.replicate 3 (0,3)
abbrev z4:List Int:=List.replicate 4 2
theorem Bx.five {W:World} {H:Nat} {a b c d e:Value} (h:Bx W H [a,b,c,d,e]):(W.cell? ⟨H,0,none⟩ = some a ∧ W.cell? ⟨H,1,none⟩ = some b ∧ W.cell? ⟨H,2,none⟩ = some c ∧ W.cell? ⟨H,3,none⟩ = some d ∧ W.cell? ⟨H,4,none⟩ = some e) ∧ W.frozen? ⟨H,0,none⟩ = false ∧ W.frozen? ⟨H,1,none⟩ = false ∧ W.frozen? ⟨H,2,none⟩ = false ∧ W.frozen? ⟨H,3,none⟩ = false ∧ W.frozen? ⟨H,4,none⟩ = false :=
 ⟨⟨h.c 0 (by simp),h.c 1 (by simp),h.c 2 (by simp),h.c 3 (by simp),h.c 4 (by simp)⟩,h.f 0 (by simp),h.f 1 (by simp),h.f 2 (by simp),h.f 3 (by simp),h.f 4 (by simp)⟩
theorem loadVar_cyc (w:World) (g:Nat) (a b c d e:Value) (h0:w.cell? ⟨g,0,none⟩ = some a) (h1:w.cell? ⟨g,1,none⟩ = some b) (h2:w.cell? ⟨g,2,none⟩ = some c) (h3:w.cell? ⟨g,3,none⟩ = some d) (h4:w.cell? ⟨g,4,none⟩ = some e):(loadVar 39 ⟨g,0,none⟩).run Tryz.prog w = .ok (.agg #[a,b,c,d,e]) w:=by
 simp [loadVar,go_sem,h0,h1,h2,h3,h4]
abbrev TJA:=TJ × (Option Addr × Nat × Nat)
def toA (x:TJA):TJV:=(x.1,.slice x.2.1 x.2.2.1 x.2.2.2)
def rowA (x:TJA):List Value:=tjRow (toA x)
theorem rowA_len (x:TJA):(rowA x).length = 5:=rfl
theorem rowA_one (x:TJA):∀ u ∈ rowA x,u.oneCell' = true:=by
 intro u hu
 simp only [rowA,toA,tjRow,List.mem_cons,List.not_mem_nil,or_false] at hu
 rcases hu with rfl | rfl | rfl | rfl | rfl <;> rfl
theorem exA:∀ (D:List TJV),(∀ x ∈ D,∃ a n c,x.2 = .slice a n c) → ∃ A:List TJA,A.map toA = D
 | [],_ => ⟨[],rfl⟩
 | x :: D,h => by
  obtain ⟨A,hA⟩:=exA D fun y hy => h y (by simp [hy])
  obtain ⟨a,n,c,e⟩:=h x (by simp)
  exact ⟨(x.1,a,n,c) :: A,by simp only [List.map_cons,hA,toA,← e]⟩
theorem owns_map {α β:Type} {w:World} {base e sz:Nat} {f:β → List Value} {g:α → β} {v:Value} {xs:List α} (h:Owns w base e sz (fun x => f (g x)) v xs):Owns w base e sz f v (xs.map g):=by
 unfold Owns at h ⊢
 rw [List.length_map,List.flatMap_map];exact h
def CjP (D:List TJV) (w:World) (e:Ending) (w':World):Prop :=
 ∃ u D', e = .returned u ∧ Owns w' w.heap.size 88 5 tjRow u D' ∧ D'.map (·.1) = D.map (·.1) ∧ (∀ x ∈ D', IntsD w' (fun b => w.heap.size ≤ b ∧ b < w'.heap.size ∧ u.ownBlock ≠ some b) x.2 x.1.rsp.data) ∧ Below w.heap.size w w'
set_option maxHeartbeats 4000000 in
theorem copyJobs_any (D:List TJV) (v:Value) (B:Nat) (w:World) (hv:Arr w B 5 v (D.map tjRow)) (hd:∀ x ∈ D,Ints w B x.2 x.1.rsp.data) (hB:B ≤ w.heap.size) (hl:D.length ≤ 1000) (hdl:∀ x ∈ D,x.1.rsp.data.length ≤ 1000) :
  Calls Tryz.prog 49 #[v] w (CjP D w):=by
 obtain ⟨A,rfl⟩:=exA D fun x hx => by obtain ⟨ao,cap,e,_⟩:=(hd x hx).1;exact ⟨_,_,_,e⟩
 rw [List.map_map] at hv
 have HV:=hid hv;have HD:=hid hd;have HDL:=hid hdl
 rw [List.length_map] at hl
 clear hv hd hdl
 go_enter Tryz.func49,Tryz.ntmps49
 go_wp2_with fail
 refine (clone_TlmJob rowA rowA_len rowA_one _ A B w HV.out (by omega)).mono ?_
 rintro e w1 ⟨u,rfl,ho,hb⟩
 obtain ⟨ua,uc,rfl,huc,huc2⟩:=ho.shape
 have HO:=hid ho;have HB:=hid hb
 clear ho hb
 go_wp2_with fail
 go_loopw [10] (fun i wr => ∃ k:Nat,k ≤ A.length ∧ i = .int .i64 k ∧ (∃ A', A'.length = A.length ∧ Owns wr w.heap.size 88 5 rowA (.slice ua A.length uc) A' ∧ A'.map (·.1) = A.map (·.1) ∧ (∀ j,j < k → ∀ x,A'[j]? = some x → IntsD wr (fun b => w.heap.size ≤ b ∧ b < wr.heap.size ∧ (Value.slice ua A.length uc).ownBlock ≠ some b) (toA x).2 x.1.rsp.data) ∧ (∀ j,k ≤ j → A'[j]? = A[j]?)) ∧ Below w.heap.size w wr) (fun i _ => A.length - (intOf i).toNat)
 case atStart => exact ⟨0,by omega,rfl,⟨A,rfl,HO.out,rfl,fun j hj => by omega,fun _ _ => rfl⟩,HB.out⟩
 case round =>
  obtain ⟨k,hk,rfl,⟨A', hl', ho', hm', hn', hs'⟩,hbl⟩:=hrel
  by_cases hlt:k < A.length
  ·have hlti:(k:Int) < (A.length:Int):=by omega
   obtain ⟨g,off,cap,hvs,hcap,hcap2,hgb,hgz⟩:=OwnR.addr ho' (by omega)
   simp only [Value.slice.injEq] at hvs
   obtain ⟨rfl,hll,rfl⟩:=hvs
   clear hll
   obtain ⟨x,hx⟩:∃ x,A'[k]? = some x:=⟨A'[k]'(by omega),List.getElem?_eq_getElem _⟩
   have hgd:A'.getD k default = x:=by simp [List.getD,hx]
   have hc:∀ i,i < 5 → wr.cell? ⟨g,off + k * 5 + i,none⟩ = (rowA x)[i]?:=fun i hi => by rw [← hgd];exact Owns.cellAt ho' rowA_len k i default (by omega) hi
   obtain ⟨⟨wh,n,ri,rc,rd⟩,da,dn,dc⟩:=x
   have c0:=hc 0 (by omega);have c1:=hc 1 (by omega);have c2:=hc 2 (by omega);have c3:=hc 3 (by omega);have c4:=hc 4 (by omega)
   simp only [rowA,toA,tjRow,List.getElem?_cons_zero,List.getElem?_cons_succ,Nat.add_zero] at c0 c1 c2 c3 c4
   have hfz:=Owns.frozenAt ho'
   have hxm:((⟨wh,n,ri,rc,rd⟩,da,dn,dc):TJA) ∈ A:=List.mem_of_getElem? (by rw [← hs' k (by omega)];exact hx)
   have hxd:Ints w B (.slice da dn dc) rd:=HD.out _ (List.mem_map.2 ⟨_,hxm,rfl⟩)
   have hxl:rd.length ≤ 1000:=HDL.out _ (List.mem_map.2 ⟨_,hxm,rfl⟩)
   have hsz:=ho'.1
   have hbl2:Below w.heap.size w (wr.alloc (.cells #[.int .i64 (wh:Nat),.int .i64 (n:Nat),.int .i64 ri,.int .i64 rc,.slice da dn dc] 88)):=hbl.alloc hbl.size _
   have hbl1:Below wr.heap.size wr (wr.alloc (.cells #[.int .i64 (wh:Nat),.int .i64 (n:Nat),.int .i64 ri,.int .i64 rc,.slice da dn dc] 88)):=(Below.refl _ _).alloc (Nat.le_refl _) _
   have HL:=hid hl';have HO':=hid ho';have HM:=hid hm';have HN:=hid hn';have HS:=hid hs';have HBL:=hid hbl;have HX:=hid hx;have HFZ:=hid hfz;have HB2:=hid hbl2;have HB1:=hid hbl1;have HXD:=hid hxd;have HXL:=hid hxl
   clear hl' ho' hm' hn' hs' hbl hx hgd hc hfz hbl2 hbl1 hxm hxd hsz
   go_upto_region 5 with fail
   obtain ⟨w2,hw2⟩:∃ W,W = wr.alloc (.cells #[.int .i64 (wh:Nat),.int .i64 (n:Nat),.int .i64 ri,.int .i64 rc,.slice da dn dc] 88):=⟨_,rfl⟩
   rw [← hw2] at HB2 HB1
   rw [← hw2]
   have d4:w2.cell? ⟨wr.heap.size,4,none⟩ = some (.slice da dn dc):=by rw [hw2,World.cell?_alloc_at _ _ _ _ rfl];rfl
   have hz2:w2.heap.size = wr.heap.size + 1:=by rw [hw2];simp
   clear hw2 c0 c1 c2 c3 c4
   have hfz2:w2.frozen? ⟨g,off + k * 5 + 4,none⟩ = false:=(HB1.out.frozen (p:=⟨g,_,none⟩) hgz).trans (HFZ.out _)
   have c42:w2.cell? ⟨g,off + k * 5 + 4,none⟩ = some (.slice da dn dc):=by
    rw [HB1.out.cell (p:=⟨g,_,none⟩) hgz]
    have:=Owns.cellAt HO'.out rowA_len k 4 default (by rw [HL.out];exact hlt) (by omega)
    rw [this,show A'.getD k default = ((⟨wh,n,ri,rc,rd⟩,da,dn,dc):TJA) by simp [List.getD,HX.out]];rfl
   have hg2:g < w2.heap.size:=by omega
   have HXA:=hid (show Arr w2 B 1 (.slice da dn dc) (rd.map rowI) from (HXD.out.below (HB2.out.mono hB)).1)
   go_wp2_with (first
    | (go_at_call 88;(with_reducible refine (clone_int rowI rowI_len rowI_one _ rd B w2 HXA.out (by omega)).mono ?_);rintro e w3 ⟨u2,rfl,ho2,hb2⟩;obtain ⟨ba,bc,rfl,_,_⟩:=ho2.shape;have hfz3:=(hb2.frozen (p:=⟨g,off + k * 5 + 4,none⟩) hg2).trans hfz2;have c43:=(hb2.cell (p:=⟨g,off + k * 5 + 4,none⟩) hg2).trans c42;have HO2:=hid ho2;have HB3:=hid hb2;clear ho2 hb2))
   have hw:=HB1.out.trans (HB3.out.mono HB1.out.size)
   have hbw:Below w.heap.size w w3:=HB2.out.trans (HB3.out.mono HB2.out.size)
   have hsz3:=HB3.out.size
   obtain ⟨y,hy⟩:∃ y:TJA,y = (⟨wh,n,ri,rc,rd⟩,ba,rd.length,bc):=⟨_,rfl⟩
   have ho4:=Owns.putRow (OwnR.kept HO'.out (fun b hb => hw.block b (OwnR.lt HO'.out b hb).2)) rowA_len k 4 default y (.slice ba rd.length bc) (by rw [HL.out];exact hlt) (by omega) (by rw [show A'.getD k default = ((⟨wh,n,ri,rc,rd⟩,da,dn,dc):TJA) by simp [List.getD,HX.out],hy];rfl)
   have hset:∀ b,b ≠ g → (w3.setCell ⟨g,off + k * 5 + 4,none⟩ (.slice ba rd.length bc)).heap[b]? = w3.heap[b]?:=fun b hb => Below.heap_setCell _ _ _ _ hb
   have hz4:(w3.setCell ⟨g,off + k * 5 + 4,none⟩ (.slice ba rd.length bc)).heap.size = w3.heap.size:=by simp
   have hyd:IntsD (w3.setCell ⟨g,off + k * 5 + 4,none⟩ (.slice ba rd.length bc)) (fun b => w.heap.size ≤ b ∧ b < (w3.setCell ⟨g,off + k * 5 + 4,none⟩ (.slice ba rd.length bc)).heap.size ∧ (Value.slice (some ⟨g,off,none⟩) A.length uc).ownBlock ≠ some b) (toA y).2 y.1.rsp.data:=by
    rw [hy]
    refine Owns.intsD (xs:=rd) (OwnR.kept HO2.out (fun b hb => hset b (by have:=(OwnR.lt HO2.out b hb).1;omega))) (fun b hb => ?_) (by omega) HXD.out.2
    have h1:=OwnR.lt HO2.out b hb
    have h2:=HB2.out.size
    refine ⟨by omega,by rw [hz4];exact h1.2,?_⟩
    simp only [Value.ownBlock,ne_eq,Option.some.injEq];omega
   go_roundw
   case rel =>
    refine ⟨k + 1,by omega,by go_num,⟨A'.set k y,by rw [List.length_set];exact HL.out,ho4,?_,fun j hj z hz => ?_,fun j hj => ?_⟩,hbw.setCell (p:=⟨g,_,none⟩) hgb _⟩
    ·rw [← HM.out]
     apply List.ext_getElem?
     intro i
     rw [List.getElem?_map,List.getElem?_map,List.getElem?_set]
     split
     ·rename_i e;subst e
      rw [HX.out,if_pos (by rw [HL.out];exact hlt),hy];rfl
     ·rfl
    ·rw [List.getElem?_set] at hz
     split at hz
     ·rename_i e;subst e
      rw [if_pos (by rw [HL.out];exact hlt)] at hz
      obtain rfl:=Option.some.inj hz
      exact hyd
     ·exact ((HN.out j (by omega) z hz).kept fun b hb => (hset b (fun e => hb.2.2 (by rw [e];rfl))).trans (hw.block b hb.2.1)).weak fun b hb => ⟨hb.1,by rw [hz4];exact Nat.lt_of_lt_of_le hb.2.1 hw.size,hb.2.2⟩
    ·rw [List.getElem?_set,if_neg (by omega)];exact HS.out j (by omega)
   case measure => simp [intOf];omega
  ·obtain rfl:k = A.length:=by omega
   have hkf:decide ((A.length:Int) < (A.length:Int)) = false:=by simp
   go_wp2_with fail
   go_ret
   refine ⟨_,A'.map toA,rfl,owns_map ho', by rw [List.map_map,List.map_map];exact hm', fun x hx => ?_,hbl⟩
   obtain ⟨y,hy,rfl⟩:=List.mem_map.1 hx
   obtain ⟨j,hj,e⟩:=List.getElem_of_mem hy
   exact hn' j (by omega) y (by rw [List.getElem?_eq_getElem hj,e])
def aLt (x y:TJA):Bool:=kLt x.1 y.1
theorem ordA:Ord3 aLt (fun x y:TJA => kLe x.1 y.1):=⟨fun a b => ordK.t a.1 b.1,fun a b => ordK.f a.1 b.1,fun a b c => ordK.tr a.1 b.1 c.1⟩
theorem Owns.put5 {w:World} {base e g off n c:Nat} {xs:List TJA} (h:Owns w base e 5 rowA (.slice (some ⟨g,off,none⟩) n c) xs) (k:Nat) (hk:k < xs.length) (wh nn:Nat) (ri rc:Int) (rd:List Int) (da:Option Addr) (dn dc:Nat) :
  Owns (((((w.setCell ⟨g,off + k * 5,none⟩ (.int .i64 wh)).setCell ⟨g,off + k * 5 + 1,none⟩ (.int .i64 nn)).setCell ⟨g,off + k * 5 + 2,none⟩ (.int .i64 ri)).setCell ⟨g,off + k * 5 + 3,none⟩ (.int .i64 rc)).setCell ⟨g,off + k * 5 + 4,none⟩ (.slice da dn dc)) base e 5 rowA (.slice (some ⟨g,off,none⟩) n c) (xs.set k (⟨wh,nn,⟨ri,rc,rd⟩⟩,da,dn,dc)):=by
 obtain ⟨x,hx⟩:∃ x,x = xs.getD k default:=⟨_,rfl⟩
 have gd:∀ (ys:List TJA) (y:TJA),k < ys.length → (ys.set k y).getD k default = y:=fun ys y h => by simp [List.getD,h]
 have h1:=h.putRow rowA_len k 0 default (⟨wh,x.1.n,x.1.rsp⟩,x.2) (.int .i64 wh) hk (by omega) (by rw [← hx];rfl)
 have h2:=h1.putRow rowA_len k 1 default (⟨wh,nn,x.1.rsp⟩,x.2) (.int .i64 nn) (by simpa using hk) (by omega) (by rw [gd _ _ hk];rfl)
 have h3:=h2.putRow rowA_len k 2 default (⟨wh,nn,⟨ri,x.1.rsp.code,rd⟩⟩,x.2) (.int .i64 ri) (by simpa using hk) (by omega) (by rw [gd _ _ (by simpa using hk)];rfl)
 have h4:=h3.putRow rowA_len k 3 default (⟨wh,nn,⟨ri,rc,rd⟩⟩,x.2) (.int .i64 rc) (by simpa using hk) (by omega) (by rw [gd _ _ (by simpa using hk)];rfl)
 have h5:=h4.putRow rowA_len k 4 default (⟨wh,nn,⟨ri,rc,rd⟩⟩,da,dn,dc) (.slice da dn dc) (by simpa using hk) (by omega) (by rw [gd _ _ (by simpa using hk)];rfl)
 simpa only [List.set_set,Nat.add_zero] using h5
theorem touch5 (s o:Nat) (w:World) (a b c d e:Value):Touch s w (((((w.setCell ⟨s,o,none⟩ a).setCell ⟨s,o + 1,none⟩ b).setCell ⟨s,o + 2,none⟩ c).setCell ⟨s,o + 3,none⟩ d).setCell ⟨s,o + 4,none⟩ e) :=
 ((((Touch.setCell _ _ _ _).trans (Touch.setCell _ _ _ _)).trans (Touch.setCell _ _ _ _)).trans (Touch.setCell _ _ _ _)).trans (Touch.setCell _ _ _ _)
def SortP (base g off cap:Nat) (A:List TJA) (w:World) (e:Ending) (w':World):Prop :=
 e = .returned (.tuple #[]) ∧ Owns w' base 88 5 rowA (.slice (some ⟨g,off,none⟩) A.length cap) (sorted aLt A) ∧ Touch g w w'
set_option maxRecDepth 4000 in
set_option maxHeartbeats 8000000 in
theorem insSort_any (base g off cap:Nat) (A:List TJA) (w:World) (ho:Owns w base 88 5 rowA (.slice (some ⟨g,off,none⟩) A.length cap) A) (hl:A.length ≤ 100) (hn:0 < A.length) :
  Calls Tryz.prog 162 #[.slice (some ⟨g,off,none⟩) A.length cap,.int .i64 0,.int .i64 A.length,.func (.func 104) #[] #[]] w (SortP base g off cap A w):=by
 obtain ⟨n,hnn⟩:∃ n,n = A.length:=⟨_,rfl⟩
 have hK2:=callable_of (K:=104) Tryz.func104 (by kernel_rfl) (by kernel_rfl)
 rw [← hnn] at hl hn ho ⊢
 have HNN:=hid hnn;have HO:=hid ho
 have hcap:n ≤ cap ∧ cap ≤ 9223372036854775807:=by
  obtain ⟨a,c,e,h1,h2⟩:=OwnR.form (n:=A.length) (by rw [hnn] at ho;exact ho)
  simp only [Value.slice.injEq] at e
  obtain ⟨_,_,rfl⟩:=e
  exact ⟨by omega,h2⟩
 obtain ⟨hc1,hc2⟩:=hcap
 have hgz:=(OwnR.lt ho g rfl).2
 have HGZ:=hid hgz
 clear ho hnn hgz
 go_enter Tryz.func162,Tryz.ntmps162
 go_wp2_with fail
 go_loopw [8] (fun i wr => ∃ k:Nat,k < n ∧ i = .int .i64 ((k:Int) + 1) ∧ Owns wr base 88 5 rowA (.slice (some ⟨g,off,none⟩) n cap) (isort aLt k A) ∧ Touch g w wr) (fun i _ => n + 1 - (intOf i).toNat)
 case atStart => exact ⟨0,hn,by go_num,HO.out,Touch.refl _ _⟩
 case round =>
  obtain ⟨k,hk,rfl,ho,ht⟩:=hrel
  have HO2:=hid ho;have HT:=hid ht
  clear ho ht
  by_cases hlt:k + 1 < n
  ·have hlti:(k:Int) + 1 < (n:Int):=by omega
   go_wp2_with fail
   obtain ⟨w1,hw1⟩:∃ W,W = wr:=⟨_,rfl⟩
   subst hw1
   go_loopw [9] (fun j wr => ∃ m:Nat,m ≤ k + 1 ∧ j = .int .i64 (m:Int) ∧ (∃ L:List TJA,L.length = n ∧ down aLt m L = isort aLt (k + 1) A ∧ Owns wr base 88 5 rowA (.slice (some ⟨g,off,none⟩) n cap) L) ∧ Touch g w wr) (fun j _ => (intOf j).toNat)
   case atStart => exact ⟨k + 1,Nat.le_refl _,by go_num,⟨isort aLt k A,by rw [isort_len];exact HNN.out.symm,rfl,HO2.out⟩,HT.out⟩
   case round =>
    clear HO2 HT
    obtain ⟨m,hm,rfl,⟨L,hL,hd,ho⟩,ht⟩:=hrel
    have HL:=hid hL;have HD:=hid hd;have HO3:=hid ho;have HT3:=hid ht
    clear hL hd ho ht
    by_cases hm0:m = 0
    ·subst hm0
     have h0:decide ((0:Int) < ((0:Nat):Int)) = false:=by simp
     go_wp2_with fail
     go_region
     go_wp2_with fail
     go_roundw
     case rel => exact ⟨k + 1,hlt,by go_num,by rw [← HD.out];exact HO3.out,HT3.out.drew⟩
     case measure => simp [intOf];omega
    ·obtain ⟨p,hmp⟩:∃ p,m = p + 1:=⟨m - 1,by omega⟩
     have ew:IntKind.i64.wrap ((m:Int) - 1) = (p:Int):=by rw [IntKind.wrap_i64];omega
     have hpn:m < n:=by omega
     have hL:=HL.out
     have hx5:∀ i,i < 5 → wr.cell? ⟨g,off + m * 5 + i,none⟩ = (rowA (L.getD m default))[i]?:=fun i hi => Owns.cellAt HO3.out rowA_len m i default (by omega) hi
     have hy5:∀ i,i < 5 → wr.cell? ⟨g,off + p * 5 + i,none⟩ = (rowA (L.getD p default))[i]?:=fun i hi => Owns.cellAt HO3.out rowA_len p i default (by omega) hi
     obtain ⟨x,hx⟩:∃ x,x = L.getD m default:=⟨_,rfl⟩
     obtain ⟨y,hy⟩:∃ y,y = L.getD p default:=⟨_,rfl⟩
     rw [← hx] at hx5
     rw [← hy] at hy5
     have HX:=hid hx;have HY:=hid hy
     clear hx hy
     obtain ⟨⟨xw,xn,xi,xc,xd⟩,xa,xl,xk⟩:=x
     obtain ⟨⟨yw,yn,yi,yc,yd⟩,ya,yl,yk⟩:=y
     have x0:=hx5 0 (by omega);have x1:=hx5 1 (by omega);have x2:=hx5 2 (by omega);have x3:=hx5 3 (by omega);have x4:=hx5 4 (by omega)
     have y0:=hy5 0 (by omega);have y1:=hy5 1 (by omega);have y2:=hy5 2 (by omega);have y3:=hy5 3 (by omega);have y4:=hy5 4 (by omega)
     simp only [rowA,toA,tjRow,List.getElem?_cons_zero,List.getElem?_cons_succ,Nat.add_zero] at x0 x1 x2 x3 x4 y0 y1 y2 y3 y4
     have hpi:(0:Int) < (m:Int):=by omega
     have hpi2:(m:Int) < (n:Int):=by omega
     have hpi3:(p:Int) < (n:Int):=by omega
     have hmp0:0 < m:=by omega
     have hmpd:decide (0 < m) = true:=by simpa using hmp0
     have HMP:=hid hmp
     clear hmp
     have hgz:g < wr.heap.size:=(OwnR.lt HO3.out g rfl).2
     obtain ⟨r,hr⟩:∃ r,r = kcmp ⟨xw,xn,⟨xi,xc,xd⟩⟩ ⟨yw,yn,⟨yi,yc,yd⟩⟩:=⟨_,rfl⟩
     have HR:=hid hr
     have HKL:=hid (kcmp_lt ⟨xw,xn,⟨xi,xc,xd⟩⟩ ⟨yw,yn,⟨yi,yc,yd⟩⟩)
     rw [← hr] at HKL
     clear hr hx5 hy5 hL
     obtain ⟨wo,hwo⟩:∃ W,W = wr:=⟨_,rfl⟩
     subst hwo
     go_upto_region 4 with fail
     go_cut [34] from 18 to 52 (fun u wd => u = .bool (decide (r < 0)) ∧ Below wo.heap.size wo wd)
     case first =>
      go_region_held3 (fun w' => w'.cell? ⟨g,off + m * 5,none⟩ = some (.int .i64 (xw:Nat)) ∧ w'.cell? ⟨g,off + m * 5 + 1,none⟩ = some (.int .i64 (xn:Nat)) ∧ w'.cell? ⟨g,off + m * 5 + 2,none⟩ = some (.int .i64 xi) ∧ w'.cell? ⟨g,off + m * 5 + 3,none⟩ = some (.int .i64 xc) ∧ w'.cell? ⟨g,off + m * 5 + 4,none⟩ = some (.slice xa xl xk) ∧ w'.cell? ⟨g,off + p * 5,none⟩ = some (.int .i64 (yw:Nat)) ∧ w'.cell? ⟨g,off + p * 5 + 1,none⟩ = some (.int .i64 (yn:Nat)) ∧ w'.cell? ⟨g,off + p * 5 + 2,none⟩ = some (.int .i64 yi) ∧ w'.cell? ⟨g,off + p * 5 + 3,none⟩ = some (.int .i64 yc) ∧ w'.cell? ⟨g,off + p * 5 + 4,none⟩ = some (.slice ya yl yk))
       (first | exact s6 | go_keep)
       (first
        | (go_at_call 104;(with_reducible refine (cmpJobs_any ⟨xw,xn,⟨xi,xc,xd⟩⟩ ⟨yw,yn,⟨yi,yc,yd⟩⟩ xa ya xl xk yl yk _).mono ?_);unfold CmpP;rw [← HR.out];rintro e w5 ⟨rfl,hb5⟩;have hb5':=(show Below wo.heap.size wo wo.drew from (Below.refl _ _).drew).trans hb5;have HB5:=hid hb5';have s6:w5.cell? ⟨g,off + m * 5,none⟩ = some (.int .i64 (xw:Nat)) ∧ w5.cell? ⟨g,off + m * 5 + 1,none⟩ = some (.int .i64 (xn:Nat)) ∧ w5.cell? ⟨g,off + m * 5 + 2,none⟩ = some (.int .i64 xi) ∧ w5.cell? ⟨g,off + m * 5 + 3,none⟩ = some (.int .i64 xc) ∧ w5.cell? ⟨g,off + m * 5 + 4,none⟩ = some (.slice xa xl xk) ∧ w5.cell? ⟨g,off + p * 5,none⟩ = some (.int .i64 (yw:Nat)) ∧ w5.cell? ⟨g,off + p * 5 + 1,none⟩ = some (.int .i64 (yn:Nat)) ∧ w5.cell? ⟨g,off + p * 5 + 2,none⟩ = some (.int .i64 yi) ∧ w5.cell? ⟨g,off + p * 5 + 3,none⟩ = some (.int .i64 yc) ∧ w5.cell? ⟨g,off + p * 5 + 4,none⟩ = some (.slice ya yl yk):=⟨(hb5'.cell (p:=⟨g,off + m * 5,none⟩) hgz).trans x0,(hb5'.cell (p:=⟨g,off + m * 5 + 1,none⟩) hgz).trans x1,(hb5'.cell (p:=⟨g,off + m * 5 + 2,none⟩) hgz).trans x2,(hb5'.cell (p:=⟨g,off + m * 5 + 3,none⟩) hgz).trans x3,(hb5'.cell (p:=⟨g,off + m * 5 + 4,none⟩) hgz).trans x4,(hb5'.cell (p:=⟨g,off + p * 5,none⟩) hgz).trans y0,(hb5'.cell (p:=⟨g,off + p * 5 + 1,none⟩) hgz).trans y1,(hb5'.cell (p:=⟨g,off + p * 5 + 2,none⟩) hgz).trans y2,(hb5'.cell (p:=⟨g,off + p * 5 + 3,none⟩) hgz).trans y3,(hb5'.cell (p:=⟨g,off + p * 5 + 4,none⟩) hgz).trans y4⟩))
      go_wp2_with fail
      go_meet
      case rel => exact ⟨rfl,HB5.out⟩
     case rest =>
      obtain ⟨w5,hw5⟩:∃ W,W = wc:=⟨_,rfl⟩
      subst hw5
      obtain ⟨rfl,hb5⟩:=hcut
      have HB5:=hid hb5
      have HO5:=hid (HO3.out.below hb5)
      have HT5:=hid (HT3.out.trans (Touch.of_below hb5 (Nat.le_refl _)))
      have hgz5:g < w5.heap.size:=Nat.lt_of_lt_of_le hgz hb5.size
      rw [← hb5.cell (p:=⟨g,_,none⟩) hgz] at x0 x1 x2 x3 x4 y0 y1 y2 y3 y4
      have hfz:=Owns.frozenAt HO5.out
      have hgx:L.getD m default = (⟨xw,xn,⟨xi,xc,xd⟩⟩,xa,xl,xk):=HX.out.symm
      have hgy:L.getD p default = (⟨yw,yn,⟨yi,yc,yd⟩⟩,ya,yl,yk):=HY.out.symm
      have HGX:=hid hgx;have HGY:=hid hgy
      clear hb5 hgx hgy
      rcases hq:decide (r < 0) with _ | _
      ·have HST:=hid (show down aLt m L = L by
        rw [HMP.out]
        refine down_stop aLt p L ?_
        rw [← HMP.out,HGX.out,HGY.out]
        exact HKL.out.symm.trans hq)
       clear hq
       go_wp2_with fail
       go_roundw
       case rel => exact ⟨k + 1,hlt,by go_num,by rw [← HD.out,HST.out];exact HO5.out,HT5.out⟩
       case measure => simp [intOf];omega
      ·have HST:=hid (show down aLt m L = down aLt p ((L.set m (⟨yw,yn,⟨yi,yc,yd⟩⟩,ya,yl,yk)).set p (⟨xw,xn,⟨xi,xc,xd⟩⟩,xa,xl,xk)) by
        have h1:=down_less aLt p L (by rw [← HMP.out,HGX.out,HGY.out];exact HKL.out.symm.trans hq)
        rw [← HMP.out,HGX.out,HGY.out] at h1
        exact h1)
       clear hq
       go_upto_region 6 with fail
       have f0:=hfz (off + m * 5);have f1:=hfz (off + m * 5 + 1);have f2:=hfz (off + m * 5 + 2);have f3:=hfz (off + m * 5 + 3);have f4:=hfz (off + m * 5 + 4)
       have e0:=hfz (off + p * 5);have e1:=hfz (off + p * 5 + 1);have e2:=hfz (off + p * 5 + 2);have e3:=hfz (off + p * 5 + 3);have e4:=hfz (off + p * 5 + 4)
       have HO6:=hid (HO5.out.put5 m (by rw [HL.out];exact hpn) yw yn yi yc yd ya yl yk)
       have HT6:=hid (HT5.out.trans (touch5 g (off + m * 5) w5 (.int .i64 yw) (.int .i64 yn) (.int .i64 yi) (.int .i64 yc) (.slice ya yl yk)))
       have HG6:=hid (show (L.set m (⟨yw,yn,⟨yi,yc,yd⟩⟩,ya,yl,yk)).getD p default = (⟨yw,yn,⟨yi,yc,yd⟩⟩,ya,yl,yk) by
        have:m ≠ p:=by have:=HMP.out;omega
        rw [← HGY.out];simp [List.getD,List.getElem?_set,this])
       have HPL:=hid (show p < (L.set m (⟨yw,yn,⟨yi,yc,yd⟩⟩,ya,yl,yk)).length by rw [List.length_set,HL.out];have:=HMP.out;omega)
       have hy6:∀ i,i < 5 → (((((w5.setCell ⟨g,off + m * 5,none⟩ (.int .i64 yw)).setCell ⟨g,off + m * 5 + 1,none⟩ (.int .i64 yn)).setCell ⟨g,off + m * 5 + 2,none⟩ (.int .i64 yi)).setCell ⟨g,off + m * 5 + 3,none⟩ (.int .i64 yc)).setCell ⟨g,off + m * 5 + 4,none⟩ (.slice ya yl yk)).cell? ⟨g,off + p * 5 + i,none⟩ = (rowA ((L.set m (⟨yw,yn,⟨yi,yc,yd⟩⟩,ya,yl,yk)).getD p default))[i]?:=fun i hi => Owns.cellAt HO6.out rowA_len p i default HPL.out hi
       rw [HG6.out] at hy6
       have z0:=hy6 0 (by omega);have z1:=hy6 1 (by omega);have z2:=hy6 2 (by omega);have z3:=hy6 3 (by omega);have z4:=hy6 4 (by omega)
       simp only [rowA,toA,tjRow,List.getElem?_cons_zero,List.getElem?_cons_succ,Nat.add_zero] at z0 z1 z2 z3 z4
       clear hfz hy6
       go_region
       have HO7:=hid (HO6.out.put5 p HPL.out xw xn xi xc xd xa xl xk)
       have HT7:=hid (HT6.out.trans (touch5 g (off + p * 5) _ (.int .i64 xw) (.int .i64 xn) (.int .i64 xi) (.int .i64 xc) (.slice xa xl xk)))
       clear x0 x1 x2 x3 x4 y0 y1 y2 y3 y4 z0 z1 z2 z3 z4 f0 f1 f2 f3 f4 e0 e1 e2 e3 e4
       generalize hw7:(((((((((w5.setCell ⟨g,off + m * 5,none⟩ (.int .i64 yw)).setCell ⟨g,off + m * 5 + 1,none⟩ (.int .i64 yn)).setCell ⟨g,off + m * 5 + 2,none⟩ (.int .i64 yi)).setCell ⟨g,off + m * 5 + 3,none⟩ (.int .i64 yc)).setCell ⟨g,off + m * 5 + 4,none⟩ (.slice ya yl yk)).setCell ⟨g,off + p * 5,none⟩ (.int .i64 xw)).setCell ⟨g,off + p * 5 + 1,none⟩ (.int .i64 xn)).setCell ⟨g,off + p * 5 + 2,none⟩ (.int .i64 xi)).setCell ⟨g,off + p * 5 + 3,none⟩ (.int .i64 xc)).setCell ⟨g,off + p * 5 + 4,none⟩ (.slice xa xl xk) = w7 at HO7 HT7 ⊢
       clear hw7
       go_wp2_with fail
       go_roundw
       case rel => exact ⟨p,by have:=HMP.out;omega,by go_num,⟨_,by rw [List.length_set,List.length_set];exact HL.out,by rw [← HST.out];exact HD.out,HO7.out.drewd⟩,HT7.out.drewd⟩
       case measure => simp [intOf];have:=HMP.out;omega
  ·obtain rfl:k + 1 = n:=by omega
   go_wp2_with fail
   exact bodyPost_end (v:=.tuple #[]) (by simp [results,Tryz.results162,go_sem]) rfl ⟨rfl,by unfold sorted;rw [show A.length - 1 = k by rw [← HNN.out];omega,← HNN.out];exact HO2.out,HT.out⟩
end Go.Proofs.YtenjbhbcacocjaaGreat
