/- Counts, compared; a count in a new box, in either order; the first few of what comes from outside. -/
import Derived.Test.YthnlalffjepdaaaGreatGRow
import Derived.Test.YthnlalffjepdaaaGreatGWk
import Derived.Test.YthnlalffjepdaaaGreatGRn
import Derived.Test.YthnlalffjepdaaaGreatGLb
set_option linter.unusedVariables false
set_option linter.unusedSimpArgs false
set_option maxHeartbeats 16000000
namespace Go.Proofs.YthnlalffjepdaaaGreat
open Go.RowKit
theorem Ins.take {w:World} {B n cap m:Nat} {ao:Option Addr} {ins:List Inp} (h:Ins w B (.slice ao n cap) ins) (hm:m≤n):Ins w B (.slice ao m cap) (ins.take m):=ArrV.take h hm
theorem ins_zero {w:World} {g:Nat}:Ins w (g+1) (.slice (some ⟨g,0,none⟩) 0 0) [] :=
 ⟨[],⟨some ⟨g,0,none⟩,0,rfl,Nat.le_refl _,by omega,by simp,nofun,fun h=>absurd rfl h⟩,rfl,fun k hk=>absurd hk (Nat.not_lt_zero _)⟩
theorem crCount_any (c : Int) (v1 v2 v3 v4 v5 v6 u1 u2 u3 u4 u5 u6 : Value) (x1 x2 x3 x4 x5 x6 : List Int) (B : Nat) (w : World) (h : SixI w B v1 v2 v3 v4 v5 v6 x1 x2 x3 x4 x5 x6) (h' : SixI w B u1 u2 u3 u4 u5 u6 x1 x2 x3 x4 x5 x6) (hB : B ≤ w.heap.size) :
  Calls Tryz.prog 18 #[.agg #[.int .i64 c,v1,v2,v3,v4,v5,v6],.agg #[.int .i64 c,u1,u2,u3,u4,u5,u6]] w fun e w' => e=.returned (.bool true)∧Below w.heap.size w w':=by
 have HS:=hid h;have HS':=hid h';obtain⟨⟨a1,c1,rfl⟩,⟨a2,c2,rfl⟩,⟨a3,c3,rfl⟩,⟨a4,c4,rfl⟩,⟨a5,c5,rfl⟩,⟨a6,c6,rfl⟩⟩:=h.shape;obtain⟨⟨b1,d1,rfl⟩,⟨b2,d2,rfl⟩,⟨b3,d3,rfl⟩,⟨b4,d4,rfl⟩,⟨b5,d5,rfl⟩,⟨b6,d6,rfl⟩⟩:=h'.shape;clear h h';have hq:(c==c)=true:=by simp
 have HB:=hid (fun o p=>twoBox w o p)
 go_enter Tryz.func18,Tryz.ntmps18
 go_wp2_with (first
  |(go_at_call 37;(with_reducible refine(zG3 (.slice a1 x1.length c1) (.slice b1 x1.length d1) x1 B B _ ?_ ?_).mono ?_);(first|exact HS.out.1.below ((HB.out _ _).mono hB)|exact(HS.out.1.below ((HB.out _ _).mono hB)).below (Below.draws (Below.refl _ _) _));(first|exact HS'.out.1.below ((HB.out _ _).mono hB)|exact(HS'.out.1.below ((HB.out _ _).mono hB)).below (Below.draws (Below.refl _ _) _));rintro e w1 ⟨rfl,nd,rfl⟩)
  |(go_at_call 37;(with_reducible refine(zG3 (.slice a2 x2.length c2) (.slice b2 x2.length d2) x2 B B _ ?_ ?_).mono ?_);(first|exact HS.out.2.1.below ((HB.out _ _).mono hB)|exact(HS.out.2.1.below ((HB.out _ _).mono hB)).below (Below.draws (Below.refl _ _) _));(first|exact HS'.out.2.1.below ((HB.out _ _).mono hB)|exact(HS'.out.2.1.below ((HB.out _ _).mono hB)).below (Below.draws (Below.refl _ _) _));rintro e w1 ⟨rfl,nd,rfl⟩)
  |(go_at_call 37;(with_reducible refine(zG3 (.slice a3 x3.length c3) (.slice b3 x3.length d3) x3 B B _ ?_ ?_).mono ?_);(first|exact HS.out.2.2.1.below ((HB.out _ _).mono hB)|exact(HS.out.2.2.1.below ((HB.out _ _).mono hB)).below (Below.draws (Below.refl _ _) _));(first|exact HS'.out.2.2.1.below ((HB.out _ _).mono hB)|exact(HS'.out.2.2.1.below ((HB.out _ _).mono hB)).below (Below.draws (Below.refl _ _) _));rintro e w1 ⟨rfl,nd,rfl⟩)
  |(go_at_call 37;(with_reducible refine(zG3 (.slice a4 x4.length c4) (.slice b4 x4.length d4) x4 B B _ ?_ ?_).mono ?_);(first|exact HS.out.2.2.2.1.below ((HB.out _ _).mono hB)|exact(HS.out.2.2.2.1.below ((HB.out _ _).mono hB)).below (Below.draws (Below.refl _ _) _));(first|exact HS'.out.2.2.2.1.below ((HB.out _ _).mono hB)|exact(HS'.out.2.2.2.1.below ((HB.out _ _).mono hB)).below (Below.draws (Below.refl _ _) _));rintro e w1 ⟨rfl,nd,rfl⟩)
  |(go_at_call 37;(with_reducible refine(zG3 (.slice a5 x5.length c5) (.slice b5 x5.length d5) x5 B B _ ?_ ?_).mono ?_);(first|exact HS.out.2.2.2.2.1.below ((HB.out _ _).mono hB)|exact(HS.out.2.2.2.2.1.below ((HB.out _ _).mono hB)).below (Below.draws (Below.refl _ _) _));(first|exact HS'.out.2.2.2.2.1.below ((HB.out _ _).mono hB)|exact(HS'.out.2.2.2.2.1.below ((HB.out _ _).mono hB)).below (Below.draws (Below.refl _ _) _));rintro e w1 ⟨rfl,nd,rfl⟩)
  |(go_at_call 37;(with_reducible refine(zG3 (.slice a6 x6.length c6) (.slice b6 x6.length d6) x6 B B _ ?_ ?_).mono ?_);(first|exact HS.out.2.2.2.2.2.below ((HB.out _ _).mono hB)|exact(HS.out.2.2.2.2.2.below ((HB.out _ _).mono hB)).below (Below.draws (Below.refl _ _) _));(first|exact HS'.out.2.2.2.2.2.below ((HB.out _ _).mono hB)|exact(HS'.out.2.2.2.2.2.below ((HB.out _ _).mono hB)).below (Below.draws (Below.refl _ _) _));rintro e w1 ⟨rfl,nd,rfl⟩)
  |fail)
 go_ret
 exact⟨rfl,Below.draws (HB.out _ _) _⟩
def CntO (n : Cn) (wo : World) (s : Value) (w9 : World) : Prop := ∃ (gx : Nat) (G : Nat → Nat), s = .pointer (some ⟨gx, 0, none⟩) ∧ Bx w9 gx (cnBox n G) ∧
 SixI w9 w9.heap.size (.slice (some ⟨G 0,0,none⟩) 3 3) (.slice (some ⟨G 1,0,none⟩) 3 3) (.slice (some ⟨G 2,0,none⟩) 3 3) (.slice (some ⟨G 3,0,none⟩) 4 4) (.slice (some ⟨G 4,0,none⟩) 4 4) (.slice (some ⟨G 5,0,none⟩) 4 4) (cnI n 0) (cnI n 1) (cnI n 2) (cnI n 3) (cnI n 4) (cnI n 5) ∧
 (∀i j,i<6→j<cnL i→w9.cell? ⟨G i,j,none⟩=some (.int .i64 (n.l i j:Nat)))∧Below wo.heap.size wo w9
def CntR (n:Cn) (lo:Nat) (v:Value) (W:World):Prop:=∃G:Nat→Nat,v=.agg #[.int .i64 (n.cycles:Nat),.slice (some ⟨G 0,0,none⟩) 3 3,.slice (some ⟨G 1,0,none⟩) 3 3,.slice (some ⟨G 2,0,none⟩) 3 3,.slice (some ⟨G 3,0,none⟩) 4 4,.slice (some ⟨G 4,0,none⟩) 4 4,.slice (some ⟨G 5,0,none⟩) 4 4]∧(∀i j,i<6→j<cnL i→W.cell? ⟨G i,j,none⟩=some (.int .i64 (n.l i j:Nat)))∧∀i,i<6→lo≤G i
theorem cnt_store {n : Cn} {wo W W0 : World} {zero : List Value} {kc ka ks lo g : Nat} {G : Nat → Nat} {x y z v0 v1 v2 v3 v4 v5 v6 : Value} (hxy : x = tg (ka, ptr g) ∨ y = tg (ka, ptr g)) (hw : Below wo.heap.size wo W) (hy : Yl (CntR n) wo lo (.agg #[.int .i64 (n.cycles : Nat), .slice (some ⟨G 0, 0, none⟩) 3 3, .slice (some ⟨G 1, 0, none⟩) 3 3, .slice (some ⟨G 2, 0, none⟩) 3 3, .slice (some ⟨G 3, 0, none⟩) 4 4, .slice (some ⟨G 4, 0, none⟩) 4 4, .slice (some ⟨G 5, 0, none⟩) 4 4]) W0 W) (hg : wo.heap.size ≤ g) (hs : g < lo ∨ W0.heap.size ≤ g) (hx : Bx W g [v0, v1, v2, v3, v4, v5, v6]) :
  boxC (CntR n) wo zero kc ka ks [x,y,z] (((((((W.setCell ⟨g,0,none⟩ (.int .i64 (n.cycles:Nat))).setCell ⟨g,1,none⟩ (.slice (some ⟨G 0,0,none⟩) 3 3)).setCell ⟨g,2,none⟩ (.slice (some ⟨G 1,0,none⟩) 3 3)).setCell ⟨g,3,none⟩ (.slice (some ⟨G 2,0,none⟩) 3 3)).setCell ⟨g,4,none⟩ (.slice (some ⟨G 3,0,none⟩) 4 4)).setCell ⟨g,5,none⟩ (.slice (some ⟨G 4,0,none⟩) 4 4)).setCell ⟨g,6,none⟩ (.slice (some ⟨G 5,0,none⟩) 4 4)):=by
 refine boxC_store hxy hw hy hg hs (fun b hne=>?_) (by simp) ?_ (((((((hx.set 0 (by simp) _).set 1 (by simp) _).set 2 (by simp) _).set 3 (by simp) _).set 4 (by simp) _).set 5 (by simp) _).set 6 (by simp) _)
 ·repeat rw[Below.heap_setCell _ _ _ _ (show b≠g from hne)]
 ·exact(((((((Below.refl _ _).setCell (p:=⟨g,_,none⟩) hg _).setCell (p:=⟨g,_,none⟩) hg _).setCell (p:=⟨g,_,none⟩) hg _).setCell (p:=⟨g,_,none⟩) hg _).setCell (p:=⟨g,_,none⟩) hg _).setCell (p:=⟨g,_,none⟩) hg _).setCell (p:=⟨g,_,none⟩) hg _
theorem cnt_done {n:Cn} {wo W:World} {p:Value} (hsm:∀i j,i<6→j<cnL i→n.l i j≤1000) (h:Below wo.heap.size wo W∧∃cs lo W0 g,p=ptr g∧Yl (CntR n) wo lo (.agg ⟨cs⟩) W0 W∧wo.heap.size≤g∧Bx W g cs∧(g<lo∨W0.heap.size≤g)):CntO n wo p W:=by
 obtain⟨hb,cs,lo,W0,g,rfl,hy,hg,hx,_⟩:=h;obtain⟨G,e,hc,hge⟩:=hy.r;simp only[Value.agg.injEq,Array.mk.injEq]at e;subst e;have hcz:∀i j,i<6→j<cnL i→W.cell? ⟨G i,j,none⟩=some (.int .i64 (n.l i j:Nat)):=fun i j hi hj=>by
  have h0:=hc i j hi hj;rw[←h0];simp only[World.cell?,hy.eq (G i) (hge i hi) (World.block_lt_of_cell? W0 _ h0)]
 have hin:∀i,i<6→Ints W W.heap.size (.slice (some ⟨G i,0,none⟩) (cnL i) (cnL i)) (cnI n i):=fun i hi=>by
  have hl:((cnI n i).map rowI).length=cnL i:=by simp[cnI]
  refine⟨⟨some ⟨G i,0,none⟩,cnL i,by rw[hl],by rw[hl];exact Nat.le_refl _,by have:=cnL_le i;omega,by rw[hl];have:=cnL_le i;omega,(by intro h;cases h),fun _=>⟨G i,0,rfl,World.block_lt_of_cell? W _ (hcz i 0 hi (cnL_pos i)),fun t ht j hj=>?_⟩⟩,fun x hx2=>?_⟩
  ·rw[hl]at ht;obtain rfl:j=0:=by omega
   have:=hcz i t hi ht;rw[Nat.mul_one,Nat.zero_add,Nat.add_zero,this];simp[cnI,List.getD,ht,rowI]
  ·simp only[cnI,List.mem_map,List.mem_range]at hx2;obtain⟨j,hj,rfl⟩:=hx2;have:=hsm i j hi hj;simp only[I64];omega
 exact⟨g,G,rfl,hx,⟨hin 0 (by omega),hin 1 (by omega),hin 2 (by omega),hin 3 (by omega),hin 4 (by omega),hin 5 (by omega)⟩,hcz,hb⟩
theorem six_ints {w : World} {base g1 g2 g3 g4 g5 g6 : Nat} (h : Six w base g1 g2 g3 g4 g5 g6 (List.replicate 3 0) (List.replicate 3 0) (List.replicate 3 0) (List.replicate 4 0) (List.replicate 4 0) (List.replicate 4 0)) :
  SixI w w.heap.size (.slice (some ⟨g1,0,none⟩) 3 3) (.slice (some ⟨g2,0,none⟩) 3 3) (.slice (some ⟨g3,0,none⟩) 3 3) (.slice (some ⟨g4,0,none⟩) 4 4) (.slice (some ⟨g5,0,none⟩) 4 4) (.slice (some ⟨g6,0,none⟩) 4 4) (cnI cn0 0) (cnI cn0 1) (cnI cn0 2) (cnI cn0 3) (cnI cn0 4) (cnI cn0 5):=by
 have key:∀{v:Value} {n:Nat},Owns w base 3 1 rowI v (List.replicate n (0:Int))→n≤4→Ints w w.heap.size v (List.replicate n (0:Int)):=fun {v n} h hn=>h.ints (by simp;omega) fun x hx=>by rw[List.eq_of_mem_replicate hx];simp[I64]
 exact⟨key h.o1 (by omega),key h.o2 (by omega),key h.o3 (by omega),key h.o4 (by omega),key h.o5 (by omega),key h.o6 (by omega)⟩
end Go.Proofs.YthnlalffjepdaaaGreat
