/- slices.Clone, slices.Clip and clone at element type ReqReq: a copy in new memory. -/
import Derived.Test.YthnlalffjepdaaaGreatGDr2
import Derived.Test.YthnlalffjepdaaaGreatGDo4
import Derived.Test.YthnlalffjepdaaaGreatGLib
import Derived.Deep.Cut
import Derived.Deep.CutRange
import Derived.Outline
set_option linter.unusedVariables false
set_option linter.unusedSimpArgs false
set_option maxHeartbeats 16000000
namespace Go.Proofs.YthnlalffjepdaaaGreat
open Go.RowKit
attribute [local go_sem ↓] Go.wp_at_zero Go.wp_at_succ
def zF9 (n : Nat) : Code → Option Code
 | .region id ops d=>if id=n then some (.region id ops d) else none
 | .seq a b => match zF9 n a with
  |some c=>some c
  |none=>zF9 n b
 | .loop c=>zF9 n c
 | .block _ c=>zF9 n c
 | .scope c=>zF9 n c
 | .cond _ a b => match zF9 n a with
  |some c=>some c
  |none=>zF9 n b
 |_=>none
def rpA (i0 i1 i2 i3 i4 i5 i6 i9 i10 i11 i12 i13 i14 i15 i16 i17 i18 i19 i20 i21 i22 i23 i24 i25 i26 i27 i28 i29 i30 i31 i32 i33 i34 i35 i36 i37 i47:Value) (g n:Nat) (u8 u38 u39 u40 u41 u42 u43 u44 u45 u46:Value):Act:={ tmps:=#[i0,i1,i2,i3,i4,i5,i6,.slice (some ⟨g,0,none⟩) 6 6,u8,i9,i10,i11,i12,i13,i14,i15,i16,i17,i18,i19,i20,i21,i22,i23,i24,i25,i26,i27,i28,i29,i30,i31,i32,i33,i34,i35,i36,i37,u38,u39,u40,u41,u42,u43,u44,u45,u46,i47],defers:=[] }
def rpI (i0 i1 i2 i3 i4 i5 i6 i9 i10 i11 i12 i13 i14 i15 i16 i17 i18 i19 i20 i21 i22 i23 i24 i25 i26 i27 i28 i29 i30 i31 i32 i33 i34 i35 i36 i37 i47:Value) (g n:Nat) (x:Int) (w0 wq:World) (listed:Array Bool) (a:Act) (w':World):Prop :=
 ∃ u8 u38 u39 u40 u41 u42 u43 u44 u45 u46 : Value, a = rpA i0 i1 i2 i3 i4 i5 i6 i9 i10 i11 i12 i13 i14 i15 i16 i17 i18 i19 i20 i21 i22 i23 i24 i25 i26 i27 i28 i29 i30 i31 i32 i33 i34 i35 i36 i37 i47 g n u8 u38 u39 u40 u41 u42 u43 u44 u45 u46 ∧
   (listed.getD 0 false=true→u38=.int .i64 (n:Nat)) ∧
   (listed.getD 1 false=true→u39=.slice (some ⟨g,0,none⟩) 6 6) ∧
   (listed.getD 2 false=true→u40=.int .i64 (n:Nat)) ∧
   (listed.getD 3 false=true→u41=.slice (some ⟨g,n,none⟩) (6 - n) (6 - n)) ∧
   (listed.getD 4 false=true→u42=.slice (some ⟨g,0,none⟩) 6 6) ∧
   (listed.getD 5 false=true→u43=.int .i64 (n:Nat)) ∧
   (listed.getD 6 false=true→u44=.slice (some ⟨g,0,none⟩) n 6) ∧
   (listed.getD 7 false=true→u45=.int .i64 ((repM n:Nat):Int)∧w'.heap[g]? = some (.cells (repC x (n+repM n)).toArray 3 (0,0))) ∧
   (listed.getD 8 false=true→u46=.int .i64 ((n+repM n:Nat):Int)) ∧
   (listed.getD 9 false=true→u8=.int .i64 ((n+repM n:Nat):Int)) ∧
   (listed.getD 9 false=false→u8=.int .i64 (n:Nat)) ∧
   (listed.getD 7 false=false→w'.heap[g]? = some (.cells (repC x n).toArray 3 (0,0))) ∧
   Below w0.heap.size w0 w'
noncomputable def rpCode:Code:=(Tryz.f91.body.bind (zF9 9)).getD .skip
set_option maxRecDepth 100000 in
theorem rp_region (i0 i1 i2 i3 i4 i5 i6 i9 i10 i11 i12 i13 i14 i15 i16 i17 i18 i19 i20 i21 i22 i23 i24 i25 i26 i27 i28 i29 i30 i31 i32 i33 i34 i35 i36 i37 i47 j38 j39 j40 j41 j42 j43 j44 j45 j46 : Value) (g n : Nat) (x : Int) (w0 wq : World) (hn : n = 1 ∨ n = 2 ∨ n = 4) (hG : wq.heap[g]? = some (.cells (repC x n).toArray 3 (0, 0))) (hB : Below w0.heap.size w0 wq) (hHg : w0.heap.size ≤ g)
  {Q:Exit→Act→World→Prop}
  (hK:∀(u8 u38 u39 u40 u41 u42 u43 u44 u45 u46:Value) w', u8=.int .i64 ((n+repM n:Nat):Int)∧w'.heap[g]? = some (.cells (repC x (n+repM n)).toArray 3 (0,0))∧Below w0.heap.size w0 w' → Q .normal (rpA i0 i1 i2 i3 i4 i5 i6 i9 i10 i11 i12 i13 i14 i15 i16 i17 i18 i19 i20 i21 i22 i23 i24 i25 i26 i27 i28 i29 i30 i31 i32 i33 i34 i35 i36 i37 i47 g n u8 u38 u39 u40 u41 u42 u43 u44 u45 u46) w'):rpCode.wp Tryz.prog Q (rpA i0 i1 i2 i3 i4 i5 i6 i9 i10 i11 i12 i13 i14 i15 i16 i17 i18 i19 i20 i21 i22 i23 i24 i25 i26 i27 i28 i29 i30 i31 i32 i33 i34 i35 i36 i37 i47 g n (.int .i64 (n:Nat)) j38 j39 j40 j41 j42 j43 j44 j45 j46) wq:=by
 conv=>arg 2;whnf
 refine zC6 (rpI i0 i1 i2 i3 i4 i5 i6 i9 i10 i11 i12 i13 i14 i15 i16 i17 i18 i19 i20 i21 i22 i23 i24 i25 i26 i27 i28 i29 i30 i31 i32 i33 i34 i35 i36 i37 i47 g n x w0 wq) (by kernel_rfl) (by kernel_rfl) ?_ ?_ ?_
 ·exact⟨_,_,_,_,_,_,_,_,_,_,rfl,(fun h=>absurd h (by rw[getD_replicate_false];simp)),(fun h=>absurd h (by rw[getD_replicate_false];simp)),(fun h=>absurd h (by rw[getD_replicate_false];simp)),(fun h=>absurd h (by rw[getD_replicate_false];simp)),(fun h=>absurd h (by rw[getD_replicate_false];simp)),(fun h=>absurd h (by rw[getD_replicate_false];simp)),(fun h=>absurd h (by rw[getD_replicate_false];simp)),(fun h=>absurd h (by rw[getD_replicate_false];simp)),(fun h=>absurd h (by rw[getD_replicate_false];simp)),(fun h=>absurd h (by rw[getD_replicate_false];simp)),(fun _=>rfl),(fun _=>hG),hB.drew⟩
 ·intro listed a w' i o hI hsz ho hl he hcl;have hi:i<10:=(Array.getElem?_eq_some_iff.1 ho).1;have e:i=0∨i=1∨i=2∨i=3∨i=4∨i=5∨i=6∨i=7∨i=8∨i=9:=by omega
  clear hi;rcases e with rfl|rfl|rfl|rfl|rfl|rfl|rfl|rfl|rfl|rfl
  all_goals (have ho2:=ho;obtain rfl:=Option.some.inj ho2.symm;clear ho2)
  ·as_aux_lemma=>
    obtain⟨u8,u38,u39,u40,u41,u42,u43,u44,u45,u46,rfl,F0,F1,F2,F3,F4,F5,F6,F7,F8,F9,N9,N7,hx⟩:=hI
    have e9 : u8 = .int .i64 n := N9 (by
     rcases hq:listed.getD 9 false with _|_
     ·rfl
     ·exact absurd (hcl 9 _ rfl hq ⟨0,.phase⟩ (by simp) rfl) (by rw[getD_both hl];simp))
    subst e9;refine zA1 ho rfl (fun K hK=>?_);unfold rpA;go_simp;exact hK _ _ ⟨_,_,_,_,_,_,_,_,_,_,rfl,fun _=>rfl,cy F1 rfl,cy F2 rfl,cy F3 rfl,cy F4 rfl,cy F5 rfl,cy F6 rfl,cy F7 rfl,cy F8 rfl,cy F9 rfl,cy N9 rfl,cy N7 rfl,hx⟩
  ·as_aux_lemma=>
    obtain⟨u8,u38,u39,u40,u41,u42,u43,u44,u45,u46,rfl,F0,F1,F2,F3,F4,F5,F6,F7,F8,F9,N9,N7,hx⟩:=hI;refine zA1 ho rfl (fun K hK=>?_);unfold rpA;go_simp;exact hK _ _ ⟨_,_,_,_,_,_,_,_,_,_,rfl,cy F0 rfl,fun _=>rfl,cy F2 rfl,cy F3 rfl,cy F4 rfl,cy F5 rfl,cy F6 rfl,cy F7 rfl,cy F8 rfl,cy F9 rfl,cy N9 rfl,cy N7 rfl,hx⟩
  ·as_aux_lemma=>
    obtain⟨u8,u38,u39,u40,u41,u42,u43,u44,u45,u46,rfl,F0,F1,F2,F3,F4,F5,F6,F7,F8,F9,N9,N7,hx⟩:=hI
    have e9 : u8 = .int .i64 n := N9 (by
     rcases hq:listed.getD 9 false with _|_
     ·rfl
     ·exact absurd (hcl 9 _ rfl hq ⟨2,.phase⟩ (by simp) rfl) (by rw[getD_both hl];simp))
    subst e9;refine zA1 ho rfl (fun K hK=>?_);unfold rpA;go_simp;exact hK _ _ ⟨_,_,_,_,_,_,_,_,_,_,rfl,cy F0 rfl,cy F1 rfl,fun _=>rfl,cy F3 rfl,cy F4 rfl,cy F5 rfl,cy F6 rfl,cy F7 rfl,cy F8 rfl,cy F9 rfl,cy N9 rfl,cy N7 rfl,hx⟩
  ·as_aux_lemma=>
    obtain⟨u8,u38,u39,u40,u41,u42,u43,u44,u45,u46,rfl,F0,F1,F2,F3,F4,F5,F6,F7,F8,F9,N9,N7,hx⟩:=hI;have l1:=he ⟨1,.data⟩ (by simp) rfl;have l2:=he ⟨2,.data⟩ (by simp) rfl;have e:=F1 l1;subst e;have e:=F2 l2;subst e;have h1:n≤6:=by omega
    have h2:¬6=n:=by omega
    refine zA1 ho rfl (fun K hK=>?_);unfold rpA;rcases hn with rfl|rfl|rfl
    all_goals
     go_simp;exact hK _ _ ⟨_,_,_,_,_,_,_,_,_,_,rfl,cy F0 rfl,cy F1 rfl,cy F2 rfl,fun _=>rfl,cy F4 rfl,cy F5 rfl,cy F6 rfl,cy F7 rfl,cy F8 rfl,cy F9 rfl,cy N9 rfl,cy N7 rfl,hx⟩
  ·as_aux_lemma=>
    obtain⟨u8,u38,u39,u40,u41,u42,u43,u44,u45,u46,rfl,F0,F1,F2,F3,F4,F5,F6,F7,F8,F9,N9,N7,hx⟩:=hI;refine zA1 ho rfl (fun K hK=>?_);unfold rpA;go_simp;exact hK _ _ ⟨_,_,_,_,_,_,_,_,_,_,rfl,cy F0 rfl,cy F1 rfl,cy F2 rfl,cy F3 rfl,fun _=>rfl,cy F5 rfl,cy F6 rfl,cy F7 rfl,cy F8 rfl,cy F9 rfl,cy N9 rfl,cy N7 rfl,hx⟩
  ·as_aux_lemma=>
    obtain⟨u8,u38,u39,u40,u41,u42,u43,u44,u45,u46,rfl,F0,F1,F2,F3,F4,F5,F6,F7,F8,F9,N9,N7,hx⟩:=hI
    have e9 : u8 = .int .i64 n := N9 (by
     rcases hq:listed.getD 9 false with _|_
     ·rfl
     ·exact absurd (hcl 9 _ rfl hq ⟨5,.phase⟩ (by simp) rfl) (by rw[getD_both hl];simp))
    subst e9;refine zA1 ho rfl (fun K hK=>?_);unfold rpA;go_simp;exact hK _ _ ⟨_,_,_,_,_,_,_,_,_,_,rfl,cy F0 rfl,cy F1 rfl,cy F2 rfl,cy F3 rfl,cy F4 rfl,fun _=>rfl,cy F6 rfl,cy F7 rfl,cy F8 rfl,cy F9 rfl,cy N9 rfl,cy N7 rfl,hx⟩
  ·as_aux_lemma=>
    obtain⟨u8,u38,u39,u40,u41,u42,u43,u44,u45,u46,rfl,F0,F1,F2,F3,F4,F5,F6,F7,F8,F9,N9,N7,hx⟩:=hI;have l4:=he ⟨4,.data⟩ (by simp) rfl;have l5:=he ⟨5,.data⟩ (by simp) rfl;have e:=F4 l4;subst e;have e:=F5 l5;subst e;have h1:n≤6:=by omega
    refine zA1 ho rfl (fun K hK=>?_);unfold rpA;rcases hn with rfl|rfl|rfl
    all_goals
     go_simp;exact hK _ _ ⟨_,_,_,_,_,_,_,_,_,_,rfl,cy F0 rfl,cy F1 rfl,cy F2 rfl,cy F3 rfl,cy F4 rfl,cy F5 rfl,fun _=>rfl,cy F7 rfl,cy F8 rfl,cy F9 rfl,cy N9 rfl,cy N7 rfl,hx⟩
  ·as_aux_lemma=>
    obtain⟨u8,u38,u39,u40,u41,u42,u43,u44,u45,u46,rfl,F0,F1,F2,F3,F4,F5,F6,F7,F8,F9,N9,N7,hx⟩:=hI;have l3:=he ⟨3,.data⟩ (by simp) rfl;have l6:=he ⟨6,.data⟩ (by simp) rfl;have e:=F3 l3;subst e;have e:=F6 l6;subst e;obtain⟨w2,hcp,hg2,ht2⟩:=rep_copy hn (N7 (getD_both hl));have HG2:=hid hg2;have HT2:=hid ht2;clear hg2 ht2;refine zA1 ho rfl (fun K hK=>?_);unfold rpA;go_simp;exact hK _ _ ⟨_,_,_,_,_,_,_,_,_,_,rfl,cy F0 rfl,cy F1 rfl,cy F2 rfl,cy F3 rfl,cy F4 rfl,cy F5 rfl,cy F6 rfl,fun _=>⟨rfl,HG2.out⟩,cy F8 rfl,cy F9 rfl,cy N9 rfl,fun hj=>absurd hj (by rw[sgix hl];simp),hx.trans (HT2.out.below hHg hx.size)⟩
  ·as_aux_lemma=>
    obtain⟨u8,u38,u39,u40,u41,u42,u43,u44,u45,u46,rfl,F0,F1,F2,F3,F4,F5,F6,F7,F8,F9,N9,N7,hx⟩:=hI;have l0:=he ⟨0,.data⟩ (by simp) rfl;have l7:=he ⟨7,.data⟩ (by simp) rfl;have e:=F0 l0;subst e;obtain⟨e,hg7⟩:=F7 l7;subst e;have HG7:=hid hg7;clear hg7;have hm:repM n≤2:=by unfold repM;split <;> omega
    have h1:n≤6:=by omega
    refine zA1 ho rfl (fun K hK=>?_);unfold rpA;go_simp;exact hK _ _ ⟨_,_,_,_,_,_,_,_,_,_,rfl,cy F0 rfl,cy F1 rfl,cy F2 rfl,cy F3 rfl,cy F4 rfl,cy F5 rfl,cy F6 rfl,fun hj=>⟨rfl,HG7.out⟩,fun _=>(by rcases hn with rfl|rfl|rfl <;> rfl),cy F9 rfl,cy N9 rfl,cy N7 rfl,hx⟩
  ·as_aux_lemma=>
    obtain⟨u8,u38,u39,u40,u41,u42,u43,u44,u45,u46,rfl,F0,F1,F2,F3,F4,F5,F6,F7,F8,F9,N9,N7,hx⟩:=hI;have l8:=he ⟨8,.data⟩ (by simp) rfl;have e:=F8 l8;subst e;refine zA1 ho rfl (fun K hK=>?_);unfold rpA;go_simp;exact hK _ _ ⟨_,_,_,_,_,_,_,_,_,_,rfl,cy F0 rfl,cy F1 rfl,cy F2 rfl,cy F3 rfl,cy F4 rfl,cy F5 rfl,cy F6 rfl,cy F7 rfl,cy F8 rfl,fun _=>rfl,fun hj=>absurd hj (by rw[sgix hl];simp),cy N7 rfl,hx⟩
 ·intro listed a w' hI hd;obtain⟨u8,u38,u39,u40,u41,u42,u43,u44,u45,u46,rfl,F0,F1,F2,F3,F4,F5,F6,F7,F8,F9,N9,N7,hx⟩:=hI;obtain⟨e7,hg7⟩:=F7 (hd 7 (by show 7<10;omega));have e9:=F9 (hd 9 (by show 9<10;omega));exact hK _ _ _ _ _ _ _ _ _ _ w' ⟨e9,hg7,hx⟩
set_option maxRecDepth 4000 in
theorem repeat6_any (x : Int) (b o : Nat) (w : World) (hc : w.cell? ⟨b, o, none⟩ = some (.int .i64 x)) :
  Calls Tryz.prog 91 #[.slice (some ⟨b,o,none⟩) 1 1,.int .i64 6] w (RepP x w):=by
 have hbl:b<w.heap.size:=World.block_lt_of_cell? w _ hc
 have HC := hid (show ∀ j v, ([.int .i64 x] : List Value)[j]? = some v → (w.alloc (.cells (madeCells #[.int .i64 0] 6) 3)).cell? ((⟨b, o, none⟩ : Addr).add j) = some v from fun j v hv => by
  have hj:j=0:=by have:=(List.getElem?_eq_some_iff.1 hv).1;simpa using this
  subst hj;simp only[List.getElem?_cons_zero,Option.some.injEq]at hv;subst hv;rw[Addr.add_lit,Nat.add_zero,(bx1 w _).cell (p:=⟨b,o,none⟩) hbl];exact hc)
 have hh := hid (show (w.alloc (.cells (madeCells #[.int .i64 0] 6) 3)).heap[w.heap.size]? = some (.cells (repC x 0).toArray 3 (0, 0)) by
  show(w.heap.push _)[w.heap.size]? = _;rw[Array.getElem?_push_size,show madeCells #[Value.int .i64 0] 6=(repC x 0).toArray by rw[←Array.toList_inj,toList_madeCells_one];rfl])
 have hbx:=hid (bx1 w (.cells (madeCells #[.int .i64 0] 6) 3));clear hc;obtain⟨W2,hW2⟩:∃W2,W2=(w.alloc (.cells (madeCells #[.int .i64 0] 6) 3)).setCells w.heap.size 0 [.int .i64 x]:=⟨_,rfl⟩
 have hcp:∀ty,(Builtin.copy_ #[24,24] ty #[.slice (some ⟨w.heap.size,0,none⟩) 6 6,.slice (some ⟨b,o,none⟩) 1 1]).run Tryz.prog (w.alloc (.cells (madeCells #[.int .i64 0] 6) 3))=.ok (goInt 1) W2:=fun ty=>by
  rw[hW2]
  exact run_copy_cells (P := Tryz.prog) _ 24 24 ty 3 w.heap.size 0 6 6 ⟨b, o, none⟩ 1 1 [.int .i64 x] Tryz.underlying24 infoIs rfl HC.out (fun j hj => by
   obtain rfl:j=0:=by simpa using hj
   simp only[World.cell?,hh.out];simp[repC]) (fun j hj=>by simp only[World.frozen?,hh.out];simp) (one_of (by simp))
 have HG2 := hid (show W2.heap[w.heap.size]? = some (.cells (repC x 1).toArray 3 (0, 0)) by
  rw[hW2];show((w.alloc _).setCell ⟨w.heap.size,0,none⟩ _).heap[w.heap.size]? = _;simp only[World.setCell,Array.getElem?_modify,hh.out]
  rfl)
 have HB2:=hid (show Below w.heap.size w W2 by rw[hW2];exact hbx.out.setCell (p:=⟨w.heap.size,0,none⟩) (Nat.le_refl _) _);clear hW2;obtain⟨i1,hj,jz0,jz1,jz2⟩:=info_parts infoI
 go_enter Tryz.func91,Tryz.ntmps91
 go_wp2_with (first
  |(go_at_call 139;refine(mul16 _).mono ?_;rintro e w' ⟨rfl,rfl⟩)
  |(at_make;go_must (refine wpList_make_row _ rfl _ _ 24 rfl 3 i1 (.int .i64 0) Tryz.underlying24 hj jz0 jz1 rfl _ _ 6 rfl rfl (by rw[jz2];omega) (by omega) ?_))
  |fail)
 clear hh hbx HC hcp
 go_loopw [8] (fun n' wr=>∃n:Nat,(n=1∨n=2∨n=4∨n=6)∧n' = .int .i64 n∧wr.heap[w.heap.size]? = some (.cells (repC x n).toArray 3 (0,0))∧Below w.heap.size w wr) (fun n' _=>6 - (intOf n').toNat)
 case atStart=>exact⟨1,.inl rfl,rfl,HG2.out,HB2.out⟩
 case round=>
  obtain⟨n,hn,rfl,hg,hb⟩:=hrel;have HG:=hid hg;have HB:=hid hb;clear hg hb HG2 HB2;by_cases h6:n=6
  ·subst h6
   go_wp2_with fail
   go_ret
   refine⟨rfl,?_,HB.out⟩;have e:(repC x 6)=(List.replicate 6 x).flatMap rowI:=by simp[repC,rowI,List.replicate]
   have hg:=HG.out;rw[e]at hg;exact⟨by simp[rowI],.inr ⟨w.heap.size,0,6,_,rfl,Nat.le_refl _,hg,by simp,by unfold maxLen;omega,by simp[rowI],fun j hj=>by simp⟩⟩
  ·have hn3:n=1∨n=2∨n=4:=by omega
   have HN:=hid hn3;have hlt:(n:Int)<6:=by omega
   clear hn h6 hn3
   go_upto_region 9 with fail
   refine rp_region _ _ _ _ _ _ _ _ _ _ _ _ _ _ _ _ _ _ _ _ _ _ _ _ _ _ _ _ _ _ _ _ _ _ _ _ _ _ _ _ _ _ _ _ _ _ w.heap.size n x w wr HN.out HG.out HB.out (Nat.le_refl _) ?_;intro u8 u38 u39 u40 u41 u42 u43 u44 u45 u46 w5 h5;obtain⟨rfl,hg,hb⟩:=h5;have HG5:=hid hg;have HB5:=hid hb;clear hg hb;unfold rpA
   go_wp2_with fail
   go_roundw
   case rel=>exact⟨n+repM n,by have:=HN.out;unfold repM;rcases this with rfl|rfl|rfl <;> simp,rfl,HG5.out,HB5.out⟩
   case measure=>
    have:=HN.out;simp only[intOf];unfold repM;rcases this with rfl|rfl|rfl <;> simp
end Go.Proofs.YthnlalffjepdaaaGreat
namespace Go.Proofs.YthnlalffjepdaaaGreat
open Go.RowKit
theorem implMemNew_any (w:World):Calls Tryz.prog 90 #[] w fun e w' => ∃g off c,e=.returned (.agg #[.slice (some ⟨g,off,none⟩) 64 c])∧Owns w' w.heap.size 3 1 rowI (.slice (some ⟨g,off,none⟩) 64 c) (List.replicate 64 0)∧64≤c∧c≤9223372036854775807∧Below w.heap.size w w':=by
 obtain⟨i1,hj,jz0,jz1,jz2⟩:=info_parts infoI
 go_enter Tryz.func90,Tryz.ntmps90
 go_wp2_with (at_make;go_must (refine wpList_make_full _ rfl _ _ 24 rfl (w.heap.size+1) 3 i1 (.int .i64 0) 1 Tryz.underlying24 hj jz0 jz1 _ _ _ _ 64 rfl rfl rfl rfl (by rw[jz2];omega) (by unfold maxLen;omega) (by simp) ?_);intro w1 hown hgrow;have hbx:=(show Below (w.heap.size+1) (w.alloc (.cells #[.slice none 0 0] 39)) w1 from(Below.refl _ _).grown hgrow (by simp) (by simp));have d0:w1.cell? ⟨w.heap.size,0,none⟩=some (.slice none 0 0):=(by rw[hbx.cell (p:=⟨w.heap.size,0,none⟩) (by simp)];simp[go_sem]);have d1:w1.frozen? ⟨w.heap.size,0,none⟩=false:=(by rw[hbx.frozen (p:=⟨w.heap.size,0,none⟩) (by simp)];simp[go_sem]))
 rw[show madeCells (Value.int .i64 0).cells (64 * 1)=madeCells #[.int .i64 0] 64 by rfl,toList_madeCells_one]at hown;have HO:=hid (owns_made hown);simp only[World.size_alloc]at HO;have HB:=hid hbx;clear hown hgrow hbx
 go_wp2_with fail
 refine bodyPost_ret (v:=.agg #[.slice (some ⟨w.heap.size+1,0,none⟩) 64 64]) (by simp[results,Tryz.results90,go_sem,d0]) rfl ⟨_,_,_,rfl,?_,by omega,by omega,?_⟩
 ·exact(HO.out.rebase (by omega)).set' _ _ _ (fun k hk=>by have:=(OwnR.lt HO.out k hk).1;omega)
 ·exact(((Below.refl _ _).alloc (Nat.le_refl _) _).trans (HB.out.mono (by omega))).setCell (by simp) _
def AtmNewW (w:World) (e:Ending) (w':World):Prop :=
 ∃ wa wc g ga go gc, e = .returned (.agg #[.slice (some ⟨g, wa, none⟩) 64 wc, .slice (some ⟨ga, go, none⟩) 6 gc]) ∧ Owns w' w.heap.size 3 1 rowI (.slice (some ⟨g, wa, none⟩) 64 wc) (List.replicate 64 0) ∧ Owns w' w.heap.size 3 1 rowI (.slice (some ⟨ga, go, none⟩) 6 gc) (List.replicate 6 (-1)) ∧
  6≤gc∧gc≤9223372036854775807∧Apart (.slice (some ⟨g,wa,none⟩) 64 wc) (.slice (some ⟨ga,go,none⟩) 6 gc)∧Below w.heap.size w w'
theorem implAtmNewW_any (w:World):Calls Tryz.prog 48 #[] w (AtmNewW w):=by
 go_enter Tryz.func48,Tryz.ntmps48
 go_wp2_with fail
 refine(implMemNew_any _).mono ?_;rintro e w1 ⟨g,off,c,rfl,hown,hc1,hc2,hb⟩;have HB1:=hid ((bx1 w _).trans (hb.mono (by simp)));have HO:=hid hown;have d0:w1.cell? ⟨w.heap.size,0,none⟩=some (.slice none 0 0):=by rw[hb.cell (p:=⟨w.heap.size,0,none⟩) (by simp)];simp[go_sem]
 have d1:w1.cell? ⟨w.heap.size,1,none⟩=some (.slice none 0 0):=by rw[hb.cell (p:=⟨w.heap.size,1,none⟩) (by simp)];simp[go_sem]
 have f0:w1.frozen? ⟨w.heap.size,0,none⟩=false:=by rw[hb.frozen (p:=⟨w.heap.size,0,none⟩) (by simp)];simp[go_sem]
 have f1:w1.frozen? ⟨w.heap.size,1,none⟩=false:=by rw[hb.frozen (p:=⟨w.heap.size,1,none⟩) (by simp)];simp[go_sem]
 have hz1:w.heap.size<w1.heap.size:=World.block_lt_of_cell? w1 _ d0;clear hown hb
 go_wp2_with fail
 refine(repeat6_any (-1) w1.heap.size 0 _ (by simp[go_sem])).mono ?_;rintro e w2 ⟨rfl,ho2,hb2⟩;simp only[World.size_alloc]at ho2 hb2 ⊢;have HB2:=hid ((bx1 w1 _).trans (hb2.mono (by omega)));have HO2:=hid ho2;have e0:w2.cell? ⟨w.heap.size,0,none⟩=some (.slice none 0 0):=by rw[HB2.out.cell (p:=⟨w.heap.size,0,none⟩) hz1];exact d0
 have e1:w2.cell? ⟨w.heap.size,1,none⟩=some (.slice none 0 0):=by rw[HB2.out.cell (p:=⟨w.heap.size,1,none⟩) hz1];exact d1
 have g0:w2.frozen? ⟨w.heap.size,0,none⟩=false:=by rw[HB2.out.frozen (p:=⟨w.heap.size,0,none⟩) hz1];exact f0
 have g1:w2.frozen? ⟨w.heap.size,1,none⟩=false:=by rw[HB2.out.frozen (p:=⟨w.heap.size,1,none⟩) hz1];exact f1
 have hz2:w.heap.size<w2.heap.size:=World.block_lt_of_cell? w2 _ e0;clear ho2 hb2 d0 d1 f0 f1
 go_wp2_with fail
 refine bodyPost_ret (zA4 Tryz.results48 _ _ ⟨w.heap.size,0,none⟩ (.agg #[.slice (some ⟨g,off,none⟩) 64 c,.slice (some ⟨w1.heap.size+1,0,none⟩) 6 6]) rfl (loadVar_atm _ _ _ _ (by simp[go_sem, *]) (by simp[go_sem, *]))) rfl ⟨_,_,_,_,_,_,rfl,?_,?_,by omega,by omega,fun k hk hk2=>?_,?_⟩
 ·have X:=(HO.out.below HB2.out).rebase (show w.heap.size≤_ by simp);have hl:=fun k hk=>(OwnR.lt HO.out k hk).1
  repeat(first|with_reducible exact X|with_reducible refine Owns.set' ?_ _ _ _ (fun j hj=>by have:=hl j hj;simp at this;omega))
 ·have X:=HO2.out.rebase (show w.heap.size≤_ by omega)
  repeat(first|with_reducible exact X|with_reducible refine Owns.set' ?_ _ _ _ (fun j hj=>by simp[Value.ownBlock]at hj;omega))
 ·have h1:=(OwnR.lt HO.out k hk).2;simp only[Value.ownBlock,Option.some.injEq]at hk2;omega
 ·exact((HB1.out.trans (HB2.out.mono (by omega))).setCell (by exact Nat.le_refl _) _).setCell (by exact Nat.le_refl _) _
abbrev vnil:Value:=.slice none 0 0
def rowP (x:Int×Int):List Value:=[.int .i64 x.1,vnil,vnil,.int .i64 x.2]
def rowS (x:Int):List Value:=[vnil,vnil,.int .i64 x]
theorem rowP_len (x:Int×Int):(rowP x).length=4:=rfl
theorem rowS_len (x:Int):(rowS x).length=3:=rfl
theorem rowP_one (x:Int×Int):∀u∈rowP x,u.oneCell' = true:=by
 intro u hu;simp only[rowP,List.mem_cons,List.not_mem_nil,or_false]at hu;rcases hu with rfl|rfl|rfl|rfl <;> rfl
theorem rowS_one (x:Int):∀u∈rowS x,u.oneCell' = true:=by
 intro u hu;simp only[rowS,List.mem_cons,List.not_mem_nil,or_false]at hu;rcases hu with rfl|rfl|rfl <;> rfl
theorem elem_portY:Elem 42 52 4 64:=zE8 Tryz.underlying42 (z:=.agg #[.int .i64 0,.slice none 0 0,.slice none 0 0,.int .i64 0]) (by kernel_rfl) rfl (by omega)
theorem elem_slaveY:Elem 43 50 3 56:=zE8 Tryz.underlying43 (z:=.agg #[.slice none 0 0,.slice none 0 0,.int .i64 0]) (by kernel_rfl) rfl (by omega)
structure CyO (W:World) (lo:Nat) (a b p s:Value) (xs ys:List Int) (ps:List (Int×Int)) (ss:List Int):Prop where
 oa:Owns W lo 3 1 rowI a xs
 ob:Owns W lo 3 1 rowI b ys
 op:Owns W lo 52 4 rowP p ps
 os:Owns W lo 50 3 rowS s ss
 dab:Apart a b
 dap:Apart a p
 das:Apart a s
 dbp:Apart b p
 dbs:Apart b s
 dps:Apart p s
theorem CyO.kept {W W':World} {lo:Nat} {a b p s:Value} {xs ys:List Int} {ps:List (Int×Int)} {ss:List Int} (h:CyO W lo a b p s xs ys ps ss) (hk:∀k,lo≤k→k<W.heap.size→W'.heap[k]? = W.heap[k]?):CyO W' lo a b p s xs ys ps ss :=
  { h with oa := OwnR.kept h.oa fun k hk2 => hk k (OwnR.lt h.oa k hk2).1 (OwnR.lt h.oa k hk2).2
           ob:=OwnR.kept h.ob fun k hk2=>hk k (OwnR.lt h.ob k hk2).1 (OwnR.lt h.ob k hk2).2
           op:=OwnR.kept h.op fun k hk2=>hk k (OwnR.lt h.op k hk2).1 (OwnR.lt h.op k hk2).2
           os:=OwnR.kept h.os fun k hk2=>hk k (OwnR.lt h.os k hk2).1 (OwnR.lt h.os k hk2).2 }
theorem CyO.below {W W':World} {lo:Nat} {a b p s:Value} {xs ys:List Int} {ps:List (Int×Int)} {ss:List Int} (h:CyO W lo a b p s xs ys ps ss) (hb:Below W.heap.size W W'):CyO W' lo a b p s xs ys ps ss:=h.kept fun k _ hk=>hb.block k hk
theorem CyO.rebase {W:World} {lo lo':Nat} {a b p s:Value} {xs ys:List Int} {ps:List (Int×Int)} {ss:List Int} (h:CyO W lo a b p s xs ys ps ss) (hl:lo' ≤ lo):CyO W lo' a b p s xs ys ps ss :=
 { h with oa:=OwnR.rebase h.oa hl,ob:=OwnR.rebase h.ob hl,op:=OwnR.rebase h.op hl,os:=OwnR.rebase h.os hl }
abbrev z64:List Int:=List.replicate 64 0
abbrev z6:List Int:=List.replicate 6 (-1)
abbrev z3:List (Int×Int):=List.replicate 3 (0,3)
abbrev z4:List Int:=List.replicate 4 2
theorem Bx.five {W:World} {H:Nat} {a b c d e:Value} (h:Bx W H [a,b,c,d,e]):(W.cell? ⟨H,0,none⟩=some a∧W.cell? ⟨H,1,none⟩=some b∧W.cell? ⟨H,2,none⟩=some c∧W.cell? ⟨H,3,none⟩=some d∧W.cell? ⟨H,4,none⟩=some e)∧W.frozen? ⟨H,0,none⟩=false∧W.frozen? ⟨H,1,none⟩=false∧W.frozen? ⟨H,2,none⟩=false∧W.frozen? ⟨H,3,none⟩=false∧W.frozen? ⟨H,4,none⟩=false :=
 ⟨⟨h.c 0 (by simp),h.c 1 (by simp),h.c 2 (by simp),h.c 3 (by simp),h.c 4 (by simp)⟩,h.f 0 (by simp),h.f 1 (by simp),h.f 2 (by simp),h.f 3 (by simp),h.f 4 (by simp)⟩
theorem zM2 (w:World) (g:Nat) (a b c d e:Value) (h0:w.cell? ⟨g,0,none⟩=some a) (h1:w.cell? ⟨g,1,none⟩=some b) (h2:w.cell? ⟨g,2,none⟩=some c) (h3:w.cell? ⟨g,3,none⟩=some d) (h4:w.cell? ⟨g,4,none⟩=some e):(loadVar 46 ⟨g,0,none⟩).run Tryz.prog w=.ok (.agg #[a,b,c,d,e]) w:=by
 simp[loadVar,go_sem,h0,h1,h2,h3,h4]
def BoxC (w:World) (s:Nat) (a b p d t:Value):Prop:=w.heap[s]? = some (.cells #[a,b,p,d,t] 46 (0,0))
theorem BoxC.lt {w:World} {s:Nat} {a b p d t:Value} (h:BoxC w s a b p d t):s<w.heap.size:=heap_lt h
theorem BoxC.keep {w w':World} {s:Nat} {a b p d t:Value} (h:BoxC w s a b p d t) (e:w'.heap[s]? = w.heap[s]?):BoxC w' s a b p d t:=by unfold BoxC at h ⊢;rw[e];exact h
theorem BoxC.touch {w w':World} {s x:Nat} {a b p d t:Value} (h:BoxC w s a b p d t) (ht:Touch x w w') (hx:s≠x):BoxC w' s a b p d t:=h.keep (ht.block s h.lt hx)
theorem BoxC.below {w w':World} {s C:Nat} {a b p d t:Value} (h:BoxC w s a b p d t) (hb:Below C w w') (hx:s<C):BoxC w' s a b p d t:=h.keep (hb.block s hx)
theorem BoxC.bx {w:World} {s:Nat} {a b p d t:Value} (h:BoxC w s a b p d t):Bx w s [a,b,p,d,t]:=by
 unfold BoxC at h;exact⟨fun j hj=>by simp[World.cell?,h],fun j hj=>by simp[World.frozen?,h],by simp⟩
theorem BoxC.put {w:World} {s:Nat} {a b p d t:Value} (h:BoxC w s a b p d t) (a' b' p' d' t':Value):BoxC (((((w.setCell ⟨s,0,none⟩ a').setCell ⟨s,1,none⟩ b').setCell ⟨s,2,none⟩ p').setCell ⟨s,3,none⟩ d').setCell ⟨s,4,none⟩ t') s a' b' p' d' t':=by
 unfold BoxC at h ⊢;simp[World.setCell,Array.getElem?_modify,h]
theorem BoxC.new (w:World) (a b p d t:Value):BoxC (w.alloc (.cells #[a,b,p,d,t] 46)) w.heap.size a b p d t:=by
 show(w.heap.push _)[w.heap.size]? = _;simp
theorem touchC (s:Nat) (w:World) (a b p d t:Value):Touch s w (((((w.setCell ⟨s,0,none⟩ a).setCell ⟨s,1,none⟩ b).setCell ⟨s,2,none⟩ p).setCell ⟨s,3,none⟩ d).setCell ⟨s,4,none⟩ t) :=
 ((((Touch.setCell _ _ _ _).trans (Touch.setCell _ _ _ _)).trans (Touch.setCell _ _ _ _)).trans (Touch.setCell _ _ _ _)).trans (Touch.setCell _ _ _ _)
theorem Owns.boxC {α:Type} {f:α→List Value} {w w':World} {base e sz g:Nat} {v a b p d t:Value} {xs:List α} (h:Owns w base e sz f v xs) (hB:BoxC w g a b p d t) (hT:46≠e) (ht:Touch g w w'):Owns w' base e sz f v xs :=
 OwnR.kept h fun k hk => ht.block k (OwnR.lt h k hk).2 (by
  intro e2;subst e2;obtain⟨_,h2⟩:=h;rcases h2 with⟨rfl,_⟩|⟨g', off,cap,cur,rfl,_,hh,_⟩
  ·simp[Value.ownBlock]at hk
  ·simp[Value.ownBlock]at hk;subst hk;unfold BoxC at hB;rw[hh]at hB;simp only[Option.some.injEq,Obj.cells.injEq]at hB;exact hT hB.2.1.symm)
theorem CyO.heap {W W':World} {lo:Nat} {a b p s:Value} {xs ys:List Int} {ps:List (Int×Int)} {ss:List Int} (h:CyO W lo a b p s xs ys ps ss) (hh:W'.heap=W.heap):CyO W' lo a b p s xs ys ps ss:=h.kept fun k _ _=>by rw[hh]
theorem ints_arr {w:World} {B:Nat} {v:Value} {xs:List Int} (h:Ints w B v xs):Arr w B 1 v (xs.map rowI):=h.1
def BoxQ (w:World) (s:Nat) (r:Rq) (d l:Value):Prop:=w.heap[s]? = some (.cells #[.int .i64 r.id,.int .i64 r.kind,.int .i64 r.addr,.int .i64 r.many,.bool r.wrap,d,l] 69 (0,0))
theorem BoxQ.lt {w:World} {s:Nat} {r:Rq} {d l:Value} (h:BoxQ w s r d l):s<w.heap.size:=heap_lt h
theorem BoxQ.keep {w w':World} {s:Nat} {r:Rq} {d l:Value} (h:BoxQ w s r d l) (e:w'.heap[s]? = w.heap[s]?):BoxQ w' s r d l:=by unfold BoxQ at h ⊢;rw[e];exact h
theorem BoxQ.below {w w':World} {s C:Nat} {r:Rq} {d l:Value} (h:BoxQ w s r d l) (hb:Below C w w') (hx:s<C):BoxQ w' s r d l:=h.keep (hb.block s hx)
theorem BoxQ.bx {w:World} {s:Nat} {r:Rq} {d l:Value} (h:BoxQ w s r d l):Bx w s [.int .i64 r.id,.int .i64 r.kind,.int .i64 r.addr,.int .i64 r.many,.bool r.wrap,d,l]:=by
 unfold BoxQ at h;exact⟨fun j hj=>by simp[World.cell?,h],fun j hj=>by simp[World.frozen?,h],by simp⟩
theorem BoxQ.put5 {w:World} {s:Nat} {r:Rq} {d l:Value} (h:BoxQ w s r d l) (u:Value):BoxQ (w.setCell ⟨s,5,none⟩ u) s r u l:=by
 unfold BoxQ at h ⊢;simp[World.setCell,Array.getElem?_modify,h]
theorem BoxQ.put6 {w:World} {s:Nat} {r:Rq} {d l:Value} (h:BoxQ w s r d l) (u:Value):BoxQ (w.setCell ⟨s,6,none⟩ u) s r d u:=by
 unfold BoxQ at h ⊢;simp[World.setCell,Array.getElem?_modify,h]
theorem BoxQ.new (w:World) (r:Rq) (d l:Value):BoxQ (w.alloc (.cells #[.int .i64 r.id,.int .i64 r.kind,.int .i64 r.addr,.int .i64 r.many,.bool r.wrap,d,l] 69)) w.heap.size r d l:=by
 show(w.heap.push _)[w.heap.size]? = _;simp
end Go.Proofs.YthnlalffjepdaaaGreat
namespace Go.Proofs.YthnlalffjepdaaaGreat
open Go.RowKit
attribute [local go_sem ↓] Go.wp_at_zero Go.wp_at_succ
def qrA (i0 i2 i11:Value) (gS:Nat) (u3 u4 u5 u6 u7 u8 u9 u10:Value):Act:={ tmps:=#[i0,.pointer (some ⟨gS,0,none⟩),i2,u3,u4,u5,u6,u7,u8,u9,u10,i11],defers:=[] }
def qrI (i0 i2 i11:Value) (gS:Nat) (B:Nat) (dv:Value) (lv:Value) (r:Rq) (wq:World) (listed:Array Bool) (a:Act) (w':World):Prop :=
 ∃ u3 u4 u5 u6 u7 u8 u9 u10 : Value, a = qrA i0 i2 i11 gS u3 u4 u5 u6 u7 u8 u9 u10 ∧
   (listed.getD 0 false=true→u3=.pointer (some ⟨gS,5,none⟩)) ∧
   (listed.getD 1 false=true→u4=dv) ∧
   (listed.getD 2 false=true→Owns w' wq.heap.size 3 1 rowI u5 r.data) ∧
   (listed.getD 3 false=true→u6=.pointer (some ⟨gS,6,none⟩)) ∧
   (listed.getD 4 false=true→u7=lv) ∧
   (listed.getD 5 false=true→Owns w' wq.heap.size 3 1 rowI u8 r.lanes∧Apart u5 u8) ∧
   (listed.getD 6 false=true→u9=.pointer (some ⟨gS,5,none⟩)) ∧
   (listed.getD 7 false=true→w'.cell? ⟨gS,5,none⟩=some u5) ∧
   (listed.getD 8 false=true→u10=.pointer (some ⟨gS,6,none⟩)) ∧
   (listed.getD 9 false=true→w'.cell? ⟨gS,6,none⟩=some u8) ∧
   (listed.getD 7 false=false→w'.cell? ⟨gS,5,none⟩=some dv) ∧
   (listed.getD 9 false=false→w'.cell? ⟨gS,6,none⟩=some lv) ∧
   (Touch gS wq w' ∧ ∃x y,BoxQ w' gS r x y)
noncomputable def qrCode:Code:=(Tryz.f138.body.bind (zF9 1)).getD .skip
def QrP (gS:Nat) (r:Rq) (wq w':World):Prop:=∃d l,BoxQ w' gS r d l∧Owns w' wq.heap.size 3 1 rowI d r.data∧Owns w' wq.heap.size 3 1 rowI l r.lanes∧Apart d l∧Touch gS wq w'
set_option maxRecDepth 100000 in
theorem qr_region (i0 i2 i11 j3 j4 j5 j6 j7 j8 j9 j10 : Value) (gS : Nat) (B : Nat) (dv : Value) (lv : Value) (r : Rq) (wq : World)
  (hgS:gS<wq.heap.size) (hB:B≤gS) (hBX:BoxQ wq gS r dv lv) (hD:Ints wq B dv r.data) (hL:Ints wq B lv r.lanes) (hl1:r.data.length≤1048576) (hl2:r.lanes.length≤1048576)
  {Q:Exit→Act→World→Prop}
  (hK:∀(u3 u4 u5 u6 u7 u8 u9 u10:Value) w', QrP gS r wq w' → Q .normal (qrA i0 i2 i11 gS u3 u4 u5 u6 u7 u8 u9 u10) w'):qrCode.wp Tryz.prog Q (qrA i0 i2 i11 gS j3 j4 j5 j6 j7 j8 j9 j10) wq:=by
 conv=>arg 2;whnf
 refine zC6 (qrI i0 i2 i11 gS B dv lv r wq) (by kernel_rfl) (by kernel_rfl) ?_ ?_ ?_
 ·exact⟨_,_,_,_,_,_,_,_,rfl,(fun h=>absurd h (by rw[getD_replicate_false];simp)),(fun h=>absurd h (by rw[getD_replicate_false];simp)),(fun h=>absurd h (by rw[getD_replicate_false];simp)),(fun h=>absurd h (by rw[getD_replicate_false];simp)),(fun h=>absurd h (by rw[getD_replicate_false];simp)),(fun h=>absurd h (by rw[getD_replicate_false];simp)),(fun h=>absurd h (by rw[getD_replicate_false];simp)),(fun h=>absurd h (by rw[getD_replicate_false];simp)),(fun h=>absurd h (by rw[getD_replicate_false];simp)),(fun h=>absurd h (by rw[getD_replicate_false];simp)),(fun _=>hBX.bx.seven.1.2.2.2.2.2.1),(fun _=>hBX.bx.seven.1.2.2.2.2.2.2),⟨(Touch.refl _ _).drewd,_,_,hBX⟩⟩
 ·intro listed a w' i o hI hsz ho hl he hcl;have hi:i<10:=(Array.getElem?_eq_some_iff.1 ho).1;have e:i=0∨i=1∨i=2∨i=3∨i=4∨i=5∨i=6∨i=7∨i=8∨i=9:=by omega
  clear hi;rcases e with rfl|rfl|rfl|rfl|rfl|rfl|rfl|rfl|rfl|rfl
  all_goals (have ho2:=ho;obtain rfl:=Option.some.inj ho2.symm;clear ho2)
  ·as_aux_lemma=>
    obtain⟨u3,u4,u5,u6,u7,u8,u9,u10,rfl,F0,F1,F2,F3,F4,F5,F6,F7,F8,F9,N7,N9,hx⟩:=hI;refine zA1 ho rfl (fun K hK=>?_);unfold qrA;go_simp;exact hK _ _ ⟨_,_,_,_,_,_,_,_,rfl,fun _=>rfl,fun hj=>(by first|exact(F1 (by rwa [sgx (by decide)]at hj))|rfl),fun hj=>(F2 (by rwa [sgx (by decide)]at hj)),fun hj=>(by first|exact(F3 (by rwa [sgx (by decide)]at hj))|rfl),fun hj=>(by first|exact(F4 (by rwa [sgx (by decide)]at hj))|rfl),fun hj=>(F5 (by rwa [sgx (by decide)]at hj)),fun hj=>(by first|exact(F6 (by rwa [sgx (by decide)]at hj))|rfl),fun hj=>(F7 (by rwa [sgx (by decide)]at hj)),fun hj=>(by first|exact(F8 (by rwa [sgx (by decide)]at hj))|rfl),fun hj=>(F9 (by rwa [sgx (by decide)]at hj)),fun hj=>(N7 (by rwa [sgx (by decide)]at hj)),fun hj=>(N9 (by rwa [sgx (by decide)]at hj)),hx⟩
  ·as_aux_lemma=>
    obtain⟨u3,u4,u5,u6,u7,u8,u9,u10,rfl,F0,F1,F2,F3,F4,F5,F6,F7,F8,F9,N7,N9,hx⟩:=hI;have l0:=he ⟨0,.data⟩ (by simp) rfl;have e:=F0 l0;subst e
    have q := N7 (by
     rcases hq:listed.getD 7 false with _|_
     ·rfl
     ·exact absurd (hcl 7 _ rfl hq ⟨1,.phase⟩ (by simp) rfl) (by rw[getD_both hl];simp))
    refine zA1 ho rfl (fun K hK=>?_);unfold qrA;go_simp;exact hK _ _ ⟨_,_,_,_,_,_,_,_,rfl,fun hj=>(by first|exact(F0 (by rwa [sgx (by decide)]at hj))|rfl),fun _=>rfl,fun hj=>(F2 (by rwa [sgx (by decide)]at hj)),fun hj=>(by first|exact(F3 (by rwa [sgx (by decide)]at hj))|rfl),fun hj=>(by first|exact(F4 (by rwa [sgx (by decide)]at hj))|rfl),fun hj=>(F5 (by rwa [sgx (by decide)]at hj)),fun hj=>(by first|exact(F6 (by rwa [sgx (by decide)]at hj))|rfl),fun hj=>(F7 (by rwa [sgx (by decide)]at hj)),fun hj=>(by first|exact(F8 (by rwa [sgx (by decide)]at hj))|rfl),fun hj=>(F9 (by rwa [sgx (by decide)]at hj)),fun hj=>(N7 (by rwa [sgx (by decide)]at hj)),fun hj=>(N9 (by rwa [sgx (by decide)]at hj)),hx⟩
  ·as_aux_lemma=>
    obtain⟨u3,u4,u5,u6,u7,u8,u9,u10,rfl,F0,F1,F2,F3,F4,F5,F6,F7,F8,F9,N7,N9,hx⟩:=hI;have l1:=he ⟨1,.data⟩ (by simp) rfl;have e:=F1 l1;subst e;have hgs:=Nat.lt_of_lt_of_le hgS hx.1.size;refine zA1 ho rfl (fun K hK=>?_);unfold qrA;go_simp
    (with_reducible refine(zH4 rowI zD7 zF7 _ r.data B w' (ints_arr (hD.below (hx.1.below hB (Nat.le_trans hB (Nat.le_of_lt hgS))))) (by omega)).mono ?_)
    rintro e w'' ⟨q,rfl,o1,hb1⟩
    go_wp2_with fail
    exact⟨_,_,_,_,_,_,_,_,rfl,fun hj=>(by first|exact(F0 (by rwa [sgx (by decide)]at hj))|rfl),fun hj=>(by first|exact(F1 (by rwa [sgx (by decide)]at hj))|rfl),fun _=>o1.rebase hx.1.size,fun hj=>(by first|exact(F3 (by rwa [sgx (by decide)]at hj))|rfl),fun hj=>(by first|exact(F4 (by rwa [sgx (by decide)]at hj))|rfl),fun hj=>absurd (hcl 5 _ rfl (by rwa [sgx (by decide)]at hj) ⟨2,.chain⟩ (by simp) rfl) (by rw[getD_both hl];simp),fun hj=>(by first|exact(F6 (by rwa [sgx (by decide)]at hj))|rfl),fun hj=>absurd (hcl 7 _ rfl (by rwa [sgx (by decide)]at hj) ⟨2,.data⟩ (by simp) rfl) (by rw[getD_both hl];simp),fun hj=>(by first|exact(F8 (by rwa [sgx (by decide)]at hj))|rfl),fun hj=>absurd (hcl 9 _ rfl (by rwa [sgx (by decide)]at hj) ⟨2,.phase⟩ (by simp) rfl) (by rw[getD_both hl];simp),fun hj=>(hb1.cell (p:=⟨gS,5,none⟩) hgs).trans (N7 (by rwa [sgx (by decide)]at hj)),fun hj=>(hb1.cell (p:=⟨gS,6,none⟩) hgs).trans (N9 (by rwa [sgx (by decide)]at hj)),⟨hx.1.trans (Touch.of_below hb1 (Nat.le_refl _)),let ⟨x,y,h⟩:=hx.2;⟨x,y,h.below hb1 h.lt⟩⟩⟩
  ·as_aux_lemma=>
    obtain⟨u3,u4,u5,u6,u7,u8,u9,u10,rfl,F0,F1,F2,F3,F4,F5,F6,F7,F8,F9,N7,N9,hx⟩:=hI;refine zA1 ho rfl (fun K hK=>?_);unfold qrA;go_simp;exact hK _ _ ⟨_,_,_,_,_,_,_,_,rfl,fun hj=>(by first|exact(F0 (by rwa [sgx (by decide)]at hj))|rfl),fun hj=>(by first|exact(F1 (by rwa [sgx (by decide)]at hj))|rfl),fun hj=>(F2 (by rwa [sgx (by decide)]at hj)),fun _=>rfl,fun hj=>(by first|exact(F4 (by rwa [sgx (by decide)]at hj))|rfl),fun hj=>(F5 (by rwa [sgx (by decide)]at hj)),fun hj=>(by first|exact(F6 (by rwa [sgx (by decide)]at hj))|rfl),fun hj=>(F7 (by rwa [sgx (by decide)]at hj)),fun hj=>(by first|exact(F8 (by rwa [sgx (by decide)]at hj))|rfl),fun hj=>(F9 (by rwa [sgx (by decide)]at hj)),fun hj=>(N7 (by rwa [sgx (by decide)]at hj)),fun hj=>(N9 (by rwa [sgx (by decide)]at hj)),hx⟩
  ·as_aux_lemma=>
    obtain⟨u3,u4,u5,u6,u7,u8,u9,u10,rfl,F0,F1,F2,F3,F4,F5,F6,F7,F8,F9,N7,N9,hx⟩:=hI;have l3:=he ⟨3,.data⟩ (by simp) rfl;have e:=F3 l3;subst e
    have q := N9 (by
     rcases hq:listed.getD 9 false with _|_
     ·rfl
     ·exact absurd (hcl 9 _ rfl hq ⟨4,.phase⟩ (by simp) rfl) (by rw[getD_both hl];simp))
    refine zA1 ho rfl (fun K hK=>?_);unfold qrA;go_simp;exact hK _ _ ⟨_,_,_,_,_,_,_,_,rfl,fun hj=>(by first|exact(F0 (by rwa [sgx (by decide)]at hj))|rfl),fun hj=>(by first|exact(F1 (by rwa [sgx (by decide)]at hj))|rfl),fun hj=>(F2 (by rwa [sgx (by decide)]at hj)),fun hj=>(by first|exact(F3 (by rwa [sgx (by decide)]at hj))|rfl),fun _=>rfl,fun hj=>(F5 (by rwa [sgx (by decide)]at hj)),fun hj=>(by first|exact(F6 (by rwa [sgx (by decide)]at hj))|rfl),fun hj=>(F7 (by rwa [sgx (by decide)]at hj)),fun hj=>(by first|exact(F8 (by rwa [sgx (by decide)]at hj))|rfl),fun hj=>(F9 (by rwa [sgx (by decide)]at hj)),fun hj=>(N7 (by rwa [sgx (by decide)]at hj)),fun hj=>(N9 (by rwa [sgx (by decide)]at hj)),hx⟩
  ·as_aux_lemma=>
    obtain⟨u3,u4,u5,u6,u7,u8,u9,u10,rfl,F0,F1,F2,F3,F4,F5,F6,F7,F8,F9,N7,N9,hx⟩:=hI;have l4:=he ⟨4,.data⟩ (by simp) rfl;have l2:=he ⟨2,.chain⟩ (by simp) rfl;have e:=F4 l4;subst e;have o2:=F2 l2;have hgs:=Nat.lt_of_lt_of_le hgS hx.1.size;refine zA1 ho rfl (fun K hK=>?_);unfold qrA;go_simp
    (with_reducible refine(zH4 rowI zD7 zF7 _ r.lanes B w' (ints_arr (hL.below (hx.1.below hB (Nat.le_trans hB (Nat.le_of_lt hgS))))) (by omega)).mono ?_)
    rintro e w'' ⟨q,rfl,o1,hb1⟩
    go_wp2_with fail
    exact⟨_,_,_,_,_,_,_,_,rfl,fun hj=>(by first|exact(F0 (by rwa [sgx (by decide)]at hj))|rfl),fun hj=>(by first|exact(F1 (by rwa [sgx (by decide)]at hj))|rfl),fun hj=>OwnR.below (F2 (by rwa [sgx (by decide)]at hj)) hb1 (fun k hk=>(OwnR.lt (F2 (by rwa [sgx (by decide)]at hj)) k hk).2),fun hj=>(by first|exact(F3 (by rwa [sgx (by decide)]at hj))|rfl),fun hj=>(by first|exact(F4 (by rwa [sgx (by decide)]at hj))|rfl),fun _=>⟨o1.rebase hx.1.size,zK1 o2 o1⟩,fun hj=>(by first|exact(F6 (by rwa [sgx (by decide)]at hj))|rfl),fun hj=>absurd (hcl 7 _ rfl (by rwa [sgx (by decide)]at hj) ⟨5,.chain⟩ (by simp) rfl) (by rw[getD_both hl];simp),fun hj=>(by first|exact(F8 (by rwa [sgx (by decide)]at hj))|rfl),fun hj=>absurd (hcl 9 _ rfl (by rwa [sgx (by decide)]at hj) ⟨5,.data⟩ (by simp) rfl) (by rw[getD_both hl];simp),fun hj=>(hb1.cell (p:=⟨gS,5,none⟩) hgs).trans (N7 (by rwa [sgx (by decide)]at hj)),fun hj=>(hb1.cell (p:=⟨gS,6,none⟩) hgs).trans (N9 (by rwa [sgx (by decide)]at hj)),⟨hx.1.trans (Touch.of_below hb1 (Nat.le_refl _)),let ⟨x,y,h⟩:=hx.2;⟨x,y,h.below hb1 h.lt⟩⟩⟩
  ·as_aux_lemma=>
    obtain⟨u3,u4,u5,u6,u7,u8,u9,u10,rfl,F0,F1,F2,F3,F4,F5,F6,F7,F8,F9,N7,N9,hx⟩:=hI;refine zA1 ho rfl (fun K hK=>?_);unfold qrA;go_simp;exact hK _ _ ⟨_,_,_,_,_,_,_,_,rfl,fun hj=>(by first|exact(F0 (by rwa [sgx (by decide)]at hj))|rfl),fun hj=>(by first|exact(F1 (by rwa [sgx (by decide)]at hj))|rfl),fun hj=>(F2 (by rwa [sgx (by decide)]at hj)),fun hj=>(by first|exact(F3 (by rwa [sgx (by decide)]at hj))|rfl),fun hj=>(by first|exact(F4 (by rwa [sgx (by decide)]at hj))|rfl),fun hj=>(F5 (by rwa [sgx (by decide)]at hj)),fun _=>rfl,fun hj=>(F7 (by rwa [sgx (by decide)]at hj)),fun hj=>(by first|exact(F8 (by rwa [sgx (by decide)]at hj))|rfl),fun hj=>(F9 (by rwa [sgx (by decide)]at hj)),fun hj=>(N7 (by rwa [sgx (by decide)]at hj)),fun hj=>(N9 (by rwa [sgx (by decide)]at hj)),hx⟩
  ·as_aux_lemma=>
    obtain⟨u3,u4,u5,u6,u7,u8,u9,u10,rfl,F0,F1,F2,F3,F4,F5,F6,F7,F8,F9,N7,N9,hx⟩:=hI;have l6:=he ⟨6,.data⟩ (by simp) rfl;have l2:=he ⟨2,.data⟩ (by simp) rfl;have e:=F6 l6;subst e;have o2:=F2 l2;obtain⟨y1,y2,e1,_,_⟩:=o2.shape;subst e1;obtain⟨x,y,hbx⟩:=hx.2;obtain⟨⟨k0,k1,k2,k3,k4,k5,k6⟩,m0,m1,m2,m3,m4,m5,m6⟩:=hbx.bx.seven;refine zA1 ho rfl (fun K hK=>?_);unfold qrA;go_simp;exact hK _ _ ⟨_,_,_,_,_,_,_,_,rfl,fun hj=>(by first|exact(F0 (by rwa [sgx (by decide)]at hj))|rfl),fun hj=>(by first|exact(F1 (by rwa [sgx (by decide)]at hj))|rfl),fun hj=>Owns.set' o2 _ _ _ (fun k hk=>by have:=(OwnR.lt o2 k hk).1;omega),fun hj=>(by first|exact(F3 (by rwa [sgx (by decide)]at hj))|rfl),fun hj=>(by first|exact(F4 (by rwa [sgx (by decide)]at hj))|rfl),fun hj=>⟨Owns.set' (F5 (by rwa [sgx (by decide)]at hj)).1 _ _ _ (fun k hk=>by have:=(OwnR.lt (F5 (by rwa [sgx (by decide)]at hj)).1 k hk).1;omega),(F5 (by rwa [sgx (by decide)]at hj)).2⟩,fun hj=>(by first|exact(F6 (by rwa [sgx (by decide)]at hj))|rfl),fun _=>(hbx.put5 _).bx.seven.1.2.2.2.2.2.1,fun hj=>(by first|exact(F8 (by rwa [sgx (by decide)]at hj))|rfl),fun hj=>absurd (hcl 9 _ rfl (by rwa [sgx (by decide)]at hj) ⟨7,.chain⟩ (by simp) rfl) (by rw[getD_both hl];simp),fun hj=>absurd hj (by rw[sgix hl];simp),fun hj=>((hbx.put5 _).bx.seven.1.2.2.2.2.2.2).trans ((hbx.bx.seven.1.2.2.2.2.2.2).symm.trans (N9 (by rwa [sgx (by decide)]at hj))),⟨hx.1.trans (Touch.setCell ..),_,y,hbx.put5 _⟩⟩
  ·as_aux_lemma=>
    obtain⟨u3,u4,u5,u6,u7,u8,u9,u10,rfl,F0,F1,F2,F3,F4,F5,F6,F7,F8,F9,N7,N9,hx⟩:=hI;refine zA1 ho rfl (fun K hK=>?_);unfold qrA;go_simp;exact hK _ _ ⟨_,_,_,_,_,_,_,_,rfl,fun hj=>(by first|exact(F0 (by rwa [sgx (by decide)]at hj))|rfl),fun hj=>(by first|exact(F1 (by rwa [sgx (by decide)]at hj))|rfl),fun hj=>(F2 (by rwa [sgx (by decide)]at hj)),fun hj=>(by first|exact(F3 (by rwa [sgx (by decide)]at hj))|rfl),fun hj=>(by first|exact(F4 (by rwa [sgx (by decide)]at hj))|rfl),fun hj=>(F5 (by rwa [sgx (by decide)]at hj)),fun hj=>(by first|exact(F6 (by rwa [sgx (by decide)]at hj))|rfl),fun hj=>(F7 (by rwa [sgx (by decide)]at hj)),fun _=>rfl,fun hj=>(F9 (by rwa [sgx (by decide)]at hj)),fun hj=>(N7 (by rwa [sgx (by decide)]at hj)),fun hj=>(N9 (by rwa [sgx (by decide)]at hj)),hx⟩
  ·as_aux_lemma=>
    obtain⟨u3,u4,u5,u6,u7,u8,u9,u10,rfl,F0,F1,F2,F3,F4,F5,F6,F7,F8,F9,N7,N9,hx⟩:=hI;have l8:=he ⟨8,.data⟩ (by simp) rfl;have l5:=he ⟨5,.data⟩ (by simp) rfl;have l7:=he ⟨7,.chain⟩ (by simp) rfl;have e:=F8 l8;subst e;obtain⟨o3,a3⟩:=F5 l5;obtain⟨y1,y2,e1,_,_⟩:=o3.shape;subst e1;obtain⟨x,y,hbx⟩:=hx.2;obtain⟨⟨k0,k1,k2,k3,k4,k5,k6⟩,m0,m1,m2,m3,m4,m5,m6⟩:=hbx.bx.seven;refine zA1 ho rfl (fun K hK=>?_);unfold qrA;go_simp;exact hK _ _ ⟨_,_,_,_,_,_,_,_,rfl,fun hj=>(by first|exact(F0 (by rwa [sgx (by decide)]at hj))|rfl),fun hj=>(by first|exact(F1 (by rwa [sgx (by decide)]at hj))|rfl),fun hj=>Owns.set' (F2 (by rwa [sgx (by decide)]at hj)) _ _ _ (fun k hk=>by have:=(OwnR.lt (F2 (by rwa [sgx (by decide)]at hj)) k hk).1;omega),fun hj=>(by first|exact(F3 (by rwa [sgx (by decide)]at hj))|rfl),fun hj=>(by first|exact(F4 (by rwa [sgx (by decide)]at hj))|rfl),fun hj=>⟨Owns.set' o3 _ _ _ (fun k hk=>by have:=(OwnR.lt o3 k hk).1;omega),a3⟩,fun hj=>(by first|exact(F6 (by rwa [sgx (by decide)]at hj))|rfl),fun hj=>((hbx.put6 _).bx.seven.1.2.2.2.2.2.1).trans ((hbx.bx.seven.1.2.2.2.2.2.1).symm.trans (F7 (by rwa [sgx (by decide)]at hj))),fun hj=>(by first|exact(F8 (by rwa [sgx (by decide)]at hj))|rfl),fun _=>(hbx.put6 _).bx.seven.1.2.2.2.2.2.2,fun hj=>absurd (he ⟨7,.chain⟩ (by simp) rfl) (by rw[show listed.getD 7 false=false by rwa [sgx (by decide)]at hj];simp),fun hj=>absurd hj (by rw[sgix hl];simp),⟨hx.1.trans (Touch.setCell ..),x,_,hbx.put6 _⟩⟩
 ·intro listed a w' hI hd;obtain⟨u3,u4,u5,u6,u7,u8,u9,u10,rfl,F0,F1,F2,F3,F4,F5,F6,F7,F8,F9,N7,N9,hx⟩:=hI;have o2:=F2 (hd 2 (by show 2<10;omega));obtain⟨o3,a3⟩:=F5 (hd 5 (by show 5<10;omega));have c5:=F7 (hd 7 (by show 7<10;omega));have c6:=F9 (hd 9 (by show 9<10;omega));obtain⟨x,y,hbx⟩:=hx.2;have e5:=hbx.bx.seven.1.2.2.2.2.2.1;have e6:=hbx.bx.seven.1.2.2.2.2.2.2;rw[c5]at e5;rw[c6]at e6;simp only[Option.some.injEq]at e5 e6;subst e5 e6;exact hK _ _ _ _ _ _ _ _ w' ⟨_,_,hbx,o2,o3,a3,hx.1⟩
end Go.Proofs.YthnlalffjepdaaaGreat
namespace Go.Proofs.YthnlalffjepdaaaGreat
open Go.RowKit
attribute [local go_sem ↓] Go.wp_at_zero Go.wp_at_succ
theorem tab5 (a b c d e:Int) {n:Nat} (h:n<5):∃y:Int,([Value.int .i64 a,.int .i64 b,.int .i64 c,.int .i64 d,.int .i64 e]:List Value)[n]? = some (.int .i64 y)∧(y=a∨y=b∨y=c∨y=d∨y=e):=by
 rcases(show n=0∨n=1∨n=2∨n=3∨n=4 by omega)with rfl|rfl|rfl|rfl|rfl
 ·exact⟨a,rfl,.inl rfl⟩
 ·exact⟨b,rfl,.inr (.inl rfl)⟩
 ·exact⟨c,rfl,.inr (.inr (.inl rfl))⟩
 ·exact⟨d,rfl,.inr (.inr (.inr (.inl rfl)))⟩
 ·exact⟨e,rfl,.inr (.inr (.inr (.inr rfl)))⟩
end Go.Proofs.YthnlalffjepdaaaGreat
namespace Go.Proofs.YthnlalffjepdaaaGreat
open Go.RowKit
def QW (w:World) (g:Nat) (id kind addr many:Int) (wp:Bool) (dv lv:Value):Prop :=
 w.heap[g]? = some (.cells #[.int .i64 id,.int .i64 kind,.int .i64 addr,.int .i64 many,.bool wp,dv,lv] 69 (0,0))
theorem QW.lt {w:World} {g:Nat} {id kind addr many:Int} {wp:Bool} {dv lv:Value} (h:QW w g id kind addr many wp dv lv):g<w.heap.size:=lt_of_heap h
theorem QW.cells {w : World} {g : Nat} {id kind addr many : Int} {wp : Bool} {dv lv : Value} (h : QW w g id kind addr many wp dv lv) :
  w.cell? ⟨g,0,none⟩=some (.int .i64 id)∧w.cell? ⟨g,1,none⟩=some (.int .i64 kind)∧w.cell? ⟨g,2,none⟩=some (.int .i64 addr)∧w.cell? ⟨g,3,none⟩=some (.int .i64 many)∧w.cell? ⟨g,4,none⟩=some (.bool wp)∧w.cell? ⟨g,5,none⟩=some dv∧w.cell? ⟨g,6,none⟩=some lv:=by
 unfold QW at h;refine⟨?_,?_,?_,?_,?_,?_,?_⟩ <;> simp[World.cell?,h]
theorem QW.unfrozen {w : World} {g : Nat} {id kind addr many : Int} {wp : Bool} {dv lv : Value} (h : QW w g id kind addr many wp dv lv) :
  w.frozen? ⟨g,0,none⟩=false∧w.frozen? ⟨g,1,none⟩=false∧w.frozen? ⟨g,2,none⟩=false∧w.frozen? ⟨g,3,none⟩=false∧w.frozen? ⟨g,4,none⟩=false∧w.frozen? ⟨g,5,none⟩=false∧w.frozen? ⟨g,6,none⟩=false:=by
 unfold QW at h;refine⟨?_,?_,?_,?_,?_,?_,?_⟩ <;> simp[World.frozen?,h]
theorem QW.keep {w w':World} {g:Nat} {id kind addr many:Int} {wp:Bool} {dv lv:Value} (h:QW w g id kind addr many wp dv lv) (e:w'.heap[g]? = w.heap[g]?):QW w' g id kind addr many wp dv lv:=by
 unfold QW at h ⊢;rw[e];exact h
theorem QW.touch {w w':World} {r g:Nat} {id kind addr many:Int} {wp:Bool} {dv lv:Value} (h:QW w g id kind addr many wp dv lv) (ht:Touch r w w') (hr:g≠r):QW w' g id kind addr many wp dv lv:=h.keep (ht.block g h.lt hr)
theorem QW.below {w w':World} {C g:Nat} {id kind addr many:Int} {wp:Bool} {dv lv:Value} (h:QW w g id kind addr many wp dv lv) (hb:Below C w w') (hr:g<C):QW w' g id kind addr many wp dv lv:=h.keep (hb.block g hr)
theorem QW.alloc {w:World} {g:Nat} {id kind addr many:Int} {wp:Bool} {dv lv:Value} (h:QW w g id kind addr many wp dv lv) (o:Obj):QW (w.alloc o) g id kind addr many wp dv lv:=h.below ((Below.refl w.heap.size w).alloc (Nat.le_refl _) o) h.lt
theorem QW.drewd {w:World} {g:Nat} {id kind addr many:Int} {wp:Bool} {dv lv:Value} (h:QW w g id kind addr many wp dv lv):QW w.drew g id kind addr many wp dv lv:=h
theorem QW.setc {w:World} {g:Nat} {id kind addr many:Int} {wp:Bool} {dv lv:Value} (h:QW w g id kind addr many wp dv lv) (b o:Nat) (u:Value) (hr:g≠b):QW (w.setCell ⟨b,o,none⟩ u) g id kind addr many wp dv lv:=h.keep (Below.heap_setCell _ _ _ _ hr)
theorem QW.new (w:World) {id kind addr many:Int} {wp:Bool} {dv lv:Value}:QW (w.alloc (.cells #[.int .i64 id,.int .i64 kind,.int .i64 addr,.int .i64 many,.bool wp,dv,lv] 69)) w.heap.size id kind addr many wp dv lv:=by
 show(w.heap.push _)[w.heap.size]? = _;simp
theorem QW.set0 {w:World} {g:Nat} {id kind addr many:Int} {wp:Bool} {dv lv:Value} (h:QW w g id kind addr many wp dv lv) (x:Int):QW (w.setCell ⟨g,0,none⟩ (.int .i64 x)) g x kind addr many wp dv lv:=by
 unfold QW at h ⊢;simp[World.setCell,Array.getElem?_modify,h]
theorem QW.set1 {w:World} {g:Nat} {id kind addr many:Int} {wp:Bool} {dv lv:Value} (h:QW w g id kind addr many wp dv lv) (x:Int):QW (w.setCell ⟨g,1,none⟩ (.int .i64 x)) g id x addr many wp dv lv:=by
 unfold QW at h ⊢;simp[World.setCell,Array.getElem?_modify,h]
theorem QW.set2 {w:World} {g:Nat} {id kind addr many:Int} {wp:Bool} {dv lv:Value} (h:QW w g id kind addr many wp dv lv) (x:Int):QW (w.setCell ⟨g,2,none⟩ (.int .i64 x)) g id kind x many wp dv lv:=by
 unfold QW at h ⊢;simp[World.setCell,Array.getElem?_modify,h]
theorem QW.set3 {w:World} {g:Nat} {id kind addr many:Int} {wp:Bool} {dv lv:Value} (h:QW w g id kind addr many wp dv lv) (x:Int):QW (w.setCell ⟨g,3,none⟩ (.int .i64 x)) g id kind addr x wp dv lv:=by
 unfold QW at h ⊢;simp[World.setCell,Array.getElem?_modify,h]
theorem QW.set4 {w:World} {g:Nat} {id kind addr many:Int} {wp:Bool} {dv lv:Value} (h:QW w g id kind addr many wp dv lv) (x:Bool):QW (w.setCell ⟨g,4,none⟩ (.bool x)) g id kind addr many x dv lv:=by
 unfold QW at h ⊢;simp[World.setCell,Array.getElem?_modify,h]
theorem QW.set5 {w:World} {g:Nat} {id kind addr many:Int} {wp:Bool} {dv lv:Value} (h:QW w g id kind addr many wp dv lv) (x:Value):QW (w.setCell ⟨g,5,none⟩ x) g id kind addr many wp x lv:=by
 unfold QW at h ⊢;simp[World.setCell,Array.getElem?_modify,h]
theorem QW.set6 {w:World} {g:Nat} {id kind addr many:Int} {wp:Bool} {dv lv:Value} (h:QW w g id kind addr many wp dv lv) (x:Value):QW (w.setCell ⟨g,6,none⟩ x) g id kind addr many wp dv x:=by
 unfold QW at h ⊢;simp[World.setCell,Array.getElem?_modify,h]
theorem QW.ofNew {r:Nat} {w w':World} {id kind addr many:Int} {wp:Bool} {dv lv:Value} (ht:Touch r (w.alloc (.cells #[.int .i64 id,.int .i64 kind,.int .i64 addr,.int .i64 many,.bool wp,dv,lv] 69)) w') (hr:r<w.heap.size):QW w' w.heap.size id kind addr many wp dv lv:=(QW.new w).touch ht (by omega)
def TW (w:World) (g:Nat) (xs:Array Value):Prop:=w.heap[g]? = some (.cells xs 3 (0,0))
theorem TW.at_ {w:World} {g:Nat} {xs:Array Value} (h:TW w g xs) (i:Nat) (v:Value) (hv:xs[i]? = some v):w.cell? ⟨g,i,none⟩=some v:=by
 unfold TW at h;simp[World.cell?,h,hv]
theorem TW.touch {w w':World} {r g:Nat} {xs:Array Value} (h:TW w g xs) (ht:Touch r w w') (hr:g≠r):TW w' g xs:=by
 unfold TW at h ⊢;rw[ht.block g (lt_of_heap h) hr];exact h
theorem TW.ofNew {r:Nat} {w w':World} {xs:Array Value} (ht:Touch r (w.alloc (.cells xs 3)) w') (hr:r<w.heap.size):TW w' w.heap.size xs :=
 TW.touch (w:=w.alloc (.cells xs 3)) (by show(w.heap.push _)[w.heap.size]? = _;simp) ht (by omega)
theorem TW.alloc {w:World} {g:Nat} {xs:Array Value} (h:TW w g xs) (o:Obj):TW (w.alloc o) g xs:=by
 have hl:=lt_of_heap h;unfold TW at h ⊢;rw[((Below.refl w.heap.size w).alloc (Nat.le_refl _) o).block g hl];exact h
theorem tab4 (a b c d:Int) {n:Nat} (h:n<4):∃y:Int,([Value.int .i64 a,.int .i64 b,.int .i64 c,.int .i64 d]:List Value)[n]? = some (.int .i64 y)∧(y=a∨y=b∨y=c∨y=d):=by
 rcases(show n=0∨n=1∨n=2∨n=3 by omega)with rfl|rfl|rfl|rfl
 ·exact⟨a,rfl,.inl rfl⟩
 ·exact⟨b,rfl,.inr (.inl rfl)⟩
 ·exact⟨c,rfl,.inr (.inr (.inl rfl))⟩
 ·exact⟨d,rfl,.inr (.inr (.inr rfl))⟩
theorem zB1 (w : World) (g : Nat) (a b c d e f k : Value) (h0 : w.cell? ⟨g, 0, none⟩ = some a) (h1 : w.cell? ⟨g, 1, none⟩ = some b) (h2 : w.cell? ⟨g, 2, none⟩ = some c) (h3 : w.cell? ⟨g, 3, none⟩ = some d) (h4 : w.cell? ⟨g, 4, none⟩ = some e) (h5 : w.cell? ⟨g, 5, none⟩ = some f) (h6 : w.cell? ⟨g, 6, none⟩ = some k) :
  (loadVar 69 ⟨g,0,none⟩).run Tryz.prog w=.ok (.agg #[a,b,c,d,e,f,k]) w:=by
 simp[loadVar,go_sem,h0,h1,h2,h3,h4,h5,h6]
abbrev qz (w:World) (g:Nat):Prop:=QW w g 0 0 0 0 false (.slice none 0 0) (.slice none 0 0)
theorem touch7 (s:Nat) (w:World) (a b c d e f h:Value):Touch s w (((((((w.setCell ⟨s,0,none⟩ a).setCell ⟨s,1,none⟩ b).setCell ⟨s,2,none⟩ c).setCell ⟨s,3,none⟩ d).setCell ⟨s,4,none⟩ e).setCell ⟨s,5,none⟩ f).setCell ⟨s,6,none⟩ h) :=
 ((((((Touch.setCell _ _ _ _).trans (Touch.setCell _ _ _ _)).trans (Touch.setCell _ _ _ _)).trans (Touch.setCell _ _ _ _)).trans (Touch.setCell _ _ _ _)).trans (Touch.setCell _ _ _ _)).trans (Touch.setCell _ _ _ _)
def ReqCopyP (r:Rq) (w:World) (e:Ending) (w':World):Prop:=∃d l,e=.returned (.agg #[.int .i64 r.id,.int .i64 r.kind,.int .i64 r.addr,.int .i64 r.many,.bool r.wrap,d,l])∧Owns w' w.heap.size 3 1 rowI d r.data∧Owns w' w.heap.size 3 1 rowI l r.lanes∧Apart d l∧Below w.heap.size w w'
set_option maxRecDepth 8000 in
theorem reqCopy_any (v : Value) (r : Rq) (B : Nat) (w : World) (h : ReqV w B v r) (hB : B ≤ w.heap.size) (hl1 : r.data.length ≤ 1048576) (hl2 : r.lanes.length ≤ 1048576) :
  Calls Tryz.prog 138 #[v] w (ReqCopyP r w):=by
 obtain⟨dv,lv,rfl,h1,h2,_⟩:=h;have HD:=hid h1;have HL:=hid h2;have HB:=hid hB;have HL1:=hid hl1;have HL2:=hid hl2;obtain⟨da,dc,rfl,_⟩:=h1.opened;obtain⟨la,lc,rfl,_⟩:=h2.opened;clear h1 h2 hB hl1 hl2
 go_enter Tryz.func138,Tryz.ntmps138
 go_upto_region 1 with fail
 obtain⟨W2,hW2⟩:∃W2,W2=(w.alloc (.cells #[.int .i64 r.id,.int .i64 r.kind,.int .i64 r.addr,.int .i64 r.many,.bool r.wrap,.slice da r.data.length dc,.slice la r.lanes.length lc] 69)).alloc (.cells #[.int .i64 0,.int .i64 0,.int .i64 0,.int .i64 0,.bool false,.slice none 0 0,.slice none 0 0] 69):=⟨_,rfl⟩
 have HB2:=hid (show Below w.heap.size w W2 by rw[hW2];exact(bx1 _ _).alloc (by simp) _);have HS:=hid (show BoxQ W2 w.heap.size r (.slice da r.data.length dc) (.slice la r.lanes.length lc) by rw[hW2];exact(BoxQ.new w r _ _).below (bx1 _ _) (by simp));have HR:=hid (show Bx W2 (w.heap.size+1) [.int .i64 0,.int .i64 0,.int .i64 0,.int .i64 0,.bool false,.slice none 0 0,.slice none 0 0] by rw[hW2];have:=Bx.new (w.alloc (.cells #[.int .i64 r.id,.int .i64 r.kind,.int .i64 r.addr,.int .i64 r.many,.bool r.wrap,.slice da r.data.length dc,.slice la r.lanes.length lc] 69)) #[.int .i64 0,.int .i64 0,.int .i64 0,.int .i64 0,.bool false,.slice none 0 0,.slice none 0 0] 69 (by simp);simpa using this);rw[←hW2];have HZ:=hid (show W2.heap.size=w.heap.size+2 by rw[hW2];simp);clear hW2
 go_cut [] from 3 to 10 (fun wd=>QrP w.heap.size r W2 wd)
 case first=>
  rename_i J K' hJ hK;exact qr_region _ _ _ _ _ _ _ _ _ _ _ w.heap.size B _ _ r W2 (by rw[HZ.out];omega) HB.out HS.out (HD.out.below (HB2.out.mono HB.out)) (HL.out.below (HB2.out.mono HB.out)) HL1.out HL2.out (fun u3 u4 u5 u6 u7 u8 u9 u10 wd h=>hK _ _ (Met.intro (hJ _ _ ⟨u3,u4,u5,u6,u7,u8,u9,u10,h,rfl⟩)))
 case rest=>
  obtain⟨d,l,hbx,od,ol,hap,ht⟩:=hcut;have HBX:=hid hbx;have OD:=hid od;have OL:=hid ol;have AP:=hid hap;have HT:=hid ht;obtain⟨d1,d2,rfl,_,_⟩:=od.shape;obtain⟨l1,l2,rfl,_,_⟩:=ol.shape;have HR2:=hid (HR.out.kept (ht.block _ (by rw[HZ.out];omega) (by omega)));clear hbx od ol hap ht;obtain⟨⟨k0,k1,k2,k3,k4,k5,k6⟩,_⟩:=HBX.out.bx.seven;obtain⟨⟨q0,q1,q2,q3,q4,q5,q6⟩,m0,m1,m2,m3,m4,m5,m6⟩:=HR2.out.seven;have hl1:=HR2.out.lt;have hl0:=HBX.out.lt
  go_wp2_with fail
  refine bodyPost_ret (zA4 Tryz.results138 _ _ ⟨w.heap.size+1,0,none⟩ (.agg #[.int .i64 r.id,.int .i64 r.kind,.int .i64 r.addr,.int .i64 r.many,.bool r.wrap,.slice d1 r.data.length d2,.slice l1 r.lanes.length l2]) rfl (zB1 _ _ _ _ _ _ _ _ _ (by simp[go_sem, *]) (by simp[go_sem, *]) (by simp[go_sem, *]) (by simp[go_sem, *]) (by simp[go_sem, *]) (by simp[go_sem, *]) (by simp[go_sem, *]))) rfl ⟨_,_,rfl,?_,?_,AP.out,?_⟩
  ·have hz:=HZ.out;exact OwnR.rebase (OwnR.kept OD.out (fun k hk=>(touch7 (w.heap.size+1) _ _ _ _ _ _ _ _).block k (OwnR.lt OD.out k hk).2 (by have:=(OwnR.lt OD.out k hk).1;omega))) (show w.heap.size≤W2.heap.size by omega)
  ·have hz:=HZ.out;exact OwnR.rebase (OwnR.kept OL.out (fun k hk=>(touch7 (w.heap.size+1) _ _ _ _ _ _ _ _).block k (OwnR.lt OL.out k hk).2 (by have:=(OwnR.lt OL.out k hk).1;omega))) (show w.heap.size≤W2.heap.size by omega)
  ·have hz:=HZ.out;exact(HB2.out.trans (HT.out.below (Nat.le_refl _) (by omega))).trans ((touch7 (w.heap.size+1) _ _ _ _ _ _ _ _).below (by omega) (by omega))
theorem zG4:Elem 70 69 7 88:=zE8 Tryz.underlying70 (z:=(.agg #[.int .i64 0,.int .i64 0,.int .i64 0,.int .i64 0,.bool false,.slice none 0 0,.slice none 0 0])) (by kernel_rfl) rfl (by omega)
theorem sClone_ReqReq {α : Type} (f : α → List Value) (hf : ∀ x, (f x).length = 7) (h1 : ∀ x, ∀ u ∈ f x, u.oneCell' = true) (v : Value) (ys : List α) (B : Nat) (w : World) (ha : Arr w B 7 v (ys.map f)) (hlen : ys.length * 88 ≤ 140737488355328) :
  Calls Tryz.prog 174 #[v] w (zK4 f 69 7 ys w):=by
 have ha0:=hid ha;obtain⟨ao,cap,rfl,g1,g2,g0,g9,g3⟩:=ha;simp only[List.length_map]at g1 g2 g0 ⊢;clear g3;cases ao with
 |none=>
  obtain rfl:=g9 rfl;have hy:ys=[]:=by
   rcases ys with _|⟨y,ys⟩
   ·rfl
   ·simp at g1
  subst hy;have he:=fun w=>Lib.run_eql_slice_nil (P:=Tryz.prog) w 70 69 none 0 0 0 0 Tryz.underlying70
  go_enter Tryz.func174,Tryz.ntmps174
  go_wp2_with fail
  go_ret
  exact⟨_,rfl,Owns.zero,Below.refl _ _⟩
 |some ad=>
  have he:=fun w=>Lib.run_eql_slice_nil (P:=Tryz.prog) w 70 69 (some ad) ys.length cap 0 0 Tryz.underlying70
  clear g9
  go_enter Tryz.func174,Tryz.ntmps174
  go_wp2_with (at_builtin;go_must (refine zE9 zG4 f hf h1 _ rfl _ _ rfl w.heap.size _ [] (by rfl) (Owns.lit (Nat.le_refl _)) _ ys (min B w.heap.size) (by rfl) (by have:=(ha0.out).fit (by omega) (by intro r hr;obtain⟨y,_,rfl⟩:=List.mem_map.1 hr;exact hf y);simp only[List.length_map]at this;exact this.below ((Below.refl _ _).alloc (Nat.min_le_right _ _) _)) (by simpa using hlen) (by simp;omega) (by simp) ?_);intro v' w1 hown1 hb1 _)
  go_ret
  exact⟨v', rfl,by simpa using hown1,((Below.refl _ _).alloc (Nat.le_refl _) _).trans hb1⟩
theorem sClip_ReqReq (a:Option Addr) (n c:Nat) (w:World) (hc:n≤c) (hm:c≤9223372036854775807):Calls Tryz.prog 173 #[.slice a n c] w fun e w' => e=.returned (.slice a n n)∧w=w':=by
 go_enter Tryz.func173,Tryz.ntmps173
 go_wp2_with fail
 go_ret
 exact⟨rfl,rfl⟩
theorem clone_ReqReq {α : Type} (f : α → List Value) (hf : ∀ x, (f x).length = 7) (h1 : ∀ x, ∀ u ∈ f x, u.oneCell' = true) (v : Value) (ys : List α) (B : Nat) (w : World) (ha : Arr w B 7 v (ys.map f)) (hlen : ys.length * 88 ≤ 140737488355328) :
  Calls Tryz.prog 137 #[v] w (zK4 f 69 7 ys w):=by
 go_enter Tryz.func137,Tryz.ntmps137
 go_wp2_with fail
 refine(sClone_ReqReq f hf h1 v ys B w ha hlen).mono ?_;rintro e w1 ⟨u,rfl,hown,hb⟩;obtain⟨a,c,rfl,hc1,hc2⟩:=hown.shape
 go_wp2_with fail
 refine(sClip_ReqReq a ys.length c _ hc1 hc2).mono ?_;rintro e w2 ⟨rfl,rfl⟩
 go_wp2_with fail
 go_ret
 exact⟨_,rfl,hown.clip,hb⟩
end Go.Proofs.YthnlalffjepdaaaGreat
