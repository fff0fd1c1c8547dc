/- A bus' box; a slice of slices made; rows of what is asked, as they are read. -/
import Derived.Test.YtgkdoehkmbhfiaaGreatGWrd
import Derived.Test.YtgkdoehkmbhfiaaGreatGDr1
import Derived.Test.YtgkdoehkmbhfiaaGreatGDo4
import Derived.Test.YtgkdoehkmbhfiaaGreatGLib
import Derived.Deep.Cut
import Derived.Deep.CutRange
import Derived.Outline
import Derived.BigGuardPart
set_option linter.unusedVariables false
set_option linter.unusedSimpArgs false
set_option maxHeartbeats 16000000
namespace Go.Proofs.YtgkdoehkmbhfiaaGreat
open Go.RowKit
theorem sgy {l:Array Bool} {i j:Nat} (h:i≠j):(l.setIfInBounds i true).getD j false=l.getD j false:=Go.getD_set_ne false h
theorem sgiy {l:Array Bool} {i:Nat} (h:l.getD i true=false):(l.setIfInBounds i true).getD i false=true:=by
 have hlt:i<l.size:=by
  rcases Nat.lt_or_ge i l.size with h1|h1
  ·exact h1
  ·simp[Array.getElem?_eq_none h1]at h
 simp[hlt]
theorem zB3 {P : Program} {ops : Array Oper} {Q : Exit → Act → World → Prop} {i : Nat} {o : Oper} {I : Act → World → Prop} {a : Act} {w : World} (ho : ops[i]? = some o) (hg : o.guard = none)
  (h:∀K:Act→World→Prop,(∀a' w', I a' w' → K a' w')→o.wp P a w K Q):wpOp P ops Q i I a w:=wpOp_wp ho hg (h _ fun _ _ h=>h)
def ClosedY (ops:Array Oper) (listed:Array Bool):Prop:=∀i o,ops[i]? = some o→listed.getD i false=true→∀e∈o.after,Region.binds .any e=true→listed.getD e.on false=true
theorem zJ7 {P : Program} {ops : Array Oper} {Q : Exit → Act → World → Prop} {id : Nat} {a : Act} {w : World} (I : Array Bool → Act → World → Prop) (hm : P.follows .mixedOrders = true) (hb : backB .any ops = true)
  (start:I (Array.replicate ops.size false) a { w with drawn:=w.drawn+1 })
  (step:∀listed a w i o,I listed a w→listed.size=ops.size→ops[i]? = some o→listed.getD i true=false→(∀e∈o.after,Region.binds .any e=true→listed.getD e.on false=true)→ClosedY ops listed→wpOp P ops Q i (fun a' w' => I (listed.setIfInBounds i true) a' w') a w)
  (done:∀listed a w,I listed a w→(∀i,i<ops.size→listed.getD i false=true)→Q .normal a w):(Code.region id ops true).wp P Q a w:=by
 refine zL2 (fun listed a w=>ClosedY ops listed∧I listed a w) hm hb ⟨fun i o _ hl=>?_,start⟩ ?_ (fun listed a w h hd=>done listed a w h.2 hd)
 ·rw[getD_replicate_false]at hl;cases hl
 ·rintro listed a w i o ⟨hc,hI⟩ hs ho hl he;refine wpOp_mono (fun a' w' h' => ⟨?_,h'⟩) (step listed a w i o hI hs ho hl he hc);intro j o' ho' hj e hem heb;have hset:∀k,listed.getD k false=true→(listed.setIfInBounds i true).getD k false=true:=fun k hk=>by
   by_cases hik:i=k
   ·subst hik;exact sgiy hl
   ·rw[sgy hik];exact hk
  by_cases hij:i=j
  ·subst hij;rw[ho]at ho';obtain rfl:=Option.some.inj ho';exact hset _ (he e hem heb)
  ·rw[sgy hij]at hj;exact hset _ (hc j o' ho' hj e hem heb)
theorem cy {l:Array Bool} {i j:Nat} {b:Bool} {P:Prop} (F:l.getD j false=b→P) (h:Nat.beq i j=false):(l.setIfInBounds i true).getD j false=b→P:=fun hj=>F (by rwa [sgy (Nat.ne_of_beq_eq_false h)]at hj)
theorem cyu {l:Array Bool} {i j k:Nat} {P:Prop} (F:l.getD j false=true→l.getD k false=false→P) (h:Nat.beq i j=false) (h2:Nat.beq i k=false):(l.setIfInBounds i true).getD j false=true→(l.setIfInBounds i true).getD k false=false→P :=
 fun hj hk=>F (by rwa [sgy (Nat.ne_of_beq_eq_false h)]at hj) (by rwa [sgy (Nat.ne_of_beq_eq_false h2)]at hk)
end Go.Proofs.YtgkdoehkmbhfiaaGreat
namespace Go.Proofs.YtgkdoehkmbhfiaaGreat
open Go.RowKit
attribute [local go_sem ↓] Go.wp_at_zero Go.wp_at_succ
def zI8 (n : Nat) : Code → Option Code
 | .region id ops d=>if id=n then some (.region id ops d) else none
 | .seq a b => match zI8 n a with
  |some c=>some c
  |none=>zI8 n b
 | .loop c=>zI8 n c
 | .block _ c=>zI8 n c
 | .scope c=>zI8 n c
 | .cond _ a b => match zI8 n a with
  |some c=>some c
  |none=>zI8 n b
 |_=>none
def rpA (i0 i1 i2 i3 i4 i5 i6 i9 i10 i11 i12 i13 i14 i15 i16 i17 i18 i19 i20 i21 i22 i23 i24 i25 i26 i27 i28 i29 i30 i31 i32 i33 i34 i35 i36 i37 i47:Value) (g n:Nat) (u8 u38 u39 u40 u41 u42 u43 u44 u45 u46:Value):Act:={ tmps:=#[i0,i1,i2,i3,i4,i5,i6,.slice (some ⟨g,0,none⟩) 6 6,u8,i9,i10,i11,i12,i13,i14,i15,i16,i17,i18,i19,i20,i21,i22,i23,i24,i25,i26,i27,i28,i29,i30,i31,i32,i33,i34,i35,i36,i37,u38,u39,u40,u41,u42,u43,u44,u45,u46,i47],defers:=[] }
def rpI (i0 i1 i2 i3 i4 i5 i6 i9 i10 i11 i12 i13 i14 i15 i16 i17 i18 i19 i20 i21 i22 i23 i24 i25 i26 i27 i28 i29 i30 i31 i32 i33 i34 i35 i36 i37 i47:Value) (g n:Nat) (x:Int) (w0 wq:World) (listed:Array Bool) (a:Act) (w':World):Prop :=
 ∃ u8 u38 u39 u40 u41 u42 u43 u44 u45 u46 : Value, a = rpA i0 i1 i2 i3 i4 i5 i6 i9 i10 i11 i12 i13 i14 i15 i16 i17 i18 i19 i20 i21 i22 i23 i24 i25 i26 i27 i28 i29 i30 i31 i32 i33 i34 i35 i36 i37 i47 g n u8 u38 u39 u40 u41 u42 u43 u44 u45 u46 ∧
   (listed.getD 0 false=true→u38=.int .i64 (n:Nat)) ∧
   (listed.getD 1 false=true→u39=.slice (some ⟨g,0,none⟩) 6 6) ∧
   (listed.getD 2 false=true→u40=.int .i64 (n:Nat)) ∧
   (listed.getD 3 false=true→u41=.slice (some ⟨g,n,none⟩) (6 - n) (6 - n)) ∧
   (listed.getD 4 false=true→u42=.slice (some ⟨g,0,none⟩) 6 6) ∧
   (listed.getD 5 false=true→u43=.int .i64 (n:Nat)) ∧
   (listed.getD 6 false=true→u44=.slice (some ⟨g,0,none⟩) n 6) ∧
   (listed.getD 7 false=true→u45=.int .i64 ((repM n:Nat):Int)∧w'.heap[g]? = some (.cells (repC x (n+repM n)).toArray 3 (0,0))) ∧
   (listed.getD 8 false=true→u46=.int .i64 ((n+repM n:Nat):Int)) ∧
   (listed.getD 9 false=true→u8=.int .i64 ((n+repM n:Nat):Int)) ∧
   (listed.getD 9 false=false→u8=.int .i64 (n:Nat)) ∧
   (listed.getD 7 false=false→w'.heap[g]? = some (.cells (repC x n).toArray 3 (0,0))) ∧
   Below w0.heap.size w0 w'
noncomputable def rpCode:Code:=(Tryz.f69.body.bind (zI8 9)).getD .skip
set_option maxRecDepth 100000 in
theorem rp_region (i0 i1 i2 i3 i4 i5 i6 i9 i10 i11 i12 i13 i14 i15 i16 i17 i18 i19 i20 i21 i22 i23 i24 i25 i26 i27 i28 i29 i30 i31 i32 i33 i34 i35 i36 i37 i47 j38 j39 j40 j41 j42 j43 j44 j45 j46 : Value) (g n : Nat) (x : Int) (w0 wq : World) (hn : n = 1 ∨ n = 2 ∨ n = 4) (hG : wq.heap[g]? = some (.cells (repC x n).toArray 3 (0, 0))) (hB : Below w0.heap.size w0 wq) (hHg : w0.heap.size ≤ g)
  {Q:Exit→Act→World→Prop}
  (hK:∀(u8 u38 u39 u40 u41 u42 u43 u44 u45 u46:Value) w', u8=.int .i64 ((n+repM n:Nat):Int)∧w'.heap[g]? = some (.cells (repC x (n+repM n)).toArray 3 (0,0))∧Below w0.heap.size w0 w' → Q .normal (rpA i0 i1 i2 i3 i4 i5 i6 i9 i10 i11 i12 i13 i14 i15 i16 i17 i18 i19 i20 i21 i22 i23 i24 i25 i26 i27 i28 i29 i30 i31 i32 i33 i34 i35 i36 i37 i47 g n u8 u38 u39 u40 u41 u42 u43 u44 u45 u46) w'):rpCode.wp Tryz.prog Q (rpA i0 i1 i2 i3 i4 i5 i6 i9 i10 i11 i12 i13 i14 i15 i16 i17 i18 i19 i20 i21 i22 i23 i24 i25 i26 i27 i28 i29 i30 i31 i32 i33 i34 i35 i36 i37 i47 g n (.int .i64 (n:Nat)) j38 j39 j40 j41 j42 j43 j44 j45 j46) wq:=by
 conv=>arg 2;whnf
 refine zG3 (rpI i0 i1 i2 i3 i4 i5 i6 i9 i10 i11 i12 i13 i14 i15 i16 i17 i18 i19 i20 i21 i22 i23 i24 i25 i26 i27 i28 i29 i30 i31 i32 i33 i34 i35 i36 i37 i47 g n x w0 wq) (by kernel_rfl) (by kernel_rfl) ?_ ?_ ?_
 ·exact⟨_,_,_,_,_,_,_,_,_,_,rfl,(fun h=>absurd h (by rw[getD_replicate_false];simp)),(fun h=>absurd h (by rw[getD_replicate_false];simp)),(fun h=>absurd h (by rw[getD_replicate_false];simp)),(fun h=>absurd h (by rw[getD_replicate_false];simp)),(fun h=>absurd h (by rw[getD_replicate_false];simp)),(fun h=>absurd h (by rw[getD_replicate_false];simp)),(fun h=>absurd h (by rw[getD_replicate_false];simp)),(fun h=>absurd h (by rw[getD_replicate_false];simp)),(fun h=>absurd h (by rw[getD_replicate_false];simp)),(fun h=>absurd h (by rw[getD_replicate_false];simp)),(fun _=>rfl),(fun _=>hG),hB.drew⟩
 ·intro listed a w' i o hI hsz ho hl he hcl;have hi:i<10:=(Array.getElem?_eq_some_iff.1 ho).1;have e:i=0∨i=1∨i=2∨i=3∨i=4∨i=5∨i=6∨i=7∨i=8∨i=9:=by omega
  clear hi;rcases e with rfl|rfl|rfl|rfl|rfl|rfl|rfl|rfl|rfl|rfl
  all_goals (have ho2:=ho;obtain rfl:=Option.some.inj ho2.symm;clear ho2)
  ·as_aux_lemma=>
    obtain⟨u8,u38,u39,u40,u41,u42,u43,u44,u45,u46,rfl,F0,F1,F2,F3,F4,F5,F6,F7,F8,F9,N9,N7,hx⟩:=hI
    have e9 : u8 = .int .i64 n := N9 (by
     rcases hq:listed.getD 9 false with _|_
     ·rfl
     ·exact absurd (hcl 9 _ rfl hq ⟨0,.phase⟩ (by simp) rfl) (by rw[getD_both hl];simp))
    subst e9;refine zA3 ho rfl (fun K hK=>?_);unfold rpA;go_simp;exact hK _ _ ⟨_,_,_,_,_,_,_,_,_,_,rfl,fun _=>rfl,cy F1 rfl,cy F2 rfl,cy F3 rfl,cy F4 rfl,cy F5 rfl,cy F6 rfl,cy F7 rfl,cy F8 rfl,cy F9 rfl,cy N9 rfl,cy N7 rfl,hx⟩
  ·as_aux_lemma=>
    obtain⟨u8,u38,u39,u40,u41,u42,u43,u44,u45,u46,rfl,F0,F1,F2,F3,F4,F5,F6,F7,F8,F9,N9,N7,hx⟩:=hI;refine zA3 ho rfl (fun K hK=>?_);unfold rpA;go_simp;exact hK _ _ ⟨_,_,_,_,_,_,_,_,_,_,rfl,cy F0 rfl,fun _=>rfl,cy F2 rfl,cy F3 rfl,cy F4 rfl,cy F5 rfl,cy F6 rfl,cy F7 rfl,cy F8 rfl,cy F9 rfl,cy N9 rfl,cy N7 rfl,hx⟩
  ·as_aux_lemma=>
    obtain⟨u8,u38,u39,u40,u41,u42,u43,u44,u45,u46,rfl,F0,F1,F2,F3,F4,F5,F6,F7,F8,F9,N9,N7,hx⟩:=hI
    have e9 : u8 = .int .i64 n := N9 (by
     rcases hq:listed.getD 9 false with _|_
     ·rfl
     ·exact absurd (hcl 9 _ rfl hq ⟨2,.phase⟩ (by simp) rfl) (by rw[getD_both hl];simp))
    subst e9;refine zA3 ho rfl (fun K hK=>?_);unfold rpA;go_simp;exact hK _ _ ⟨_,_,_,_,_,_,_,_,_,_,rfl,cy F0 rfl,cy F1 rfl,fun _=>rfl,cy F3 rfl,cy F4 rfl,cy F5 rfl,cy F6 rfl,cy F7 rfl,cy F8 rfl,cy F9 rfl,cy N9 rfl,cy N7 rfl,hx⟩
  ·as_aux_lemma=>
    obtain⟨u8,u38,u39,u40,u41,u42,u43,u44,u45,u46,rfl,F0,F1,F2,F3,F4,F5,F6,F7,F8,F9,N9,N7,hx⟩:=hI;have l1:=he ⟨1,.data⟩ (by simp) rfl;have l2:=he ⟨2,.data⟩ (by simp) rfl;have e:=F1 l1;subst e;have e:=F2 l2;subst e;have h1:n≤6:=by omega
    have h2:¬6=n:=by omega
    refine zA3 ho rfl (fun K hK=>?_);unfold rpA;rcases hn with rfl|rfl|rfl
    all_goals
     go_simp;exact hK _ _ ⟨_,_,_,_,_,_,_,_,_,_,rfl,cy F0 rfl,cy F1 rfl,cy F2 rfl,fun _=>rfl,cy F4 rfl,cy F5 rfl,cy F6 rfl,cy F7 rfl,cy F8 rfl,cy F9 rfl,cy N9 rfl,cy N7 rfl,hx⟩
  ·as_aux_lemma=>
    obtain⟨u8,u38,u39,u40,u41,u42,u43,u44,u45,u46,rfl,F0,F1,F2,F3,F4,F5,F6,F7,F8,F9,N9,N7,hx⟩:=hI;refine zA3 ho rfl (fun K hK=>?_);unfold rpA;go_simp;exact hK _ _ ⟨_,_,_,_,_,_,_,_,_,_,rfl,cy F0 rfl,cy F1 rfl,cy F2 rfl,cy F3 rfl,fun _=>rfl,cy F5 rfl,cy F6 rfl,cy F7 rfl,cy F8 rfl,cy F9 rfl,cy N9 rfl,cy N7 rfl,hx⟩
  ·as_aux_lemma=>
    obtain⟨u8,u38,u39,u40,u41,u42,u43,u44,u45,u46,rfl,F0,F1,F2,F3,F4,F5,F6,F7,F8,F9,N9,N7,hx⟩:=hI
    have e9 : u8 = .int .i64 n := N9 (by
     rcases hq:listed.getD 9 false with _|_
     ·rfl
     ·exact absurd (hcl 9 _ rfl hq ⟨5,.phase⟩ (by simp) rfl) (by rw[getD_both hl];simp))
    subst e9;refine zA3 ho rfl (fun K hK=>?_);unfold rpA;go_simp;exact hK _ _ ⟨_,_,_,_,_,_,_,_,_,_,rfl,cy F0 rfl,cy F1 rfl,cy F2 rfl,cy F3 rfl,cy F4 rfl,fun _=>rfl,cy F6 rfl,cy F7 rfl,cy F8 rfl,cy F9 rfl,cy N9 rfl,cy N7 rfl,hx⟩
  ·as_aux_lemma=>
    obtain⟨u8,u38,u39,u40,u41,u42,u43,u44,u45,u46,rfl,F0,F1,F2,F3,F4,F5,F6,F7,F8,F9,N9,N7,hx⟩:=hI;have l4:=he ⟨4,.data⟩ (by simp) rfl;have l5:=he ⟨5,.data⟩ (by simp) rfl;have e:=F4 l4;subst e;have e:=F5 l5;subst e;have h1:n≤6:=by omega
    refine zA3 ho rfl (fun K hK=>?_);unfold rpA;rcases hn with rfl|rfl|rfl
    all_goals
     go_simp;exact hK _ _ ⟨_,_,_,_,_,_,_,_,_,_,rfl,cy F0 rfl,cy F1 rfl,cy F2 rfl,cy F3 rfl,cy F4 rfl,cy F5 rfl,fun _=>rfl,cy F7 rfl,cy F8 rfl,cy F9 rfl,cy N9 rfl,cy N7 rfl,hx⟩
  ·as_aux_lemma=>
    obtain⟨u8,u38,u39,u40,u41,u42,u43,u44,u45,u46,rfl,F0,F1,F2,F3,F4,F5,F6,F7,F8,F9,N9,N7,hx⟩:=hI;have l3:=he ⟨3,.data⟩ (by simp) rfl;have l6:=he ⟨6,.data⟩ (by simp) rfl;have e:=F3 l3;subst e;have e:=F6 l6;subst e;obtain⟨w2,hcp,hg2,ht2⟩:=rep_copy hn (N7 (getD_both hl));have HG2:=hid hg2;have HT2:=hid ht2;clear hg2 ht2;refine zA3 ho rfl (fun K hK=>?_);unfold rpA;go_simp;exact hK _ _ ⟨_,_,_,_,_,_,_,_,_,_,rfl,cy F0 rfl,cy F1 rfl,cy F2 rfl,cy F3 rfl,cy F4 rfl,cy F5 rfl,cy F6 rfl,fun _=>⟨rfl,HG2.out⟩,cy F8 rfl,cy F9 rfl,cy N9 rfl,fun hj=>absurd hj (by rw[sgix hl];simp),hx.trans (HT2.out.below hHg hx.size)⟩
  ·as_aux_lemma=>
    obtain⟨u8,u38,u39,u40,u41,u42,u43,u44,u45,u46,rfl,F0,F1,F2,F3,F4,F5,F6,F7,F8,F9,N9,N7,hx⟩:=hI;have l0:=he ⟨0,.data⟩ (by simp) rfl;have l7:=he ⟨7,.data⟩ (by simp) rfl;have e:=F0 l0;subst e;obtain⟨e,hg7⟩:=F7 l7;subst e;have HG7:=hid hg7;clear hg7;have hm:repM n≤2:=by unfold repM;split <;> omega
    have h1:n≤6:=by omega
    refine zA3 ho rfl (fun K hK=>?_);unfold rpA;go_simp;exact hK _ _ ⟨_,_,_,_,_,_,_,_,_,_,rfl,cy F0 rfl,cy F1 rfl,cy F2 rfl,cy F3 rfl,cy F4 rfl,cy F5 rfl,cy F6 rfl,fun hj=>⟨rfl,HG7.out⟩,fun _=>(by rcases hn with rfl|rfl|rfl <;> rfl),cy F9 rfl,cy N9 rfl,cy N7 rfl,hx⟩
  ·as_aux_lemma=>
    obtain⟨u8,u38,u39,u40,u41,u42,u43,u44,u45,u46,rfl,F0,F1,F2,F3,F4,F5,F6,F7,F8,F9,N9,N7,hx⟩:=hI;have l8:=he ⟨8,.data⟩ (by simp) rfl;have e:=F8 l8;subst e;refine zA3 ho rfl (fun K hK=>?_);unfold rpA;go_simp;exact hK _ _ ⟨_,_,_,_,_,_,_,_,_,_,rfl,cy F0 rfl,cy F1 rfl,cy F2 rfl,cy F3 rfl,cy F4 rfl,cy F5 rfl,cy F6 rfl,cy F7 rfl,cy F8 rfl,fun _=>rfl,fun hj=>absurd hj (by rw[sgix hl];simp),cy N7 rfl,hx⟩
 ·intro listed a w' hI hd;obtain⟨u8,u38,u39,u40,u41,u42,u43,u44,u45,u46,rfl,F0,F1,F2,F3,F4,F5,F6,F7,F8,F9,N9,N7,hx⟩:=hI;obtain⟨e7,hg7⟩:=F7 (hd 7 (by show 7<10;omega));have e9:=F9 (hd 9 (by show 9<10;omega));exact hK _ _ _ _ _ _ _ _ _ _ w' ⟨e9,hg7,hx⟩
set_option maxRecDepth 4000 in
theorem repeat6_any (x : Int) (b o : Nat) (w : World) (hc : w.cell? ⟨b, o, none⟩ = some (.int .i64 x)) :
  Calls Tryz.prog 69 #[.slice (some ⟨b,o,none⟩) 1 1,.int .i64 6] w (RepP x w):=by
 have hbl:b<w.heap.size:=World.block_lt_of_cell? w _ hc
 have HC := hid (show ∀ j v, ([.int .i64 x] : List Value)[j]? = some v → (w.alloc (.cells (madeCells #[.int .i64 0] 6) 3)).cell? ((⟨b, o, none⟩ : Addr).add j) = some v from fun j v hv => by
  have hj:j=0:=by have:=(List.getElem?_eq_some_iff.1 hv).1;simpa using this
  subst hj;simp only[List.getElem?_cons_zero,Option.some.injEq]at hv;subst hv;rw[Addr.add_lit,Nat.add_zero,(bx1 w _).cell (p:=⟨b,o,none⟩) hbl];exact hc)
 have hh := hid (show (w.alloc (.cells (madeCells #[.int .i64 0] 6) 3)).heap[w.heap.size]? = some (.cells (repC x 0).toArray 3 (0, 0)) by
  show(w.heap.push _)[w.heap.size]? = _;rw[Array.getElem?_push_size,show madeCells #[Value.int .i64 0] 6=(repC x 0).toArray by rw[←Array.toList_inj,toList_madeCells_one];rfl])
 have hbx:=hid (bx1 w (.cells (madeCells #[.int .i64 0] 6) 3));clear hc;obtain⟨W2,hW2⟩:∃W2,W2=(w.alloc (.cells (madeCells #[.int .i64 0] 6) 3)).setCells w.heap.size 0 [.int .i64 x]:=⟨_,rfl⟩
 have hcp:∀ty,(Builtin.copy_ #[24,24] ty #[.slice (some ⟨w.heap.size,0,none⟩) 6 6,.slice (some ⟨b,o,none⟩) 1 1]).run Tryz.prog (w.alloc (.cells (madeCells #[.int .i64 0] 6) 3))=.ok (goInt 1) W2:=fun ty=>by
  rw[hW2]
  exact run_copy_cells (P := Tryz.prog) _ 24 24 ty 3 w.heap.size 0 6 6 ⟨b, o, none⟩ 1 1 [.int .i64 x] Tryz.underlying24 infoIs rfl HC.out (fun j hj => by
   obtain rfl:j=0:=by simpa using hj
   simp only[World.cell?,hh.out];simp[repC]) (fun j hj=>by simp only[World.frozen?,hh.out];simp) (one_of (by simp))
 have HG2 := hid (show W2.heap[w.heap.size]? = some (.cells (repC x 1).toArray 3 (0, 0)) by
  rw[hW2];show((w.alloc _).setCell ⟨w.heap.size,0,none⟩ _).heap[w.heap.size]? = _;simp only[World.setCell,Array.getElem?_modify,hh.out]
  rfl)
 have HB2:=hid (show Below w.heap.size w W2 by rw[hW2];exact hbx.out.setCell (p:=⟨w.heap.size,0,none⟩) (Nat.le_refl _) _);clear hW2;obtain⟨i1,hj,jz0,jz1,jz2⟩:=info_parts infoI
 go_enter Tryz.func69,Tryz.ntmps69
 go_wp2_with (first
  |(go_at_call 116;refine(mul16 _).mono ?_;rintro e w' ⟨rfl,rfl⟩)
  |(at_make;go_must (refine wpList_make_row _ rfl _ _ 24 rfl 3 i1 (.int .i64 0) Tryz.underlying24 hj jz0 jz1 rfl _ _ 6 rfl rfl (by rw[jz2];omega) (by omega) ?_))
  |fail)
 clear hh hbx HC hcp
 go_loopw [8] (fun n' wr=>∃n:Nat,(n=1∨n=2∨n=4∨n=6)∧n' = .int .i64 n∧wr.heap[w.heap.size]? = some (.cells (repC x n).toArray 3 (0,0))∧Below w.heap.size w wr) (fun n' _=>6 - (intOf n').toNat)
 case atStart=>exact⟨1,.inl rfl,rfl,HG2.out,HB2.out⟩
 case round=>
  obtain⟨n,hn,rfl,hg,hb⟩:=hrel;have HG:=hid hg;have HB:=hid hb;clear hg hb HG2 HB2;by_cases h6:n=6
  ·subst h6
   go_wp2_with fail
   go_ret
   refine⟨rfl,?_,HB.out⟩;have e:(repC x 6)=(List.replicate 6 x).flatMap rowI:=by simp[repC,rowI,List.replicate]
   have hg:=HG.out;rw[e]at hg;exact⟨by simp[rowI],.inr ⟨w.heap.size,0,6,_,rfl,Nat.le_refl _,hg,by simp,by unfold maxLen;omega,by simp[rowI],fun j hj=>by simp⟩⟩
  ·have hn3:n=1∨n=2∨n=4:=by omega
   have HN:=hid hn3;have hlt:(n:Int)<6:=by omega
   clear hn h6 hn3
   go_upto_region 9 with fail
   refine rp_region _ _ _ _ _ _ _ _ _ _ _ _ _ _ _ _ _ _ _ _ _ _ _ _ _ _ _ _ _ _ _ _ _ _ _ _ _ _ _ _ _ _ _ _ _ _ w.heap.size n x w wr HN.out HG.out HB.out (Nat.le_refl _) ?_;intro u8 u38 u39 u40 u41 u42 u43 u44 u45 u46 w5 h5;obtain⟨rfl,hg,hb⟩:=h5;have HG5:=hid hg;have HB5:=hid hb;clear hg hb;unfold rpA
   go_wp2_with fail
   go_roundw
   case rel=>exact⟨n+repM n,by have:=HN.out;unfold repM;rcases this with rfl|rfl|rfl <;> simp,rfl,HG5.out,HB5.out⟩
   case measure=>
    have:=HN.out;simp only[intOf];unfold repM;rcases this with rfl|rfl|rfl <;> simp
end Go.Proofs.YtgkdoehkmbhfiaaGreat
namespace Go.Proofs.YtgkdoehkmbhfiaaGreat
open Go.RowKit
theorem implMemNew_any (w:World):Calls Tryz.prog 68 #[] w fun e w' => ∃g off c,e=.returned (.agg #[.slice (some ⟨g,off,none⟩) 64 c])∧Owns w' w.heap.size 3 1 rowI (.slice (some ⟨g,off,none⟩) 64 c) (List.replicate 64 0)∧64≤c∧c≤9223372036854775807∧Below w.heap.size w w':=by
 obtain⟨i1,hj,jz0,jz1,jz2⟩:=info_parts infoI
 go_enter Tryz.func68,Tryz.ntmps68
 go_wp2_with (at_make;go_must (refine wpList_make_full _ rfl _ _ 24 rfl (w.heap.size+1) 3 i1 (.int .i64 0) 1 Tryz.underlying24 hj jz0 jz1 _ _ _ _ 64 rfl rfl rfl rfl (by rw[jz2];omega) (by unfold maxLen;omega) (by simp) ?_);intro w1 hown hgrow;have hbx:=(show Below (w.heap.size+1) (w.alloc (.cells #[.slice none 0 0] 32)) w1 from(Below.refl _ _).grown hgrow (by simp) (by simp));have d0:w1.cell? ⟨w.heap.size,0,none⟩=some (.slice none 0 0):=(by rw[hbx.cell (p:=⟨w.heap.size,0,none⟩) (by simp)];simp[go_sem]);have d1:w1.frozen? ⟨w.heap.size,0,none⟩=false:=(by rw[hbx.frozen (p:=⟨w.heap.size,0,none⟩) (by simp)];simp[go_sem]))
 rw[show madeCells (Value.int .i64 0).cells (64 * 1)=madeCells #[.int .i64 0] 64 by rfl,toList_madeCells_one]at hown;have HO:=hid (owns_made hown);simp only[World.size_alloc]at HO;have HB:=hid hbx;clear hown hgrow hbx
 go_wp2_with fail
 refine bodyPost_ret (v:=.agg #[.slice (some ⟨w.heap.size+1,0,none⟩) 64 64]) (by simp[results,Tryz.results68,go_sem,d0]) rfl ⟨_,_,_,rfl,?_,by omega,by omega,?_⟩
 ·exact(HO.out.rebase (by omega)).set' _ _ _ (fun k hk=>by have:=(OwnR.lt HO.out k hk).1;omega)
 ·exact(((Below.refl _ _).alloc (Nat.le_refl _) _).trans (HB.out.mono (by omega))).setCell (by simp) _
def AtmNewW (w:World) (e:Ending) (w':World):Prop :=
 ∃ wa wc g ga go gc, e = .returned (.agg #[.slice (some ⟨g, wa, none⟩) 64 wc, .slice (some ⟨ga, go, none⟩) 6 gc]) ∧ Owns w' w.heap.size 3 1 rowI (.slice (some ⟨g, wa, none⟩) 64 wc) (List.replicate 64 0) ∧ Owns w' w.heap.size 3 1 rowI (.slice (some ⟨ga, go, none⟩) 6 gc) (List.replicate 6 (-1)) ∧
  6≤gc∧gc≤9223372036854775807∧Apart (.slice (some ⟨g,wa,none⟩) 64 wc) (.slice (some ⟨ga,go,none⟩) 6 gc)∧Below w.heap.size w w'
theorem implAtmNewW_any (w:World):Calls Tryz.prog 33 #[] w (AtmNewW w):=by
 go_enter Tryz.func33,Tryz.ntmps33
 go_wp2_with fail
 refine(implMemNew_any _).mono ?_;rintro e w1 ⟨g,off,c,rfl,hown,hc1,hc2,hb⟩;have HB1:=hid ((bx1 w _).trans (hb.mono (by simp)));have HO:=hid hown;have d0:w1.cell? ⟨w.heap.size,0,none⟩=some (.slice none 0 0):=by rw[hb.cell (p:=⟨w.heap.size,0,none⟩) (by simp)];simp[go_sem]
 have d1:w1.cell? ⟨w.heap.size,1,none⟩=some (.slice none 0 0):=by rw[hb.cell (p:=⟨w.heap.size,1,none⟩) (by simp)];simp[go_sem]
 have f0:w1.frozen? ⟨w.heap.size,0,none⟩=false:=by rw[hb.frozen (p:=⟨w.heap.size,0,none⟩) (by simp)];simp[go_sem]
 have f1:w1.frozen? ⟨w.heap.size,1,none⟩=false:=by rw[hb.frozen (p:=⟨w.heap.size,1,none⟩) (by simp)];simp[go_sem]
 have hz1:w.heap.size<w1.heap.size:=World.block_lt_of_cell? w1 _ d0;clear hown hb
 go_wp2_with fail
 refine(repeat6_any (-1) w1.heap.size 0 _ (by simp[go_sem])).mono ?_;rintro e w2 ⟨rfl,ho2,hb2⟩;simp only[World.size_alloc]at ho2 hb2 ⊢;have HB2:=hid ((bx1 w1 _).trans (hb2.mono (by omega)));have HO2:=hid ho2;have e0:w2.cell? ⟨w.heap.size,0,none⟩=some (.slice none 0 0):=by rw[HB2.out.cell (p:=⟨w.heap.size,0,none⟩) hz1];exact d0
 have e1:w2.cell? ⟨w.heap.size,1,none⟩=some (.slice none 0 0):=by rw[HB2.out.cell (p:=⟨w.heap.size,1,none⟩) hz1];exact d1
 have g0:w2.frozen? ⟨w.heap.size,0,none⟩=false:=by rw[HB2.out.frozen (p:=⟨w.heap.size,0,none⟩) hz1];exact f0
 have g1:w2.frozen? ⟨w.heap.size,1,none⟩=false:=by rw[HB2.out.frozen (p:=⟨w.heap.size,1,none⟩) hz1];exact f1
 have hz2:w.heap.size<w2.heap.size:=World.block_lt_of_cell? w2 _ e0;clear ho2 hb2 d0 d1 f0 f1
 go_wp2_with fail
 refine bodyPost_ret (zA5 Tryz.results33 _ _ ⟨w.heap.size,0,none⟩ (.agg #[.slice (some ⟨g,off,none⟩) 64 c,.slice (some ⟨w1.heap.size+1,0,none⟩) 6 6]) rfl (loadVar_atm _ _ _ _ (by simp[go_sem, *]) (by simp[go_sem, *]))) rfl ⟨_,_,_,_,_,_,rfl,?_,?_,by omega,by omega,fun k hk hk2=>?_,?_⟩
 ·have X:=(HO.out.below HB2.out).rebase (show w.heap.size≤_ by simp);have hl:=fun k hk=>(OwnR.lt HO.out k hk).1
  repeat(first|with_reducible exact X|with_reducible refine Owns.set' ?_ _ _ _ (fun j hj=>by have:=hl j hj;simp at this;omega))
 ·have X:=HO2.out.rebase (show w.heap.size≤_ by omega)
  repeat(first|with_reducible exact X|with_reducible refine Owns.set' ?_ _ _ _ (fun j hj=>by simp[Value.ownBlock]at hj;omega))
 ·have h1:=(OwnR.lt HO.out k hk).2;simp only[Value.ownBlock,Option.some.injEq]at hk2;omega
 ·exact((HB1.out.trans (HB2.out.mono (by omega))).setCell (by exact Nat.le_refl _) _).setCell (by exact Nat.le_refl _) _
abbrev vnil:Value:=.slice none 0 0
def rowP (x:Int×Int):List Value:=[.int .i64 x.1,vnil,vnil,.int .i64 x.2]
def rowS (x:Int):List Value:=[vnil,vnil,.int .i64 x]
theorem rowP_len (x:Int×Int):(rowP x).length=4:=rfl
theorem rowS_len (x:Int):(rowS x).length=3:=rfl
theorem rowP_one (x:Int×Int):∀u∈rowP x,u.oneCell' = true:=by
 intro u hu;simp only[rowP,List.mem_cons,List.not_mem_nil,or_false]at hu;rcases hu with rfl|rfl|rfl|rfl <;> rfl
theorem rowS_one (x:Int):∀u∈rowS x,u.oneCell' = true:=by
 intro u hu;simp only[rowS,List.mem_cons,List.not_mem_nil,or_false]at hu;rcases hu with rfl|rfl|rfl <;> rfl
theorem elem_portY:Elem 35 48 4 64:=zF7 Tryz.underlying35 (z:=.agg #[.int .i64 0,.slice none 0 0,.slice none 0 0,.int .i64 0]) (by kernel_rfl) rfl (by omega)
theorem elem_slaveY:Elem 36 94 3 56:=zF7 Tryz.underlying36 (z:=.agg #[.slice none 0 0,.slice none 0 0,.int .i64 0]) (by kernel_rfl) rfl (by omega)
structure CyO (W:World) (lo:Nat) (a b p s:Value) (xs ys:List Int) (ps:List (Int×Int)) (ss:List Int):Prop where
 oa:Owns W lo 3 1 rowI a xs
 ob:Owns W lo 3 1 rowI b ys
 op:Owns W lo 48 4 rowP p ps
 os:Owns W lo 94 3 rowS s ss
 dab:Apart a b
 dap:Apart a p
 das:Apart a s
 dbp:Apart b p
 dbs:Apart b s
 dps:Apart p s
theorem CyO.kept {W W':World} {lo:Nat} {a b p s:Value} {xs ys:List Int} {ps:List (Int×Int)} {ss:List Int} (h:CyO W lo a b p s xs ys ps ss) (hk:∀k,lo≤k→k<W.heap.size→W'.heap[k]? = W.heap[k]?):CyO W' lo a b p s xs ys ps ss :=
  { h with oa := OwnR.kept h.oa fun k hk2 => hk k (OwnR.lt h.oa k hk2).1 (OwnR.lt h.oa k hk2).2
           ob:=OwnR.kept h.ob fun k hk2=>hk k (OwnR.lt h.ob k hk2).1 (OwnR.lt h.ob k hk2).2
           op:=OwnR.kept h.op fun k hk2=>hk k (OwnR.lt h.op k hk2).1 (OwnR.lt h.op k hk2).2
           os:=OwnR.kept h.os fun k hk2=>hk k (OwnR.lt h.os k hk2).1 (OwnR.lt h.os k hk2).2 }
theorem CyO.below {W W':World} {lo:Nat} {a b p s:Value} {xs ys:List Int} {ps:List (Int×Int)} {ss:List Int} (h:CyO W lo a b p s xs ys ps ss) (hb:Below W.heap.size W W'):CyO W' lo a b p s xs ys ps ss:=h.kept fun k _ hk=>hb.block k hk
theorem CyO.rebase {W:World} {lo lo':Nat} {a b p s:Value} {xs ys:List Int} {ps:List (Int×Int)} {ss:List Int} (h:CyO W lo a b p s xs ys ps ss) (hl:lo' ≤ lo):CyO W lo' a b p s xs ys ps ss :=
 { h with oa:=OwnR.rebase h.oa hl,ob:=OwnR.rebase h.ob hl,op:=OwnR.rebase h.op hl,os:=OwnR.rebase h.os hl }
abbrev z64:List Int:=List.replicate 64 0
abbrev z6:List Int:=List.replicate 6 (-1)
abbrev z3:List (Int×Int):=List.replicate 3 (0,3)
abbrev z4:List Int:=List.replicate 4 2
theorem Bx.five {W:World} {H:Nat} {a b c d e:Value} (h:Bx W H [a,b,c,d,e]):(W.cell? ⟨H,0,none⟩=some a∧W.cell? ⟨H,1,none⟩=some b∧W.cell? ⟨H,2,none⟩=some c∧W.cell? ⟨H,3,none⟩=some d∧W.cell? ⟨H,4,none⟩=some e)∧W.frozen? ⟨H,0,none⟩=false∧W.frozen? ⟨H,1,none⟩=false∧W.frozen? ⟨H,2,none⟩=false∧W.frozen? ⟨H,3,none⟩=false∧W.frozen? ⟨H,4,none⟩=false :=
 ⟨⟨h.c 0 (by simp),h.c 1 (by simp),h.c 2 (by simp),h.c 3 (by simp),h.c 4 (by simp)⟩,h.f 0 (by simp),h.f 1 (by simp),h.f 2 (by simp),h.f 3 (by simp),h.f 4 (by simp)⟩
theorem loadVar_cyc (w:World) (g:Nat) (a b c d e:Value) (h0:w.cell? ⟨g,0,none⟩=some a) (h1:w.cell? ⟨g,1,none⟩=some b) (h2:w.cell? ⟨g,2,none⟩=some c) (h3:w.cell? ⟨g,3,none⟩=some d) (h4:w.cell? ⟨g,4,none⟩=some e):(loadVar 39 ⟨g,0,none⟩).run Tryz.prog w=.ok (.agg #[a,b,c,d,e]) w:=by
 simp[loadVar,go_sem,h0,h1,h2,h3,h4]
def BoxC (w:World) (s:Nat) (a b p d t:Value):Prop:=w.heap[s]? = some (.cells #[a,b,p,d,t] 39 (0,0))
theorem BoxC.lt {w:World} {s:Nat} {a b p d t:Value} (h:BoxC w s a b p d t):s<w.heap.size:=heap_lt h
theorem BoxC.keep {w w':World} {s:Nat} {a b p d t:Value} (h:BoxC w s a b p d t) (e:w'.heap[s]? = w.heap[s]?):BoxC w' s a b p d t:=by unfold BoxC at h ⊢;rw[e];exact h
theorem BoxC.touch {w w':World} {s x:Nat} {a b p d t:Value} (h:BoxC w s a b p d t) (ht:Touch x w w') (hx:s≠x):BoxC w' s a b p d t:=h.keep (ht.block s h.lt hx)
theorem BoxC.below {w w':World} {s C:Nat} {a b p d t:Value} (h:BoxC w s a b p d t) (hb:Below C w w') (hx:s<C):BoxC w' s a b p d t:=h.keep (hb.block s hx)
theorem BoxC.bx {w:World} {s:Nat} {a b p d t:Value} (h:BoxC w s a b p d t):Bx w s [a,b,p,d,t]:=by
 unfold BoxC at h;exact⟨fun j hj=>by simp[World.cell?,h],fun j hj=>by simp[World.frozen?,h],by simp⟩
theorem BoxC.put {w:World} {s:Nat} {a b p d t:Value} (h:BoxC w s a b p d t) (a' b' p' d' t':Value):BoxC (((((w.setCell ⟨s,0,none⟩ a').setCell ⟨s,1,none⟩ b').setCell ⟨s,2,none⟩ p').setCell ⟨s,3,none⟩ d').setCell ⟨s,4,none⟩ t') s a' b' p' d' t':=by
 unfold BoxC at h ⊢;simp[World.setCell,Array.getElem?_modify,h]
theorem BoxC.new (w:World) (a b p d t:Value):BoxC (w.alloc (.cells #[a,b,p,d,t] 39)) w.heap.size a b p d t:=by
 show(w.heap.push _)[w.heap.size]? = _;simp
theorem touchC (s:Nat) (w:World) (a b p d t:Value):Touch s w (((((w.setCell ⟨s,0,none⟩ a).setCell ⟨s,1,none⟩ b).setCell ⟨s,2,none⟩ p).setCell ⟨s,3,none⟩ d).setCell ⟨s,4,none⟩ t) :=
 ((((Touch.setCell _ _ _ _).trans (Touch.setCell _ _ _ _)).trans (Touch.setCell _ _ _ _)).trans (Touch.setCell _ _ _ _)).trans (Touch.setCell _ _ _ _)
theorem Owns.boxC {α:Type} {f:α→List Value} {w w':World} {base e sz g:Nat} {v a b p d t:Value} {xs:List α} (h:Owns w base e sz f v xs) (hB:BoxC w g a b p d t) (hT:39≠e) (ht:Touch g w w'):Owns w' base e sz f v xs :=
 OwnR.kept h fun k hk => ht.block k (OwnR.lt h k hk).2 (by
  intro e2;subst e2;obtain⟨_,h2⟩:=h;rcases h2 with⟨rfl,_⟩|⟨g', off,cap,cur,rfl,_,hh,_⟩
  ·simp[Value.ownBlock]at hk
  ·simp[Value.ownBlock]at hk;subst hk;unfold BoxC at hB;rw[hh]at hB;simp only[Option.some.injEq,Obj.cells.injEq]at hB;exact hT hB.2.1.symm)
theorem CyO.heap {W W':World} {lo:Nat} {a b p s:Value} {xs ys:List Int} {ps:List (Int×Int)} {ss:List Int} (h:CyO W lo a b p s xs ys ps ss) (hh:W'.heap=W.heap):CyO W' lo a b p s xs ys ps ss:=h.kept fun k _ _=>by rw[hh]
def BoxQ (w:World) (s:Nat) (r:Rq) (d l:Value):Prop:=w.heap[s]? = some (.cells #[.int .i64 r.id,.int .i64 r.kind,.int .i64 r.addr,.int .i64 r.many,.bool r.wrap,d,l] 52 (0,0))
theorem BoxQ.lt {w:World} {s:Nat} {r:Rq} {d l:Value} (h:BoxQ w s r d l):s<w.heap.size:=heap_lt h
theorem BoxQ.keep {w w':World} {s:Nat} {r:Rq} {d l:Value} (h:BoxQ w s r d l) (e:w'.heap[s]? = w.heap[s]?):BoxQ w' s r d l:=by unfold BoxQ at h ⊢;rw[e];exact h
theorem BoxQ.below {w w':World} {s C:Nat} {r:Rq} {d l:Value} (h:BoxQ w s r d l) (hb:Below C w w') (hx:s<C):BoxQ w' s r d l:=h.keep (hb.block s hx)
theorem BoxQ.bx {w:World} {s:Nat} {r:Rq} {d l:Value} (h:BoxQ w s r d l):Bx w s [.int .i64 r.id,.int .i64 r.kind,.int .i64 r.addr,.int .i64 r.many,.bool r.wrap,d,l]:=by
 unfold BoxQ at h;exact⟨fun j hj=>by simp[World.cell?,h],fun j hj=>by simp[World.frozen?,h],by simp⟩
theorem BoxQ.put5 {w:World} {s:Nat} {r:Rq} {d l:Value} (h:BoxQ w s r d l) (u:Value):BoxQ (w.setCell ⟨s,5,none⟩ u) s r u l:=by
 unfold BoxQ at h ⊢;simp[World.setCell,Array.getElem?_modify,h]
theorem BoxQ.put6 {w:World} {s:Nat} {r:Rq} {d l:Value} (h:BoxQ w s r d l) (u:Value):BoxQ (w.setCell ⟨s,6,none⟩ u) s r d u:=by
 unfold BoxQ at h ⊢;simp[World.setCell,Array.getElem?_modify,h]
theorem BoxQ.new (w:World) (r:Rq) (d l:Value):BoxQ (w.alloc (.cells #[.int .i64 r.id,.int .i64 r.kind,.int .i64 r.addr,.int .i64 r.many,.bool r.wrap,d,l] 52)) w.heap.size r d l:=by
 show(w.heap.push _)[w.heap.size]? = _;simp
end Go.Proofs.YtgkdoehkmbhfiaaGreat
namespace Go.Proofs.YtgkdoehkmbhfiaaGreat
open Go.RowKit
attribute [local go_sem ↓] Go.wp_at_zero Go.wp_at_succ
theorem tab5 (a b c d e:Int) {n:Nat} (h:n<5):∃y:Int,([Value.int .i64 a,.int .i64 b,.int .i64 c,.int .i64 d,.int .i64 e]:List Value)[n]? = some (.int .i64 y)∧(y=a∨y=b∨y=c∨y=d∨y=e):=by
 rcases(show n=0∨n=1∨n=2∨n=3∨n=4 by omega)with rfl|rfl|rfl|rfl|rfl
 ·exact⟨a,rfl,.inl rfl⟩
 ·exact⟨b,rfl,.inr (.inl rfl)⟩
 ·exact⟨c,rfl,.inr (.inr (.inl rfl))⟩
 ·exact⟨d,rfl,.inr (.inr (.inr (.inl rfl)))⟩
 ·exact⟨e,rfl,.inr (.inr (.inr (.inr rfl)))⟩
end Go.Proofs.YtgkdoehkmbhfiaaGreat
namespace Go.Proofs.YtgkdoehkmbhfiaaGreat
open Go.RowKit
def QW (w:World) (g:Nat) (id kind addr many:Int) (wp:Bool) (dv lv:Value):Prop :=
 w.heap[g]? = some (.cells #[.int .i64 id,.int .i64 kind,.int .i64 addr,.int .i64 many,.bool wp,dv,lv] 52 (0,0))
theorem QW.lt {w:World} {g:Nat} {id kind addr many:Int} {wp:Bool} {dv lv:Value} (h:QW w g id kind addr many wp dv lv):g<w.heap.size:=lt_of_heap h
theorem QW.cells {w : World} {g : Nat} {id kind addr many : Int} {wp : Bool} {dv lv : Value} (h : QW w g id kind addr many wp dv lv) :
  w.cell? ⟨g,0,none⟩=some (.int .i64 id)∧w.cell? ⟨g,1,none⟩=some (.int .i64 kind)∧w.cell? ⟨g,2,none⟩=some (.int .i64 addr)∧w.cell? ⟨g,3,none⟩=some (.int .i64 many)∧w.cell? ⟨g,4,none⟩=some (.bool wp)∧w.cell? ⟨g,5,none⟩=some dv∧w.cell? ⟨g,6,none⟩=some lv:=by
 unfold QW at h;refine⟨?_,?_,?_,?_,?_,?_,?_⟩ <;> simp[World.cell?,h]
theorem QW.unfrozen {w : World} {g : Nat} {id kind addr many : Int} {wp : Bool} {dv lv : Value} (h : QW w g id kind addr many wp dv lv) :
  w.frozen? ⟨g,0,none⟩=false∧w.frozen? ⟨g,1,none⟩=false∧w.frozen? ⟨g,2,none⟩=false∧w.frozen? ⟨g,3,none⟩=false∧w.frozen? ⟨g,4,none⟩=false∧w.frozen? ⟨g,5,none⟩=false∧w.frozen? ⟨g,6,none⟩=false:=by
 unfold QW at h;refine⟨?_,?_,?_,?_,?_,?_,?_⟩ <;> simp[World.frozen?,h]
theorem QW.keep {w w':World} {g:Nat} {id kind addr many:Int} {wp:Bool} {dv lv:Value} (h:QW w g id kind addr many wp dv lv) (e:w'.heap[g]? = w.heap[g]?):QW w' g id kind addr many wp dv lv:=by
 unfold QW at h ⊢;rw[e];exact h
theorem QW.touch {w w':World} {r g:Nat} {id kind addr many:Int} {wp:Bool} {dv lv:Value} (h:QW w g id kind addr many wp dv lv) (ht:Touch r w w') (hr:g≠r):QW w' g id kind addr many wp dv lv:=h.keep (ht.block g h.lt hr)
theorem QW.below {w w':World} {C g:Nat} {id kind addr many:Int} {wp:Bool} {dv lv:Value} (h:QW w g id kind addr many wp dv lv) (hb:Below C w w') (hr:g<C):QW w' g id kind addr many wp dv lv:=h.keep (hb.block g hr)
theorem QW.alloc {w:World} {g:Nat} {id kind addr many:Int} {wp:Bool} {dv lv:Value} (h:QW w g id kind addr many wp dv lv) (o:Obj):QW (w.alloc o) g id kind addr many wp dv lv:=h.below ((Below.refl w.heap.size w).alloc (Nat.le_refl _) o) h.lt
theorem QW.drewd {w:World} {g:Nat} {id kind addr many:Int} {wp:Bool} {dv lv:Value} (h:QW w g id kind addr many wp dv lv):QW w.drew g id kind addr many wp dv lv:=h
theorem QW.setc {w:World} {g:Nat} {id kind addr many:Int} {wp:Bool} {dv lv:Value} (h:QW w g id kind addr many wp dv lv) (b o:Nat) (u:Value) (hr:g≠b):QW (w.setCell ⟨b,o,none⟩ u) g id kind addr many wp dv lv:=h.keep (Below.heap_setCell _ _ _ _ hr)
theorem QW.new (w:World) {id kind addr many:Int} {wp:Bool} {dv lv:Value}:QW (w.alloc (.cells #[.int .i64 id,.int .i64 kind,.int .i64 addr,.int .i64 many,.bool wp,dv,lv] 52)) w.heap.size id kind addr many wp dv lv:=by
 show(w.heap.push _)[w.heap.size]? = _;simp
theorem QW.set0 {w:World} {g:Nat} {id kind addr many:Int} {wp:Bool} {dv lv:Value} (h:QW w g id kind addr many wp dv lv) (x:Int):QW (w.setCell ⟨g,0,none⟩ (.int .i64 x)) g x kind addr many wp dv lv:=by
 unfold QW at h ⊢;simp[World.setCell,Array.getElem?_modify,h]
theorem QW.set1 {w:World} {g:Nat} {id kind addr many:Int} {wp:Bool} {dv lv:Value} (h:QW w g id kind addr many wp dv lv) (x:Int):QW (w.setCell ⟨g,1,none⟩ (.int .i64 x)) g id x addr many wp dv lv:=by
 unfold QW at h ⊢;simp[World.setCell,Array.getElem?_modify,h]
theorem QW.set2 {w:World} {g:Nat} {id kind addr many:Int} {wp:Bool} {dv lv:Value} (h:QW w g id kind addr many wp dv lv) (x:Int):QW (w.setCell ⟨g,2,none⟩ (.int .i64 x)) g id kind x many wp dv lv:=by
 unfold QW at h ⊢;simp[World.setCell,Array.getElem?_modify,h]
theorem QW.set3 {w:World} {g:Nat} {id kind addr many:Int} {wp:Bool} {dv lv:Value} (h:QW w g id kind addr many wp dv lv) (x:Int):QW (w.setCell ⟨g,3,none⟩ (.int .i64 x)) g id kind addr x wp dv lv:=by
 unfold QW at h ⊢;simp[World.setCell,Array.getElem?_modify,h]
theorem QW.set4 {w:World} {g:Nat} {id kind addr many:Int} {wp:Bool} {dv lv:Value} (h:QW w g id kind addr many wp dv lv) (x:Bool):QW (w.setCell ⟨g,4,none⟩ (.bool x)) g id kind addr many x dv lv:=by
 unfold QW at h ⊢;simp[World.setCell,Array.getElem?_modify,h]
theorem QW.set5 {w:World} {g:Nat} {id kind addr many:Int} {wp:Bool} {dv lv:Value} (h:QW w g id kind addr many wp dv lv) (x:Value):QW (w.setCell ⟨g,5,none⟩ x) g id kind addr many wp x lv:=by
 unfold QW at h ⊢;simp[World.setCell,Array.getElem?_modify,h]
theorem QW.set6 {w:World} {g:Nat} {id kind addr many:Int} {wp:Bool} {dv lv:Value} (h:QW w g id kind addr many wp dv lv) (x:Value):QW (w.setCell ⟨g,6,none⟩ x) g id kind addr many wp dv x:=by
 unfold QW at h ⊢;simp[World.setCell,Array.getElem?_modify,h]
theorem QW.ofNew {r:Nat} {w w':World} {id kind addr many:Int} {wp:Bool} {dv lv:Value} (ht:Touch r (w.alloc (.cells #[.int .i64 id,.int .i64 kind,.int .i64 addr,.int .i64 many,.bool wp,dv,lv] 52)) w') (hr:r<w.heap.size):QW w' w.heap.size id kind addr many wp dv lv:=(QW.new w).touch ht (by omega)
def TW (w:World) (g:Nat) (xs:Array Value):Prop:=w.heap[g]? = some (.cells xs 3 (0,0))
theorem TW.at_ {w:World} {g:Nat} {xs:Array Value} (h:TW w g xs) (i:Nat) (v:Value) (hv:xs[i]? = some v):w.cell? ⟨g,i,none⟩=some v:=by
 unfold TW at h;simp[World.cell?,h,hv]
theorem TW.touch {w w':World} {r g:Nat} {xs:Array Value} (h:TW w g xs) (ht:Touch r w w') (hr:g≠r):TW w' g xs:=by
 unfold TW at h ⊢;rw[ht.block g (lt_of_heap h) hr];exact h
theorem TW.ofNew {r:Nat} {w w':World} {xs:Array Value} (ht:Touch r (w.alloc (.cells xs 3)) w') (hr:r<w.heap.size):TW w' w.heap.size xs :=
 TW.touch (w:=w.alloc (.cells xs 3)) (by show(w.heap.push _)[w.heap.size]? = _;simp) ht (by omega)
theorem TW.alloc {w:World} {g:Nat} {xs:Array Value} (h:TW w g xs) (o:Obj):TW (w.alloc o) g xs:=by
 have hl:=lt_of_heap h;unfold TW at h ⊢;rw[((Below.refl w.heap.size w).alloc (Nat.le_refl _) o).block g hl];exact h
theorem tab4 (a b c d:Int) {n:Nat} (h:n<4):∃y:Int,([Value.int .i64 a,.int .i64 b,.int .i64 c,.int .i64 d]:List Value)[n]? = some (.int .i64 y)∧(y=a∨y=b∨y=c∨y=d):=by
 rcases(show n=0∨n=1∨n=2∨n=3 by omega)with rfl|rfl|rfl|rfl
 ·exact⟨a,rfl,.inl rfl⟩
 ·exact⟨b,rfl,.inr (.inl rfl)⟩
 ·exact⟨c,rfl,.inr (.inr (.inl rfl))⟩
 ·exact⟨d,rfl,.inr (.inr (.inr rfl))⟩
theorem zB5 (w : World) (g : Nat) (a b c d e f k : Value) (h0 : w.cell? ⟨g, 0, none⟩ = some a) (h1 : w.cell? ⟨g, 1, none⟩ = some b) (h2 : w.cell? ⟨g, 2, none⟩ = some c) (h3 : w.cell? ⟨g, 3, none⟩ = some d) (h4 : w.cell? ⟨g, 4, none⟩ = some e) (h5 : w.cell? ⟨g, 5, none⟩ = some f) (h6 : w.cell? ⟨g, 6, none⟩ = some k) :
  (loadVar 52 ⟨g,0,none⟩).run Tryz.prog w=.ok (.agg #[a,b,c,d,e,f,k]) w:=by
 simp[loadVar,go_sem,h0,h1,h2,h3,h4,h5,h6]
abbrev qz (w:World) (g:Nat):Prop:=QW w g 0 0 0 0 false (.slice none 0 0) (.slice none 0 0)
theorem zI1:Elem 53 52 7 88:=zF7 Tryz.underlying53 (z:=(.agg #[.int .i64 0,.int .i64 0,.int .i64 0,.int .i64 0,.bool false,.slice none 0 0,.slice none 0 0])) (by kernel_rfl) rfl (by omega)
def Progs (w:World) (B:Nat) (v:Value) (pss:List (List Rq)):Prop:=ArrV Reqs w B 1 v pss
theorem Progs.below {w w':World} {B:Nat} {v:Value} {pss:List (List Rq)} (h:Progs w B v pss) (hb:Below B w w'):Progs w' B v pss:=ArrV.below h hb fun _ _ h=>h.below hb
theorem Progs.mono {w:World} {B B':Nat} {v:Value} {pss:List (List Rq)} (h:Progs w B v pss) (hb:B≤B'):Progs w B' v pss:=ArrV.mono h hb fun _ _ h=>h.mono hb
theorem Progs.opened {w : World} {B : Nat} {v : Value} {pss : List (List Rq)} (h : Progs w B v pss) :
  ∃ ao cap, v = .slice ao pss.length cap ∧ pss.length ≤ cap ∧ cap ≤ 9223372036854775807 ∧ pss.length ≤ 140737488351232 ∧ (ao = none → cap = 0) ∧
   (pss.length≠0→∃b off,ao=some ⟨b,off,none⟩∧b<B∧∀t,t<pss.length→∃da dc,Reqs w B (.slice da (pss.getD t []).length dc) (pss.getD t [])∧w.cell? ⟨b,off+t,none⟩=some (.slice da (pss.getD t []).length dc)):=by
 obtain⟨ao,cap,rfl,h1,h2,h0,h9⟩:=ArrV.shape h;refine⟨ao,cap,rfl,h1,h2,h0,h9,fun hn=>?_⟩;obtain⟨b,off,ha,hlt,hc⟩:=ArrV.at h hn;refine⟨b,off,ha,hlt,fun t ht=>?_⟩;obtain⟨u,hu,hcell⟩:=hc t ht;have hu':=hu [];obtain⟨da,dc,rfl,_⟩:=Reqs.opened hu';refine⟨da,dc,hu', ?_⟩;have:=hcell 0 (by omega);simpa[Value.cells]using this
def BusI (w:World) (B:Nat) (v:Value) (ms:List MR) (lat:List Int) (pss:List (List Rq)):Prop:=∃mv lv pv,v=.agg #[mv,lv,pv]∧Maps w B mv ms∧Ints w B lv lat∧Progs w B pv pss
theorem BusI.below {w w':World} {B:Nat} {v:Value} {ms:List MR} {lat:List Int} {pss:List (List Rq)} (h:BusI w B v ms lat pss) (hb:Below B w w'):BusI w' B v ms lat pss:=by
 obtain⟨mv,lv,pv,e,h1,h2,h3⟩:=h;exact⟨mv,lv,pv,e,h1.below hb,h2.below hb,h3.below hb⟩
theorem BusI.mono {w:World} {B B':Nat} {v:Value} {ms:List MR} {lat:List Int} {pss:List (List Rq)} (h:BusI w B v ms lat pss) (hb:B≤B'):BusI w B' v ms lat pss:=by
 obtain⟨mv,lv,pv,e,h1,h2,h3⟩:=h;exact⟨mv,lv,pv,e,h1.mono hb,h2.mono hb,h3.mono hb⟩
def progOk (p:List Rq):Bool:=decide (p.length≤12)&&p.all reqOk
def busOk (ms:List MR) (lat:List Int) (pss:List (List Rq)):Bool:=mapOk ms&&decide (lat.length=4)&&lat.all (inB · 0 3)&&decide (pss.length=3)&&pss.all progOk
def IdxPP (p:List Rq→Bool) (rs:List (List Rq)) (w:World) (e:Ending) (w':World):Prop:=e=.returned (.int .i64 (idxP p rs))∧Below w.heap.size w w'
def HasPP (p:List Rq→Bool) (rs:List (List Rq)) (w:World) (e:Ending) (w':World):Prop:=e=.returned (.bool (rs.any p))∧Below w.heap.size w w'
theorem idxProg_any (K : FuncId) (cap : Array Value) (hK : zE1 K) (p : List Rq → Bool) (v : Value) (rs : List (List Rq)) (B : Nat) (w : World) (hv : Progs w B v rs) (hB : B ≤ w.heap.size)
  (hf:∀(r:List Rq) (u:Value) (w1:World),Below w.heap.size w w1→Reqs w1 B u r→Calls Tryz.prog K (#[u]++cap) w1 fun e w' => e=.returned (.bool (p r))∧Below w1.heap.size w1 w') :
  Calls Tryz.prog 151 #[v,.func (.func K) #[] cap] w (IdxPP p rs w):=by
 obtain⟨ao,cap', rfl,hlc,hcap,hln,hni,hr⟩:=hv.opened;have HF:=hid hf;clear hf hv;have hK2:=fun args w=>hK args w
 go_enter Tryz.func151,Tryz.ntmps151
 go_wp2_with fail
 go_loopw [8] (fun i wr=>∃k:Nat,k≤rs.length∧i=.int .i64 k∧Below w.heap.size w wr∧∀j,j<k→p (rs.getD j [])=false) (fun i _=>rs.length - (intOf i).toNat)
 case atStart=>exact⟨0,Nat.zero_le _,rfl,Below.refl _ _,by simp⟩
 case round=>
  obtain⟨k,hk,rfl,hbl,hno⟩:=hrel;have HN:=hid hno;clear hno;by_cases hlt:k<rs.length
  ·obtain⟨b,off,rfl,hb,hc⟩:=hr (by omega);obtain⟨da,dc,hu,c0⟩:=hc k hlt;obtain⟨x,hx⟩:∃x,x=rs.getD k []:=⟨_,rfl⟩
   rw[←hx]at c0 hu;rw[←hbl.cell (p:=⟨b,_,none⟩) (Nat.lt_of_lt_of_le hb hB)]at c0;have HX:=hid hx;have HU:=hid (hu.below (hbl.mono hB));clear hx hc hr hu
   go_wp2_with fail
   refine(HF.out x _ _ hbl HU.out).mono ?_;rintro e w' ⟨rfl,hb'⟩;have hsz:=hbl.size;have HB:=hid (hbl.trans (hb'.mono hsz));clear hbl;rcases hp:p x with _|_
   ·have HQ:=hid (zJ5 HN.out (show p (rs.getD k [])=false by rw[←HX.out];exact hp))
    go_wp2_with fail
    go_roundw
    case rel=>exact⟨k+1,by omega,by go_num,HB.out,HQ.out⟩
    case measure=>simp[intOf];omega
   ·have HQ:=hid (zL9 p rs k [] hlt (by rw[←HX.out];exact hp) HN.out)
    go_wp2_with fail
    go_ret
    exact⟨by rw[HQ.out];rfl,HB.out⟩
  ·have HF2:=hid (zK4 p rs [] (fun j hj=>HN.out j (by omega)))
   go_wp2_with fail
   go_ret
   exact⟨by rw[HF2.out];rfl,hbl⟩
theorem hasProg_any (K : FuncId) (cap : Array Value) (hK : zE1 K) (p : List Rq → Bool) (v : Value) (rs : List (List Rq)) (B : Nat) (w : World) (hv : Progs w B v rs) (hB : B ≤ w.heap.size)
  (hf:∀(r:List Rq) (u:Value) (w1:World),Below w.heap.size w w1→Reqs w1 B u r→Calls Tryz.prog K (#[u]++cap) w1 fun e w' => e=.returned (.bool (p r))∧Below w1.heap.size w1 w') :
  Calls Tryz.prog 102 #[v,.func (.func K) #[] cap] w (HasPP p rs w):=by
 have HA:=hid (idxP_any p rs)
 go_enter Tryz.func102,Tryz.ntmps102
 go_wp2_with fail
 refine(idxProg_any K cap hK p v rs B _ hv hB hf).mono ?_;rintro e w' ⟨rfl,hb⟩
 go_wp2_with fail
 go_ret
 exact⟨by rw[←HA.out];rfl,hb⟩
theorem busLat_any (x:Int) (w:World):Calls Tryz.prog 101 #[.int .i64 x] w fun e w' => e=.returned (.bool (!inB x 0 3))∧w=w':=by
 rcases h:inB x 0 3 with _|_
 all_goals
  go_enter Tryz.func101,Tryz.ntmps101
  go_wp2_with (go_at_call 63;refine(zF4 _ _ _ _).mono ?_;rw[h];rintro e w' ⟨rfl,rfl⟩)
  go_ret
  exact⟨rfl,rfl⟩
theorem busReq_any (r : Rq) (u : Value) (B : Nat) (w : World) (hu : ReqV w B u r) (hB : B ≤ w.heap.size) :
  Calls Tryz.prog 104 #[u] w fun e w' => e=.returned (.bool (!reqOk r))∧Below w.heap.size w w':=by
 have HU:=hid hu;obtain⟨dv,lv,rfl,k1,k2,_⟩:=hu;obtain⟨da,dc,rfl,_⟩:=k1.opened;obtain⟨la,lc,rfl,_⟩:=k2.opened;rcases h:reqOk r with _|_
 all_goals
  have HR:=hid h;clear h
  go_enter Tryz.func104,Tryz.ntmps104
  go_wp2_with (first|(go_at_call 48;go_loud ((with_reducible refine(implReqOk_any _ r B _ (HU.out.below ((Below.refl _ _).alloc hB _)) (by simp;omega)).mono ?_);rw[HR.out];rintro e w1 ⟨rfl,hb1⟩)))
  go_ret
  exact⟨rfl,((Below.refl _ _).alloc (Nat.le_refl _) _).trans (hb1.mono (by simp))⟩
theorem all_not_any {α:Type} (p:α→Bool) (xs:List α):xs.any (fun x=>!p x)=!xs.all p:=by induction xs <;> simp_all [Bool.not_and]
theorem busProg_any (p : List Rq) (u : Value) (B : Nat) (w : World) (hu : Reqs w B u p) (hB : B ≤ w.heap.size) :
  Calls Tryz.prog 103 #[u] w fun e w' => e=.returned (.bool (!progOk p))∧Below w.heap.size w w':=by
 have HU:=hid hu;obtain⟨ao,cap,rfl,hlc,hcap,hln,hni,hr⟩:=hu.opened;clear hr hu;have HE:=hid (all_not_any reqOk p);by_cases h12:(12:Int)<(p.length:Int)
 ·have hd:progOk p=false:=by unfold progOk;rw[decide_eq_false (by omega)];rfl
  rw[hd]
  go_enter Tryz.func103,Tryz.ntmps103
  go_wp2_with fail
  go_ret
  exact⟨rfl,Below.refl _ _⟩
 ·have hd:progOk p=p.all reqOk:=by unfold progOk;rw[decide_eq_true (by omega)];rfl
  have h12':decide ((12:Int)<(p.length:Int))=false:=decide_eq_false h12;rw[hd];rcases hq:p.all reqOk with _|_
  all_goals
   rw[hq]at HE
   go_enter Tryz.func103,Tryz.ntmps103
   go_wp2_with (first
    |(go_at_call 77;refine(hasReq_any 104 _ (zB6 Tryz.func104 (by kernel_rfl) (by kernel_rfl)) (fun r=>!reqOk r) _ p B _ HU.out hB (fun r u' w1 hb hu' => by simpa using busReq_any r u' B w1 hu' (Nat.le_trans hB hb.size))).mono ?_;unfold HasRP;rw[HE.out];rintro e w1 ⟨rfl,hb1⟩))
   go_ret
   exact⟨rfl,hb1⟩
theorem busOk_cases (ms : List MR) (lat : List Int) (pss : List (List Rq)) :
  (busOk ms lat pss=false∧mapOk ms=false)∨(busOk ms lat pss=false∧mapOk ms=true∧¬lat.length=4)∨(busOk ms lat pss=false∧mapOk ms=true∧lat.length=4∧lat.all (inB · 0 3)=false) ∨
  (busOk ms lat pss=false∧mapOk ms=true∧lat.length=4∧lat.all (inB · 0 3)=true∧¬pss.length=3)∨(∃y,busOk ms lat pss=y∧pss.all progOk=y∧mapOk ms=true∧lat.length=4∧lat.all (inB · 0 3)=true∧pss.length=3):=by
 unfold busOk;by_cases h2:lat.length=4 <;> by_cases h4:pss.length=3 <;> rcases h1:mapOk ms with _|_ <;> rcases h3:lat.all (inB · 0 3)with _|_ <;> simp_all
set_option maxRecDepth 4000 in
theorem implBusOk_any (v : Value) (ms : List MR) (lat : List Int) (pss : List (List Rq)) (B : Nat) (w : World) (h : BusI w B v ms lat pss) (hB : B ≤ w.heap.size) :
  Calls Tryz.prog 50 #[v] w fun e w' => e=.returned (.bool (busOk ms lat pss))∧Below w.heap.size w w':=by
 obtain⟨mv,lv,pv,rfl,hm,hl,hp⟩:=h;have HM:=hid hm;have HL:=hid hl;have HP:=hid hp;obtain⟨ma,mc,rfl,_⟩:=hm.opened;obtain⟨la,lc,rfl,_⟩:=hl.opened;obtain⟨pa,pc,rfl,_⟩:=hp.opened;clear hm hl hp;have HS:=hid (fun T=>show Bx (w.alloc (.cells #[.slice ma ms.length mc,.slice la lat.length lc,.slice pa pss.length pc] T)) w.heap.size [.slice ma ms.length mc,.slice la lat.length lc,.slice pa pss.length pc] from Bx.new w #[.slice ma ms.length mc,.slice la lat.length lc,.slice pa pss.length pc] T (by simp));have HB:=hid (bx1 w);have HL2:=hid (all_not_any (inB · 0 3) lat);have HP2:=hid (all_not_any progOk pss);rcases busOk_cases ms lat pss with⟨hy,h1⟩|⟨hy,h1,h2⟩|⟨hy,h1,h2,h3⟩|⟨hy,h1,h2,h3,h4⟩|⟨y,hy,h5,h1,h2,h3,h4⟩
 case inr.inr.inr.inr=>
  rcases y with _|_
  all_goals
   rw[hy];rw[h3]at HL2;rw[h5]at HP2;have q2:((lat.length:Int)==4)=true:=by simp;omega
   have q4:((pss.length:Int)==3)=true:=by simp;omega
   have H1:=hid h1;clear h1 h2 h3 h4 h5 hy
   go_enter Tryz.func50,Tryz.ntmps50
   go_wp2_with (first
    |(go_at_call 47;refine(zD5 _ ms B _ (HM.out.below ((HB.out _).mono hB)) (Nat.le_trans hB (HB.out _).size)).mono ?_;rw[H1.out];rintro e w1 ⟨rfl,hb⟩;have HS1:=hid ((HS.out _).below hb (by simp));obtain⟨⟨c0,c1,c2⟩,_⟩:=HS1.out.three;have HB1:=hid ((HB.out _).trans (hb.mono (by simp)));clear hb)
    |(go_at_call 98;refine(zG0 101 #[] (zB6 Tryz.func101 (by kernel_rfl) (by kernel_rfl)) (fun n=>!inB n 0 3) _ lat B _ (HL.out.below (HB1.out.mono hB)) (fun x _=>by simpa using busLat_any x _)).mono ?_;rw[HL2.out];rintro e w2 ⟨rfl,hw⟩;subst hw)
    |(go_at_call 102;refine(hasProg_any 103 #[] (zB6 Tryz.func103 (by kernel_rfl) (by kernel_rfl)) (fun p=>!progOk p) _ pss B _ (HP.out.below (HB1.out.mono hB)) (Nat.le_trans hB HB1.out.size) (fun r u' w1 hb hu' => by simpa using busProg_any r u' B w1 hu' (Nat.le_trans (Nat.le_trans hB HB1.out.size) hb.size))).mono ?_;unfold HasPP;rw[HP2.out];rintro e w2 ⟨rfl,hb⟩;have HB2:=hid (HB1.out.trans (hb.mono HB1.out.size));clear hb))
   go_ret
   exact⟨rfl,HB2.out⟩
 case inl=>
  rw[hy];have H1:=hid h1;clear h1 hy
  go_enter Tryz.func50,Tryz.ntmps50
  go_wp2_with (first
   |(go_at_call 47;refine(zD5 _ ms B _ (HM.out.below ((HB.out _).mono hB)) (Nat.le_trans hB (HB.out _).size)).mono ?_;rw[H1.out];rintro e w1 ⟨rfl,hb⟩;have HS1:=hid ((HS.out _).below hb (by simp));obtain⟨⟨c0,c1,c2⟩,_⟩:=HS1.out.three;have HB1:=hid ((HB.out _).trans (hb.mono (by simp)));clear hb))
  go_ret
  exact⟨rfl,HB1.out⟩
 case inr.inl=>
  rw[hy];have H1:=hid h1;have q2:((lat.length:Int)==4)=false:=by simp;omega
  clear h1 h2 hy
  go_enter Tryz.func50,Tryz.ntmps50
  go_wp2_with (first
   |(go_at_call 47;refine(zD5 _ ms B _ (HM.out.below ((HB.out _).mono hB)) (Nat.le_trans hB (HB.out _).size)).mono ?_;rw[H1.out];rintro e w1 ⟨rfl,hb⟩;have HS1:=hid ((HS.out _).below hb (by simp));obtain⟨⟨c0,c1,c2⟩,_⟩:=HS1.out.three;have HB1:=hid ((HB.out _).trans (hb.mono (by simp)));clear hb))
  go_ret
  exact⟨rfl,HB1.out⟩
 case inr.inr.inl=>
  rw[hy];have H1:=hid h1;rw[h3]at HL2;have q2:((lat.length:Int)==4)=true:=by simp;omega
  clear h1 h2 h3 hy
  go_enter Tryz.func50,Tryz.ntmps50
  go_wp2_with (first
   |(go_at_call 47;refine(zD5 _ ms B _ (HM.out.below ((HB.out _).mono hB)) (Nat.le_trans hB (HB.out _).size)).mono ?_;rw[H1.out];rintro e w1 ⟨rfl,hb⟩;have HS1:=hid ((HS.out _).below hb (by simp));obtain⟨⟨c0,c1,c2⟩,_⟩:=HS1.out.three;have HB1:=hid ((HB.out _).trans (hb.mono (by simp)));clear hb)
   |(go_at_call 98;refine(zG0 101 #[] (zB6 Tryz.func101 (by kernel_rfl) (by kernel_rfl)) (fun n=>!inB n 0 3) _ lat B _ (HL.out.below (HB1.out.mono hB)) (fun x _=>by simpa using busLat_any x _)).mono ?_;rw[HL2.out];rintro e w2 ⟨rfl,hw⟩;subst hw))
  go_ret
  exact⟨rfl,HB1.out⟩
 case inr.inr.inr.inl=>
  rw[hy];have H1:=hid h1;rw[h3]at HL2;have q2:((lat.length:Int)==4)=true:=by simp;omega
  have q4:((pss.length:Int)==3)=false:=by simp;omega
  clear h1 h2 h3 h4 hy
  go_enter Tryz.func50,Tryz.ntmps50
  go_wp2_with (first
   |(go_at_call 47;refine(zD5 _ ms B _ (HM.out.below ((HB.out _).mono hB)) (Nat.le_trans hB (HB.out _).size)).mono ?_;rw[H1.out];rintro e w1 ⟨rfl,hb⟩;have HS1:=hid ((HS.out _).below hb (by simp));obtain⟨⟨c0,c1,c2⟩,_⟩:=HS1.out.three;have HB1:=hid ((HB.out _).trans (hb.mono (by simp)));clear hb)
   |(go_at_call 98;refine(zG0 101 #[] (zB6 Tryz.func101 (by kernel_rfl) (by kernel_rfl)) (fun n=>!inB n 0 3) _ lat B _ (HL.out.below (HB1.out.mono hB)) (fun x _=>by simpa using busLat_any x _)).mono ?_;rw[HL2.out];rintro e w2 ⟨rfl,hw⟩;subst hw))
  go_ret
  exact⟨rfl,HB1.out⟩
def row1 (u:Value):List Value:=[u]
theorem row1_len (u:Value):(row1 u).length=1:=rfl
theorem infoPQ:(Tryz.prog.info? 53).map (fun i=>(i.zero,i.size,i.bytes))=some (some (.slice none 0 0),1,24):=by kernel_rfl
def BoxB (w:World) (s:Nat) (a b p:Value):Prop:=w.heap[s]? = some (.cells #[a,b,p] 27 (0,0))
theorem BoxB.lt {w:World} {s:Nat} {a b p:Value} (h:BoxB w s a b p):s<w.heap.size:=heap_lt h
theorem BoxB.keep {w w':World} {s:Nat} {a b p:Value} (h:BoxB w s a b p) (e:w'.heap[s]? = w.heap[s]?):BoxB w' s a b p:=by unfold BoxB at h ⊢;rw[e];exact h
theorem BoxB.touch {w w':World} {s x:Nat} {a b p:Value} (h:BoxB w s a b p) (ht:Touch x w w') (hx:s≠x):BoxB w' s a b p:=h.keep (ht.block s h.lt hx)
theorem BoxB.below {w w':World} {s C:Nat} {a b p:Value} (h:BoxB w s a b p) (hb:Below C w w') (hx:s<C):BoxB w' s a b p:=h.keep (hb.block s hx)
theorem BoxB.bx {w:World} {s:Nat} {a b p:Value} (h:BoxB w s a b p):Bx w s [a,b,p]:=by
 unfold BoxB at h;exact⟨fun j hj=>by simp[World.cell?,h],fun j hj=>by simp[World.frozen?,h],by simp⟩
theorem BoxB.put {w:World} {s:Nat} {a b p:Value} (h:BoxB w s a b p) (a' b' p':Value):BoxB (((w.setCell ⟨s,0,none⟩ a').setCell ⟨s,1,none⟩ b').setCell ⟨s,2,none⟩ p') s a' b' p':=by
 unfold BoxB at h ⊢;simp[World.setCell,Array.getElem?_modify,h]
theorem BoxB.new (w:World) (a b p:Value):BoxB (w.alloc (.cells #[a,b,p] 27)) w.heap.size a b p:=by
 show(w.heap.push _)[w.heap.size]? = _;simp
theorem Owns.notB {α:Type} {f:α→List Value} {w:World} {base e sz g T:Nat} {v:Value} {xs:List α} {cs:Array Value} (h:Owns w base e sz f v xs) (hg:w.heap[g]? = some (.cells cs T (0,0))) (hT:T≠e):v.ownBlock≠some g:=by
 intro hk;obtain⟨_,h2⟩:=h;rcases h2 with⟨rfl,_⟩|⟨g', off,cap,cur,rfl,_,hh,_⟩
 ·simp[Value.ownBlock]at hk
 ·simp[Value.ownBlock]at hk;subst hk;rw[hh]at hg;simp only[Option.some.injEq,Obj.cells.injEq]at hg;exact hT hg.2.1.symm
theorem Owns.apartT {α β:Type} {f:α→List Value} {f2:β→List Value} {w:World} {base base2 e e2 sz sz2:Nat} {v u:Value} {xs:List α} {ys:List β} (h:Owns w base e sz f v xs) (h2:Owns w base2 e2 sz2 f2 u ys) (hT:e≠e2):Apart v u:=by
 intro k hk;obtain⟨_,h3⟩:=h;rcases h3 with⟨rfl,_⟩|⟨g', off,cap,cur,rfl,_,hh,_⟩
 ·simp[Value.ownBlock]at hk
 ·simp[Value.ownBlock]at hk;subst hk;exact h2.notB hh hT
abbrev SlV:=Option Addr×Nat×Nat
def slv (s:SlV):Value:=.slice s.1 s.2.1 s.2.2
abbrev RqS:=Rq×SlV×SlV
def rowS7 (y:RqS):List Value:=rowQ (y.1,slv y.2.1,slv y.2.2)
def toV (y:RqS):RqV:=(y.1,slv y.2.1,slv y.2.2)
theorem flat_toV (ys:List RqS):ys.flatMap rowS7=(ys.map toV).flatMap rowQ:=by rw[List.flatMap_map];rfl
theorem Owns.toV {w:World} {base e:Nat} {v:Value} {ys:List RqS} (h:Owns w base e 7 rowS7 v ys):Owns w base e 7 rowQ v (ys.map toV):=by
 unfold Owns at h ⊢;rw[List.length_map,←flat_toV];exact h
end Go.Proofs.YtgkdoehkmbhfiaaGreat
