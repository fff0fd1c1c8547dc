/- BusCfg.copyOf. -/
import Derived.Test.YtgkdoehkmbhfiaaGreatRQr
import Derived.Test.YtgkdoehkmbhfiaaGreatRLib
import Derived.Test.YtgkdoehkmbhfiaaGreatRY1
set_option linter.unusedVariables false
set_option linter.unusedSimpArgs false
set_option maxHeartbeats 16000000
namespace Go.Proofs.YtgkdoehkmbhfiaaGreat
open Go.RowKit
theorem QcO.keptB {w w':World} {lo hi g o c n:Nat} {qs:List Rq} {vs:List (Value×Value)} {rest:List RqV} (h:QcO w lo g o c n qs vs rest) (hh:QsB hi g qs.length vs) (hk:∀k,lo≤k→k<hi→k<w.heap.size→w'.heap[k]? = w.heap[k]?):QcO w' lo g o c n qs vs rest :=
  { h with rows := OwnR.kept h.rows fun k hk2 => hk k (OwnR.lt h.rows k hk2).1 (by have := hh.g; simp only [Value.ownBlock, Option.some.injEq] at hk2; omega) (OwnR.lt h.rows k hk2).2
           d:=fun j hj=>OwnR.kept (h.d j hj) fun k hk2=>hk k (OwnR.lt (h.d j hj) k hk2).1 (hh.d j hj k hk2) (OwnR.lt (h.d j hj) k hk2).2
           l:=fun j hj=>OwnR.kept (h.l j hj) fun k hk2=>hk k (OwnR.lt (h.l j hj) k hk2).1 (hh.l j hj k hk2) (OwnR.lt (h.l j hj) k hk2).2 }
def PgO (w:World) (lo hi:Nat) (u:Value) (qs:List Rq):Prop :=
 (u=vnil∧qs=[])∨∃g o c vs,u=.slice (some ⟨g,o,none⟩) qs.length c∧qs.length≤c∧c≤9223372036854775807∧QcO w lo g o c qs.length qs vs []∧QsB hi g qs.length vs
theorem PgO.nil (w:World) (lo hi:Nat):PgO w lo hi vnil []:=.inl ⟨rfl,rfl⟩
theorem PgO.kept {w w':World} {lo hi:Nat} {u:Value} {qs:List Rq} (h:PgO w lo hi u qs) (hk:∀k,lo≤k→k<hi→k<w.heap.size→w'.heap[k]? = w.heap[k]?):PgO w' lo hi u qs:=by
 rcases h with h|⟨g,o,c,vs,e,h1,h2,h3,h4⟩
 ·exact .inl h
 ·exact .inr ⟨g,o,c,vs,e,h1,h2,h3.keptB h4 hk,h4⟩
theorem PgO.shape {w:World} {lo hi:Nat} {u:Value} {qs:List Rq} (h:PgO w lo hi u qs):∃a c,u=.slice a qs.length c∧qs.length≤c∧c≤9223372036854775807:=by
 rcases h with⟨rfl,rfl⟩|⟨g,o,c,vs,e,h1,h2,_⟩
 ·exact⟨none,0,rfl,Nat.le_refl _,by omega⟩
 ·exact⟨_,c,e,h1,h2⟩
def RqFit (q:Rq):Prop:=Rq20 q∧(∀y∈q.data,I64 y)∧(∀y∈q.lanes,I64 y)∧I64 q.id∧I64 q.kind∧I64 q.addr∧I64 q.many
theorem PgO.reqs {w:World} {lo hi:Nat} {u:Value} {qs:List Rq} (h:PgO w lo hi u qs) (hn:qs.length≤1048576) (hq:∀q∈qs,RqFit q):Reqs w w.heap.size u qs:=by
 rcases h with⟨rfl,rfl⟩|⟨g,o,c,vs,e,h1,h2,h3,h4⟩
 ·exact ArrV.nil _ _ _ _
 ·rw[e];exact h3.reqs hn hq
structure PsO (w:World) (lo pb n:Nat) (us:List Value) (pss:List (List Rq)) (L:Nat→Nat):Prop where
 outer:Owns w lo 53 1 row1 (.slice (some ⟨pb,0,none⟩) n n) us
 len:us.length=n
 le:pss.length≤n
 pg:∀j,j<pss.length→PgO w (L j) (L (j+1)) (us.getD j vnil) (pss.getD j [])
 nil:∀j,pss.length≤j→j<n→us.getD j vnil=vnil
 mono:∀j,j<pss.length→L j≤L (j+1)
 pbl:pb<L 0
 top:L pss.length≤w.heap.size
theorem PsO.le0 {w:World} {lo pb n:Nat} {us:List Value} {pss:List (List Rq)} {L:Nat→Nat} (h:PsO w lo pb n us pss L):∀j,j≤pss.length→L 0≤L j:=by
 intro j
 induction j with
 |zero=>intro _;exact Nat.le_refl _
 |succ j ih=>intro hj;exact Nat.le_trans (ih (by omega)) (h.mono j (by omega))
theorem PsO.pb {w:World} {lo pb n:Nat} {us:List Value} {pss:List (List Rq)} {L:Nat→Nat} (h:PsO w lo pb n us pss L):lo≤pb∧pb<w.heap.size:=OwnR.lt h.outer pb rfl
theorem PsO.kept {w w':World} {lo pb n:Nat} {us:List Value} {pss:List (List Rq)} {L:Nat→Nat} (h:PsO w lo pb n us pss L) (hk:∀k,lo≤k→k<w.heap.size→w'.heap[k]? = w.heap[k]?) (hs:w.heap.size≤w'.heap.size):PsO w' lo pb n us pss L :=
  { h with outer := OwnR.kept h.outer fun k hk2 => hk k (OwnR.lt h.outer k hk2).1 (OwnR.lt h.outer k hk2).2
           pg:=fun j hj=>(h.pg j hj).kept fun k h1 _ h3=>hk k (by have:=h.le0 j (by omega);have:=h.pbl;have:=h.pb.1;omega) h3
           top:=Nat.le_trans h.top hs }
theorem PsO.below {w w':World} {lo pb n:Nat} {us:List Value} {pss:List (List Rq)} {L:Nat→Nat} (h:PsO w lo pb n us pss L) (hb:Below w.heap.size w w'):PsO w' lo pb n us pss L:=h.kept (fun k _ hk=>hb.block k hk) hb.size
theorem PsO.rebase {w:World} {lo lo' pb n:Nat} {us:List Value} {pss:List (List Rq)} {L:Nat→Nat} (h:PsO w lo pb n us pss L) (hl:lo' ≤ lo):PsO w lo' pb n us pss L:={ h with outer:=OwnR.rebase h.outer hl }
theorem PsO.progs {w:World} {lo pb n:Nat} {us:List Value} {pss:List (List Rq)} {L:Nat→Nat} (h:PsO w lo pb n us pss L) (hn:pss.length=n) (h20:n≤1048576) (hq:∀p∈pss,p.length≤1048576∧∀q∈p,RqFit q):Progs w w.heap.size (.slice (some ⟨pb,0,none⟩) n n) pss:=by
 refine⟨us,?_,by rw[h.len,hn],fun k hk d=>?_⟩
 ·have e:us.map (fun u=>u.cells.toList)=us.map row1:=by
   apply List.map_congr_left;intro u hu;obtain⟨i,hi,rfl⟩:=List.mem_iff_getElem.1 hu;have hi2:i<pss.length:=by have:=h.len;omega
   obtain⟨a,c,e,_⟩:=(h.pg i hi2).shape;have e2:us.getD i vnil=us[i]:=by simp[List.getD,hi]
   rw[e2]at e;rw[e];rfl
  rw[e];exact h.outer.arr zE4 (by rw[h.len];omega)
 ·have hk2:k<us.length:=by have:=h.len;omega
  obtain⟨q1,q2⟩:=hq _ (zB8 (d:=[]) hk);have:=(h.pg k hk).reqs q1 q2;rw[show us.getD k undef=us.getD k vnil by simp[List.getD,hk2],show pss.getD k d=pss.getD k [] by simp[List.getD,hk]];exact this
end Go.Proofs.YtgkdoehkmbhfiaaGreat
namespace Go.Proofs.YtgkdoehkmbhfiaaGreat
open Go.RowKit
attribute [local go_sem ↓] Go.wp_at_zero Go.wp_at_succ
def qb1A (i0 i2 i4 i5 i6 i7 i19 i20 i21 i22 i23 i24 i25 i26 i27 i28 i29 i30 i31 i32 i33 i34 i35 i36 i37 i38 i39 i40 i41 i42 i43 i44 i45 i46 i47 i48 i49 i50 i51:Value) (gS:Nat) (u3 u8 u9 u10 u11 u12 u13 u14 u15 u16 u17 u18:Value):Act:={ tmps:=#[i0,.pointer (some ⟨gS,0,none⟩),i2,u3,i4,i5,i6,i7,u8,u9,u10,u11,u12,u13,u14,u15,u16,u17,u18,i19,i20,i21,i22,i23,i24,i25,i26,i27,i28,i29,i30,i31,i32,i33,i34,i35,i36,i37,i38,i39,i40,i41,i42,i43,i44,i45,i46,i47,i48,i49,i50,i51],defers:=[] }
def qb1I (i0 i2 i4 i5 i6 i7 i19 i20 i21 i22 i23 i24 i25 i26 i27 i28 i29 i30 i31 i32 i33 i34 i35 i36 i37 i38 i39 i40 i41 i42 i43 i44 i45 i46 i47 i48 i49 i50 i51:Value) (gS:Nat) (vm:Value) (vl:Value) (pa:Option Addr) (n:Nat) (pc:Nat) (ms:List MR) (lat:List Int) (wq:World) (listed:Array Bool) (a:Act) (w':World):Prop :=
 ∃ u3 u8 u9 u10 u11 u12 u13 u14 u15 u16 u17 u18 : Value, a = qb1A i0 i2 i4 i5 i6 i7 i19 i20 i21 i22 i23 i24 i25 i26 i27 i28 i29 i30 i31 i32 i33 i34 i35 i36 i37 i38 i39 i40 i41 i42 i43 i44 i45 i46 i47 i48 i49 i50 i51 gS u3 u8 u9 u10 u11 u12 u13 u14 u15 u16 u17 u18 ∧
   (listed.getD 0 false=true→u8=.pointer (some ⟨gS,0,none⟩)) ∧
   (listed.getD 1 false=true→u9=vm) ∧
   (listed.getD 2 false=true→Owns w' wq.heap.size 144 4 rowM u10 ms) ∧
   (listed.getD 3 false=true→u11=.pointer (some ⟨gS,1,none⟩)) ∧
   (listed.getD 4 false=true→u12=vl) ∧
   (listed.getD 5 false=true→Owns w' wq.heap.size 3 1 rowI u13 lat) ∧
   (listed.getD 6 false=true→u14=.pointer (some ⟨gS,2,none⟩)) ∧
   (listed.getD 7 false=true→u15=.slice pa n pc) ∧
   (listed.getD 8 false=true→u16=.int .i64 (n:Nat)) ∧
   (listed.getD 9 false=true→∃pb,u17=.slice (some ⟨pb,0,none⟩) n n∧Owns w' wq.heap.size 53 1 row1 (.slice (some ⟨pb,0,none⟩) n n) (List.replicate n vnil)) ∧
   (listed.getD 10 false=true→u18=.agg #[u10,u13,u17]) ∧
   (listed.getD 11 false=true→listed.getD 12 false=false→∃g,u3=.pointer (some ⟨g,0,none⟩)∧wq.heap.size≤g∧BoxB w' g vnil vnil vnil) ∧
   (listed.getD 12 false=true→∃g,u3=.pointer (some ⟨g,0,none⟩)∧wq.heap.size≤g∧BoxB w' g u10 u13 u17) ∧
   Below wq.heap.size wq w'
noncomputable def qb1Code:Code:=(Tryz.f57.body.bind (zG2 1)).getD .skip
def QbP (u:Value) (n:Nat) (ms:List MR) (lat:List Int) (wq w':World):Prop:=∃g a b pb,u=.pointer (some ⟨g,0,none⟩)∧wq.heap.size≤g∧BoxB w' g a b (.slice (some ⟨pb,0,none⟩) n n)∧Owns w' wq.heap.size 144 4 rowM a ms∧Owns w' wq.heap.size 3 1 rowI b lat∧Owns w' wq.heap.size 53 1 row1 (.slice (some ⟨pb,0,none⟩) n n) (List.replicate n vnil)∧Below wq.heap.size wq w'
set_option maxRecDepth 100000 in
theorem qb1_region (i0 i2 i4 i5 i6 i7 i19 i20 i21 i22 i23 i24 i25 i26 i27 i28 i29 i30 i31 i32 i33 i34 i35 i36 i37 i38 i39 i40 i41 i42 i43 i44 i45 i46 i47 i48 i49 i50 i51 j3 j8 j9 j10 j11 j12 j13 j14 j15 j16 j17 j18 : Value) (gS : Nat) (vm : Value) (vl : Value) (pa : Option Addr) (n : Nat) (pc : Nat) (ms : List MR) (lat : List Int) (wq : World)
  (hS:Bx wq gS [vm,vl,.slice pa n pc]) (hM:Arr wq wq.heap.size 4 vm (ms.map rowM)) (hL:Arr wq wq.heap.size 1 vl (lat.map rowI)) (hl1:ms.length≤1048576) (hl2:lat.length≤1048576) (hl3:n≤1048576)
  {Q:Exit→Act→World→Prop}
  (hK:∀(u3 u8 u9 u10 u11 u12 u13 u14 u15 u16 u17 u18:Value) w', QbP u3 n ms lat wq w' → Q .normal (qb1A i0 i2 i4 i5 i6 i7 i19 i20 i21 i22 i23 i24 i25 i26 i27 i28 i29 i30 i31 i32 i33 i34 i35 i36 i37 i38 i39 i40 i41 i42 i43 i44 i45 i46 i47 i48 i49 i50 i51 gS u3 u8 u9 u10 u11 u12 u13 u14 u15 u16 u17 u18) w'):qb1Code.wp Tryz.prog Q (qb1A i0 i2 i4 i5 i6 i7 i19 i20 i21 i22 i23 i24 i25 i26 i27 i28 i29 i30 i31 i32 i33 i34 i35 i36 i37 i38 i39 i40 i41 i42 i43 i44 i45 i46 i47 i48 i49 i50 i51 gS j3 j8 j9 j10 j11 j12 j13 j14 j15 j16 j17 j18) wq:=by
 conv=>arg 2;whnf
 refine zE8 (qb1I i0 i2 i4 i5 i6 i7 i19 i20 i21 i22 i23 i24 i25 i26 i27 i28 i29 i30 i31 i32 i33 i34 i35 i36 i37 i38 i39 i40 i41 i42 i43 i44 i45 i46 i47 i48 i49 i50 i51 gS vm vl pa n pc ms lat wq) (by kernel_rfl) (by kernel_rfl) ?_ ?_ ?_
 ·exact⟨_,_,_,_,_,_,_,_,_,_,_,_,rfl,(fun h=>absurd h (by rw[getD_replicate_false];simp)),(fun h=>absurd h (by rw[getD_replicate_false];simp)),(fun h=>absurd h (by rw[getD_replicate_false];simp)),(fun h=>absurd h (by rw[getD_replicate_false];simp)),(fun h=>absurd h (by rw[getD_replicate_false];simp)),(fun h=>absurd h (by rw[getD_replicate_false];simp)),(fun h=>absurd h (by rw[getD_replicate_false];simp)),(fun h=>absurd h (by rw[getD_replicate_false];simp)),(fun h=>absurd h (by rw[getD_replicate_false];simp)),(fun h=>absurd h (by rw[getD_replicate_false];simp)),(fun h=>absurd h (by rw[getD_replicate_false];simp)),(fun h _=>absurd h (by rw[getD_replicate_false];simp)),(fun h=>absurd h (by rw[getD_replicate_false];simp)),(Below.refl _ _).drew⟩
 ·intro listed a w' i o hI hsz ho hl he hcl;have hi:i<13:=(Array.getElem?_eq_some_iff.1 ho).1;have e:i=0∨i=1∨i=2∨i=3∨i=4∨i=5∨i=6∨i=7∨i=8∨i=9∨i=10∨i=11∨i=12:=by omega
  clear hi;rcases e with rfl|rfl|rfl|rfl|rfl|rfl|rfl|rfl|rfl|rfl|rfl|rfl|rfl
  all_goals (have ho2:=ho;obtain rfl:=Option.some.inj ho2.symm;clear ho2)
  ·as_aux_lemma=>
    obtain⟨u3,u8,u9,u10,u11,u12,u13,u14,u15,u16,u17,u18,rfl,F0,F1,F2,F3,F4,F5,F6,F7,F8,F9,F10,F11,F12,hx⟩:=hI;refine zA2 ho rfl (fun K hK=>?_);unfold qb1A;go_simp;exact hK _ _ ⟨_,_,_,_,_,_,_,_,_,_,_,_,rfl,fun _=>rfl,fun hj=>(by first|exact(F1 (by rwa [sgx (by decide)]at hj))|rfl),fun hj=>(F2 (by rwa [sgx (by decide)]at hj)),fun hj=>(by first|exact(F3 (by rwa [sgx (by decide)]at hj))|rfl),fun hj=>(by first|exact(F4 (by rwa [sgx (by decide)]at hj))|rfl),fun hj=>(F5 (by rwa [sgx (by decide)]at hj)),fun hj=>(by first|exact(F6 (by rwa [sgx (by decide)]at hj))|rfl),fun hj=>(by first|exact(F7 (by rwa [sgx (by decide)]at hj))|rfl),fun hj=>(by first|exact(F8 (by rwa [sgx (by decide)]at hj))|rfl),fun hj=>(F9 (by rwa [sgx (by decide)]at hj)),fun hj=>(F10 (by rwa [sgx (by decide)]at hj)),fun hj hu=>(F11 (by rwa [sgx (by decide)]at hj) (by rwa [sgx (by decide)]at hu)),fun hj=>(F12 (by rwa [sgx (by decide)]at hj)),hx⟩
  ·as_aux_lemma=>
    obtain⟨u3,u8,u9,u10,u11,u12,u13,u14,u15,u16,u17,u18,rfl,F0,F1,F2,F3,F4,F5,F6,F7,F8,F9,F10,F11,F12,hx⟩:=hI;have l0:=he ⟨0,.data⟩ (by simp) rfl;have e:=F0 l0;subst e;obtain⟨⟨c0,c1,c2⟩,_⟩:=(hS.below hx hS.lt).three;refine zA2 ho rfl (fun K hK=>?_);unfold qb1A;go_simp;exact hK _ _ ⟨_,_,_,_,_,_,_,_,_,_,_,_,rfl,fun hj=>(by first|exact(F0 (by rwa [sgx (by decide)]at hj))|rfl),fun _=>rfl,fun hj=>(F2 (by rwa [sgx (by decide)]at hj)),fun hj=>(by first|exact(F3 (by rwa [sgx (by decide)]at hj))|rfl),fun hj=>(by first|exact(F4 (by rwa [sgx (by decide)]at hj))|rfl),fun hj=>(F5 (by rwa [sgx (by decide)]at hj)),fun hj=>(by first|exact(F6 (by rwa [sgx (by decide)]at hj))|rfl),fun hj=>(by first|exact(F7 (by rwa [sgx (by decide)]at hj))|rfl),fun hj=>(by first|exact(F8 (by rwa [sgx (by decide)]at hj))|rfl),fun hj=>(F9 (by rwa [sgx (by decide)]at hj)),fun hj=>(F10 (by rwa [sgx (by decide)]at hj)),fun hj hu=>(F11 (by rwa [sgx (by decide)]at hj) (by rwa [sgx (by decide)]at hu)),fun hj=>(F12 (by rwa [sgx (by decide)]at hj)),hx⟩
  ·as_aux_lemma=>
    obtain⟨u3,u8,u9,u10,u11,u12,u13,u14,u15,u16,u17,u18,rfl,F0,F1,F2,F3,F4,F5,F6,F7,F8,F9,F10,F11,F12,hx⟩:=hI;have l1:=he ⟨1,.data⟩ (by simp) rfl;have e:=F1 l1;subst e;refine zA2 ho rfl (fun K hK=>?_);unfold qb1A;go_simp
    (with_reducible refine(clone_MapRange rowM rowM_len rowM_one _ ms w'.heap.size w' ((hM.below hx).mono hx.size) (by omega)).mono ?_)
    rintro e w'' ⟨q,rfl,o1,hb1⟩
    go_wp2_with fail
    exact⟨_,_,_,_,_,_,_,_,_,_,_,_,rfl,fun hj=>(by first|exact(F0 (by rwa [sgx (by decide)]at hj))|rfl),fun hj=>(by first|exact(F1 (by rwa [sgx (by decide)]at hj))|rfl),fun _=>o1.rebase hx.size,fun hj=>(by first|exact(F3 (by rwa [sgx (by decide)]at hj))|rfl),fun hj=>(by first|exact(F4 (by rwa [sgx (by decide)]at hj))|rfl),fun hj=>absurd (hcl 5 _ rfl (by rwa [sgx (by decide)]at hj) ⟨2,.chain⟩ (by simp) rfl) (by rw[getD_both hl];simp),fun hj=>(by first|exact(F6 (by rwa [sgx (by decide)]at hj))|rfl),fun hj=>(by first|exact(F7 (by rwa [sgx (by decide)]at hj))|rfl),fun hj=>(by first|exact(F8 (by rwa [sgx (by decide)]at hj))|rfl),fun hj=>(let ⟨pb,e,o⟩:=(F9 (by rwa [sgx (by decide)]at hj));⟨pb,e,OwnR.below o hb1 (fun k hk=>(OwnR.lt o k hk).2)⟩),fun hj=>absurd (hcl 10 _ rfl (by rwa [sgx (by decide)]at hj) ⟨2,.data⟩ (by simp) rfl) (by rw[getD_both hl];simp),fun hj hu=>(let ⟨g,e1,e2,e3⟩:=(F11 (by rwa [sgx (by decide)]at hj) (by rwa [sgx (by decide)]at hu));⟨g,e1,e2,e3.below hb1 e3.lt⟩),fun hj=>absurd (hcl 12 _ rfl (by rwa [sgx (by decide)]at hj) ⟨2,.phase⟩ (by simp) rfl) (by rw[getD_both hl];simp),hx.trans (hb1.mono hx.size)⟩
  ·as_aux_lemma=>
    obtain⟨u3,u8,u9,u10,u11,u12,u13,u14,u15,u16,u17,u18,rfl,F0,F1,F2,F3,F4,F5,F6,F7,F8,F9,F10,F11,F12,hx⟩:=hI;refine zA2 ho rfl (fun K hK=>?_);unfold qb1A;go_simp;exact hK _ _ ⟨_,_,_,_,_,_,_,_,_,_,_,_,rfl,fun hj=>(by first|exact(F0 (by rwa [sgx (by decide)]at hj))|rfl),fun hj=>(by first|exact(F1 (by rwa [sgx (by decide)]at hj))|rfl),fun hj=>(F2 (by rwa [sgx (by decide)]at hj)),fun _=>rfl,fun hj=>(by first|exact(F4 (by rwa [sgx (by decide)]at hj))|rfl),fun hj=>(F5 (by rwa [sgx (by decide)]at hj)),fun hj=>(by first|exact(F6 (by rwa [sgx (by decide)]at hj))|rfl),fun hj=>(by first|exact(F7 (by rwa [sgx (by decide)]at hj))|rfl),fun hj=>(by first|exact(F8 (by rwa [sgx (by decide)]at hj))|rfl),fun hj=>(F9 (by rwa [sgx (by decide)]at hj)),fun hj=>(F10 (by rwa [sgx (by decide)]at hj)),fun hj hu=>(F11 (by rwa [sgx (by decide)]at hj) (by rwa [sgx (by decide)]at hu)),fun hj=>(F12 (by rwa [sgx (by decide)]at hj)),hx⟩
  ·as_aux_lemma=>
    obtain⟨u3,u8,u9,u10,u11,u12,u13,u14,u15,u16,u17,u18,rfl,F0,F1,F2,F3,F4,F5,F6,F7,F8,F9,F10,F11,F12,hx⟩:=hI;have l3:=he ⟨3,.data⟩ (by simp) rfl;have e:=F3 l3;subst e;obtain⟨⟨c0,c1,c2⟩,_⟩:=(hS.below hx hS.lt).three;refine zA2 ho rfl (fun K hK=>?_);unfold qb1A;go_simp;exact hK _ _ ⟨_,_,_,_,_,_,_,_,_,_,_,_,rfl,fun hj=>(by first|exact(F0 (by rwa [sgx (by decide)]at hj))|rfl),fun hj=>(by first|exact(F1 (by rwa [sgx (by decide)]at hj))|rfl),fun hj=>(F2 (by rwa [sgx (by decide)]at hj)),fun hj=>(by first|exact(F3 (by rwa [sgx (by decide)]at hj))|rfl),fun _=>rfl,fun hj=>(F5 (by rwa [sgx (by decide)]at hj)),fun hj=>(by first|exact(F6 (by rwa [sgx (by decide)]at hj))|rfl),fun hj=>(by first|exact(F7 (by rwa [sgx (by decide)]at hj))|rfl),fun hj=>(by first|exact(F8 (by rwa [sgx (by decide)]at hj))|rfl),fun hj=>(F9 (by rwa [sgx (by decide)]at hj)),fun hj=>(F10 (by rwa [sgx (by decide)]at hj)),fun hj hu=>(F11 (by rwa [sgx (by decide)]at hj) (by rwa [sgx (by decide)]at hu)),fun hj=>(F12 (by rwa [sgx (by decide)]at hj)),hx⟩
  ·as_aux_lemma=>
    obtain⟨u3,u8,u9,u10,u11,u12,u13,u14,u15,u16,u17,u18,rfl,F0,F1,F2,F3,F4,F5,F6,F7,F8,F9,F10,F11,F12,hx⟩:=hI;have l4:=he ⟨4,.data⟩ (by simp) rfl;have e:=F4 l4;subst e;refine zA2 ho rfl (fun K hK=>?_);unfold qb1A;go_simp
    (with_reducible refine(zH8 rowI zE9 zI2 _ lat w'.heap.size w' ((hL.below hx).mono hx.size) (by omega)).mono ?_)
    rintro e w'' ⟨q,rfl,o1,hb1⟩
    go_wp2_with fail
    exact⟨_,_,_,_,_,_,_,_,_,_,_,_,rfl,fun hj=>(by first|exact(F0 (by rwa [sgx (by decide)]at hj))|rfl),fun hj=>(by first|exact(F1 (by rwa [sgx (by decide)]at hj))|rfl),fun hj=>OwnR.below (F2 (by rwa [sgx (by decide)]at hj)) hb1 (fun k hk=>(OwnR.lt (F2 (by rwa [sgx (by decide)]at hj)) k hk).2),fun hj=>(by first|exact(F3 (by rwa [sgx (by decide)]at hj))|rfl),fun hj=>(by first|exact(F4 (by rwa [sgx (by decide)]at hj))|rfl),fun _=>o1.rebase hx.size,fun hj=>(by first|exact(F6 (by rwa [sgx (by decide)]at hj))|rfl),fun hj=>(by first|exact(F7 (by rwa [sgx (by decide)]at hj))|rfl),fun hj=>(by first|exact(F8 (by rwa [sgx (by decide)]at hj))|rfl),fun hj=>(let ⟨pb,e,o⟩:=(F9 (by rwa [sgx (by decide)]at hj));⟨pb,e,OwnR.below o hb1 (fun k hk=>(OwnR.lt o k hk).2)⟩),fun hj=>absurd (hcl 10 _ rfl (by rwa [sgx (by decide)]at hj) ⟨5,.data⟩ (by simp) rfl) (by rw[getD_both hl];simp),fun hj hu=>(let ⟨g,e1,e2,e3⟩:=(F11 (by rwa [sgx (by decide)]at hj) (by rwa [sgx (by decide)]at hu));⟨g,e1,e2,e3.below hb1 e3.lt⟩),fun hj=>absurd (hcl 12 _ rfl (by rwa [sgx (by decide)]at hj) ⟨5,.phase⟩ (by simp) rfl) (by rw[getD_both hl];simp),hx.trans (hb1.mono hx.size)⟩
  ·as_aux_lemma=>
    obtain⟨u3,u8,u9,u10,u11,u12,u13,u14,u15,u16,u17,u18,rfl,F0,F1,F2,F3,F4,F5,F6,F7,F8,F9,F10,F11,F12,hx⟩:=hI;refine zA2 ho rfl (fun K hK=>?_);unfold qb1A;go_simp;exact hK _ _ ⟨_,_,_,_,_,_,_,_,_,_,_,_,rfl,fun hj=>(by first|exact(F0 (by rwa [sgx (by decide)]at hj))|rfl),fun hj=>(by first|exact(F1 (by rwa [sgx (by decide)]at hj))|rfl),fun hj=>(F2 (by rwa [sgx (by decide)]at hj)),fun hj=>(by first|exact(F3 (by rwa [sgx (by decide)]at hj))|rfl),fun hj=>(by first|exact(F4 (by rwa [sgx (by decide)]at hj))|rfl),fun hj=>(F5 (by rwa [sgx (by decide)]at hj)),fun _=>rfl,fun hj=>(by first|exact(F7 (by rwa [sgx (by decide)]at hj))|rfl),fun hj=>(by first|exact(F8 (by rwa [sgx (by decide)]at hj))|rfl),fun hj=>(F9 (by rwa [sgx (by decide)]at hj)),fun hj=>(F10 (by rwa [sgx (by decide)]at hj)),fun hj hu=>(F11 (by rwa [sgx (by decide)]at hj) (by rwa [sgx (by decide)]at hu)),fun hj=>(F12 (by rwa [sgx (by decide)]at hj)),hx⟩
  ·as_aux_lemma=>
    obtain⟨u3,u8,u9,u10,u11,u12,u13,u14,u15,u16,u17,u18,rfl,F0,F1,F2,F3,F4,F5,F6,F7,F8,F9,F10,F11,F12,hx⟩:=hI;have l6:=he ⟨6,.data⟩ (by simp) rfl;have e:=F6 l6;subst e;obtain⟨⟨c0,c1,c2⟩,_⟩:=(hS.below hx hS.lt).three;refine zA2 ho rfl (fun K hK=>?_);unfold qb1A;go_simp;exact hK _ _ ⟨_,_,_,_,_,_,_,_,_,_,_,_,rfl,fun hj=>(by first|exact(F0 (by rwa [sgx (by decide)]at hj))|rfl),fun hj=>(by first|exact(F1 (by rwa [sgx (by decide)]at hj))|rfl),fun hj=>(F2 (by rwa [sgx (by decide)]at hj)),fun hj=>(by first|exact(F3 (by rwa [sgx (by decide)]at hj))|rfl),fun hj=>(by first|exact(F4 (by rwa [sgx (by decide)]at hj))|rfl),fun hj=>(F5 (by rwa [sgx (by decide)]at hj)),fun hj=>(by first|exact(F6 (by rwa [sgx (by decide)]at hj))|rfl),fun _=>rfl,fun hj=>(by first|exact(F8 (by rwa [sgx (by decide)]at hj))|rfl),fun hj=>(F9 (by rwa [sgx (by decide)]at hj)),fun hj=>(F10 (by rwa [sgx (by decide)]at hj)),fun hj hu=>(F11 (by rwa [sgx (by decide)]at hj) (by rwa [sgx (by decide)]at hu)),fun hj=>(F12 (by rwa [sgx (by decide)]at hj)),hx⟩
  ·as_aux_lemma=>
    obtain⟨u3,u8,u9,u10,u11,u12,u13,u14,u15,u16,u17,u18,rfl,F0,F1,F2,F3,F4,F5,F6,F7,F8,F9,F10,F11,F12,hx⟩:=hI;have l7:=he ⟨7,.data⟩ (by simp) rfl;have e:=F7 l7;subst e;refine zA2 ho rfl (fun K hK=>?_);unfold qb1A;go_simp;exact hK _ _ ⟨_,_,_,_,_,_,_,_,_,_,_,_,rfl,fun hj=>(by first|exact(F0 (by rwa [sgx (by decide)]at hj))|rfl),fun hj=>(by first|exact(F1 (by rwa [sgx (by decide)]at hj))|rfl),fun hj=>(F2 (by rwa [sgx (by decide)]at hj)),fun hj=>(by first|exact(F3 (by rwa [sgx (by decide)]at hj))|rfl),fun hj=>(by first|exact(F4 (by rwa [sgx (by decide)]at hj))|rfl),fun hj=>(F5 (by rwa [sgx (by decide)]at hj)),fun hj=>(by first|exact(F6 (by rwa [sgx (by decide)]at hj))|rfl),fun hj=>(by first|exact(F7 (by rwa [sgx (by decide)]at hj))|rfl),fun _=>rfl,fun hj=>(F9 (by rwa [sgx (by decide)]at hj)),fun hj=>(F10 (by rwa [sgx (by decide)]at hj)),fun hj hu=>(F11 (by rwa [sgx (by decide)]at hj) (by rwa [sgx (by decide)]at hu)),fun hj=>(F12 (by rwa [sgx (by decide)]at hj)),hx⟩
  ·as_aux_lemma=>
    obtain⟨u3,u8,u9,u10,u11,u12,u13,u14,u15,u16,u17,u18,rfl,F0,F1,F2,F3,F4,F5,F6,F7,F8,F9,F10,F11,F12,hx⟩:=hI;have l8:=he ⟨8,.data⟩ (by simp) rfl;have e:=F8 l8;subst e;refine zA2 ho rfl (fun K hK=>?_);unfold qb1A;refine opWp_mk row1 vnil vnil Tryz.underlying25 infoPQ rfl (by omega) rfl w' _ _ rfl _ _ _ _ n rfl rfl rfl rfl (by omega) (by unfold maxLen;omega) ?_;intro w'' o1 hb1;exact hK _ _ ⟨_,_,_,_,_,_,_,_,_,_,_,_,rfl,fun hj=>(by first|exact(F0 (by rwa [sgx (by decide)]at hj))|rfl),fun hj=>(by first|exact(F1 (by rwa [sgx (by decide)]at hj))|rfl),fun hj=>OwnR.below (F2 (by rwa [sgx (by decide)]at hj)) hb1 (fun k hk=>(OwnR.lt (F2 (by rwa [sgx (by decide)]at hj)) k hk).2),fun hj=>(by first|exact(F3 (by rwa [sgx (by decide)]at hj))|rfl),fun hj=>(by first|exact(F4 (by rwa [sgx (by decide)]at hj))|rfl),fun hj=>OwnR.below (F5 (by rwa [sgx (by decide)]at hj)) hb1 (fun k hk=>(OwnR.lt (F5 (by rwa [sgx (by decide)]at hj)) k hk).2),fun hj=>(by first|exact(F6 (by rwa [sgx (by decide)]at hj))|rfl),fun hj=>(by first|exact(F7 (by rwa [sgx (by decide)]at hj))|rfl),fun hj=>(by first|exact(F8 (by rwa [sgx (by decide)]at hj))|rfl),fun _=>⟨_,rfl,OwnR.rebase o1 hx.size⟩,fun hj=>absurd (hcl 10 _ rfl (by rwa [sgx (by decide)]at hj) ⟨9,.data⟩ (by simp) rfl) (by rw[getD_both hl];simp),fun hj hu=>(let ⟨g,e1,e2,e3⟩:=(F11 (by rwa [sgx (by decide)]at hj) (by rwa [sgx (by decide)]at hu));⟨g,e1,e2,e3.below hb1 e3.lt⟩),fun hj=>absurd (hcl 12 _ rfl (by rwa [sgx (by decide)]at hj) ⟨9,.phase⟩ (by simp) rfl) (by rw[getD_both hl];simp),hx.trans (hb1.mono hx.size)⟩
  ·as_aux_lemma=>
    obtain⟨u3,u8,u9,u10,u11,u12,u13,u14,u15,u16,u17,u18,rfl,F0,F1,F2,F3,F4,F5,F6,F7,F8,F9,F10,F11,F12,hx⟩:=hI;have l2:=he ⟨2,.data⟩ (by simp) rfl;have l5:=he ⟨5,.data⟩ (by simp) rfl;have l9:=he ⟨9,.data⟩ (by simp) rfl;have oa:=F2 l2;have ob:=F5 l5;obtain⟨pb,hpb,op⟩:=F9 l9;obtain⟨y1,y2,e1,_,_⟩:=oa.shape;obtain⟨z1,z2,e2,_,_⟩:=ob.shape;subst e1 e2 hpb;refine zA2 ho rfl (fun K hK=>?_);unfold qb1A;go_simp;exact hK _ _ ⟨_,_,_,_,_,_,_,_,_,_,_,_,rfl,fun hj=>(by first|exact(F0 (by rwa [sgx (by decide)]at hj))|rfl),fun hj=>(by first|exact(F1 (by rwa [sgx (by decide)]at hj))|rfl),fun hj=>oa,fun hj=>(by first|exact(F3 (by rwa [sgx (by decide)]at hj))|rfl),fun hj=>(by first|exact(F4 (by rwa [sgx (by decide)]at hj))|rfl),fun hj=>ob,fun hj=>(by first|exact(F6 (by rwa [sgx (by decide)]at hj))|rfl),fun hj=>(by first|exact(F7 (by rwa [sgx (by decide)]at hj))|rfl),fun hj=>(by first|exact(F8 (by rwa [sgx (by decide)]at hj))|rfl),fun hj=>⟨pb,rfl,op⟩,fun _=>rfl,fun hj hu=>(F11 (by rwa [sgx (by decide)]at hj) (by rwa [sgx (by decide)]at hu)),fun hj=>(F12 (by rwa [sgx (by decide)]at hj)),hx⟩
  ·as_aux_lemma=>
    obtain⟨u3,u8,u9,u10,u11,u12,u13,u14,u15,u16,u17,u18,rfl,F0,F1,F2,F3,F4,F5,F6,F7,F8,F9,F10,F11,F12,hx⟩:=hI;refine zA2 ho rfl (fun K hK=>?_);unfold qb1A;have hb1:Below w'.heap.size w' (w'.alloc (.cells #[.slice none 0 0,.slice none 0 0,.slice none 0 0] 27)):=(Below.refl _ _).alloc (Nat.le_refl _) _;go_simp;exact hK _ _ ⟨_,_,_,_,_,_,_,_,_,_,_,_,rfl,fun hj=>(by first|exact(F0 (by rwa [sgx (by decide)]at hj))|rfl),fun hj=>(by first|exact(F1 (by rwa [sgx (by decide)]at hj))|rfl),fun hj=>OwnR.below (F2 (by rwa [sgx (by decide)]at hj)) hb1 (fun k hk=>(OwnR.lt (F2 (by rwa [sgx (by decide)]at hj)) k hk).2),fun hj=>(by first|exact(F3 (by rwa [sgx (by decide)]at hj))|rfl),fun hj=>(by first|exact(F4 (by rwa [sgx (by decide)]at hj))|rfl),fun hj=>OwnR.below (F5 (by rwa [sgx (by decide)]at hj)) hb1 (fun k hk=>(OwnR.lt (F5 (by rwa [sgx (by decide)]at hj)) k hk).2),fun hj=>(by first|exact(F6 (by rwa [sgx (by decide)]at hj))|rfl),fun hj=>(by first|exact(F7 (by rwa [sgx (by decide)]at hj))|rfl),fun hj=>(by first|exact(F8 (by rwa [sgx (by decide)]at hj))|rfl),fun hj=>(let ⟨pb,e,o⟩:=(F9 (by rwa [sgx (by decide)]at hj));⟨pb,e,OwnR.below o hb1 (fun k hk=>(OwnR.lt o k hk).2)⟩),fun hj=>(F10 (by rwa [sgx (by decide)]at hj)),fun _ _=>⟨_,rfl,hx.size,BoxB.new _ _ _ _⟩,fun hj=>absurd (hcl 12 _ rfl (by rwa [sgx (by decide)]at hj) ⟨11,.data⟩ (by simp) rfl) (by rw[getD_both hl];simp),hx.trans (hb1.mono hx.size)⟩
  ·as_aux_lemma=>
    obtain⟨u3,u8,u9,u10,u11,u12,u13,u14,u15,u16,u17,u18,rfl,F0,F1,F2,F3,F4,F5,F6,F7,F8,F9,F10,F11,F12,hx⟩:=hI;have l11:=he ⟨11,.data⟩ (by simp) rfl;have l10:=he ⟨10,.data⟩ (by simp) rfl;obtain⟨g,rfl,g1,hB⟩:=F11 l11 (getD_both hl);have e10:=F10 l10;have oa:=F2 (hcl 10 _ rfl l10 ⟨2,.data⟩ (by simp) rfl);have ob:=F5 (hcl 10 _ rfl l10 ⟨5,.data⟩ (by simp) rfl);obtain⟨pb,hpb,op⟩:=F9 (hcl 10 _ rfl l10 ⟨9,.data⟩ (by simp) rfl);obtain⟨y1,y2,e1,_,_⟩:=oa.shape;obtain⟨z1,z2,e2,_,_⟩:=ob.shape;subst e1 e2 hpb e10;obtain⟨⟨k0,k1,k2⟩,m0,m1,m2⟩:=hB.bx.three;refine zA2 ho rfl (fun K hK=>?_);unfold qb1A;have ht:=touchB g w' (.slice y1 ms.length y2) (.slice z1 lat.length z2) (.slice (some ⟨pb,0,none⟩) n n);go_simp;exact hK _ _ ⟨_,_,_,_,_,_,_,_,_,_,_,_,rfl,fun hj=>(by first|exact(F0 (by rwa [sgx (by decide)]at hj))|rfl),fun hj=>(by first|exact(F1 (by rwa [sgx (by decide)]at hj))|rfl),fun hj=>oa.boxB hB (by decide) ht,fun hj=>(by first|exact(F3 (by rwa [sgx (by decide)]at hj))|rfl),fun hj=>(by first|exact(F4 (by rwa [sgx (by decide)]at hj))|rfl),fun hj=>ob.boxB hB (by decide) ht,fun hj=>(by first|exact(F6 (by rwa [sgx (by decide)]at hj))|rfl),fun hj=>(by first|exact(F7 (by rwa [sgx (by decide)]at hj))|rfl),fun hj=>(by first|exact(F8 (by rwa [sgx (by decide)]at hj))|rfl),fun hj=>⟨pb,rfl,op.boxB hB (by decide) ht⟩,fun hj=>rfl,fun _ hu=>absurd hu (by rw[sgix hl];simp),fun _=>⟨g,rfl,g1,hB.put _ _ _⟩,Below.touchN hx ht g1 (Nat.le_refl _)⟩
 ·intro listed a w' hI hd;obtain⟨u3,u8,u9,u10,u11,u12,u13,u14,u15,u16,u17,u18,rfl,F0,F1,F2,F3,F4,F5,F6,F7,F8,F9,F10,F11,F12,hx⟩:=hI;obtain⟨g,h3,g1,hB⟩:=F12 (hd 12 (by show 12<13;omega));have oa:=F2 (hd 2 (by show 2<13;omega));have ob:=F5 (hd 5 (by show 5<13;omega));obtain⟨pb,hpb,op⟩:=F9 (hd 9 (by show 9<13;omega));subst hpb;exact hK _ _ _ _ _ _ _ _ _ _ _ _ w' ⟨g,_,_,pb,h3,g1,hB,oa,ob,op,hx⟩
end Go.Proofs.YtgkdoehkmbhfiaaGreat
namespace Go.Proofs.YtgkdoehkmbhfiaaGreat
open Go.RowKit
attribute [local go_sem ↓] Go.wp_at_zero Go.wp_at_succ
def qb5A (i0 i1 i2 i6 i7 i8 i9 i10 i11 i12 i13 i14 i15 i16 i17 i18 i19 i20 i21 i22 i23 i24 i25 i26 i33 i34 i35 i36 i37 i38 i39 i40 i41 i42 i43 i44 i45 i46 i47 i48 i49 i50 i51:Value) (g:Nat) (k:Nat) (v5:Value) (u27 u28 u29 u30 u31 u32:Value):Act:={ tmps:=#[i0,i1,i2,.pointer (some ⟨g,0,none⟩),.int .i64 (k:Nat),v5,i6,i7,i8,i9,i10,i11,i12,i13,i14,i15,i16,i17,i18,i19,i20,i21,i22,i23,i24,i25,i26,u27,u28,u29,u30,u31,u32,i33,i34,i35,i36,i37,i38,i39,i40,i41,i42,i43,i44,i45,i46,i47,i48,i49,i50,i51],defers:=[] }
noncomputable def qb5Code:Code:=(Tryz.f57.body.bind (zG2 5)).getD .skip
def QcP (lo pb k n:Nat) (us:List Value) (ys:List RqS) (wq w':World):Prop:=∃u,Owns w' wq.heap.size 52 7 rowS7 u ys∧Owns w' lo 53 1 row1 (.slice (some ⟨pb,0,none⟩) n n) (us.set k u)∧Touch pb wq w'
def qb5C (lo pb k n : Nat) (us : List Value) (ys : List RqS) (wq : World) (vs : List Value) (W : World) : Prop := Touch pb wq W ∧ match vs with
 |[]=>Owns W lo 53 1 row1 (.slice (some ⟨pb,0,none⟩) n n) us
 |[u]=>Owns W lo 53 1 row1 (.slice (some ⟨pb,0,none⟩) n n) us∧Owns W wq.heap.size 52 7 rowS7 u ys
 |[_,_]=>QcP lo pb k n us ys wq W
 |_=>False
set_option maxRecDepth 100000 in
theorem qb5_region (i0 i1 i2 i6 i7 i8 i9 i10 i11 i12 i13 i14 i15 i16 i17 i18 i19 i20 i21 i22 i23 i24 i25 i26 i33 i34 i35 i36 i37 i38 i39 i40 i41 i42 i43 i44 i45 i46 i47 i48 i49 i50 i51 j27 j28 j29 j30 j31 j32 : Value) (g : Nat) (k : Nat) (v5 : Value) (lo : Nat) (pb : Nat) (n : Nat) (B : Nat) (us : List Value) (ys : List RqS) (wq : World)
    (hgp:g≠pb) (hgl:g<wq.heap.size) (hG:wq.cell? ⟨g,2,none⟩=some (.slice (some ⟨pb,0,none⟩) n n)) (hpl:pb<wq.heap.size) (hB:B≤pb) (hkn:k<n) (hus:us.length=n) (hO:Owns wq lo 53 1 row1 (.slice (some ⟨pb,0,none⟩) n n) us) (hA:Arr wq B 7 v5 (ys.map rowS7)) (hl3:ys.length≤1048576)
    {Q:Exit→Act→World→Prop}
    (hK:∀(u27 u28 u29 u30 u31 u32:Value) w', QcP lo pb k n us ys wq w' → Q .normal (qb5A i0 i1 i2 i6 i7 i8 i9 i10 i11 i12 i13 i14 i15 i16 i17 i18 i19 i20 i21 i22 i23 i24 i25 i26 i33 i34 i35 i36 i37 i38 i39 i40 i41 i42 i43 i44 i45 i46 i47 i48 i49 i50 i51 g k v5 u27 u28 u29 u30 u31 u32) w'):qb5Code.wp Tryz.prog Q (qb5A i0 i1 i2 i6 i7 i8 i9 i10 i11 i12 i13 i14 i15 i16 i17 i18 i19 i20 i21 i22 i23 i24 i25 i26 i33 i34 i35 i36 i37 i38 i39 i40 i41 i42 i43 i44 i45 i46 i47 i48 i49 i50 i51 g k v5 j27 j28 j29 j30 j31 j32) wq:=by
  conv=>arg 2;whnf
  obtain⟨CC,hCC⟩:∃CC,CC=qb5C lo pb k n us ys wq:=⟨_,rfl⟩
  have hC0:CC [] wq.drew:=by rw[hCC];exact⟨(Touch.refl _ _).drewd,hO⟩
  have hTC:∀us W,CC us W→Touch pb wq W:=by rw[hCC];exact fun us W h=>h.1
  have HCC:=hid hCC;have hne:Nonempty (Ph CC):=⟨⟨([],wq.drew),hC0⟩⟩
  have pc9:∀{p:Addr} {v:Value},p.block≠pb→wq.cell? p=some v→∀x:Ph CC,x.1.2.cell? p=some v:=fun hp hc x=>by
    rw[←hc];simp only[World.cell?,(hTC _ _ x.2).block _ (World.block_lt_of_cell? wq _ hc) hp]
  replace hG:=pc9 hgp hG;clear hCC pc9;have hki:(k:Int)<(n:Int):=by omega
  unfold qb5A;refine zA8 CC [(4,false),(6,false)] [] (by kernel_rfl) (by kernel_rfl) hC0 ?_
  iterate 2
    repeat (
      (with_reducible refine wq1_q ⟨rfl,rfl⟩ (fun K hK=>?_))
      go_simp
      first
        |((with_reducible refine hK _ ?_);clear hK K)
        |((with_reducible refine zA6 (by simp[undef]) (hK _ ?_));clear hK K)
        | (apply Exists.intro
           (with_reducible refine⟨fun _=>?_,hK _ ?_⟩)
           (fail)
           clear hK K))
    refine wq1_v rfl ?_
  repeat (
    (with_reducible refine wq1_q ⟨rfl,rfl⟩ (fun K hK=>?_))
    go_simp
    first
      |((with_reducible refine hK _ ?_);clear hK K)
      |((with_reducible refine zA6 (by simp[undef]) (hK _ ?_));clear hK K)
      | (apply Exists.intro
         (with_reducible refine⟨fun _=>?_,hK _ ?_⟩)
         (fail)
         clear hK K))
  refine zE0 ?_;clear hne;refine wq2_v _ rfl rfl ?_ ?_
  · intro W hW KA hKA
    rw[HCC.out]at hW;obtain⟨hT,own⟩:=hW;go_simp
    (with_reducible refine(clone_ReqReq rowS7 rowS7_len rowS7_one _ ys B W (hA.below (hT.below hB (Nat.le_trans hB (Nat.le_of_lt hpl)))) (by omega)).mono ?_)
    rintro e w'' ⟨q,rfl,o1,hb1⟩;go_simp;exact hKA _ _ _ (by rw[HCC.out];exact⟨hT.trans (Touch.of_below hb1 (Nat.le_refl _)),OwnR.below own hb1 (fun k hk=>(OwnR.lt own k hk).2),o1.rebase hT.size⟩) rfl
  intro v0 KA hKA;go_simp;refine hKA _ ?_;clear hKA KA;refine wq2_v _ rfl rfl ?_ ?_
  · intro W hW KA hKA
    rw[HCC.out]at hW;obtain⟨hT,n6,o4⟩:=hW;obtain⟨y1,y2,e1,_,_⟩:=o4.shape;subst e1;have q:=n6.cellAt zE4 k 0 vnil (by rw[hus];exact hkn) (by omega);have q2:=n6.frozenAt k;simp only[Nat.zero_add,Nat.mul_one,Nat.add_zero,row1,List.getElem?_cons_zero]at q;have hput:=n6.putRow zE4 k 0 vnil (.slice y1 ys.length y2) (.slice y1 ys.length y2) (by rw[hus];exact hkn) (by omega) rfl;simp only[Nat.zero_add,Nat.mul_one,Nat.add_zero]at hput;have HPUT:=hid hput;clear hput;go_simp;exact hKA undef _ _ (by rw[HCC.out];exact⟨hT.trans (Touch.setCell ..),_,Owns.tchB o4 (Touch.setCell ..) (fun e=>(Owns.apartT o4 n6 (by decide)) pb e rfl),HPUT.out,hT.trans (Touch.setCell ..)⟩) rfl
  intro v1 KA hKA;go_simp;refine hKA _ ?_;clear hKA KA;refine zD9 ?_;intro wz hwz;rw[HCC.out]at hwz;exact hK _ _ _ _ _ _ wz hwz.2
end Go.Proofs.YtgkdoehkmbhfiaaGreat
namespace Go.Proofs.YtgkdoehkmbhfiaaGreat
open Go.RowKit
theorem touch7o (s o:Nat) (w:World) (a b c d e f h:Value):Touch s w (((((((w.setCell ⟨s,o,none⟩ a).setCell ⟨s,o+1,none⟩ b).setCell ⟨s,o+2,none⟩ c).setCell ⟨s,o+3,none⟩ d).setCell ⟨s,o+4,none⟩ e).setCell ⟨s,o+5,none⟩ f).setCell ⟨s,o+6,none⟩ h) :=
 ((((((Touch.setCell _ _ _ _).trans (Touch.setCell _ _ _ _)).trans (Touch.setCell _ _ _ _)).trans (Touch.setCell _ _ _ _)).trans (Touch.setCell _ _ _ _)).trans (Touch.setCell _ _ _ _)).trans (Touch.setCell _ _ _ _)
set_option maxRecDepth 20000 in
theorem wp_store7o {a : Act} {w : World} {K : Act → World → Prop} {Q : Exit → Act → World → Prop} (ty : Nat) (pos : String) (aft : Array Edge) {t1 t2 g o : Nat} {c0 c1 c2 c3 c4 c5 c6 : Value} {id kind addr many : Int} {wp : Bool} {da la : Option Addr} {dn dc ln lc : Nat}
  (k0:w.cell? ⟨g,o,none⟩=some c0) (k1:w.cell? ⟨g,o+1,none⟩=some c1) (k2:w.cell? ⟨g,o+2,none⟩=some c2) (k3:w.cell? ⟨g,o+3,none⟩=some c3) (k4:w.cell? ⟨g,o+4,none⟩=some c4) (k5:w.cell? ⟨g,o+5,none⟩=some c5) (k6:w.cell? ⟨g,o+6,none⟩=some c6)
  (m:∀j,w.frozen? ⟨g,j,none⟩=false)
  (hp:a.tmps.getD t1 undef=.pointer (some ⟨g,o,none⟩)) (hv:a.tmps.getD t2 undef=.agg #[.int .i64 id,.int .i64 kind,.int .i64 addr,.int .i64 many,.bool wp,.slice da dn dc,.slice la ln lc])
  (h:K a (((((((w.setCell ⟨g,o,none⟩ (.int .i64 id)).setCell ⟨g,o+1,none⟩ (.int .i64 kind)).setCell ⟨g,o+2,none⟩ (.int .i64 addr)).setCell ⟨g,o+3,none⟩ (.int .i64 many)).setCell ⟨g,o+4,none⟩ (.bool wp)).setCell ⟨g,o+5,none⟩ (.slice da dn dc)).setCell ⟨g,o+6,none⟩ (.slice la ln lc))) :
  Oper.wp Tryz.prog { dst:=none,op:=.store 52 (.tmp t1) (.tmp t2),type:=ty,pos:=pos,after:=aft,guard:=none } a w K Q:=by
 have m0:=m o;have m1:=m (o+1);have m2:=m (o+2);have m3:=m (o+3);have m4:=m (o+4);have m5:=m (o+5);have m6:=m (o+6);clear m;obtain⟨tmps,defers⟩:=a;simp only at hp hv;simp only[Array.getD_eq_getD_getElem?]at hp hv;go_simp;exact h
end Go.Proofs.YtgkdoehkmbhfiaaGreat
namespace Go.Proofs.YtgkdoehkmbhfiaaGreat
open Go.RowKit
attribute [local go_sem ↓] Go.wp_at_zero Go.wp_at_succ
def qb9A (i0 i1 i2 i5 i8 i9 i10 i11 i12 i13 i14 i15 i16 i17 i18 i19 i20 i21 i22 i23 i24 i25 i26 i27 i28 i29 i30 i31 i32 i33 i34 i35 i36 i37 i38 i39 i49 i50 i51:Value) (g:Nat) (i:Nat) (qs:List Rq) (gE:Nat) (u40 u41 u42 u43 u44 u45 u46 u47 u48:Value):Act:={ tmps:=#[i0,i1,i2,.pointer (some ⟨g,0,none⟩),.int .i64 (i:Nat),i5,.int .i64 (qs.length:Nat),.pointer (some ⟨gE,0,none⟩),i8,i9,i10,i11,i12,i13,i14,i15,i16,i17,i18,i19,i20,i21,i22,i23,i24,i25,i26,i27,i28,i29,i30,i31,i32,i33,i34,i35,i36,i37,i38,i39,u40,u41,u42,u43,u44,u45,u46,u47,u48,i49,i50,i51],defers:=[] }
noncomputable def qb9Code:Code:=(Tryz.f57.body.bind (zG2 9)).getD .skip
def QdP (lo gr o c m:Nat) (qs:List Rq) (vs:List (Value×Value)) (rest:List RqV) (r:Rq) (wq w':World):Prop:=∃d l,QcO w' lo gr o c m (qs++[r]) (vs++[(d,l)]) rest∧Touch gr wq w'
def qb9C (lo gr o c m : Nat) (qs : List Rq) (vs : List (Value × Value)) (row : RqV) (rest : List RqV) (r : Rq) (wq : World) (us : List Value) (W : World) : Prop := Touch gr wq W ∧ match us with
 |[]=>Below wq.heap.size wq W
 |[u]=>Below wq.heap.size wq W∧∃d l,u=.agg #[.int .i64 r.id,.int .i64 r.kind,.int .i64 r.addr,.int .i64 r.many,.bool r.wrap,d,l]∧Owns W wq.heap.size 3 1 rowI d r.data∧Owns W wq.heap.size 3 1 rowI l r.lanes∧Apart d l
 |[_,_]=>QdP lo gr o c m qs vs rest r wq W
 |_=>False
set_option maxRecDepth 100000 in
theorem qb9_region (i0 i1 i2 i5 i8 i9 i10 i11 i12 i13 i14 i15 i16 i17 i18 i19 i20 i21 i22 i23 i24 i25 i26 i27 i28 i29 i30 i31 i32 i33 i34 i35 i36 i37 i38 i39 i49 i50 i51 j40 j41 j42 j43 j44 j45 j46 j47 j48 : Value) (g : Nat) (i : Nat) (qs : List Rq) (gE : Nat) (lo : Nat) (gr : Nat) (o : Nat) (c : Nat) (m : Nat) (pb : Nat) (n : Nat) (B : Nat) (vs : List (Value × Value)) (row : RqV) (rest : List RqV) (r : Rq) (dv : Value) (lv : Value) (wq : World)
    (hne1:g≠gr) (hlt1:g<wq.heap.size) (hG:wq.cell? ⟨g,2,none⟩=some (.slice (some ⟨pb,0,none⟩) n n)) (hin:i<n) (hne2:pb≠gr) (hlt2:pb<wq.heap.size) (hP:wq.cell? ⟨pb,i,none⟩=some (.slice (some ⟨gr,o,none⟩) m c)) (hne3:gE≠gr) (hlt3:gE<wq.heap.size) (hE:(wq.cell? ⟨gE,0,none⟩=some (.int .i64 r.id)∧wq.cell? ⟨gE,1,none⟩=some (.int .i64 r.kind)∧wq.cell? ⟨gE,2,none⟩=some (.int .i64 r.addr)∧wq.cell? ⟨gE,3,none⟩=some (.int .i64 r.many)∧wq.cell? ⟨gE,4,none⟩=some (.bool r.wrap)∧wq.cell? ⟨gE,5,none⟩=some dv∧wq.cell? ⟨gE,6,none⟩=some lv)∧True) (hgr:gr<wq.heap.size) (hB:B≤gr) (hR:ReqV wq B (.agg #[.int .i64 r.id,.int .i64 r.kind,.int .i64 r.addr,.int .i64 r.many,.bool r.wrap,dv,lv]) r) (hl1:r.data.length≤1048576) (hl2:r.lanes.length≤1048576) (hkm:qs.length<m) (hQ:QcO wq lo gr o c m qs vs (row::rest))
    {Q:Exit→Act→World→Prop}
    (hK:∀(u40 u41 u42 u43 u44 u45 u46 u47 u48:Value) w', QdP lo gr o c m qs vs rest r wq w' → Q .normal (qb9A i0 i1 i2 i5 i8 i9 i10 i11 i12 i13 i14 i15 i16 i17 i18 i19 i20 i21 i22 i23 i24 i25 i26 i27 i28 i29 i30 i31 i32 i33 i34 i35 i36 i37 i38 i39 i49 i50 i51 g i qs gE u40 u41 u42 u43 u44 u45 u46 u47 u48) w'):qb9Code.wp Tryz.prog Q (qb9A i0 i1 i2 i5 i8 i9 i10 i11 i12 i13 i14 i15 i16 i17 i18 i19 i20 i21 i22 i23 i24 i25 i26 i27 i28 i29 i30 i31 i32 i33 i34 i35 i36 i37 i38 i39 i49 i50 i51 g i qs gE j40 j41 j42 j43 j44 j45 j46 j47 j48) wq:=by
  conv=>arg 2;whnf
  obtain⟨CC,hCC⟩:∃CC,CC=qb9C lo gr o c m qs vs row rest r wq:=⟨_,rfl⟩
  have hC0:CC [] wq.drew:=by rw[hCC];exact⟨(Touch.refl _ _).drewd,(Below.refl _ _).drew⟩
  have hTC:∀us W,CC us W→Touch gr wq W:=by rw[hCC];exact fun us W h=>h.1
  have HCC:=hid hCC;have hne:Nonempty (Ph CC):=⟨⟨([],wq.drew),hC0⟩⟩
  have pc9:∀{p:Addr} {v:Value},p.block≠gr→wq.cell? p=some v→∀x:Ph CC,x.1.2.cell? p=some v:=fun hp hc x=>by
    rw[←hc];simp only[World.cell?,(hTC _ _ x.2).block _ (World.block_lt_of_cell? wq _ hc) hp]
  replace hG:=pc9 hne1 hG;replace hP:=pc9 hne2 hP;obtain⟨E0,E1,E2,E3,E4,E5,E6⟩:=hE.1;replace E0:=pc9 hne3 E0;replace E1:=pc9 hne3 E1;replace E2:=pc9 hne3 E2;replace E3:=pc9 hne3 E3;replace E4:=pc9 hne3 E4;replace E5:=pc9 hne3 E5;replace E6:=pc9 hne3 E6;clear hCC pc9;have hii:(i:Int)<(n:Int):=by omega
  have hqi:(qs.length:Int)<(m:Int):=by omega
  unfold qb9A;refine zA8 CC [(7,false),(9,false)] [] (by kernel_rfl) (by kernel_rfl) hC0 ?_
  iterate 2
    repeat (
      (with_reducible refine wq1_q ⟨rfl,rfl⟩ (fun K hK=>?_))
      go_simp
      first
        |((with_reducible refine hK _ ?_);clear hK K)
        |((with_reducible refine zA6 (by simp[undef]) (hK _ ?_));clear hK K)
        | (apply Exists.intro
           (with_reducible refine⟨fun _=>?_,hK _ ?_⟩)
           (fail)
           clear hK K))
    refine wq1_v rfl ?_
  repeat (
    (with_reducible refine wq1_q ⟨rfl,rfl⟩ (fun K hK=>?_))
    go_simp
    first
      |((with_reducible refine hK _ ?_);clear hK K)
      |((with_reducible refine zA6 (by simp[undef]) (hK _ ?_));clear hK K)
      | (apply Exists.intro
         (with_reducible refine⟨fun _=>?_,hK _ ?_⟩)
         (fail)
         clear hK K))
  refine zE0 ?_;clear hne;refine wq2_v _ rfl rfl ?_ ?_
  · intro W hW KA hKA
    rw[HCC.out]at hW;obtain⟨hT,hx⟩:=hW;go_simp
    (with_reducible refine(reqCopy_any _ r B W (hR.below (hT.below hB (Nat.le_trans hB (Nat.le_of_lt hgr)))) (Nat.le_trans (Nat.le_trans hB (Nat.le_of_lt hgr)) hT.size) hl1 hl2).mono ?_)
    rintro e w'' ⟨d,l,rfl,o1,o2,ap,hb1⟩;go_simp;exact hKA _ _ _ (by rw[HCC.out];exact⟨hT.trans (Touch.of_below hb1 (Nat.le_refl _)),hx.trans (hb1.mono hx.size),d,l,rfl,o1.rebase hT.size,o2.rebase hT.size,ap⟩) rfl
  intro v0 KA hKA;go_simp;refine hKA _ ?_;clear hKA KA;refine wq2_v _ rfl rfl ?_ ?_
  · intro W hW KA hKA
    rw[HCC.out]at hW;obtain⟨hT,n9,d,l,rfl,od,ol,ap⟩:=hW;obtain⟨y1,y2,e1,_,_⟩:=od.shape;obtain⟨z1,z2,e2,_,_⟩:=ol.shape;subst e1 e2;have hq:=hQ.snoc n9 od ol ap;have hth:=fun j hj=>(hQ.below n9).rows.cellAt zC9 qs.length j zQ (by simp[zC4 hQ.len]) hj
    have hrw:(zipQ qs vs++row::rest).getD qs.length zQ=row:=by simp[List.getD,zC4 hQ.len]
    rw[hrw]at hth;have k0:=hth 0 (by omega);have k1:=hth 1 (by omega);have k2:=hth 2 (by omega);have k3:=hth 3 (by omega);have k4:=hth 4 (by omega);have k5:=hth 5 (by omega);have k6:=hth 6 (by omega);simp only[rowQ,Nat.add_zero,List.getElem?_cons_zero,List.getElem?_cons_succ]at k0 k1 k2 k3 k4 k5 k6;have HQ:=hid hq;have HT:=hid (touch7o gr (o+qs.length * 7) W (.int .i64 r.id) (.int .i64 r.kind) (.int .i64 r.addr) (.int .i64 r.many) (.bool r.wrap) (.slice y1 r.data.length y2) (.slice z1 r.lanes.length z2));clear hq hth hrw od ol ap;refine wp_store7o _ _ _ k0 k1 k2 k3 k4 k5 k6 (fun j=>(hQ.below n9).rows.frozenAt j) rfl rfl ?_;exact hKA undef _ _ (by rw[HCC.out];exact⟨hT.trans HT.out,_,_,HQ.out,hT.trans HT.out⟩) rfl
  intro v1 KA hKA;go_simp;refine hKA _ ?_;clear hKA KA;refine zD9 ?_;intro wz hwz;rw[HCC.out]at hwz;exact hK _ _ _ _ _ _ _ _ _ wz hwz.2
end Go.Proofs.YtgkdoehkmbhfiaaGreat
namespace Go.Proofs.YtgkdoehkmbhfiaaGreat
open Go.RowKit
theorem zG6 (w:World) (g:Nat) (a b c:Value) (h0:w.cell? ⟨g,0,none⟩=some a) (h1:w.cell? ⟨g,1,none⟩=some b) (h2:w.cell? ⟨g,2,none⟩=some c):(loadVar 27 ⟨g,0,none⟩).run Tryz.prog w=.ok (.agg #[a,b,c]) w:=by
 simp[loadVar,go_sem,h0,h1,h2]
def BusCopyP (ms:List MR) (lat:List Int) (pss:List (List Rq)) (w:World) (e:Ending) (w':World):Prop:=∃a b pb us L,e=.returned (.agg #[a,b,.slice (some ⟨pb,0,none⟩) pss.length pss.length])∧Owns w' w.heap.size 144 4 rowM a ms∧Owns w' w.heap.size 3 1 rowI b lat∧PsO w' w.heap.size pb pss.length us pss L∧((∀k,a.ownBlock=some k→k<L 0)∧∀k,b.ownBlock=some k→k<L 0)∧Below w.heap.size w w'
structure CpK (w0 wr:World) (g:Nat) (a b:Value) (pb n:Nat) (src:List Value) (lo:Nat) (us:List Value) (pss:List (List Rq)) (L:Nat→Nat) (ms:List MR) (lat:List Int):Prop where
 box:BoxB wr g a b (.slice (some ⟨pb,0,none⟩) n n)
 oa:Owns wr lo 144 4 rowM a ms
 ob:Owns wr lo 3 1 rowI b lat
 ps:PsO wr lo pb n us pss L
 be:Below w0.heap.size w0 wr
 src:Bx wr w0.heap.size src
 res:Bx wr (w0.heap.size+1) [vnil,vnil,vnil]
 lo0:(∀k,a.ownBlock=some k→k<L 0)∧∀k,b.ownBlock=some k→k<L 0
theorem CpK.below {w0 wr wr':World} {g:Nat} {a b:Value} {pb n:Nat} {src:List Value} {lo:Nat} {us:List Value} {pss:List (List Rq)} {L:Nat→Nat} {ms:List MR} {lat:List Int} (h:CpK w0 wr g a b pb n src lo us pss L ms lat) (hb:Below wr.heap.size wr wr'):CpK w0 wr' g a b pb n src lo us pss L ms lat :=
 ⟨h.box.below hb h.box.lt,h.oa.below hb,h.ob.below hb,h.ps.below hb,h.be.trans (hb.mono h.be.size),h.src.below hb h.src.lt,h.res.below hb h.res.lt,h.lo0⟩
theorem PgO.rebase {w:World} {lo lo' hi:Nat} {u:Value} {qs:List Rq} (h:PgO w lo hi u qs) (hl:lo' ≤ lo):PgO w lo' hi u qs:=by
 rcases h with h|⟨g,o,c,vs,e,h1,h2,h3,h4⟩
 ·exact .inl h
 ·exact .inr ⟨g,o,c,vs,e,h1,h2,h3.rebase hl,h4⟩
theorem CpK.next {w0 wo w5 w6 : World} {g : Nat} {a b u : Value} {pb k : Nat} {src : List Value} {lo : Nat} {us : List Value} {pss : List (List Rq)} {L : Nat → Nat} {ms : List MR} {lat : List Int} (h : CpK w0 wo g a b pb pss.length src lo us (pss.take k) L ms lat) (hk : k < pss.length)
  (hlo:w0.heap.size+2≤lo) (oo:Owns w5 lo 53 1 row1 (.slice (some ⟨pb,0,none⟩) pss.length pss.length) (us.set k u)) (ht:Touch pb wo w5) (hb:Below wo.heap.size w5 w6) (hp:PgO w6 wo.heap.size w6.heap.size u (pss.getD k [])) :
  CpK w0 w6 g a b pb pss.length src lo (us.set k u) (pss.take (k+1)) (fun j=>if j≤k then L j else w6.heap.size) ms lat:=by
 have hpb:=h.ps.pb;have hgp:g≠pb:=fun e=>h.ps.outer.notB h.box (by decide) (by rw[e];rfl)
 have htl:(pss.take k).length=k:=by simp;omega
 have key:∀i,i≠pb→i<wo.heap.size→w6.heap[i]? = wo.heap[i]?:=fun i h1 h2=>(hb.block i h2).trans (ht.block i h2 h1)
 have hs5:=ht.size;have hs6:=hb.size
 refine ⟨h.box.keep (key g hgp h.box.lt), OwnR.kept h.oa fun i hi => key i (fun e => Owns.apartT h.oa h.ps.outer (by decide) i hi (by rw [e]; rfl)) (OwnR.lt h.oa i hi).2, OwnR.kept h.ob fun i hi => key i (fun e => Owns.apartT h.ob h.ps.outer (by decide) i hi (by rw [e]; rfl)) (OwnR.lt h.ob i hi).2, ?_,
  (h.be.trans (ht.below (by omega) h.be.size)).trans (hb.mono h.be.size),h.src.kept (key _ (by omega) h.src.lt),h.res.kept (key _ (by omega) h.res.lt),by simp only[Nat.zero_le,if_true];exact h.lo0⟩
 have htop:=h.ps.top;rw[htl]at htop;refine⟨OwnR.below oo hb (fun i hi=>by simp only[Value.ownBlock,Option.some.injEq]at hi;omega),by rw[List.length_set];exact h.ps.len,by simp;omega,fun j hj=>?_,fun j h1 h2=>?_,fun j hj=>?_,?_,?_⟩
 ·have hj':j<k+1:=by simp at hj;omega
  by_cases e:j=k
  ·subst e;rw[zF2 (by rw[h.ps.len];exact hk),zD5 (by omega)];simp only[Nat.le_refl,if_true,show ¬j+1≤j by omega,if_false];exact hp.rebase htop
  ·have hjk:j<k:=by omega
   rw[zD0 e,zD5 (by omega)];simp only[show j≤k by omega,if_true,show j+1≤k by omega];have:=h.ps.pg j (by rw[htl];exact hjk);rw[zD5 hjk]at this;refine this.kept fun i h1 h2 h3=>key i ?_ h3
   have:=h.ps.le0 j (by rw[htl];omega);have:=h.ps.pbl;omega
 ·have hj':k+1≤j:=by simp at h1;omega
  rw[zD0 (by omega)];exact h.ps.nil j (by rw[htl];omega) h2
 ·have hj':j<k+1:=by simp at hj;omega
  by_cases e:j=k
  ·subst e;simp only[Nat.le_refl,if_true,show ¬j+1≤j by omega,if_false];omega
  ·simp only[show j≤k by omega,if_true,show j+1≤k by omega];exact h.ps.mono j (by rw[htl];omega)
 ·simp only[Nat.zero_le,if_true];exact h.ps.pbl
 ·have:(pss.take (k+1)).length=k+1:=by simp;omega
  rw[this];simp only[show ¬k+1≤k by omega,if_false];exact Nat.le_refl _
theorem Reqs.opened' {w : World} {B n c : Nat} {a : Option Addr} {rs : List Rq} (h : Reqs w B (.slice a n c) rs) : n = rs.length ∧
  (rs.length ≠ 0 → ∃ b off, a = some ⟨b, off, none⟩ ∧ b < B ∧ ∀ t, t < rs.length → ∃ da dc la lc, ReqV w B (.agg #[.int .i64 (rs.getD t default).id, .int .i64 (rs.getD t default).kind, .int .i64 (rs.getD t default).addr, .int .i64 (rs.getD t default).many, .bool (rs.getD t default).wrap, .slice da (rs.getD t default).data.length dc, .slice la (rs.getD t default).lanes.length lc]) (rs.getD t default) ∧
    w.cell? ⟨b,off+t * 7,none⟩=some (.int .i64 (rs.getD t default).id)∧w.cell? ⟨b,off+t * 7+1,none⟩=some (.int .i64 (rs.getD t default).kind)∧w.cell? ⟨b,off+t * 7+2,none⟩=some (.int .i64 (rs.getD t default).addr) ∧
    w.cell? ⟨b,off+t * 7+3,none⟩=some (.int .i64 (rs.getD t default).many)∧w.cell? ⟨b,off+t * 7+4,none⟩=some (.bool (rs.getD t default).wrap)∧w.cell? ⟨b,off+t * 7+5,none⟩=some (.slice da (rs.getD t default).data.length dc)∧w.cell? ⟨b,off+t * 7+6,none⟩=some (.slice la (rs.getD t default).lanes.length lc)):=by
 obtain⟨ao,cap,e,_,_,_,_,h3⟩:=Reqs.opened h;simp only[Value.slice.injEq]at e;obtain⟨rfl,rfl,rfl⟩:=e;exact⟨rfl,h3⟩
def PgI (w:World) (lo:Nat) (u:Value) (x qs:List Rq) (ys:List RqS):Prop :=
 (u=vnil∧x=[])∨∃gr o c vs,u=.slice (some ⟨gr,o,none⟩) x.length c∧x.length≤c∧c≤9223372036854775807∧QcO w lo gr o c x.length qs vs ((ys.map toV).drop qs.length)
theorem PgI.start {w:World} {lo:Nat} {u:Value} {x:List Rq} {ys:List RqS} (h:Owns w lo 52 7 rowS7 u ys) (hl:ys.length=x.length):PgI w lo u x [] ys:=by
 have h':=h.toV;by_cases hn:u=vnil
 ·refine .inl ⟨hn,?_⟩;obtain⟨a,c,e,_⟩:=h.shape;rw[hn]at e;simp only[Value.slice.injEq]at e;exact List.eq_nil_of_length_eq_zero (by omega)
 ·obtain⟨a,c,e,h1,h2⟩:=h.shape;rcases a with _|ad
  ·exfalso
   obtain⟨_,h3⟩:=h;rcases h3 with⟨h3,_⟩|⟨g', off,cap,cur,h3,_⟩
   ·exact hn h3
   ·rw[h3]at e;simp at e
  ·obtain⟨_,h3⟩:=h;rcases h3 with⟨h3,_⟩|⟨g', off,cap,cur,h3,_⟩
   ·exact absurd h3 hn
   ·subst h3;simp only[Value.slice.injEq,true_and]at e;obtain⟨_,rfl⟩:=e;refine .inr ⟨g', off,cap,[],by rw[hl],by omega,h2,⟨rfl,by simp[hl],?_,by simp,by simp,by simp,by simp,by simp,by simp,by simp⟩⟩;rw[←hl];simpa[zipQ]using h'
theorem PgI.done {w:World} {lo:Nat} {u:Value} {x:List Rq} {ys:List RqS} (h:PgI w lo u x x ys) (hl:ys.length=x.length):PgO w lo w.heap.size u x:=by
 rcases h with⟨h1,h2⟩|⟨gr,o,c,vs,e,h1,h2,h3⟩
 ·exact .inl ⟨h1,h2⟩
 ·have hd:(ys.map toV).drop x.length=[]:=by rw[←hl];simp
  rw[hd]at h3;exact .inr ⟨gr,o,c,vs,e,h1,h2,h3,h3.bound⟩
set_option maxRecDepth 8000 in
theorem busCopy_any (v : Value) (ms : List MR) (lat : List Int) (pss : List (List Rq)) (B : Nat) (w : World) (h : BusI w B v ms lat pss) (hB : B ≤ w.heap.size) (hl1 : ms.length ≤ 1048576) (hl2 : lat.length ≤ 1048576) (hl3 : pss.length ≤ 1048576) (hl4 : ∀ p ∈ pss, p.length ≤ 1048576 ∧ ∀ q ∈ p, Rq20 q) :
  Calls Tryz.prog 57 #[v] w (BusCopyP ms lat pss w):=by
 obtain⟨mv,lv,pv,rfl,hm,hl,hp⟩:=h;have HM:=hid hm;have HL:=hid hl;have HP:=hid hp;have HB:=hid hB;have HL1:=hid hl1;have HL2:=hid hl2;have HL3:=hid hl3;have HL4:=hid hl4;obtain⟨ma,mc,rfl,_⟩:=hm.opened;obtain⟨la,lc,rfl,_⟩:=hl.opened;obtain⟨pa,pc,rfl,hpc,hpc2,_,_,hr⟩:=hp.opened;have HR:=hid hr;clear hm hl hp hr hB hl1 hl2 hl3 hl4
 go_enter Tryz.func57,Tryz.ntmps57
 go_upto_region 1 with fail
 obtain⟨W2,hW2⟩:∃W2,W2=(w.alloc (.cells #[.slice ma ms.length mc,.slice la lat.length lc,.slice pa pss.length pc] 27)).alloc (.cells #[.slice none 0 0,.slice none 0 0,.slice none 0 0] 27):=⟨_,rfl⟩
 have HB2:=hid (show Below w.heap.size w W2 by rw[hW2];exact(bx1 _ _).alloc (by simp) _);have HS:=hid (show Bx W2 w.heap.size [.slice ma ms.length mc,.slice la lat.length lc,.slice pa pss.length pc] by rw[hW2];exact(Bx.new w #[.slice ma ms.length mc,.slice la lat.length lc,.slice pa pss.length pc] _ (by simp)).below (bx1 _ _) (by simp));have HRx:=hid (show Bx W2 (w.heap.size+1) [vnil,vnil,vnil] by rw[hW2];have:=Bx.new (w.alloc (.cells #[.slice ma ms.length mc,.slice la lat.length lc,.slice pa pss.length pc] 27)) #[vnil,vnil,vnil] 27 (by simp);simpa using this);rw[←hW2];have HZ:=hid (show W2.heap.size=w.heap.size+2 by rw[hW2];simp);clear hW2
 go_cut [3] from 8 to 18 (fun u wd=>QbP u pss.length ms lat W2 wd)
 case first=>
  rename_i J K' hJ hK;exact qb1_region _ _ _ _ _ _ _ _ _ _ _ _ _ _ _ _ _ _ _ _ _ _ _ _ _ _ _ _ _ _ _ _ _ _ _ _ _ _ _ _ _ _ _ _ _ _ _ _ _ _ _ w.heap.size _ _ pa pss.length pc ms lat W2 HS.out ((HM.out.below (HB2.out.mono HB.out)).mono (Nat.le_trans HB.out HB2.out.size)).1 (ints_arr ((HL.out.below (HB2.out.mono HB.out)).mono (Nat.le_trans HB.out HB2.out.size))) HL1.out HL2.out HL3.out (fun u3 u8 u9 u10 u11 u12 u13 u14 u15 u16 u17 u18 wd h=>hK _ _ (Met.intro (hJ _ _ ⟨u3,u8,u9,u10,u11,u12,u13,u14,u15,u16,u17,u18,h,rfl⟩)))
 case rest=>
  obtain⟨g,a,b,pb,rfl,hg,hB,oa,ob,op,hb⟩:=hcut;have hpl:=OwnR.lt op pb rfl
  have HK0 := hid (show CpK w wc g a b pb pss.length [.slice ma ms.length mc, .slice la lat.length lc, .slice pa pss.length pc] W2.heap.size (List.replicate pss.length vnil) (pss.take 0) (fun _ => wc.heap.size) ms lat from
   ⟨hB,oa,ob,⟨op,by simp,by simp,fun j hj=>absurd hj (by simp),fun j _ hj=>by simp[List.getD,hj],fun j hj=>absurd hj (by simp),hpl.2,Nat.le_refl _⟩,HB2.out.trans (hb.mono (by rw[HZ.out];omega)),HS.out.below hb HS.out.lt,HRx.out.below hb HRx.out.lt,fun k hk=>(OwnR.lt oa k hk).2,fun k hk=>(OwnR.lt ob k hk).2⟩)
  have HG:=hid hg;have HPB:=hid hpl.1;obtain⟨ya,yb,rfl,_,_⟩:=oa.shape;obtain⟨za,zb,rfl,_,_⟩:=ob.shape;clear hg hB oa ob op hb hpl;obtain⟨⟨r0,r1,r2⟩,_⟩:=HK0.out.src.three
  go_wp2_with fail
  clear r0 r1 r2
  go_loopw [22] (fun i wr=>∃(k:Nat) (us:List Value) (L:Nat→Nat),i=.int .i64 k∧k≤pss.length∧CpK w wr g (.slice ya ms.length yb) (.slice za lat.length zb) pb pss.length [.slice ma ms.length mc,.slice la lat.length lc,.slice pa pss.length pc] W2.heap.size us (pss.take k) L ms lat) (fun i _=>pss.length - (intOf i).toNat)
  case atStart=>exact⟨0,_,_,rfl,by omega,HK0.out⟩
  case round=>
   clear HK0;obtain⟨k,us,L,rfl,hk,hK⟩:=hrel;have HK:=hid hK;clear hK;by_cases hlt:k<pss.length
   ·obtain⟨sb,so,rfl,hsb,hsc⟩:=HR.out (by omega);obtain⟨da,dc,hu,c0⟩:=hsc k hlt;obtain⟨x,hx⟩:∃x,x=pss.getD k []:=⟨_,rfl⟩
    rw[←hx]at c0 hu;rw[←HK.out.be.cell (p:=⟨sb,_,none⟩) (Nat.lt_of_lt_of_le hsb HB.out)]at c0;have HX:=hid hx;have HU:=hid (hu.below (HK.out.be.mono HB.out));clear hx hsc hu
    go_upto_region 5 with fail
    clear c0;obtain⟨wo,hwo⟩:∃W,W=wr:=⟨_,rfl⟩
    subst hwo;obtain⟨ys,hyl,hya,hyp⟩:=Reqs.rowsS HU.out;have HYL:=hid hyl;have HYA:=hid hya;have HYP:=hid hyp;clear hyl hya hyp;have HPX:=hid (show x.length≤1048576∧∀q∈x,Rq20 q by rw[HX.out];exact HL4.out _ (zB8 hlt));have HGP:=hid (show g≠pb from fun e=>HK.out.ps.outer.notB HK.out.box (by decide) (by rw[e];rfl));have HBP:=hid (show B≤pb from Nat.le_trans (Nat.le_trans HB.out HB2.out.size) HPB.out)
    go_cut [] from 27 to 32 (fun wd=>QcP W2.heap.size pb k pss.length us ys wo wd)
    case first=>
     rename_i J K' hJ hK;exact qb5_region _ _ _ _ _ _ _ _ _ _ _ _ _ _ _ _ _ _ _ _ _ _ _ _ _ _ _ _ _ _ _ _ _ _ _ _ _ _ _ _ _ _ _ _ _ _ _ _ _ g k _ W2.heap.size pb pss.length B us ys wo HGP.out HK.out.box.lt HK.out.box.bx.three.1.2.2 HK.out.ps.pb.2 HBP.out hlt HK.out.ps.len HK.out.ps.outer HYA.out (by have:=HYL.out;have:=HPX.out.1;omega) (fun u27 u28 u29 u30 u31 u32 wd h=>hK _ _ (Met.intro (hJ _ _ ⟨u27,u28,u29,u30,u31,u32,h,rfl⟩)))
    case rest=>
     obtain⟨u,ou,oo,ht⟩:=hcut;obtain⟨w5,hw5⟩:∃W,W=wc:=⟨_,rfl⟩
     subst hw5;have HOO:=hid oo;have HT:=hid ht;have HI:=hid (PgI.start ou HYL.out);have HC5:=hid ((oo.cellAt zE4 k 0 vnil (by rw[List.length_set,HK.out.ps.len];exact hlt) (by omega)).trans (by rw[zF2 (by rw[HK.out.ps.len];exact hlt)];rfl:_=some u));have HG5:=hid ((ht.cell (p:=⟨g,2,none⟩) HGP.out HK.out.box.lt).trans HK.out.box.bx.three.1.2.2);have HU5:=hid (HU.out.below (ht.below HBP.out (Nat.le_trans HBP.out (Nat.le_of_lt HK.out.ps.pb.2))));clear ou oo ht
     go_wp2_with fail
     go_loopw [35] (fun i wx=>∃qs:List Rq,i=.int .i64 (qs.length:Nat)∧qs.length≤x.length∧qs=x.take qs.length∧Below wo.heap.size w5 wx∧PgI wx wo.heap.size u x qs ys) (fun i _=>x.length - (intOf i).toNat)
     case atStart=>exact⟨[],rfl,Nat.zero_le _,by simp,Below.refl _ _,HI.out⟩
     case round=>
      clear HI;obtain⟨qs,rfl,hq,hqs,hbx,hpi⟩:=hrel;have HBX:=hid hbx;have HI:=hid hpi;have HQS:=hid hqs;clear hbx hpi hqs;by_cases hlt2:qs.length<x.length
      ·skip
       rcases HI.out with⟨_,h2⟩|⟨gr,o,c,vs,rfl,h1,h2,hQ⟩
       ·exfalso;rw[h2]at hlt2;simp at hlt2
       have hgr:=hQ.g;obtain⟨b2,off2,rfl,hb2,hc2⟩:=(Reqs.opened' HU5.out).2 (by omega);obtain⟨ea,ec,fa,fc,hv,c0,c1,c2,c3,c4,c5,c6⟩:=hc2 qs.length hlt2;obtain⟨r,hr⟩:∃r,r=x.getD qs.length default:=⟨_,rfl⟩
       rw[←hr]at c0 c1 c2 c3 c4 c5 c6 hv;have hBw:B≤wo.heap.size:=Nat.le_trans HBP.out (Nat.le_of_lt HK.out.ps.pb.2);have cl:∀j,wr.cell? ⟨b2,j,none⟩=w5.cell? ⟨b2,j,none⟩:=fun j=>HBX.out.cell (p:=⟨b2,j,none⟩) (Nat.lt_of_lt_of_le hb2 hBw)
       rw[←cl]at c0 c1 c2 c3 c4 c5 c6;have HR:=hid hr;have HV:=hid (hv.below (HBX.out.mono hBw));have HQ:=hid hQ;have HGR:=hid hgr;have H1:=hid h1;have HRQ:=hid (show Rq20 r from by rw[hr];exact HPX.out.2 _ (zB8 hlt2));clear hr hv hQ hgr h1 hc2 cl hb2
       go_upto_region 9 with fail
       clear c0 c1 c2 c3 c4 c5 c6;obtain⟨wp,hwp⟩:∃W,W=wr:=⟨_,rfl⟩
       subst hwp;obtain⟨W3,hW3⟩:∃W3,W3=wp.alloc (.cells #[.int .i64 r.id,.int .i64 r.kind,.int .i64 r.addr,.int .i64 r.many,.bool r.wrap,.slice ea r.data.length ec,.slice fa r.lanes.length fc] 52):=⟨_,rfl⟩
       rw[←hW3];have HB3:=hid (show Below wp.heap.size wp W3 by rw[hW3];exact bx1 _ _);have HE:=hid (show Bx W3 wp.heap.size [.int .i64 r.id,.int .i64 r.kind,.int .i64 r.addr,.int .i64 r.many,.bool r.wrap,.slice ea r.data.length ec,.slice fa r.lanes.length fc] by rw[hW3];exact Bx.new wp #[.int .i64 r.id,.int .i64 r.kind,.int .i64 r.addr,.int .i64 r.many,.bool r.wrap,.slice ea r.data.length ec,.slice fa r.lanes.length fc] _ (by simp));clear hW3;have HB53:=hid (show Below wo.heap.size w5 W3 from HBX.out.trans (HB3.out.mono (by have:=HGR.out;omega)));obtain⟨row,rest,hdr⟩:∃row rest,(ys.map toV).drop qs.length=row::rest:=⟨_,_,List.drop_eq_getElem_cons (by have:=HYL.out;simp;omega)⟩
       have HDR:=hid hdr;have HRS:=hid (show(ys.map toV).drop (qs++[r]).length=rest by rw[List.length_append,List.length_singleton,←List.drop_drop,hdr];rfl);clear hdr;have HQ3:=hid (show QcO W3 wo.heap.size gr o c x.length qs vs (row::rest) by rw[←HDR.out];exact HQ.out.below HB3.out);have HP5:=hid (show w5.cell? ⟨pb,k,none⟩=some (.slice (some ⟨gr,o,none⟩) x.length c) by have:=HC5.out;simpa using this);have z1:=HGR.out;have z2:=HK.out.box.lt;have z3:=HK.out.ps.pb.2;have z4:=HB3.out.size;have z5:=HE.out.lt;have z6:=HBP.out;refine qb9_region _ _ _ _ _ _ _ _ _ _ _ _ _ _ _ _ _ _ _ _ _ _ _ _ _ _ _ _ _ _ _ _ _ _ _ _ _ _ _ _ _ _ _ _ _ _ _ _ g k qs wp.heap.size wo.heap.size gr o c x.length pb pss.length B vs row rest r _ _ W3 (by omega) (by omega) ((HB53.out.cell (p:=⟨g,2,none⟩) z2).trans HG5.out) hlt (by omega) (by omega) ((HB53.out.cell (p:=⟨pb,k,none⟩) z3).trans HP5.out) (by omega) z5 ⟨HE.out.seven.1,trivial⟩ (by omega) (by omega) (HV.out.below (HB3.out.mono (by omega))) HRQ.out.1 HRQ.out.2 hlt2 HQ3.out ?_;clear z1 z2 z3 z4 z5 z6;intro u40 u41 u42 u43 u44 u45 u46 u47 u48 wc hcut;obtain⟨d,l,hq', ht'⟩:=hcut;obtain⟨w7,hw7⟩:∃W,W=wc:=⟨_,rfl⟩
       subst hw7;have HQ7:=hid hq';have HT7:=hid ht';clear hq' ht';unfold qb9A;have hsm:qs.length≤1048576:=by have:=HPX.out.1;omega
       go_wp2_with fail
       go_roundw
       case rel=>exact⟨qs++[r],by simp,by simp;omega,by rw[List.length_append,List.length_singleton,List.take_succ_eq_append_getElem hlt2,←HQS.out,HR.out];simp[List.getD,hlt2],HB53.out.trans (HT7.out.below HGR.out.1 (by have:=HGR.out;have:=HB3.out.size;omega)),.inr ⟨gr,o,c,vs++[(d,l)],rfl,H1.out,h2,by rw[HRS.out];exact HQ7.out⟩⟩
       case measure=>simp[intOf];omega
      ·have hqx:qs=x:=by rw[HQS.out,List.take_of_length_le (by omega)]
       have HN:=hid (HK.out.next hlt (by have:=HZ.out;omega) HOO.out HT.out HBX.out (by rw[←HX.out];have:=HI.out;rw[hqx]at this;exact this.done HYL.out));clear HI HQS
       go_wp2_with fail
       go_roundw
       case rel=>exact⟨k+1,_,_,by go_num,by omega,HN.out⟩
       case measure=>simp[intOf];omega
   ·obtain rfl:k=pss.length:=by omega
    rw[List.take_length]at HK;obtain⟨⟨r0,r1,r2⟩,_⟩:=HK.out.box.bx.three;obtain⟨⟨q0,q1,q2⟩,f0,f1,f2⟩:=HK.out.res.three;have hrl:=HK.out.res.lt
    go_wp2_with fail
    refine bodyPost_ret (zB0 Tryz.results57 _ _ ⟨w.heap.size+1,0,none⟩ (.agg #[.slice ya ms.length yb,.slice za lat.length zb,.slice (some ⟨pb,0,none⟩) pss.length pss.length]) rfl (zG6 _ _ _ _ _ (by simp[go_sem, *]) (by simp[go_sem, *]) (by simp[go_sem, *]))) rfl ⟨_,_,_,us,L,rfl,?_,?_,?_,HK.out.lo0,?_⟩
    ·have hz:=HZ.out;exact OwnR.rebase (OwnR.kept HK.out.oa (fun k hk=>(touchB (w.heap.size+1) _ _ _ _).block k (OwnR.lt HK.out.oa k hk).2 (by have:=(OwnR.lt HK.out.oa k hk).1;omega))) (show w.heap.size≤W2.heap.size by omega)
    ·have hz:=HZ.out;exact OwnR.rebase (OwnR.kept HK.out.ob (fun k hk=>(touchB (w.heap.size+1) _ _ _ _).block k (OwnR.lt HK.out.ob k hk).2 (by have:=(OwnR.lt HK.out.ob k hk).1;omega))) (show w.heap.size≤W2.heap.size by omega)
    ·have hz:=HZ.out;exact(HK.out.ps.kept (fun k h1 h2=>(touchB (w.heap.size+1) _ _ _ _).block k h2 (by omega)) (touchB (w.heap.size+1) _ _ _ _).size).rebase (by omega)
    ·exact((HK.out.be.setCell (by exact Nat.le_succ _) _).setCell (by exact Nat.le_succ _) _).setCell (by exact Nat.le_succ _) _
end Go.Proofs.YtgkdoehkmbhfiaaGreat
