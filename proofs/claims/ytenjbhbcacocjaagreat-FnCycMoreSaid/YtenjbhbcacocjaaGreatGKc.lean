/- copyJobs: jobs with what was told, copied. -/
import Derived.Test.YtenjbhbcacocjaaGreatGBq
import Derived.Test.YtenjbhbcacocjaaGreatGReq
import Derived.Test.YtenjbhbcacocjaaGreatGQ1
import Derived.Test.YtenjbhbcacocjaaGreatGMap1
import Derived.Test.YtenjbhbcacocjaaGreatGDr1
import Derived.Test.YtenjbhbcacocjaaGreatGY1
import Derived.BigGuardPart
import Derived.Deep.QuietTactic
import Derived.BigQuiet
import Derived.Deep.Cut
import Derived.Deep.CutRange
import Derived.Deep.RegionHeld3
import Derived.Deep.RegionWith
import Derived.StillTailTactics
set_option linter.unusedVariables false
set_option linter.unusedSimpArgs false
namespace Go.Proofs.YtenjbhbcacocjaaGreat
open Go.RowKit
def icmp (a b:Int):Int:=if a < b then -1 else if b < a then 1 else 0
theorem isNaN_any (a:Int) (w:World):Calls Tryz.prog 164 #[.int .i64 a] w fun e w' => e = .returned (.bool false) ∧ w = w':=by
 go_enter Tryz.func164,Tryz.ntmps164
 go_wp2
 go_ret
 exact ⟨by simp,rfl⟩
set_option maxHeartbeats 1000000 in
theorem cmpInt_any (a b:Int) (w:World):Calls Tryz.prog 145 #[.int .i64 a,.int .i64 b] w fun e w' => e = .returned (.int .i64 (icmp a b)) ∧ w = w':=by
 rcases Int.lt_trichotomy a b with h | h | h
 ·have HI:=hid (show icmp a b = -1 by unfold icmp;rw [if_pos h])
  go_enter Tryz.func145,Tryz.ntmps145
  go_wp2_with (go_at_call 164;refine (isNaN_any _ _).mono ?_;rintro e w' ⟨rfl,rfl⟩)
  go_ret
  exact ⟨by rw [HI.out];rfl,rfl⟩
 ·subst h
  have HI:=hid (show icmp a a = 0 by unfold icmp;simp)
  have h1:decide (a < a) = false:=by simp
  go_enter Tryz.func145,Tryz.ntmps145
  go_wp2_with (go_at_call 164;refine (isNaN_any _ _).mono ?_;rintro e w' ⟨rfl,rfl⟩)
  go_ret
  exact ⟨by rw [HI.out];rfl,rfl⟩
 ·have HI:=hid (show icmp a b = 1 by unfold icmp;rw [if_neg (by omega),if_pos h])
  have h1:decide (a < b) = false:=by rw [decide_eq_false_iff_not];omega
  go_enter Tryz.func145,Tryz.ntmps145
  go_wp2_with (go_at_call 164;refine (isNaN_any _ _).mono ?_;rintro e w' ⟨rfl,rfl⟩)
  go_ret
  exact ⟨by rw [HI.out];rfl,rfl⟩
set_option maxHeartbeats 1000000 in
theorem or_any (a b:Int) (g c:Nat) (w:World) (h0:w.cell? ⟨g,0,none⟩ = some (.int .i64 a)) (h1:w.cell? ⟨g,1,none⟩ = some (.int .i64 b)) :
  Calls Tryz.prog 144 #[.slice (some ⟨g,0,none⟩) 2 c] w fun e w' => e = .returned (.int .i64 (if a = 0 then b else a)) ∧ w = w':=by
 by_cases ha:a = 0
 ·subst ha
  by_cases hb:b = 0
  ·subst hb
   go_enter Tryz.func144,Tryz.ntmps144
   go_wp2_with fail
   refine wp_loop_rounds 3 ?_
   iterate 3 (first | (rw [rounds_succ];go_wp2_with fail))
   go_ret
   exact ⟨by simp,rfl⟩
  ·have hb':(b != 0) = true:=by simpa using hb
   go_enter Tryz.func144,Tryz.ntmps144
   go_wp2_with fail
   refine wp_loop_rounds 3 ?_
   rw [rounds_succ];go_wp2_with fail
   rw [rounds_succ];go_wp2_with fail
   go_ret
   exact ⟨by simp,rfl⟩
 ·have ha':(a != 0) = true:=by simpa using ha
  go_enter Tryz.func144,Tryz.ntmps144
  go_wp2_with fail
  refine wp_loop_rounds 3 ?_
  rw [rounds_succ];go_wp2_with fail
  go_ret
  exact ⟨by simp [ha],rfl⟩
def kcmp (a b:TJ):Int:=if icmp a.who b.who = 0 then icmp a.n b.n else icmp a.who b.who
theorem kcmp_lt (a b:TJ):decide (kcmp a b < 0) = kLt a b:=by
 rw [Bool.eq_iff_iff,decide_eq_true_eq,kLt_iff]
 unfold kcmp icmp
 split <;> (try split) <;> (try split) <;> omega
theorem kcmp_ge (a b:TJ):decide (0 ≤ kcmp a b) = !kLt a b:=by
 rw [← kcmp_lt]
 by_cases h:0 ≤ kcmp a b
 ·rw [decide_eq_true h,decide_eq_false (by omega)];rfl
 ·rw [decide_eq_false h,decide_eq_true (by omega)];rfl
def CmpP (a b:TJ) (w:World) (e:Ending) (w':World):Prop:=e = .returned (.int .i64 (kcmp a b)) ∧ Below w.heap.size w w'
set_option maxRecDepth 8000 in
set_option maxHeartbeats 4000000 in
theorem cmpJobs_any (a b:TJ) (x1 x2:Option Addr) (n1 c1 n2 c2:Nat) (w:World) :
  Calls Tryz.prog 104 #[.agg #[.int .i64 a.who,.int .i64 a.n,.int .i64 a.rsp.id,.int .i64 a.rsp.code,.slice x1 n1 c1],.agg #[.int .i64 b.who,.int .i64 b.n,.int .i64 b.rsp.id,.int .i64 b.rsp.code,.slice x2 n2 c2]] w (CmpP a b w):=by
 obtain ⟨aw,an,ar⟩:=a;obtain ⟨bw,bn,br⟩:=b
 obtain ⟨w0,hw0⟩:∃ W,W = ((w.alloc (.cells #[.int .i64 aw,.int .i64 an,.int .i64 ar.id,.int .i64 ar.code,.slice x1 n1 c1] 88)).alloc (.cells #[.int .i64 bw,.int .i64 bn,.int .i64 br.id,.int .i64 br.code,.slice x2 n2 c2] 88)):=⟨_,rfl⟩
 have HB0:=hid (show Below w.heap.size w w0 by rw [hw0];exact ((Below.refl _ _).alloc (Nat.le_refl _) _).alloc (by simp) _)
 have HP:=hid (show kcmp ⟨aw,an,ar⟩ ⟨bw,bn,br⟩ = if icmp aw bw = 0 then icmp an bn else icmp aw bw from rfl)
 have p0:w0.cell? ⟨w.heap.size,0,none⟩ = some (.int .i64 aw):=by rw [hw0];simp [go_sem]
 have p1:w0.cell? ⟨w.heap.size,1,none⟩ = some (.int .i64 an):=by rw [hw0];simp [go_sem]
 have q0:w0.cell? ⟨w.heap.size + 1,0,none⟩ = some (.int .i64 bw):=by rw [hw0];simp [go_sem]
 have q1:w0.cell? ⟨w.heap.size + 1,1,none⟩ = some (.int .i64 bn):=by rw [hw0];simp [go_sem]
 obtain ⟨i1,hi1⟩:∃ x,x = icmp aw bw:=⟨_,rfl⟩
 obtain ⟨i2,hi2⟩:∃ x,x = icmp an bn:=⟨_,rfl⟩
 rw [← hi1,← hi2] at HP
 have HI1:=hid hi1;have HI2:=hid hi2
 clear hi1 hi2
 go_enter Tryz.func104,Tryz.ntmps104
 go_upto_region 1 with fail
 rw [← hw0]
 clear hw0
 refine wp_region_still_tail 10 (by kernel_rfl) (by kernel_rfl) ?_
 obtain ⟨w9,hw9⟩:∃ w9,w9 = w0.drew:=⟨_,rfl⟩
 change wpStill Tryz.prog _ w0.drew (fun a' => wpList Tryz.prog _ _ _ a' w0.drew) _ _
 have r0:w9.cell? ⟨w.heap.size,0,none⟩ = some (.int .i64 aw):=by rw [hw9];exact p0
 have r1:w9.cell? ⟨w.heap.size,1,none⟩ = some (.int .i64 an):=by rw [hw9];exact p1
 have s0:w9.cell? ⟨w.heap.size + 1,0,none⟩ = some (.int .i64 bw):=by rw [hw9];exact q0
 have s1:w9.cell? ⟨w.heap.size + 1,1,none⟩ = some (.int .i64 bn):=by rw [hw9];exact q1
 have HB9:=hid (show Below w.heap.size w w9 by rw [hw9];exact HB0.out.drew)
 rw [← hw9]
 clear hw9 p0 p1 q0 q1
 simp only [List.take_succ_cons,List.take_zero,List.drop_succ_cons,List.drop_zero]
 repeat still_step
 have HC1:=hid (cmpInt_any (aw:Nat) (bw:Nat) w9);rw [← HI1.out] at HC1
 have HC2:=hid (cmpInt_any (an:Nat) (bn:Nat) w9);rw [← HI2.out] at HC2
 still_call ((HC1.out).mono (fun _ _ h => ⟨h.1,h.2.symm⟩))
 repeat still_step
 still_call ((HC2.out).mono (fun _ _ h => ⟨h.1,h.2.symm⟩))
 repeat still_step
 refine wpStill_nil ?_
 go_wp2_with (go_at_call 144;(with_reducible refine (or_any i1 i2 _ _ _ (by simp [go_sem]) (by simp [go_sem])).mono ?_);rw [← HP.out];rintro e w8 ⟨rfl,rfl⟩)
 go_ret
 exact ⟨rfl,HB9.out.alloc HB9.out.size _⟩
def rowN (n:Nat):List Value:=[.int .i64 n]
def jbRow (j:Jb):List Value:=[.int .i64 j.who,.int .i64 j.n,.int .i64 j.left]
abbrev TJV:=TJ × Value
def tjRow (x:TJV):List Value:=[.int .i64 x.1.who,.int .i64 x.1.n,.int .i64 x.1.rsp.id,.int .i64 x.1.rsp.code,x.2]
def evRow (e:Ev):List Value:=[.int .i64 e.kind,.int .i64 e.who,.int .i64 e.n]
def ptRow (V:Nat → Value) (p:Pt) (i:Nat):List Value:=[.int .i64 p.next,V (5 + i),V (8 + i),.int .i64 p.last]
def svRow (V:Nat → Value) (v:Sv) (s:Nat):List Value:=[V (11 + s),V (15 + s),.int .i64 v.last]
structure Cont (st:Cy) (ev:List Ev) (V:Nat → Value) (N:Nat → Nat) (C:Nat → List Value) (D:Nat → List TJV):Prop where
 n0:N 0 = st.ws.length
 c0:C 0 = st.ws.flatMap rowI
 n1:N 1 = st.hs.length
 c1:C 1 = st.hs.flatMap rowI
 n2:N 2 = 3
 c2:C 2 = ptRow V (st.ports 0) 0 ++ ptRow V (st.ports 1) 1 ++ ptRow V (st.ports 2) 2
 n3:N 3 = 4
 c3:C 3 = svRow V (st.slaves 0) 0 ++ svRow V (st.slaves 1) 1 ++ svRow V (st.slaves 2) 2 ++ svRow V (st.slaves 3) 3
 n4:N 4 = st.told.length
 c4:C 4 = (D 4).flatMap tjRow
 t4:(D 4).map (·.1) = st.told
 nq:∀ i,i < 3 → N (5 + i) = (st.ports i).queue.length
 cq:∀ i,i < 3 → C (5 + i) = (st.ports i).queue.flatMap rowN
 no:∀ i,i < 3 → N (8 + i) = (st.ports i).out.length
 co:∀ i,i < 3 → C (8 + i) = (st.ports i).out.flatMap jbRow
 np:∀ s,s < 4 → N (11 + s) = (st.slaves s).pipe.length
 cp:∀ s,s < 4 → C (11 + s) = (st.slaves s).pipe.flatMap jbRow
 nd:∀ s,s < 4 → N (15 + s) = (st.slaves s).done.length
 cd:∀ s,s < 4 → C (15 + s) = (D (15 + s)).flatMap tjRow
 td:∀ s,s < 4 → (D (15 + s)).map (·.1) = (st.slaves s).done
 ne:N 19 = ev.length
 ce:C 19 = ev.flatMap evRow
def DFree (V:Nat → Value) (S Hb:Nat) (w:World) (b:Nat):Prop:=b < w.heap.size ∧ Free V b ∧ b ≠ S ∧ b ≠ Hb
def Clr (L:Nat → Value) (v:Value):Prop:=∀ i,4 ≤ i → ∀ b,(L i).ownBlock = some b → v.ownBlock ≠ some b
def DatP (L:Nat → Value) (w:World) (P:Nat → Prop) (x:TJV):Prop:=IntsD w P x.2 x.1.rsp.data ∧ (x.1.rsp.data ≠ [] → Clr L x.2)
theorem DatP.kept {L:Nat → Value} {w w':World} {P:Nat → Prop} {x:TJV} (h:DatP L w P x) (hk:Keeps P w w'):DatP L w' P x:=⟨h.1.kept hk,h.2⟩
theorem DatP.weak {L:Nat → Value} {w:World} {P Q:Nat → Prop} {x:TJV} (h:DatP L w P x) (hs:∀ b,P b → Q b):DatP L w Q x:=⟨h.1.weak hs,h.2⟩
theorem DatP.put {L:Nat → Value} {w:World} {P:Nat → Prop} {x:TJV} (h:DatP L w P x) {s:Nat} (hs:s < 4) (u:Value):DatP (upd L s u) w P x:=⟨h.1,fun hn i hi b hb => h.2 hn i hi b (by rwa [upd_other _ _ (by omega)] at hb)⟩
structure CyM (w:World) (base S Hb:Nat) (L:Nat → Value) (st:Cy) (ev:List Ev) (V:Nat → Value) (N:Nat → Nat) (C:Nat → List Value) (D:Nat → List TJV):Prop where
 raw:Raw w base V N C
 con:Cont st ev V N C D
 bs:w.heap[S]? = some (.cells #[V 0,V 1,V 2,V 3,V 4] 39 (0,0))
 bh:w.heap[Hb]? = some (.cells #[V 19,L 0,L 1,L 2,L 3] 98 (0,0))
 fs:Free V S
 fh:Free V Hb
 ne:S ≠ Hb
 s0:base ≤ S
 h0:base ≤ Hb
 lx:∀ i,4 ≤ i → ∀ b,(L i).ownBlock = some b → b < w.heap.size
 dat:∀ κ,κ < 20 → ∀ x ∈ D κ,DatP L w (DFree V S Hb w) x
theorem heap_lt' {w:World} {b:Nat} {o:Obj} (h:w.heap[b]? = some o):b < w.heap.size:=(Array.getElem?_eq_some_iff.1 h).1
theorem CyM.below {w w':World} {base S Hb:Nat} {L:Nat → Value} {st:Cy} {ev:List Ev} {V:Nat → Value} {N:Nat → Nat} {C:Nat → List Value} {D:Nat → List TJV} (h:CyM w base S Hb L st ev V N C D) (hb:Below w.heap.size w w'):CyM w' base S Hb L st ev V N C D :=
 ⟨h.raw.below hb,h.con,(hb.block S (heap_lt' h.bs)).trans h.bs,(hb.block Hb (heap_lt' h.bh)).trans h.bh,h.fs,h.fh,h.ne,h.s0,h.h0,fun i hi b hb2 => Nat.lt_of_lt_of_le (h.lx i hi b hb2) hb.size,fun κ hκ x hx => ((h.dat κ hκ x hx).kept fun b hb2 => hb.block b hb2.1).weak fun b hb2 => ⟨Nat.lt_of_lt_of_le hb2.1 hb.size,hb2.2⟩⟩
theorem CyM.put {w w1:World} {base S Hb:Nat} {L:Nat → Value} {st st':Cy} {ev:List Ev} {V:Nat → Value} {N:Nat → Nat} {C:Nat → List Value} {D D':Nat → List TJV} (h:CyM w base S Hb L st ev V N C D)
  {κ μ g off cap j n:Nat} {v:Value} {c:List Value} (hκ:5 ≤ κ ∧ κ < 19) (hμ:μ = 2 ∨ μ = 3) (hV:V μ = .slice (some ⟨g,off,none⟩) (N μ) cap) (hj:j < N μ * esz μ)
  (hk:∀ b,b < w.heap.size → (V κ).ownBlock ≠ some b → w1.heap[b]? = w.heap[b]?) (hsz:w.heap.size ≤ w1.heap.size) (ho:OwnR w1 base (ety κ) (esz κ) v n c) (hv:∀ k,v.ownBlock = some k → (V κ).ownBlock = some k ∨ w.heap.size ≤ k)
  (hD:∀ i,i ≠ κ → D' i = D i) (hd:∀ x ∈ D' κ,DatP L w1 (DFree (upd V κ v) S Hb w1) x)
  (hc:Cont st' ev (upd V κ v) (upd N κ n) (upd (upd C κ c) μ ((C μ).set j v)) D') :
  CyM (w1.setCell ⟨g,off + j,none⟩ v) base S Hb L st' ev (upd V κ v) (upd N κ n) (upd (upd C κ c) μ ((C μ).set j v)) D':=by
 have hκ2:κ < 20:=by omega
 have hμ2:μ < 20:=by omega
 have hne:μ ≠ κ:=by omega
 have hgo:(V μ).ownBlock = some g:=by rw [hV];rfl
 have r1:=h.raw.chg hκ2 hk ho hv
 have r2:=r1.set (κ:=μ) (g:=g) (off:=off) (cap:=cap) (j:=j) hμ2 (by rw [upd_other _ _ hne,upd_other _ _ hne];exact hV) (by rw [upd_other _ _ hne];exact hj) v
 rw [upd_other C _ hne] at r2
 have hgS:S ≠ g:=fun e => h.fs μ hμ2 (by rw [hgo,e])
 have hgH:Hb ≠ g:=fun e => h.fh μ hμ2 (by rw [hgo,e])
 have hset:∀ b,b ≠ g → (w1.setCell ⟨g,off + j,none⟩ v).heap[b]? = w1.heap[b]?:=fun b hb => Below.heap_setCell _ _ _ _ hb
 have hz:(w1.setCell ⟨g,off + j,none⟩ v).heap.size = w1.heap.size:=by simp
 have hS:=heap_lt' h.bs
 have hH:=heap_lt' h.bh
 have eV:∀ i,i ≠ κ → upd V κ v i = V i:=fun i hi => upd_other _ _ hi
 refine ⟨r2,hc,?_,?_,h.fs.chg (w:=w) hS hv hκ2,h.fh.chg (w:=w) hH hv hκ2,h.ne,h.s0,h.h0,fun i hi b hb => by rw [hz];exact Nat.lt_of_lt_of_le (h.lx i hi b hb) hsz,fun ν hν x hx => ?_⟩
 ·rw [hset S hgS,hk S hS (h.fs κ hκ2),h.bs,eV 0 (by omega),eV 1 (by omega),eV 2 (by omega),eV 3 (by omega),eV 4 (by omega)]
 ·rw [hset Hb hgH,hk Hb hH (h.fh κ hκ2),h.bh,eV 19 (by omega)]
 ·have hgn:∀ b,DFree (upd V κ v) S Hb w1 b → b ≠ g:=fun b hb e => hb.2.1 μ hμ2 (by rw [eV μ hne,hgo,e])
  have step:∀ {x:TJV},DatP L w1 (DFree (upd V κ v) S Hb w1) x → DatP L (w1.setCell ⟨g,off + j,none⟩ v) (DFree (upd V κ v) S Hb (w1.setCell ⟨g,off + j,none⟩ v)) x:=fun hi =>
   (hi.kept fun b hb => hset b (hgn b hb)).weak fun b hb => ⟨by rw [hz];exact hb.1,hb.2⟩
  by_cases e:ν = κ
  ·subst e;exact step (hd x hx)
  ·rw [hD ν e] at hx
   exact step (((h.dat ν hν x hx).kept fun b hb => hk b hb.1 (hb.2.1 κ hκ2)).weak fun b hb => ⟨Nat.lt_of_lt_of_le hb.1 hsz,hb.2.1.chg (w:=w) hb.1 hv hκ2,hb.2.2⟩)
theorem CyM.old {w w1:World} {base S Hb:Nat} {L:Nat → Value} {st:Cy} {ev:List Ev} {V:Nat → Value} {N:Nat → Nat} {C:Nat → List Value} {D:Nat → List TJV} (h:CyM w base S Hb L st ev V N C D) {κ ν:Nat} {v:Value} {x:TJV} (hκ:κ < 20) (hν:ν < 20)
  (hk:∀ b,b < w.heap.size → (V κ).ownBlock ≠ some b → w1.heap[b]? = w.heap[b]?) (hsz:w.heap.size ≤ w1.heap.size) (hv:∀ k,v.ownBlock = some k → (V κ).ownBlock = some k ∨ w.heap.size ≤ k) (hx:x ∈ D ν):DatP L w1 (DFree (upd V κ v) S Hb w1) x :=
 ((h.dat ν hν x hx).kept fun b hb => hk b hb.1 (hb.2.1 κ hκ)).weak fun b hb => ⟨Nat.lt_of_lt_of_le hb.1 hsz,hb.2.1.chg (w:=w) hb.1 hv hκ,hb.2.2⟩
theorem CyM.cell {w:World} {base S Hb:Nat} {L:Nat → Value} {st st':Cy} {ev:List Ev} {V:Nat → Value} {N:Nat → Nat} {C:Nat → List Value} {D:Nat → List TJV} (h:CyM w base S Hb L st ev V N C D)
  {κ g off cap j:Nat} {u:Value} (hκ:κ < 20) (hV:V κ = .slice (some ⟨g,off,none⟩) (N κ) cap) (hj:j < N κ * esz κ) (hc:Cont st' ev V N (upd C κ ((C κ).set j u)) D) :
  CyM (w.setCell ⟨g,off + j,none⟩ u) base S Hb L st' ev V N (upd C κ ((C κ).set j u)) D:=by
 have hgo:(V κ).ownBlock = some g:=by rw [hV];rfl
 have hset:∀ b,b ≠ g → (w.setCell ⟨g,off + j,none⟩ u).heap[b]? = w.heap[b]?:=fun b hb => Below.heap_setCell _ _ _ _ hb
 have hgS:S ≠ g:=fun e => h.fs κ hκ (by rw [hgo,e])
 have hgH:Hb ≠ g:=fun e => h.fh κ hκ (by rw [hgo,e])
 refine ⟨h.raw.set hκ hV hj u,hc,(hset S hgS).trans h.bs,(hset Hb hgH).trans h.bh,h.fs,h.fh,h.ne,h.s0,h.h0,fun i hi b hb => by simpa using h.lx i hi b hb,fun ν hν x hx => ?_⟩
 exact ((h.dat ν hν x hx).kept fun b hb => hset b (fun e => hb.2.1 κ hκ (by rw [hgo,e]))).weak fun b hb => ⟨by simpa using hb.1,hb.2⟩
theorem CyM.toldPut {w w1:World} {base S Hb:Nat} {L:Nat → Value} {st st':Cy} {ev:List Ev} {V:Nat → Value} {N:Nat → Nat} {C:Nat → List Value} {D D':Nat → List TJV} (h:CyM w base S Hb L st ev V N C D)
  {n:Nat} {v:Value} {c:List Value} (hk:∀ b,b < w.heap.size → (V 4).ownBlock ≠ some b → w1.heap[b]? = w.heap[b]?) (hsz:w.heap.size ≤ w1.heap.size) (ho:OwnR w1 base (ety 4) (esz 4) v n c) (hv:∀ k,v.ownBlock = some k → (V 4).ownBlock = some k ∨ w.heap.size ≤ k)
  (hD:∀ i,i ≠ 4 → D' i = D i) (hd:∀ x ∈ D' 4,DatP L w1 (DFree (upd V 4 v) S Hb w1) x)
  (hc:Cont st' ev (upd V 4 v) (upd N 4 n) (upd C 4 c) D') :
  CyM (w1.setCell ⟨S,4,none⟩ v) base S Hb L st' ev (upd V 4 v) (upd N 4 n) (upd C 4 c) D':=by
 have r1:=h.raw.chg (κ:=4) (by omega) hk ho hv
 have hset:∀ b,b ≠ S → (w1.setCell ⟨S,4,none⟩ v).heap[b]? = w1.heap[b]?:=fun b hb => Below.heap_setCell _ _ _ _ hb
 have hS:=heap_lt' h.bs
 have hH:=heap_lt' h.bh
 have f1:=h.fs.chg (w:=w) hS hv (κ:=4) (by omega)
 have f2:=h.fh.chg (w:=w) hH hv (κ:=4) (by omega)
 have eV:∀ i,i ≠ 4 → upd V 4 v i = V i:=fun i hi => upd_other _ _ hi
 refine ⟨r1.kept fun b _ hb => hset b (fun e => hb (by rw [e];exact f1)),hc,?_,?_,f1,f2,h.ne,h.s0,h.h0,fun i hi b hb => by simpa using Nat.lt_of_lt_of_le (h.lx i hi b hb) hsz,fun ν hν x hx => ?_⟩
 ·have hb1:=(hk S hS (h.fs 4 (by omega))).trans h.bs
  rw [eV 0 (by omega),eV 1 (by omega),eV 2 (by omega),eV 3 (by omega),upd_same]
  simp [World.setCell,Array.getElem?_modify,hb1]
 ·rw [hset Hb (Ne.symm h.ne),hk Hb hH (h.fh 4 (by omega)),h.bh,eV 19 (by omega)]
 ·have step:∀ {x:TJV},DatP L w1 (DFree (upd V 4 v) S Hb w1) x → DatP L (w1.setCell ⟨S,4,none⟩ v) (DFree (upd V 4 v) S Hb (w1.setCell ⟨S,4,none⟩ v)) x:=fun hi =>
   (hi.kept fun b hb => hset b hb.2.2.1).weak fun b hb => ⟨by simpa using hb.1,hb.2⟩
  by_cases e:ν = 4
  ·subst e;exact step (hd x hx)
  ·rw [hD ν e] at hx;exact step (h.old (by omega) hν hk hsz hv hx)
theorem CyM.evPut {w w1:World} {base S Hb:Nat} {L:Nat → Value} {st:Cy} {ev ev':List Ev} {V:Nat → Value} {N:Nat → Nat} {C:Nat → List Value} {D:Nat → List TJV} (h:CyM w base S Hb L st ev V N C D)
  {n:Nat} {v:Value} {c:List Value} (hk:∀ b,b < w.heap.size → (V 19).ownBlock ≠ some b → w1.heap[b]? = w.heap[b]?) (hsz:w.heap.size ≤ w1.heap.size) (ho:OwnR w1 base (ety 19) (esz 19) v n c) (hv:∀ k,v.ownBlock = some k → (V 19).ownBlock = some k ∨ w.heap.size ≤ k)
  (hc:Cont st ev' (upd V 19 v) (upd N 19 n) (upd C 19 c) D) :
  CyM (w1.setCell ⟨Hb,0,none⟩ v) base S Hb L st ev' (upd V 19 v) (upd N 19 n) (upd C 19 c) D:=by
 have r1:=h.raw.chg (κ:=19) (by omega) hk ho hv
 have hset:∀ b,b ≠ Hb → (w1.setCell ⟨Hb,0,none⟩ v).heap[b]? = w1.heap[b]?:=fun b hb => Below.heap_setCell _ _ _ _ hb
 have hS:=heap_lt' h.bs
 have hH:=heap_lt' h.bh
 have f1:=h.fs.chg (w:=w) hS hv (κ:=19) (by omega)
 have f2:=h.fh.chg (w:=w) hH hv (κ:=19) (by omega)
 have eV:∀ i,i ≠ 19 → upd V 19 v i = V i:=fun i hi => upd_other _ _ hi
 refine ⟨r1.kept fun b _ hb => hset b (fun e => hb (by rw [e];exact f2)),hc,?_,?_,f1,f2,h.ne,h.s0,h.h0,fun i hi b hb => by simpa using Nat.lt_of_lt_of_le (h.lx i hi b hb) hsz,fun ν hν x hx => ?_⟩
 ·rw [hset S h.ne,hk S hS (h.fs 19 (by omega)),h.bs,eV 0 (by omega),eV 1 (by omega),eV 2 (by omega),eV 3 (by omega),eV 4 (by omega)]
 ·have hb1:=(hk Hb hH (h.fh 19 (by omega))).trans h.bh
  rw [upd_same]
  simp [World.setCell,Array.getElem?_modify,hb1]
 ·exact ((h.old (ν:=ν) (κ:=19) (by omega) hν hk hsz hv hx).kept fun b hb => hset b hb.2.2.2).weak fun b hb => ⟨by simpa using hb.1,hb.2⟩
theorem CyM.letPut {w:World} {base S Hb:Nat} {L:Nat → Value} {st:Cy} {ev:List Ev} {V:Nat → Value} {N:Nat → Nat} {C:Nat → List Value} {D:Nat → List TJV} (h:CyM w base S Hb L st ev V N C D) {s:Nat} (hs:s < 4) (u:Value) :
  CyM (w.setCell ⟨Hb,1 + s,none⟩ u) base S Hb (upd L s u) st ev V N C D:=by
 have hset:∀ b,b ≠ Hb → (w.setCell ⟨Hb,1 + s,none⟩ u).heap[b]? = w.heap[b]?:=fun b hb => Below.heap_setCell _ _ _ _ hb
 refine ⟨h.raw.kept fun b _ hb => hset b (fun e => hb (by rw [e];exact h.fh)),h.con,(hset S h.ne).trans h.bs,?_,h.fs,h.fh,h.ne,h.s0,h.h0,fun i hi b hb => by rw [upd_other _ _ (by omega)] at hb;simpa using h.lx i hi b hb,fun ν hν x hx => ?_⟩
 ·have hb1:=h.bh
  rcases (show s = 0 ∨ s = 1 ∨ s = 2 ∨ s = 3 by omega) with rfl | rfl | rfl | rfl <;> simp [World.setCell,Array.getElem?_modify,hb1,upd]
 ·exact (((h.dat ν hν x hx).kept fun b hb => hset b hb.2.2.2).weak fun b hb => ⟨by simpa using hb.1,hb.2⟩).put hs u
theorem CyM.atm {w w1:World} {base S Hb:Nat} {L:Nat → Value} {st:Cy} {ev:List Ev} {V:Nat → Value} {N:Nat → Nat} {C:Nat → List Value} {D:Nat → List TJV} (h:CyM w base S Hb L st ev V N C D) {ws hs:List Int}
  (hk:∀ b,b < w.heap.size → (V 0).ownBlock ≠ some b → (V 1).ownBlock ≠ some b → w1.heap[b]? = w.heap[b]?) (hsz:w.heap.size ≤ w1.heap.size) (h0:Owns w1 base 3 1 rowI (V 0) ws) (h1:Owns w1 base 3 1 rowI (V 1) hs) :
  CyM w1 base S Hb L { st with ws:=ws,hs:=hs } ev V (upd (upd N 0 ws.length) 1 hs.length) (upd (upd C 0 (ws.flatMap rowI)) 1 (hs.flatMap rowI)) D:=by
 have hS:=heap_lt' h.bs
 have hH:=heap_lt' h.bh
 refine ⟨⟨fun κ hκ => ?_,h.raw.ap⟩,?_,(hk S hS (h.fs 0 (by omega)) (h.fs 1 (by omega))).trans h.bs,(hk Hb hH (h.fh 0 (by omega)) (h.fh 1 (by omega))).trans h.bh,h.fs,h.fh,h.ne,h.s0,h.h0,fun i hi b hb => Nat.lt_of_lt_of_le (h.lx i hi b hb) hsz,fun ν hν x hx => ?_⟩
 ·by_cases e1:κ = 1
  ·subst e1;simp only [upd_same];exact h1
  ·by_cases e0:κ = 0
   ·subst e0;simp only [upd_same,upd_other _ _ (show (0:Nat) ≠ 1 by omega)];exact h0
   ·simp only [upd_other _ _ e1,upd_other _ _ e0]
    exact (h.raw.own κ hκ).kept fun k hk2 => hk k (h.raw.lt hκ hk2).2 (fun hk3 => h.raw.ap κ 0 hκ (by omega) e0 k hk2 hk3) (fun hk3 => h.raw.ap κ 1 hκ (by omega) e1 k hk2 hk3)
 ·have c:=h.con
  have u:∀ {α:Type} {f:Nat → α} {a b:α} {i:Nat},2 ≤ i → upd (upd f 0 a) 1 b i = f i:=fun hi => by rw [upd_other _ _ (by omega),upd_other _ _ (by omega)]
  refine ⟨by simp [upd],by simp [upd],by simp [upd],by simp [upd],by rw [u (by omega)];exact c.n2,by rw [u (by omega)];exact c.c2,by rw [u (by omega)];exact c.n3,by rw [u (by omega)];exact c.c3,by rw [u (by omega)];exact c.n4,by rw [u (by omega)];exact c.c4,c.t4,?_,?_,?_,?_,?_,?_,?_,?_,c.td,by rw [u (by omega)];exact c.ne,by rw [u (by omega)];exact c.ce⟩
  ·intro i hi;rw [u (by omega)];exact c.nq i hi
  ·intro i hi;rw [u (by omega)];exact c.cq i hi
  ·intro i hi;rw [u (by omega)];exact c.no i hi
  ·intro i hi;rw [u (by omega)];exact c.co i hi
  ·intro i hi;rw [u (by omega)];exact c.np i hi
  ·intro i hi;rw [u (by omega)];exact c.cp i hi
  ·intro i hi;rw [u (by omega)];exact c.nd i hi
  ·intro i hi;rw [u (by omega)];exact c.cd i hi
 ·exact ((h.dat ν hν x hx).kept fun b hb => hk b hb.1 (hb.2.1 0 (by omega)) (hb.2.1 1 (by omega))).weak fun b hb => ⟨Nat.lt_of_lt_of_le hb.1 hsz,hb.2⟩
theorem elem_TlmJob:Elem 37 88 5 56:=elem_of Tryz.underlying37 (z:=.agg #[.int .i64 0,.int .i64 0,.int .i64 0,.int .i64 0,.slice none 0 0]) (by kernel_rfl) rfl (by omega)
set_option maxHeartbeats 1000000 in
theorem sClone_TlmJob {α:Type} (f:α → List Value) (hf:∀ x,(f x).length = 5) (h1:∀ x,∀ u ∈ f x,u.oneCell' = true) (v:Value) (ys:List α) (B:Nat) (w:World) (ha:Arr w B 5 v (ys.map f)) (hlen:ys.length * 56 ≤ 140737488355328) :
  Calls Tryz.prog 140 #[v] w (CloneP f 88 5 ys w):=by
 have ha0:=hid ha
 obtain ⟨ao,cap,rfl,g1,g2,g0,g9,g3⟩:=ha
 simp only [List.length_map] at g1 g2 g0 ⊢
 clear g3
 cases ao with
 | none =>
  obtain rfl:=g9 rfl
  have hy:ys = []:=by
   rcases ys with _ | ⟨y,ys⟩
   ·rfl
   ·simp at g1
  subst hy
  have he:=fun w => Lib.run_eql_slice_nil (P:=Tryz.prog) w 37 88 none 0 0 0 0 Tryz.underlying37
  go_enter Tryz.func140,Tryz.ntmps140
  go_wp2_with fail
  go_ret
  exact ⟨_,rfl,Owns.zero,Below.refl _ _⟩
 | some ad =>
  have he:=fun w => Lib.run_eql_slice_nil (P:=Tryz.prog) w 37 88 (some ad) ys.length cap 0 0 Tryz.underlying37
  clear g9
  go_enter Tryz.func140,Tryz.ntmps140
  go_wp2_with (at_builtin;go_must (refine wpList_cat elem_TlmJob f hf h1 _ rfl _ _ rfl w.heap.size _ [] (by rfl) (Owns.lit (Nat.le_refl _)) _ ys (min B w.heap.size) (by rfl) (by have:=(ha0.out).fit (by omega) (by intro r hr;obtain ⟨y,_,rfl⟩:=List.mem_map.1 hr;exact hf y);simp only [List.length_map] at this;exact this.below ((Below.refl _ _).alloc (Nat.min_le_right _ _) _)) (by simpa using hlen) (by simp;omega) (by simp) ?_);intro v' w1 hown1 hb1 _)
  go_ret
  exact ⟨v', rfl,by simpa using hown1,((Below.refl _ _).alloc (Nat.le_refl _) _).trans hb1⟩
set_option maxHeartbeats 1000000 in
theorem sClip_TlmJob (a:Option Addr) (n c:Nat) (w:World) (hc:n ≤ c) (hm:c ≤ 9223372036854775807):Calls Tryz.prog 139 #[.slice a n c] w fun e w' => e = .returned (.slice a n n) ∧ w = w':=by
 go_enter Tryz.func139,Tryz.ntmps139
 go_wp2_with fail
 go_ret
 exact ⟨rfl,rfl⟩
set_option maxHeartbeats 1000000 in
theorem clone_TlmJob {α:Type} (f:α → List Value) (hf:∀ x,(f x).length = 5) (h1:∀ x,∀ u ∈ f x,u.oneCell' = true) (v:Value) (ys:List α) (B:Nat) (w:World) (ha:Arr w B 5 v (ys.map f)) (hlen:ys.length * 56 ≤ 140737488355328) :
  Calls Tryz.prog 94 #[v] w (CloneP f 88 5 ys w):=by
 go_enter Tryz.func94,Tryz.ntmps94
 go_wp2_with fail
 refine (sClone_TlmJob f hf h1 v ys B w ha hlen).mono ?_
 rintro e w1 ⟨u,rfl,hown,hb⟩
 obtain ⟨a,c,rfl,hc1,hc2⟩:=hown.shape
 go_wp2_with fail
 refine (sClip_TlmJob a ys.length c _ hc1 hc2).mono ?_
 rintro e w2 ⟨rfl,rfl⟩
 go_wp2_with fail
 go_ret
 exact ⟨_,rfl,hown.clip,hb⟩
abbrev TJA:=TJ × (Option Addr × Nat × Nat)
def toA (x:TJA):TJV:=(x.1,.slice x.2.1 x.2.2.1 x.2.2.2)
def rowA (x:TJA):List Value:=tjRow (toA x)
theorem rowA_len (x:TJA):(rowA x).length = 5:=rfl
theorem rowA_one (x:TJA):∀ u ∈ rowA x,u.oneCell' = true:=by
 intro u hu
 simp only [rowA,toA,tjRow,List.mem_cons,List.not_mem_nil,or_false] at hu
 rcases hu with rfl | rfl | rfl | rfl | rfl <;> rfl
theorem exA:∀ (D:List TJV),(∀ x ∈ D,∃ a n c,x.2 = .slice a n c) → ∃ A:List TJA,A.map toA = D
 | [],_ => ⟨[],rfl⟩
 | x :: D,h => by
  obtain ⟨A,hA⟩:=exA D fun y hy => h y (by simp [hy])
  obtain ⟨a,n,c,e⟩:=h x (by simp)
  exact ⟨(x.1,a,n,c) :: A,by simp only [List.map_cons,hA,toA,← e]⟩
theorem owns_map {α β:Type} {w:World} {base e sz:Nat} {f:β → List Value} {g:α → β} {v:Value} {xs:List α} (h:Owns w base e sz (fun x => f (g x)) v xs):Owns w base e sz f v (xs.map g):=by
 unfold Owns at h ⊢
 rw [List.length_map,List.flatMap_map];exact h
def CjP (D:List TJV) (w:World) (e:Ending) (w':World):Prop :=
 ∃ u D', e = .returned u ∧ Owns w' w.heap.size 88 5 tjRow u D' ∧ D'.map (·.1) = D.map (·.1) ∧ (∀ x ∈ D', IntsD w' (fun b => w.heap.size ≤ b ∧ b < w'.heap.size ∧ u.ownBlock ≠ some b) x.2 x.1.rsp.data) ∧ Below w.heap.size w w'
set_option maxHeartbeats 4000000 in
theorem copyJobs_any (D:List TJV) (v:Value) (B:Nat) (w:World) (hv:Arr w B 5 v (D.map tjRow)) (hd:∀ x ∈ D,Ints w B x.2 x.1.rsp.data) (hB:B ≤ w.heap.size) (hl:D.length ≤ 1000) (hdl:∀ x ∈ D,x.1.rsp.data.length ≤ 1000) :
  Calls Tryz.prog 49 #[v] w (CjP D w):=by
 obtain ⟨A,rfl⟩:=exA D fun x hx => by obtain ⟨ao,cap,e,_⟩:=(hd x hx).1;exact ⟨_,_,_,e⟩
 rw [List.map_map] at hv
 have HV:=hid hv;have HD:=hid hd;have HDL:=hid hdl
 rw [List.length_map] at hl
 clear hv hd hdl
 go_enter Tryz.func49,Tryz.ntmps49
 go_wp2_with fail
 refine (clone_TlmJob rowA rowA_len rowA_one _ A B w HV.out (by omega)).mono ?_
 rintro e w1 ⟨u,rfl,ho,hb⟩
 obtain ⟨ua,uc,rfl,huc,huc2⟩:=ho.shape
 have HO:=hid ho;have HB:=hid hb
 clear ho hb
 go_wp2_with fail
 go_loopw [10] (fun i wr => ∃ k:Nat,k ≤ A.length ∧ i = .int .i64 k ∧ (∃ A', A'.length = A.length ∧ Owns wr w.heap.size 88 5 rowA (.slice ua A.length uc) A' ∧ A'.map (·.1) = A.map (·.1) ∧ (∀ j,j < k → ∀ x,A'[j]? = some x → IntsD wr (fun b => w.heap.size ≤ b ∧ b < wr.heap.size ∧ (Value.slice ua A.length uc).ownBlock ≠ some b) (toA x).2 x.1.rsp.data) ∧ (∀ j,k ≤ j → A'[j]? = A[j]?)) ∧ Below w.heap.size w wr) (fun i _ => A.length - (intOf i).toNat)
 case atStart => exact ⟨0,by omega,rfl,⟨A,rfl,HO.out,rfl,fun j hj => by omega,fun _ _ => rfl⟩,HB.out⟩
 case round =>
  obtain ⟨k,hk,rfl,⟨A', hl', ho', hm', hn', hs'⟩,hbl⟩:=hrel
  by_cases hlt:k < A.length
  ·have hlti:(k:Int) < (A.length:Int):=by omega
   obtain ⟨g,off,cap,hvs,hcap,hcap2,hgb,hgz⟩:=OwnR.addr ho' (by omega)
   simp only [Value.slice.injEq] at hvs
   obtain ⟨rfl,hll,rfl⟩:=hvs
   clear hll
   obtain ⟨x,hx⟩:∃ x,A'[k]? = some x:=⟨A'[k]'(by omega),List.getElem?_eq_getElem _⟩
   have hgd:A'.getD k default = x:=by simp [List.getD,hx]
   have hc:∀ i,i < 5 → wr.cell? ⟨g,off + k * 5 + i,none⟩ = (rowA x)[i]?:=fun i hi => by rw [← hgd];exact Owns.cellAt ho' rowA_len k i default (by omega) hi
   obtain ⟨⟨wh,n,ri,rc,rd⟩,da,dn,dc⟩:=x
   have c0:=hc 0 (by omega);have c1:=hc 1 (by omega);have c2:=hc 2 (by omega);have c3:=hc 3 (by omega);have c4:=hc 4 (by omega)
   simp only [rowA,toA,tjRow,List.getElem?_cons_zero,List.getElem?_cons_succ,Nat.add_zero] at c0 c1 c2 c3 c4
   have hfz:=Owns.frozenAt ho'
   have hxm:((⟨wh,n,ri,rc,rd⟩,da,dn,dc):TJA) ∈ A:=List.mem_of_getElem? (by rw [← hs' k (by omega)];exact hx)
   have hxd:Ints w B (.slice da dn dc) rd:=HD.out _ (List.mem_map.2 ⟨_,hxm,rfl⟩)
   have hxl:rd.length ≤ 1000:=HDL.out _ (List.mem_map.2 ⟨_,hxm,rfl⟩)
   have hsz:=ho'.1
   have hbl2:Below w.heap.size w (wr.alloc (.cells #[.int .i64 (wh:Nat),.int .i64 (n:Nat),.int .i64 ri,.int .i64 rc,.slice da dn dc] 88)):=hbl.alloc hbl.size _
   have hbl1:Below wr.heap.size wr (wr.alloc (.cells #[.int .i64 (wh:Nat),.int .i64 (n:Nat),.int .i64 ri,.int .i64 rc,.slice da dn dc] 88)):=(Below.refl _ _).alloc (Nat.le_refl _) _
   have HL:=hid hl';have HO':=hid ho';have HM:=hid hm';have HN:=hid hn';have HS:=hid hs';have HBL:=hid hbl;have HX:=hid hx;have HFZ:=hid hfz;have HB2:=hid hbl2;have HB1:=hid hbl1;have HXD:=hid hxd;have HXL:=hid hxl
   clear hl' ho' hm' hn' hs' hbl hx hgd hc hfz hbl2 hbl1 hxm hxd hsz
   go_upto_region 5 with fail
   obtain ⟨w2,hw2⟩:∃ W,W = wr.alloc (.cells #[.int .i64 (wh:Nat),.int .i64 (n:Nat),.int .i64 ri,.int .i64 rc,.slice da dn dc] 88):=⟨_,rfl⟩
   rw [← hw2] at HB2 HB1
   rw [← hw2]
   have d4:w2.cell? ⟨wr.heap.size,4,none⟩ = some (.slice da dn dc):=by rw [hw2,World.cell?_alloc_at _ _ _ _ rfl];rfl
   have hz2:w2.heap.size = wr.heap.size + 1:=by rw [hw2];simp
   clear hw2 c0 c1 c2 c3 c4
   have hfz2:w2.frozen? ⟨g,off + k * 5 + 4,none⟩ = false:=(HB1.out.frozen (p:=⟨g,_,none⟩) hgz).trans (HFZ.out _)
   have c42:w2.cell? ⟨g,off + k * 5 + 4,none⟩ = some (.slice da dn dc):=by
    rw [HB1.out.cell (p:=⟨g,_,none⟩) hgz]
    have:=Owns.cellAt HO'.out rowA_len k 4 default (by rw [HL.out];exact hlt) (by omega)
    rw [this,show A'.getD k default = ((⟨wh,n,ri,rc,rd⟩,da,dn,dc):TJA) by simp [List.getD,HX.out]];rfl
   have hg2:g < w2.heap.size:=by omega
   have HXA:=hid (show Arr w2 B 1 (.slice da dn dc) (rd.map rowI) from (HXD.out.below (HB2.out.mono hB)).1)
   go_wp2_with (first
    | (go_at_call 88;(with_reducible refine (clone_int rowI rowI_len rowI_one _ rd B w2 HXA.out (by omega)).mono ?_);rintro e w3 ⟨u2,rfl,ho2,hb2⟩;obtain ⟨ba,bc,rfl,_,_⟩:=ho2.shape;have hfz3:=(hb2.frozen (p:=⟨g,off + k * 5 + 4,none⟩) hg2).trans hfz2;have c43:=(hb2.cell (p:=⟨g,off + k * 5 + 4,none⟩) hg2).trans c42;have HO2:=hid ho2;have HB3:=hid hb2;clear ho2 hb2))
   have hw:=HB1.out.trans (HB3.out.mono HB1.out.size)
   have hbw:Below w.heap.size w w3:=HB2.out.trans (HB3.out.mono HB2.out.size)
   have hsz3:=HB3.out.size
   obtain ⟨y,hy⟩:∃ y:TJA,y = (⟨wh,n,ri,rc,rd⟩,ba,rd.length,bc):=⟨_,rfl⟩
   have ho4:=Owns.putRow (OwnR.kept HO'.out (fun b hb => hw.block b (OwnR.lt HO'.out b hb).2)) rowA_len k 4 default y (.slice ba rd.length bc) (by rw [HL.out];exact hlt) (by omega) (by rw [show A'.getD k default = ((⟨wh,n,ri,rc,rd⟩,da,dn,dc):TJA) by simp [List.getD,HX.out],hy];rfl)
   have hset:∀ b,b ≠ g → (w3.setCell ⟨g,off + k * 5 + 4,none⟩ (.slice ba rd.length bc)).heap[b]? = w3.heap[b]?:=fun b hb => Below.heap_setCell _ _ _ _ hb
   have hz4:(w3.setCell ⟨g,off + k * 5 + 4,none⟩ (.slice ba rd.length bc)).heap.size = w3.heap.size:=by simp
   have hyd:IntsD (w3.setCell ⟨g,off + k * 5 + 4,none⟩ (.slice ba rd.length bc)) (fun b => w.heap.size ≤ b ∧ b < (w3.setCell ⟨g,off + k * 5 + 4,none⟩ (.slice ba rd.length bc)).heap.size ∧ (Value.slice (some ⟨g,off,none⟩) A.length uc).ownBlock ≠ some b) (toA y).2 y.1.rsp.data:=by
    rw [hy]
    refine Owns.intsD (xs:=rd) (OwnR.kept HO2.out (fun b hb => hset b (by have:=(OwnR.lt HO2.out b hb).1;omega))) (fun b hb => ?_) (by omega) HXD.out.2
    have h1:=OwnR.lt HO2.out b hb
    have h2:=HB2.out.size
    refine ⟨by omega,by rw [hz4];exact h1.2,?_⟩
    simp only [Value.ownBlock,ne_eq,Option.some.injEq];omega
   go_roundw
   case rel =>
    refine ⟨k + 1,by omega,by go_num,⟨A'.set k y,by rw [List.length_set];exact HL.out,ho4,?_,fun j hj z hz => ?_,fun j hj => ?_⟩,hbw.setCell (p:=⟨g,_,none⟩) hgb _⟩
    ·rw [← HM.out]
     apply List.ext_getElem?
     intro i
     rw [List.getElem?_map,List.getElem?_map,List.getElem?_set]
     split
     ·rename_i e;subst e
      rw [HX.out,if_pos (by rw [HL.out];exact hlt),hy];rfl
     ·rfl
    ·rw [List.getElem?_set] at hz
     split at hz
     ·rename_i e;subst e
      rw [if_pos (by rw [HL.out];exact hlt)] at hz
      obtain rfl:=Option.some.inj hz
      exact hyd
     ·exact ((HN.out j (by omega) z hz).kept fun b hb => (hset b (fun e => hb.2.2 (by rw [e];rfl))).trans (hw.block b hb.2.1)).weak fun b hb => ⟨hb.1,by rw [hz4];exact Nat.lt_of_lt_of_le hb.2.1 hw.size,hb.2.2⟩
    ·rw [List.getElem?_set,if_neg (by omega)];exact HS.out j (by omega)
   case measure => simp [intOf];omega
  ·obtain rfl:k = A.length:=by omega
   have hkf:decide ((A.length:Int) < (A.length:Int)) = false:=by simp
   go_wp2_with fail
   go_ret
   refine ⟨_,A'.map toA,rfl,owns_map ho', by rw [List.map_map,List.map_map];exact hm', fun x hx => ?_,hbl⟩
   obtain ⟨y,hy,rfl⟩:=List.mem_map.1 hx
   obtain ⟨j,hj,e⟩:=List.getElem_of_mem hy
   exact hn' j (by omega) y (by rw [List.getElem?_eq_getElem hj,e])
end Go.Proofs.YtenjbhbcacocjaaGreat
