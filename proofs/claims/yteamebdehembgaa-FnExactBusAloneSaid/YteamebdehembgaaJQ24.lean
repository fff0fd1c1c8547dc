/-
  A store of what is asked into a row of its list.
-/
import Derived.Test.YteamebdehembgaaJQ3
import Derived.Test.YteamebdehembgaaJSa0
import Derived.Test.YteamebdehembgaaJY4
set_option linter.unusedVariables false
set_option linter.unusedSimpArgs false
namespace Go.Proofs.Yteamebdehembgaa
open Go.RowKit

/-- 'append(out, ys...)' at a step, whatever the rows: which blocks are kept. -/
theorem wp_catG {α : Type} {o : Oper} {a : Act} {K : Act → World → Prop} {Q : Exit → Act → World → Prop} {T e sz by_ : Nat} (E : Elem T e sz by_) (f : α → List Value) (hf : ∀ x, (f x).length = sz) (h1 : ∀ x, ∀ u ∈ f x, u.oneCell' = true) (w : World) (s x : Operand) (ho : o.op = .call { callee := .builtin .append, args := #[s, x], argTypes := #[T, T] })
    (g : Nat) (hs : a.eval s = .slice (some ⟨g, 0, none⟩) 0 0) (hg : w.heap[g]? = some (.cells #[] e (0, 0))) (u : Value) (ys : List α) (B : Nat) (hx : a.eval x = u) (harr : Arr w B sz u (ys.map f)) (hl : ys.length * by_ ≤ 140737488355328) (hl2 : ys.length ≤ 1048576)
    (h : ∀ v' w', Owns w' g e sz f v' ys → Touch g w w' → (∀ k, v'.ownBlock = some k → k = g ∨ w.heap.size ≤ k) → K (a.put o.dst v') w') : Oper.wp Try.prog o a w K Q := by
  obtain ⟨ht, i, z, hi, hz, hsize, hby, hzs, hsz⟩ := E
  have hown : OwnR w g e sz (.slice (some ⟨g, 0, none⟩) 0 0) 0 [] := ⟨by simp, .inr ⟨g, 0, 0, #[], rfl, Nat.le_refl _, hg, by omega, by unfold maxLen; omega, by simp, fun j hj => by omega⟩⟩
  obtain ⟨ao, cap, rfl, g1, g2, g0, g9, g3⟩ := harr
  simp only [List.length_map] at hx g1 g0 g3
  cases ao with
  | none =>
    have hc := g9 rfl
    have hy : ys = [] := by
      rcases ys with _ | ⟨y, ys⟩
      · rfl
      · simp at g1; omega
    subst hy hc
    refine wp_append_OwnR_none s x T ho g e i sz ht hi _ 0 [] hs hown hx (h _ w ?_ (Touch.refl _ _) (fun k hk => .inl (by simp [Value.ownBlock] at hk; omega)))
    simpa [Owns] using hown
  | some ad =>
    refine wp_append_OwnR s x T ho g e i z sz by_ ht hi hz hsize hby hzs _ 0 [] hs hown ad ys.length cap (ys.flatMap f) hx (flatMap_len hf ys) ?_ ?_ (by unfold maxLen; omega) (by rw [Nat.zero_add]; exact hl) (Nat.le_of_lt (heap_lt hg)) ?_
    · intro j u hj
      have hjl : j < ys.length * sz := by rw [← flatMap_len hf ys]; exact (List.getElem?_eq_some_iff.1 hj).1
      have hyn : ys.length ≠ 0 := by intro h0; rw [h0] at hjl; omega
      obtain ⟨b, off, had, _, hc⟩ := g3 hyn
      obtain rfl := Option.some.inj had
      rw [Addr.add_lit, ← hj, rows_flat hf ys j hjl hsz, ← hc (j / sz) (Nat.div_lt_of_lt_mul (by rw [Nat.mul_comm]; exact hjl)) (j % sz) (Nat.mod_lt _ hsz)]
      have e : off + j / sz * sz + j % sz = off + j := by
        have := Nat.div_add_mod j sz
        rw [Nat.mul_comm] at this; omega
      rw [e]
    · intro u hu
      obtain ⟨y, _, hy⟩ := List.mem_flatMap.1 hu
      exact h1 y u hy
    · intro v' w' ho' hgr _ hb
      refine h v' w' (by unfold Owns; simpa using ho') ⟨hgr.os, hgr.tape, hgr.output, hgr.size, fun k hk hne => hgr.block k hk (by simpa [Value.ownBlock] using hne)⟩ (fun k hk => ?_)
      rcases hb with hb | hb
      · left; rw [hb] at hk; simp [Value.ownBlock] at hk; exact hk.symm
      · right; rw [hb] at hk; simp at hk; omega
theorem cells_ne {w : World} {g g' T T' : Nat} {cs cs' : Array Value} (h : w.heap[g]? = some (.cells cs T (0, 0))) (h' : w.heap[g']? = some (.cells cs' T' (0, 0))) (hT : T ≠ T') : g ≠ g' := by
  intro e; subst e; rw [h] at h'; simp only [Option.some.injEq, Obj.cells.injEq] at h'; exact hT h'.2.1

set_option maxRecDepth 20000 in
set_option maxHeartbeats 1000000 in
/-- '[]ReqReq{x}'. -/
theorem wpList_lit7q {ops : Array Oper} {rest : List Oper} {a : Act} {w : World} {Q : Exit → Act → World → Prop} (d : Option Nat) (ty : Nat) (pos : String) (aft : Array Edge) (t : Nat)
    {x0 x1 x2 x3 x4 x5 x6 : Value} (hx : a.tmps.getD t undef = .agg #[x0, x1, x2, x3, x4, x5, x6]) (h1 : (#[x0, x1, x2, x3, x4, x5, x6] : Array Value).all (·.oneCell') = true)
    (h : wpList Try.prog ops Q rest (a.put d (.slice (some ⟨w.heap.size, 0, none⟩) 1 1)) (w.alloc (.cells #[x0, x1, x2, x3, x4, x5, x6] 71))) :
    wpList Try.prog ops Q ({ dst := d, op := .buildSlice 34 1 #[(0, .tmp t)], type := ty, pos := pos, after := aft, guard := none } :: rest) a w := by
  refine wpList_plain rfl fun K hK => ?_
  have h2 := hK _ _ h
  obtain ⟨tmps, defers⟩ := a
  simp only [Array.getD_eq_getD_getElem?] at hx
  go_simp
  exact h2
theorem one7r (rq : Rq) (da la : Option Addr) (dn dc ln lc : Nat) : ∀ u ∈ rowQ (rq, .slice da dn dc, .slice la ln lc), u.oneCell' = true := by
  intro u hu
  simp only [rowQ, List.mem_cons, List.not_mem_nil, or_false] at hu
  rcases hu with rfl | rfl | rfl | rfl | rfl | rfl | rfl <;> rfl

end Go.Proofs.Yteamebdehembgaa

namespace Go.Proofs.Yteamebdehembgaa
open Go.RowKit

theorem QcO.keptB {w w' : World} {lo hi g o c n : Nat} {qs : List Rq} {vs : List (Value × Value)} {rest : List RqV} (h : QcO w lo g o c n qs vs rest) (hh : QsB hi g qs.length vs) (hk : ∀ k, lo ≤ k → k < hi → k < w.heap.size → w'.heap[k]? = w.heap[k]?) : QcO w' lo g o c n qs vs rest :=
  { h with rows := OwnR.kept h.rows fun k hk2 => hk k (OwnR.lt h.rows k hk2).1 (by have := hh.g; simp only [Value.ownBlock, Option.some.injEq] at hk2; omega) (OwnR.lt h.rows k hk2).2
           d := fun j hj => OwnR.kept (h.d j hj) fun k hk2 => hk k (OwnR.lt (h.d j hj) k hk2).1 (hh.d j hj k hk2) (OwnR.lt (h.d j hj) k hk2).2
           l := fun j hj => OwnR.kept (h.l j hj) fun k hk2 => hk k (OwnR.lt (h.l j hj) k hk2).1 (hh.l j hj k hk2) (OwnR.lt (h.l j hj) k hk2).2 }
/-- What one asks, owned in blocks from lo up to hi. -/
def PgO (w : World) (lo hi : Nat) (u : Value) (qs : List Rq) : Prop :=
  (u = vnil ∧ qs = []) ∨ ∃ g o c vs, u = .slice (some ⟨g, o, none⟩) qs.length c ∧ qs.length ≤ c ∧ c ≤ 9223372036854775807 ∧ QcO w lo g o c qs.length qs vs [] ∧ QsB hi g qs.length vs
theorem PgO.nil (w : World) (lo hi : Nat) : PgO w lo hi vnil [] := .inl ⟨rfl, rfl⟩
theorem PgO.kept {w w' : World} {lo hi : Nat} {u : Value} {qs : List Rq} (h : PgO w lo hi u qs) (hk : ∀ k, lo ≤ k → k < hi → k < w.heap.size → w'.heap[k]? = w.heap[k]?) : PgO w' lo hi u qs := by
  rcases h with h | ⟨g, o, c, vs, e, h1, h2, h3, h4⟩
  · exact .inl h
  · exact .inr ⟨g, o, c, vs, e, h1, h2, h3.keptB h4 hk, h4⟩
theorem PgO.shape {w : World} {lo hi : Nat} {u : Value} {qs : List Rq} (h : PgO w lo hi u qs) : ∃ a c, u = .slice a qs.length c ∧ qs.length ≤ c ∧ c ≤ 9223372036854775807 := by
  rcases h with ⟨rfl, rfl⟩ | ⟨g, o, c, vs, e, h1, h2, _⟩
  · exact ⟨none, 0, rfl, Nat.le_refl _, by omega⟩
  · exact ⟨_, c, e, h1, h2⟩
def RqFit (q : Rq) : Prop := Rq20 q ∧ (∀ y ∈ q.data, I64 y) ∧ (∀ y ∈ q.lanes, I64 y) ∧ I64 q.id ∧ I64 q.kind ∧ I64 q.addr ∧ I64 q.many
theorem PgO.reqs {w : World} {lo hi : Nat} {u : Value} {qs : List Rq} (h : PgO w lo hi u qs) (hn : qs.length ≤ 1048576) (hq : ∀ q ∈ qs, RqFit q) : Reqs w w.heap.size u qs := by
  rcases h with ⟨rfl, rfl⟩ | ⟨g, o, c, vs, e, h1, h2, h3, h4⟩
  · exact ArrV.nil _ _ _ _
  · rw [e]; exact h3.reqs hn hq

/-- The outer list, and what each of the first ones asks: one's blocks from L j up to L (j + 1). -/
structure PsO (w : World) (lo pb n : Nat) (us : List Value) (pss : List (List Rq)) (L : Nat → Nat) : Prop where
  outer : Owns w lo 34 1 row1 (.slice (some ⟨pb, 0, none⟩) n n) us
  len : us.length = n
  le : pss.length ≤ n
  pg : ∀ j, j < pss.length → PgO w (L j) (L (j + 1)) (us.getD j vnil) (pss.getD j [])
  nil : ∀ j, pss.length ≤ j → j < n → us.getD j vnil = vnil
  mono : ∀ j, j < pss.length → L j ≤ L (j + 1)
  pbl : pb < L 0
  top : L pss.length ≤ w.heap.size
theorem PsO.le0 {w : World} {lo pb n : Nat} {us : List Value} {pss : List (List Rq)} {L : Nat → Nat} (h : PsO w lo pb n us pss L) : ∀ j, j ≤ pss.length → L 0 ≤ L j := by
  intro j
  induction j with
  | zero => intro _; exact Nat.le_refl _
  | succ j ih => intro hj; exact Nat.le_trans (ih (by omega)) (h.mono j (by omega))
theorem PsO.le1 {w : World} {lo pb n : Nat} {us : List Value} {pss : List (List Rq)} {L : Nat → Nat} (h : PsO w lo pb n us pss L) : ∀ d j, j + d = pss.length → L j ≤ L pss.length := by
  intro d
  induction d with
  | zero => intro j hj; rw [show j = pss.length by omega]; exact Nat.le_refl _
  | succ d ih => intro j hj; exact Nat.le_trans (h.mono j (by omega)) (ih (j + 1) (by omega))
theorem PsO.pb {w : World} {lo pb n : Nat} {us : List Value} {pss : List (List Rq)} {L : Nat → Nat} (h : PsO w lo pb n us pss L) : lo ≤ pb ∧ pb < w.heap.size := OwnR.lt h.outer pb rfl
theorem PsO.kept {w w' : World} {lo pb n : Nat} {us : List Value} {pss : List (List Rq)} {L : Nat → Nat} (h : PsO w lo pb n us pss L) (hk : ∀ k, lo ≤ k → k < w.heap.size → w'.heap[k]? = w.heap[k]?) (hs : w.heap.size ≤ w'.heap.size) : PsO w' lo pb n us pss L :=
  { h with outer := OwnR.kept h.outer fun k hk2 => hk k (OwnR.lt h.outer k hk2).1 (OwnR.lt h.outer k hk2).2
           pg := fun j hj => (h.pg j hj).kept fun k h1 _ h3 => hk k (by have := h.le0 j (by omega); have := h.pbl; have := h.pb.1; omega) h3
           top := Nat.le_trans h.top hs }
theorem PsO.below {w w' : World} {lo pb n : Nat} {us : List Value} {pss : List (List Rq)} {L : Nat → Nat} (h : PsO w lo pb n us pss L) (hb : Below w.heap.size w w') : PsO w' lo pb n us pss L := h.kept (fun k _ hk => hb.block k hk) hb.size
theorem PsO.rebase {w : World} {lo lo' pb n : Nat} {us : List Value} {pss : List (List Rq)} {L : Nat → Nat} (h : PsO w lo pb n us pss L) (hl : lo' ≤ lo) : PsO w lo' pb n us pss L := { h with outer := OwnR.rebase h.outer hl }
/-- As it is read. -/
theorem PsO.progs {w : World} {lo pb n : Nat} {us : List Value} {pss : List (List Rq)} {L : Nat → Nat} (h : PsO w lo pb n us pss L) (hn : pss.length = n) (h20 : n ≤ 1048576) (hq : ∀ p ∈ pss, p.length ≤ 1048576 ∧ ∀ q ∈ p, RqFit q) : Progs w w.heap.size (.slice (some ⟨pb, 0, none⟩) n n) pss := by
  refine ⟨us, ?_, by rw [h.len, hn], fun k hk d => ?_⟩
  · have e : us.map (fun u => u.cells.toList) = us.map row1 := by
      apply List.map_congr_left
      intro u hu
      obtain ⟨i, hi, rfl⟩ := List.mem_iff_getElem.1 hu
      have hi2 : i < pss.length := by have := h.len; omega
      obtain ⟨a, c, e, _⟩ := (h.pg i hi2).shape
      have e2 : us.getD i vnil = us[i] := by simp [List.getD, hi]
      rw [e2] at e
      rw [e]; rfl
    rw [e]
    exact h.outer.arr row1_len (by rw [h.len]; omega)
  · have hk2 : k < us.length := by have := h.len; omega
    obtain ⟨q1, q2⟩ := hq _ (getD_mem (d := []) hk)
    have := (h.pg k hk).reqs q1 q2
    rw [show us.getD k undef = us.getD k vnil by simp [List.getD, hk2], show pss.getD k d = pss.getD k [] by simp [List.getD, hk]]
    exact this

end Go.Proofs.Yteamebdehembgaa

namespace Go.Proofs.Yteamebdehembgaa
open Go.RowKit
attribute [local go_sem ↓] Go.wp_at_zero Go.wp_at_succ

def qb5A (i0 i1 i2 i6 i7 i8 i9 i10 i11 i12 i13 i14 i15 i16 i17 i18 i19 i20 i21 i22 i23 i24 i25 i26 i33 i34 i35 i36 i37 i38 i39 i40 i41 i42 i43 i44 i45 i46 i47 i48 i49 i50 i51 : Value) (g : Nat) (k : Nat) (v5 : Value) (u27 u28 u29 u30 u31 u32 : Value) : Act := { tmps := #[i0, i1, i2, .pointer (some ⟨g, 0, none⟩), .int .i64 (k : Nat), v5, i6, i7, i8, i9, i10, i11, i12, i13, i14, i15, i16, i17, i18, i19, i20, i21, i22, i23, i24, i25, i26, u27, u28, u29, u30, u31, u32, i33, i34, i35, i36, i37, i38, i39, i40, i41, i42, i43, i44, i45, i46, i47, i48, i49, i50, i51], defers := [] }
def qb5I (i0 i1 i2 i6 i7 i8 i9 i10 i11 i12 i13 i14 i15 i16 i17 i18 i19 i20 i21 i22 i23 i24 i25 i26 i33 i34 i35 i36 i37 i38 i39 i40 i41 i42 i43 i44 i45 i46 i47 i48 i49 i50 i51 : Value) (g : Nat) (k : Nat) (v5 : Value) (lo : Nat) (pb : Nat) (n : Nat) (B : Nat) (us : List Value) (ys : List RqS) (wq : World) (listed : Array Bool) (a : Act) (w' : World) : Prop :=
  ∃ u27 u28 u29 u30 u31 u32 : Value, a = qb5A i0 i1 i2 i6 i7 i8 i9 i10 i11 i12 i13 i14 i15 i16 i17 i18 i19 i20 i21 i22 i23 i24 i25 i26 i33 i34 i35 i36 i37 i38 i39 i40 i41 i42 i43 i44 i45 i46 i47 i48 i49 i50 i51 g k v5 u27 u28 u29 u30 u31 u32 ∧
      (listed.getD 0 false = true → u27 = .pointer (some ⟨g, 2, none⟩)) ∧
      (listed.getD 1 false = true → u28 = .slice (some ⟨pb, 0, none⟩) n n) ∧
      (listed.getD 2 false = true → u29 = .int .i64 (k : Nat)) ∧
      (listed.getD 3 false = true → u30 = v5) ∧
      (listed.getD 4 false = true → Owns w' wq.heap.size 71 7 rowS7 u31 ys) ∧
      (listed.getD 5 false = true → u32 = .pointer (some ⟨pb, k, none⟩)) ∧
      (listed.getD 6 false = true → Owns w' lo 34 1 row1 (.slice (some ⟨pb, 0, none⟩) n n) (us.set k u31)) ∧
      (listed.getD 6 false = false → Owns w' lo 34 1 row1 (.slice (some ⟨pb, 0, none⟩) n n) us) ∧
      Touch pb wq w'
noncomputable def qb5Code : Code := (Try.f57.body.bind (regIn2 5)).getD .skip
/-- Behind the region: a copy of the rows stands in the outer list. -/
def QcP (lo pb k n : Nat) (us : List Value) (ys : List RqS) (wq w' : World) : Prop := ∃ u, Owns w' wq.heap.size 71 7 rowS7 u ys ∧ Owns w' lo 34 1 row1 (.slice (some ⟨pb, 0, none⟩) n n) (us.set k u) ∧ Touch pb wq w'

set_option maxRecDepth 100000 in
set_option maxHeartbeats 16000000 in
theorem qb5_region (i0 i1 i2 i6 i7 i8 i9 i10 i11 i12 i13 i14 i15 i16 i17 i18 i19 i20 i21 i22 i23 i24 i25 i26 i33 i34 i35 i36 i37 i38 i39 i40 i41 i42 i43 i44 i45 i46 i47 i48 i49 i50 i51 j27 j28 j29 j30 j31 j32 : Value) (g : Nat) (k : Nat) (v5 : Value) (lo : Nat) (pb : Nat) (n : Nat) (B : Nat) (us : List Value) (ys : List RqS) (wq : World)
    (hgp : g ≠ pb) (hgl : g < wq.heap.size) (hG : wq.cell? ⟨g, 2, none⟩ = some (.slice (some ⟨pb, 0, none⟩) n n)) (hpl : pb < wq.heap.size) (hB : B ≤ pb) (hkn : k < n) (hus : us.length = n) (hO : Owns wq lo 34 1 row1 (.slice (some ⟨pb, 0, none⟩) n n) us) (hA : Arr wq B 7 v5 (ys.map rowS7)) (hl3 : ys.length ≤ 1048576)
    {Q : Exit → Act → World → Prop}
    (hK : ∀ (u27 u28 u29 u30 u31 u32 : Value) w', QcP lo pb k n us ys wq w' → Q .normal (qb5A i0 i1 i2 i6 i7 i8 i9 i10 i11 i12 i13 i14 i15 i16 i17 i18 i19 i20 i21 i22 i23 i24 i25 i26 i33 i34 i35 i36 i37 i38 i39 i40 i41 i42 i43 i44 i45 i46 i47 i48 i49 i50 i51 g k v5 u27 u28 u29 u30 u31 u32) w') : qb5Code.wp Try.prog Q (qb5A i0 i1 i2 i6 i7 i8 i9 i10 i11 i12 i13 i14 i15 i16 i17 i18 i19 i20 i21 i22 i23 i24 i25 i26 i33 i34 i35 i36 i37 i38 i39 i40 i41 i42 i43 i44 i45 i46 i47 i48 i49 i50 i51 g k v5 j27 j28 j29 j30 j31 j32) wq := by
  conv => arg 2; whnf
  refine wp_region_inv2 (qb5I i0 i1 i2 i6 i7 i8 i9 i10 i11 i12 i13 i14 i15 i16 i17 i18 i19 i20 i21 i22 i23 i24 i25 i26 i33 i34 i35 i36 i37 i38 i39 i40 i41 i42 i43 i44 i45 i46 i47 i48 i49 i50 i51 g k v5 lo pb n B us ys wq) (by kernel_rfl) (by kernel_rfl) ?_ ?_ ?_
  · exact ⟨_, _, _, _, _, _, rfl, (fun h => absurd h (by rw [getD_replicate_false]; simp)), (fun h => absurd h (by rw [getD_replicate_false]; simp)), (fun h => absurd h (by rw [getD_replicate_false]; simp)), (fun h => absurd h (by rw [getD_replicate_false]; simp)), (fun h => absurd h (by rw [getD_replicate_false]; simp)), (fun h => absurd h (by rw [getD_replicate_false]; simp)), (fun h => absurd h (by rw [getD_replicate_false]; simp)), (fun _ => hO), (Touch.refl _ _).drewd⟩
  · intro listed a w' i o hI hsz ho hl he hcl
    have hi : i < 7 := (Array.getElem?_eq_some_iff.1 ho).1
    have e : i = 0 ∨ i = 1 ∨ i = 2 ∨ i = 3 ∨ i = 4 ∨ i = 5 ∨ i = 6 := by omega
    clear hi
    rcases e with rfl | rfl | rfl | rfl | rfl | rfl | rfl
    all_goals (have ho2 := ho; obtain rfl := Option.some.inj ho2.symm; clear ho2)
    · as_aux_lemma =>
        obtain ⟨u27, u28, u29, u30, u31, u32, rfl, F0, F1, F2, F3, F4, F5, F6, N6, hx⟩ := hI
        refine wpOp_stepx ho rfl (fun K hK => ?_)
        unfold qb5A
        go_simp
        exact hK _ _ ⟨_, _, _, _, _, _, rfl, fun _ => rfl, fun hj => (by first | exact (F1 (by rwa [sgx (by decide)] at hj)) | rfl), fun hj => (by first | exact (F2 (by rwa [sgx (by decide)] at hj)) | rfl), fun hj => (by first | exact (F3 (by rwa [sgx (by decide)] at hj)) | rfl), fun hj => (F4 (by rwa [sgx (by decide)] at hj)), fun hj => (by first | exact (F5 (by rwa [sgx (by decide)] at hj)) | rfl), fun hj => (F6 (by rwa [sgx (by decide)] at hj)), fun hj => (N6 (by rwa [sgx (by decide)] at hj)), hx⟩
    · as_aux_lemma =>
        obtain ⟨u27, u28, u29, u30, u31, u32, rfl, F0, F1, F2, F3, F4, F5, F6, N6, hx⟩ := hI
        have l0 := he ⟨0, .data⟩ (by simp) rfl
        have e := F0 l0; subst e
        have q := (hx.cell (p := ⟨g, 2, none⟩) hgp hgl).trans hG
        refine wpOp_stepx ho rfl (fun K hK => ?_)
        unfold qb5A
        go_simp
        exact hK _ _ ⟨_, _, _, _, _, _, rfl, fun hj => (by first | exact (F0 (by rwa [sgx (by decide)] at hj)) | rfl), fun _ => rfl, fun hj => (by first | exact (F2 (by rwa [sgx (by decide)] at hj)) | rfl), fun hj => (by first | exact (F3 (by rwa [sgx (by decide)] at hj)) | rfl), fun hj => (F4 (by rwa [sgx (by decide)] at hj)), fun hj => (by first | exact (F5 (by rwa [sgx (by decide)] at hj)) | rfl), fun hj => (F6 (by rwa [sgx (by decide)] at hj)), fun hj => (N6 (by rwa [sgx (by decide)] at hj)), hx⟩
    · as_aux_lemma =>
        obtain ⟨u27, u28, u29, u30, u31, u32, rfl, F0, F1, F2, F3, F4, F5, F6, N6, hx⟩ := hI
        refine wpOp_stepx ho rfl (fun K hK => ?_)
        unfold qb5A
        go_simp
        exact hK _ _ ⟨_, _, _, _, _, _, rfl, fun hj => (by first | exact (F0 (by rwa [sgx (by decide)] at hj)) | rfl), fun hj => (by first | exact (F1 (by rwa [sgx (by decide)] at hj)) | rfl), fun _ => rfl, fun hj => (by first | exact (F3 (by rwa [sgx (by decide)] at hj)) | rfl), fun hj => (F4 (by rwa [sgx (by decide)] at hj)), fun hj => (by first | exact (F5 (by rwa [sgx (by decide)] at hj)) | rfl), fun hj => (F6 (by rwa [sgx (by decide)] at hj)), fun hj => (N6 (by rwa [sgx (by decide)] at hj)), hx⟩
    · as_aux_lemma =>
        obtain ⟨u27, u28, u29, u30, u31, u32, rfl, F0, F1, F2, F3, F4, F5, F6, N6, hx⟩ := hI
        refine wpOp_stepx ho rfl (fun K hK => ?_)
        unfold qb5A
        go_simp
        exact hK _ _ ⟨_, _, _, _, _, _, rfl, fun hj => (by first | exact (F0 (by rwa [sgx (by decide)] at hj)) | rfl), fun hj => (by first | exact (F1 (by rwa [sgx (by decide)] at hj)) | rfl), fun hj => (by first | exact (F2 (by rwa [sgx (by decide)] at hj)) | rfl), fun _ => rfl, fun hj => (F4 (by rwa [sgx (by decide)] at hj)), fun hj => (by first | exact (F5 (by rwa [sgx (by decide)] at hj)) | rfl), fun hj => (F6 (by rwa [sgx (by decide)] at hj)), fun hj => (N6 (by rwa [sgx (by decide)] at hj)), hx⟩
    · as_aux_lemma =>
        obtain ⟨u27, u28, u29, u30, u31, u32, rfl, F0, F1, F2, F3, F4, F5, F6, N6, hx⟩ := hI
        have l3 := he ⟨3, .data⟩ (by simp) rfl
        have e := F3 l3; subst e
        refine wpOp_stepx ho rfl (fun K hK => ?_)
        unfold qb5A
        go_simp
        (with_reducible refine (clone_ReqReq rowS7 rowS7_len rowS7_one _ ys B w' (hA.below (hx.below hB (Nat.le_trans hB (Nat.le_of_lt hpl)))) (by omega)).mono ?_)
        rintro e w'' ⟨q, rfl, o1, hb1⟩
        go_wp2_with fail
        exact ⟨_, _, _, _, _, _, rfl, fun hj => (by first | exact (F0 (by rwa [sgx (by decide)] at hj)) | rfl), fun hj => (by first | exact (F1 (by rwa [sgx (by decide)] at hj)) | rfl), fun hj => (by first | exact (F2 (by rwa [sgx (by decide)] at hj)) | rfl), fun hj => (by first | exact (F3 (by rwa [sgx (by decide)] at hj)) | rfl), fun _ => o1.rebase hx.size, fun hj => (by first | exact (F5 (by rwa [sgx (by decide)] at hj)) | rfl), fun hj => absurd (hcl 6 _ rfl (by rwa [sgx (by decide)] at hj) ⟨4, .data⟩ (by simp) rfl) (by rw [getD_both hl]; simp), fun hj => OwnR.below (N6 (by rwa [sgx (by decide)] at hj)) hb1 (fun k hk => (OwnR.lt (N6 (by rwa [sgx (by decide)] at hj)) k hk).2), hx.trans (Touch.of_below hb1 (Nat.le_refl _))⟩
    · as_aux_lemma =>
        obtain ⟨u27, u28, u29, u30, u31, u32, rfl, F0, F1, F2, F3, F4, F5, F6, N6, hx⟩ := hI
        have l1 := he ⟨1, .data⟩ (by simp) rfl
        have l2 := he ⟨2, .data⟩ (by simp) rfl
        have e := F1 l1; subst e
        have e := F2 l2; subst e
        have hkx := hkn
        refine wpOp_stepx ho rfl (fun K hK => ?_)
        unfold qb5A
        go_simp
        exact hK _ _ ⟨_, _, _, _, _, _, rfl, fun hj => (by first | exact (F0 (by rwa [sgx (by decide)] at hj)) | rfl), fun hj => (by first | exact (F1 (by rwa [sgx (by decide)] at hj)) | rfl), fun hj => (by first | exact (F2 (by rwa [sgx (by decide)] at hj)) | rfl), fun hj => (by first | exact (F3 (by rwa [sgx (by decide)] at hj)) | rfl), fun hj => (F4 (by rwa [sgx (by decide)] at hj)), fun _ => rfl, fun hj => (F6 (by rwa [sgx (by decide)] at hj)), fun hj => (N6 (by rwa [sgx (by decide)] at hj)), hx⟩
    · as_aux_lemma =>
        obtain ⟨u27, u28, u29, u30, u31, u32, rfl, F0, F1, F2, F3, F4, F5, F6, N6, hx⟩ := hI
        have l5 := he ⟨5, .data⟩ (by simp) rfl
        have l4 := he ⟨4, .data⟩ (by simp) rfl
        have e := F5 l5; subst e
        have o4 := F4 l4
        have n6 := N6 (getD_both hl)
        obtain ⟨y1, y2, e1, _, _⟩ := o4.shape
        subst e1
        have q := n6.cellAt row1_len k 0 vnil (by rw [hus]; exact hkn) (by omega)
        have q2 := n6.frozenAt k
        simp only [Nat.zero_add, Nat.mul_one, Nat.add_zero, row1, List.getElem?_cons_zero] at q
        have hpl2 := (OwnR.lt n6 pb rfl).2
        have hput := n6.putRow row1_len k 0 vnil (.slice y1 ys.length y2) (.slice y1 ys.length y2) (by rw [hus]; exact hkn) (by omega) rfl
        simp only [Nat.zero_add, Nat.mul_one, Nat.add_zero] at hput
        have HPUT := hid hput
        clear hput
        refine wpOp_stepx ho rfl (fun K hK => ?_)
        unfold qb5A
        go_simp
        exact hK _ _ ⟨_, _, _, _, _, _, rfl, fun hj => (by first | exact (F0 (by rwa [sgx (by decide)] at hj)) | rfl), fun hj => (by first | exact (F1 (by rwa [sgx (by decide)] at hj)) | rfl), fun hj => (by first | exact (F2 (by rwa [sgx (by decide)] at hj)) | rfl), fun hj => (by first | exact (F3 (by rwa [sgx (by decide)] at hj)) | rfl), fun hj => Owns.tchB o4 (Touch.setCell ..) (fun e => (Owns.apartT o4 n6 (by decide)) pb e rfl), fun hj => (by first | exact (F5 (by rwa [sgx (by decide)] at hj)) | rfl), fun _ => HPUT.out, fun hj => absurd hj (by rw [sgix hl]; simp), hx.trans (Touch.setCell ..)⟩
  · intro listed a w' hI hd
    obtain ⟨u27, u28, u29, u30, u31, u32, rfl, F0, F1, F2, F3, F4, F5, F6, N6, hx⟩ := hI
    have o4 := F4 (hd 4 (by show 4 < 7; omega))
    have o6 := F6 (hd 6 (by show 6 < 7; omega))
    exact hK _ _ _ _ _ _ w' ⟨_, o4, o6, hx⟩

end Go.Proofs.Yteamebdehembgaa

namespace Go.Proofs.Yteamebdehembgaa
open Go.RowKit

theorem touch7o (s o : Nat) (w : World) (a b c d e f h : Value) : Touch s w (((((((w.setCell ⟨s, o, none⟩ a).setCell ⟨s, o + 1, none⟩ b).setCell ⟨s, o + 2, none⟩ c).setCell ⟨s, o + 3, none⟩ d).setCell ⟨s, o + 4, none⟩ e).setCell ⟨s, o + 5, none⟩ f).setCell ⟨s, o + 6, none⟩ h) :=
  ((((((Touch.setCell _ _ _ _).trans (Touch.setCell _ _ _ _)).trans (Touch.setCell _ _ _ _)).trans (Touch.setCell _ _ _ _)).trans (Touch.setCell _ _ _ _)).trans (Touch.setCell _ _ _ _)).trans (Touch.setCell _ _ _ _)
set_option maxRecDepth 20000 in
set_option maxHeartbeats 4000000 in
theorem wp_store7o {a : Act} {w : World} {K : Act → World → Prop} {Q : Exit → Act → World → Prop} (ty : Nat) (pos : String) (aft : Array Edge) {t1 t2 g o : Nat} {c0 c1 c2 c3 c4 c5 c6 : Value} {id kind addr many : Int} {wp : Bool} {da la : Option Addr} {dn dc ln lc : Nat}
    (k0 : w.cell? ⟨g, o, none⟩ = some c0) (k1 : w.cell? ⟨g, o + 1, none⟩ = some c1) (k2 : w.cell? ⟨g, o + 2, none⟩ = some c2) (k3 : w.cell? ⟨g, o + 3, none⟩ = some c3) (k4 : w.cell? ⟨g, o + 4, none⟩ = some c4) (k5 : w.cell? ⟨g, o + 5, none⟩ = some c5) (k6 : w.cell? ⟨g, o + 6, none⟩ = some c6)
    (m : ∀ j, w.frozen? ⟨g, j, none⟩ = false)
    (hp : a.tmps.getD t1 undef = .pointer (some ⟨g, o, none⟩)) (hv : a.tmps.getD t2 undef = .agg #[.int .i64 id, .int .i64 kind, .int .i64 addr, .int .i64 many, .bool wp, .slice da dn dc, .slice la ln lc])
    (h : K a (((((((w.setCell ⟨g, o, none⟩ (.int .i64 id)).setCell ⟨g, o + 1, none⟩ (.int .i64 kind)).setCell ⟨g, o + 2, none⟩ (.int .i64 addr)).setCell ⟨g, o + 3, none⟩ (.int .i64 many)).setCell ⟨g, o + 4, none⟩ (.bool wp)).setCell ⟨g, o + 5, none⟩ (.slice da dn dc)).setCell ⟨g, o + 6, none⟩ (.slice la ln lc))) :
    Oper.wp Try.prog { dst := none, op := .store 71 (.tmp t1) (.tmp t2), type := ty, pos := pos, after := aft, guard := none } a w K Q := by
  have m0 := m o; have m1 := m (o + 1); have m2 := m (o + 2); have m3 := m (o + 3); have m4 := m (o + 4); have m5 := m (o + 5); have m6 := m (o + 6)
  clear m
  obtain ⟨tmps, defers⟩ := a
  simp only at hp hv
  simp only [Array.getD_eq_getD_getElem?] at hp hv
  go_simp
  exact h

end Go.Proofs.Yteamebdehembgaa
