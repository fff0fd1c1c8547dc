/-
  FnAtmBurst's rounds: what the loop keeps, and how a round carries it on.
-/
import Derived.Test.YtpjfjccjmbphmaaJSa3
import Derived.Test.YtpjfjccjmbphmaaKBu0
set_option linter.unusedVariables false
set_option linter.unusedSimpArgs false
namespace Go.Proofs.Ytpjfjccjmbphmaa
open Go.RowKit
attribute [local go_sem ↓] Go.wp_at_zero Go.wp_at_succ

/-- 'out = append(out, ys...)': which blocks are kept. -/
theorem wpList_catN {α : Type} {ops : Array Oper} {rest : List Oper} {o : Oper} {a : Act} {Q : Exit → Act → World → Prop} {T e sz by_ : Nat} (E : Elem T e sz by_) (f : α → List Value) (hf : ∀ x, (f x).length = sz) (h1 : ∀ x, ∀ u ∈ f x, u.oneCell' = true)
    (w : World) (hgd : o.guard = none) (s x : Operand) (ho : o.op = .call { callee := .builtin .append, args := #[s, x], argTypes := #[T, T] })
    (base : Nat) (v : Value) (xs : List α) (hs : a.eval s = v) (hown : Owns w base e sz f v xs) (u : Value) (ys : List α) (B : Nat) (hx : a.eval x = u) (harr : Arr w B sz u (ys.map f))
    (hlen : (xs.length + ys.length) * by_ ≤ 140737488355328) (hlen2 : xs.length + ys.length ≤ 9223372036854775807) (hbase : base ≤ w.heap.size)
    (h : ∀ v' w', Owns w' base e sz f v' (xs ++ ys) → Below base w w' → (∀ k, k < w.heap.size → some k ≠ v.ownBlock → w'.heap[k]? = w.heap[k]?) → (∀ k, v'.ownBlock = some k → v.ownBlock = some k ∨ w.heap.size ≤ k) → wpList Try.prog ops Q rest (a.put o.dst v') w') :
    wpList Try.prog ops Q (o :: rest) a w := by
  obtain ⟨ht, i, z, hi, hz, hsize, hby, hzs, hsz⟩ := E
  refine (?_ : wpList Try.prog ops Q (o :: rest) a w)
  obtain ⟨ao, cap, rfl, g1, g2, g0, g9, g3⟩ := harr
  simp only [List.length_map] at hx g1 g0 g3
  cases ao with
  | none =>
    have hc := g9 rfl
    have hy : ys = [] := by
      rcases ys with _ | ⟨y, ys⟩
      · rfl
      · simp at g1; omega
    subst hy hc
    refine wpList_append_OwnR_none hgd s x T ho base e i sz ht hi v xs.length (xs.flatMap f) hs hown hx (h v w (by simpa using hown) (Below.refl _ _) (fun _ _ _ => rfl) (fun k hk => .inl hk))
  | some ad =>
    refine wpList_append_OwnR hgd s x T ho base e i z sz by_ ht hi hz hsize hby hzs v xs.length (xs.flatMap f) hs hown ad ys.length cap (ys.flatMap f) hx (flatMap_len hf ys) ?_ ?_ (by unfold maxLen; omega) hlen hbase ?_
    · intro j u hj
      have hjl : j < ys.length * sz := by rw [← flatMap_len hf ys]; exact (List.getElem?_eq_some_iff.1 hj).1
      have hyn : ys.length ≠ 0 := by intro h0; rw [h0] at hjl; omega
      obtain ⟨b, off, had, _, hc⟩ := g3 hyn
      obtain rfl := Option.some.inj had
      rw [Addr.add_lit, ← hj, rows_flat hf ys j hjl hsz, ← hc (j / sz) (Nat.div_lt_of_lt_mul (by rw [Nat.mul_comm]; exact hjl)) (j % sz) (Nat.mod_lt _ hsz)]
      have e : off + j / sz * sz + j % sz = off + j := by
        have := Nat.div_add_mod j sz
        rw [Nat.mul_comm] at this; omega
      rw [e]
    · intro u hu
      obtain ⟨y, _, hy⟩ := List.mem_flatMap.1 hu
      exact h1 y u hy
    · intro v' w' ho' hg _ hb
      refine h v' w' ?_ ((Below.refl _ _).grown hg hbase (fun k hk => (OwnR.lt hown k hk).1)) (fun k hk hne => hg.block k hk hne) (fun k hk => ?_)
      · unfold Owns
        simpa using ho'
      · rcases hb with hb | hb
        · exact .inl (by rw [← hb]; exact hk)
        · rw [hb] at hk; right; simp at hk; omega

/-- What FnAtmBurst's loop keeps: y's box, its words and holds, the words told so far. -/
def BuRel (ws hs : List Int) (r : Rq) (gY k : Nat) (v av bv : Value) (w : World) : Prop :=
  BoxA w gY av bv ∧ Ints w w.heap.size av (wsK ws r k) ∧ Ints w w.heap.size bv (hsK hs r k) ∧ Owns w (gY + 1) 3 1 rowI v (wdK ws r k) ∧ Apart v av ∧ Apart v bv ∧ (∀ b, av.ownBlock = some b → b ≠ gY) ∧ (∀ b, bv.ownBlock = some b → b ≠ gY)

/-- A word's own run, and y's box taken from it. -/
theorem BuRel.mid {ws hs : List Int} {r : Rq} {gY k : Nat} {v av bv u15 u16 : Value} {w w' : World} {x : List Int × List Int × Rs} (h : BuRel ws hs r gY k v av bv w) (hp : BuP u15 u16 x w w') (h1 : x.1.length ≤ 64) (h2 : x.2.1.length ≤ 64) (h3 : x.2.2.data.length ≤ 64) (i1 : ∀ y ∈ x.1, I64 y) (i2 : ∀ y ∈ x.2.1, I64 y) (i3 : ∀ y ∈ x.2.2.data, I64 y) :
    ∃ ga gr a b d, u15 = .pointer (some ⟨ga, 0, none⟩) ∧ u16 = .pointer (some ⟨gr, 0, none⟩) ∧ BoxA w' ga a b ∧ BoxR w' gr x.2.2.id x.2.2.code d ∧ BoxA w' gY av bv ∧ Below w.heap.size w w' ∧ gY < w.heap.size ∧ w.heap.size ≤ gr ∧
      ∀ W, W = (w'.setCell ⟨gY, 0, none⟩ a).setCell ⟨gY, 1, none⟩ b → BoxA W gY a b ∧ BoxR W gr x.2.2.id x.2.2.code d ∧ Owns W (gY + 1) 3 1 rowI v (wdK ws r k) ∧ Ints W W.heap.size a x.1 ∧ Ints W W.heap.size b x.2.1 ∧ Ints W W.heap.size d x.2.2.data ∧ Below gY w' W ∧ gY < W.heap.size ∧
        Apart v a ∧ Apart v b ∧ (∀ q, a.ownBlock = some q → q ≠ gY ∧ q < W.heap.size) ∧ (∀ q, b.ownBlock = some q → q ≠ gY ∧ q < W.heap.size) := by
  obtain ⟨r1, r2, r3, r4, r5, r6, r7, r8⟩ := h
  obtain ⟨ga, gr, a, b, d, e1, e2, p1, p2, p3, p4, p5, p6, p7, hb⟩ := hp
  have hlt := r1.lt
  have q1 := r1.below hb hlt
  have hlv := OwnR.lt r4
  have hla := OwnR.lt p5
  have hlb := OwnR.lt p6
  have hld := OwnR.lt p7
  have hsz := hb.size
  refine ⟨ga, gr, a, b, d, e1, e2, p3, p4, q1, hb, hlt, p2, fun W hW => ?_⟩
  have ht : Touch gY w' W := by rw [hW]; exact (Touch.setCell gY 0 w' a).trans (Touch.setCell gY 1 _ b)
  have hs2 := ht.size
  have na : ∀ q, a.ownBlock = some q → q ≠ gY := fun q hq => by have := (hla q hq).1; omega
  have nb : ∀ q, b.ownBlock = some q → q ≠ gY := fun q hq => by have := (hlb q hq).1; omega
  have nd : ∀ q, d.ownBlock = some q → q ≠ gY := fun q hq => by have := (hld q hq).1; omega
  refine ⟨by rw [hW]; exact q1.put a b, p4.touch ht (by omega), (r4.below hb).touchN ht (fun q hq => by have := (hlv q hq).1; omega), (p5.ints (by omega) i1).touch ht na, (p6.ints (by omega) i2).touch ht nb, (p7.ints (by omega) i3).touch ht nd,
    ht.below (Nat.le_refl _) (by omega), by omega, fun q hq hq2 => ?_, fun q hq hq2 => ?_, fun q hq => ⟨na q hq, by have := (hla q hq).2; omega⟩, fun q hq => ⟨nb q hq, by have := (hlb q hq).2; omega⟩⟩
  · have := (hlv q hq).2; have := (hla q hq2).1; omega
  · have := (hlv q hq).2; have := (hlb q hq2).1; omega
/-- The words appended: the next round's. -/
theorem BuRel.next {ws hs : List Int} {r : Rq} {gY k : Nat} {v v' a b : Value} {W w3 : World} {xs : List Int} (hA : BoxA W gY a b) (hv : ∀ q, v.ownBlock = some q → gY + 1 ≤ q) (hx1 : Ints W W.heap.size a (wsK ws r (k + 1))) (hx2 : Ints W W.heap.size b (hsK hs r (k + 1)))
    (h1 : Apart v a) (h2 : Apart v b) (h3 : ∀ q, a.ownBlock = some q → q ≠ gY ∧ q < W.heap.size) (h4 : ∀ q, b.ownBlock = some q → q ≠ gY ∧ q < W.heap.size)
    (ho : Owns w3 (gY + 1) 3 1 rowI v' xs) (hxs : xs = wdK ws r (k + 1)) (hb : Below (gY + 1) W w3) (hk : ∀ k, k < W.heap.size → some k ≠ v.ownBlock → w3.heap[k]? = W.heap[k]?) (hn : ∀ k, v'.ownBlock = some k → v.ownBlock = some k ∨ W.heap.size ≤ k) : BuRel ws hs r gY (k + 1) v' a b w3 := by
  subst hxs
  refine ⟨hA.below hb (Nat.lt_succ_self _), (hx1.heap fun q hq hlt => hk q hlt fun e => h1 q e.symm hq).mono hb.size, (hx2.heap fun q hq hlt => hk q hlt fun e => h2 q e.symm hq).mono hb.size, ho, fun q hq hq2 => ?_, fun q hq hq2 => ?_, fun q hq => (h3 q hq).1, fun q hq => (h4 q hq).1⟩
  · rcases hn q hq with h | h
    · exact h1 q h hq2
    · have := (h3 q hq2).2; omega
  · rcases hn q hq with h | h
    · exact h2 q h hq2
    · have := (h4 q hq2).2; omega
theorem wdK_len (ws : List Int) (r : Rq) (k : Nat) : (wdK ws r k).length ≤ k := by
  unfold wdK; split
  · simp [getAll]; omega
  · simp
theorem wsK_zero (ws : List Int) (r : Rq) : wsK ws r 0 = ws := by unfold wsK; split <;> simp [putK_zero]
theorem hsK_zero (hs : List Int) (r : Rq) : hsK hs r 0 = hs := by unfold hsK; split <;> simp [freeAll]
theorem wdK_zero (ws : List Int) (r : Rq) : wdK ws r 0 = [] := by unfold wdK; split <;> simp [getAll]
/-- Before the first round. -/
theorem BuRel.start {w9 W : World} {B : Nat} {ws hs : List Int} {r : Rq} {wa ha : Option Addr} {wc hc : Nat} (hs1 : Ints w9 B (.slice wa ws.length wc) ws) (hs2 : Ints w9 B (.slice ha hs.length hc) hs) (h1 : ws.length ≠ 0) (h2 : hs.length ≠ 0) (hB : B ≤ w9.heap.size)
    (hW : W = (w9.alloc (.cells #[.slice wa ws.length wc, .slice ha hs.length hc] 28)).alloc (.cells #[] 3)) : BuRel ws hs r w9.heap.size 0 (.slice (some ⟨w9.heap.size + 1, 0, none⟩) 0 0) (.slice wa ws.length wc) (.slice ha hs.length hc) W := by
  obtain ⟨_, _, e3, _, _, _, _, hr3⟩ := hs1.opened
  simp only [Value.slice.injEq, true_and] at e3
  obtain ⟨rfl, rfl⟩ := e3
  obtain ⟨_, _, e4, _, _, _, _, hr4⟩ := hs2.opened
  simp only [Value.slice.injEq, true_and] at e4
  obtain ⟨rfl, rfl⟩ := e4
  obtain ⟨b1, o1, rfl, l1, _⟩ := hr3 h1
  obtain ⟨b2, o2, rfl, l2, _⟩ := hr4 h2
  have hb : Below w9.heap.size w9 W := by rw [hW]; exact two_in _ _ _
  have hsz := hb.size
  refine ⟨?_, ?_, ?_, ?_, fun q hq hq2 => ?_, fun q hq hq2 => ?_, fun q hq => ?_, fun q hq => ?_⟩
  · rw [hW]; exact (BoxA.new w9 _ _).below ((Below.refl _ _).alloc (Nat.le_refl _) _) (by simp)
  · rw [wsK_zero]; exact (hs1.below (hb.mono hB)).mono (Nat.le_trans hB hsz)
  · rw [hsK_zero]; exact (hs2.below (hb.mono hB)).mono (Nat.le_trans hB hsz)
  · rw [wdK_zero, hW]
    have := Owns.lit (w := w9.alloc (.cells #[.slice (some ⟨b1, o1, none⟩) ws.length wc, .slice (some ⟨b2, o2, none⟩) hs.length hc] 28)) (base := w9.heap.size + 1) (e := 3) (sz := 1) (f := rowI) (by simp)
    simpa using this
  all_goals (simp [Value.ownBlock] at hq; try simp [Value.ownBlock] at hq2)
  all_goals omega

end Go.Proofs.Ytpjfjccjmbphmaa
