/-
  append of a list of rows, whatever their cells.
-/
import Derived.Test.YtjlnnnnpdagnpaaKLib
set_option linter.unusedVariables false
set_option linter.unusedSimpArgs false
namespace Go.Proofs.Ytjlnnnnpdagnpaa
open Go.RowKit

/-- An operation whose guard lets it go is one without a guard. -/
theorem wpList_free {P : Program} {ops : Array Oper} {Q : Exit → Act → World → Prop} {a : Act} {w : World} {rest : List Oper} {o : Oper} (hw : Region.wanted o (yielded ops a.tmps) = true) (h : wpList P ops Q ({ o with guard := none } :: rest) a w) : wpList P ops Q (o :: rest) a w := by
  unfold wpList at h ⊢
  rw [if_pos hw]
  rw [if_pos (by simp [Region.wanted])] at h
  exact h

/-- 'out = append(out, ys...)' of rows whatever they hold: which blocks are kept. -/
theorem wpList_catL {α : Type} {ops : Array Oper} {rest : List Oper} {o : Oper} {a : Act} {Q : Exit → Act → World → Prop} {T e sz by_ : Nat} (E : Elem T e sz by_) (f : α → List Value) (hf : ∀ x, (f x).length = sz)
    (w : World) (hgd : o.guard = none) (s x : Operand) (ho : o.op = .call { callee := .builtin .append, args := #[s, x], argTypes := #[T, T] })
    (base : Nat) (v : Value) (xs : List α) (hs : a.eval s = v) (hown : Owns w base e sz f v xs) (u : Value) (ys : List α) (B : Nat) (hx : a.eval x = u) (harr : Arr w B sz u (ys.map f)) (h1 : ∀ y ∈ ys, ∀ u ∈ f y, u.oneCell' = true)
    (hlen : (xs.length + ys.length) * by_ ≤ 140737488355328) (hlen2 : xs.length + ys.length ≤ 9223372036854775807) (hbase : base ≤ w.heap.size)
    (h : ∀ v' w', Owns w' base e sz f v' (xs ++ ys) → Below base w w' → (∀ k, k < w.heap.size → some k ≠ v.ownBlock → w'.heap[k]? = w.heap[k]?) → (∀ k, v'.ownBlock = some k → v.ownBlock = some k ∨ w.heap.size ≤ k) → wpList Try.prog ops Q rest (a.put o.dst v') w') :
    wpList Try.prog ops Q (o :: rest) a w := by
  obtain ⟨ht, i, z, hi, hz, hsize, hby, hzs, hsz⟩ := E
  refine (?_ : wpList Try.prog ops Q (o :: rest) a w)
  obtain ⟨ao, cap, rfl, g1, g2, g0, g9, g3⟩ := harr
  simp only [List.length_map] at hx g1 g0 g3
  cases ao with
  | none =>
    have hc := g9 rfl
    have hy : ys = [] := by
      rcases ys with _ | ⟨y, ys⟩
      · rfl
      · simp at g1; omega
    subst hy hc
    refine wpList_append_OwnR_none hgd s x T ho base e i sz ht hi v xs.length (xs.flatMap f) hs hown hx (h v w (by simpa using hown) (Below.refl _ _) (fun _ _ _ => rfl) (fun k hk => .inl hk))
  | some ad =>
    refine wpList_append_OwnR hgd s x T ho base e i z sz by_ ht hi hz hsize hby hzs v xs.length (xs.flatMap f) hs hown ad ys.length cap (ys.flatMap f) hx (flatMap_len hf ys) ?_ ?_ (by unfold maxLen; omega) hlen hbase ?_
    · intro j u hj
      have hjl : j < ys.length * sz := by rw [← flatMap_len hf ys]; exact (List.getElem?_eq_some_iff.1 hj).1
      have hyn : ys.length ≠ 0 := by intro h0; rw [h0] at hjl; omega
      obtain ⟨b, off, had, _, hc⟩ := g3 hyn
      obtain rfl := Option.some.inj had
      rw [Addr.add_lit, ← hj, rows_flat hf ys j hjl hsz, ← hc (j / sz) (Nat.div_lt_of_lt_mul (by rw [Nat.mul_comm]; exact hjl)) (j % sz) (Nat.mod_lt _ hsz)]
      have e : off + j / sz * sz + j % sz = off + j := by
        have := Nat.div_add_mod j sz
        rw [Nat.mul_comm] at this; omega
      rw [e]
    · intro u hu
      obtain ⟨y, hm, hy⟩ := List.mem_flatMap.1 hu
      exact h1 y hm u hy
    · intro v' w' ho' hg _ hb
      refine h v' w' ?_ ((Below.refl _ _).grown hg hbase (fun k hk => (OwnR.lt hown k hk).1)) (fun k hk hne => hg.block k hk hne) (fun k hk => ?_)
      · unfold Owns
        simpa using ho'
      · rcases hb with hb | hb
        · exact .inl (by rw [← hb]; exact hk)
        · rw [hb] at hk; right; simp at hk; omega

end Go.Proofs.Ytjlnnnnpdagnpaa
