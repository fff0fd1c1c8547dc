/-
  Draws: a store, and what is held: l20Atm.
-/
import Derived.Test.YteamebdehembgaaKDr3
import Derived.Test.YteamebdehembgaaJInv
import Derived.Deep.RegionHeld3
import Derived.Deep.RegionWith
set_option linter.unusedVariables false
set_option linter.unusedSimpArgs false
namespace Go.Proofs.Yteamebdehembgaa
open Go.RowKit
attribute [local go_sem ↓] Go.wp_at_zero Go.wp_at_succ

theorem rep_rows (n : Nat) : (List.replicate n (0 : Int)).flatMap rowI = List.replicate n (Value.int .i64 0) := by rw [flat_rowI, List.map_replicate]
theorem owns_made {w : World} {base n : Nat} {v : Value} (h : w.ownsRow base 3 1 v n (List.replicate n (Value.int .i64 0))) : Owns w base 3 1 rowI v (List.replicate n (0 : Int)) := by
  unfold Owns
  rw [rep_rows, List.length_replicate]
  exact OwnR.of_row h
theorem memOk_rep : memOk (List.replicate 64 0) = true := by
  simp only [memOk, Bool.and_eq_true, beq_iff_eq, List.length_replicate, List.all_eq_true]
  exact ⟨trivial, fun x hx => by rw [(List.mem_replicate.1 hx).2]; decide⟩
theorem memOk_parts {ws : List Int} (h : memOk ws = true) : ws.length = 64 ∧ ws.all wordOk = true := by
  simpa only [memOk, Bool.and_eq_true, beq_iff_eq] using h
theorem memOk_set {ws : List Int} {k : Nat} {x : Int} (h : memOk ws = true) (hx : wordOk x = true) : memOk (ws.set k x) = true := by
  obtain ⟨h1, h2⟩ := memOk_parts h
  simp only [memOk, Bool.and_eq_true, beq_iff_eq]
  exact ⟨by simpa using h1, all_set h2 hx⟩

set_option maxHeartbeats 1000000 in
theorem memNew_any (w : World) : Calls Try.prog 131 #[] w fun e w' => ∃ g off c, e = .returned (.agg #[.slice (some ⟨g, off, none⟩) 64 c]) ∧ Owns w' w.heap.size 3 1 rowI (.slice (some ⟨g, off, none⟩) 64 c) (List.replicate 64 0) ∧ 64 ≤ c ∧ c ≤ 9223372036854775807 ∧ Below w.heap.size w w' := by
  obtain ⟨i1, hj, jz0, jz1, jz2⟩ := info_parts infoI
  go_enter Try.func131, Try.ntmps131
  go_wp2_with (at_make; go_must (refine wpList_make_full _ rfl _ _ 24 rfl (w.heap.size + 1) 3 i1 (.int .i64 0) 1 Try.underlying24 hj jz0 jz1 _ _ _ _ 64 rfl rfl rfl rfl (by rw [jz2]; omega) (by unfold maxLen; omega) (by simp) ?_); intro w1 hown hgrow; have hbx := (show Below (w.heap.size + 1) (w.alloc (.cells #[.slice none 0 0] 38)) w1 from (Below.refl _ _).grown hgrow (by simp) (by simp)); have d0 : w1.cell? ⟨w.heap.size, 0, none⟩ = some (.slice none 0 0) := (by rw [hbx.cell (p := ⟨w.heap.size, 0, none⟩) (by simp)]; simp [go_sem]); have d1 : w1.frozen? ⟨w.heap.size, 0, none⟩ = false := (by rw [hbx.frozen (p := ⟨w.heap.size, 0, none⟩) (by simp)]; simp [go_sem]))
  rw [show madeCells (Value.int .i64 0).cells (64 * 1) = madeCells #[.int .i64 0] 64 by rfl, toList_madeCells_one] at hown
  have HO := hid (owns_made hown)
  simp only [World.size_alloc] at HO
  have HB := hid hbx
  clear hown hgrow hbx
  go_wp2_with fail
  refine bodyPost_ret (v := .agg #[.slice (some ⟨w.heap.size + 1, 0, none⟩) 64 64]) (by simp [results, Try.results131, go_sem, d0]) rfl ⟨_, _, _, rfl, ?_, by omega, by omega, ?_⟩
  · exact (HO.out.rebase (by omega)).set' _ _ _ (fun k hk => by have := (OwnR.lt HO.out k hk).1; omega)
  · exact (((Below.refl _ _).alloc (Nat.le_refl _) _).trans (HB.out.mono (by omega))).setCell (by simp) _

def MemP (r B : Nat) (bs : List Nat) (p : Nat) (n : Int) (w : World) (e : Ending) (w' : World) : Prop :=
  ∃ v ws q, e = .returned (.agg #[v]) ∧ Owns w' w.heap.size 3 1 rowI v ws ∧ (∀ x ∈ ws, I64 x) ∧ ws.length ≤ 65 ∧ (9000 ≤ n → memOk ws = true) ∧ q ≤ p + 70 ∧ RdAt w' r B bs q ∧ Touch r w w'

theorem words64 {ws : List Int} (h : memOk ws = true) : ∀ x ∈ ws, I64 x := fun x hx => by
  have := List.all_eq_true.1 (memOk_parts h).2 x hx
  simp only [wordOk, inB, Bool.and_eq_true, decide_eq_true_eq] at this
  unfold I64; omega
/-- The rest of a list that is owned, but for its first. -/
theorem Owns.tail {α : Type} {w : World} {base e sz g off n c : Nat} {f : α → List Value} {xs : List α} (h : Owns w base e sz f (.slice (some ⟨g, off, none⟩) n c) xs) (hf : ∀ x, (f x).length = sz) (hn : 1 ≤ n) : Owns w base e sz f (.slice (some ⟨g, off + sz, none⟩) (n - 1) (c - 1)) xs.tail := by
  obtain ⟨hl, h2⟩ := h
  rcases h2 with ⟨h2, _⟩ | ⟨g', off', cap, cur, hv, hg, hh, hle, hmax, hsz, hc⟩
  · cases h2
  · simp only [Value.slice.injEq, Option.some.injEq, Addr.mk.injEq] at hv
    obtain ⟨⟨rfl, rfl, _⟩, rfl, rfl⟩ := hv
    obtain ⟨x, xs, rfl⟩ : ∃ x ys, xs = x :: ys := by
      rcases xs with _ | ⟨x, ys⟩
      · simp at hn
      · exact ⟨x, ys, rfl⟩
    have hcap : c * sz = (c - 1) * sz + sz := by
      have : c = (c - 1) + 1 := by simp at hle; omega
      rw [this, Nat.add_mul]; simp
    refine ⟨by rw [flatMap_len hf], .inr ⟨g, off + sz, c - 1, cur, by simp, hg, hh, by simp at hle ⊢; omega, by omega, by omega, fun j hj => ?_⟩⟩
    simp only [List.tail_cons] at hj ⊢
    have := hc (sz + j) (by simp only [List.length_cons, Nat.add_mul]; omega)
    rw [← Nat.add_assoc] at this
    rw [this, List.flatMap_cons, List.getElem?_append_right (by rw [hf]; omega), hf]
    congr 1; omega

/-- 'out = append(out, y)' onto what the call itself owns; but for its block nothing turns. -/
theorem wpList_pushT {α : Type} {ops : Array Oper} {rest : List Oper} {o : Oper} {a : Act} {Q : Exit → Act → World → Prop} {T e sz by_ : Nat} (E : Elem T e sz by_) (f : α → List Value) (hf : ∀ x, (f x).length = sz) (h1 : ∀ x, ∀ u ∈ f x, u.oneCell' = true)
    (w : World) (hgd : o.guard = none) (s x : Operand) (ho : o.op = .call { callee := .builtin .append, args := #[s, x], argTypes := #[T, T] })
    (base g : Nat) (v : Value) (hv : ∀ k, v.ownBlock = some k → k = g) (xs : List α) (y : α) (hs : a.eval s = v) (hown : Owns w base e sz f v xs) (cs : Array Value) (hcs : cs.toList = f y) (hx : a.eval x = .slice (some ⟨w.heap.size, 0, none⟩) 1 1)
    (hlen : (xs.length + 1) * by_ ≤ 140737488355328) (hlen2 : xs.length + 1 ≤ 9223372036854775807) (hbase : base ≤ w.heap.size)
    (h : ∀ v' w', Owns w' base e sz f v' (xs ++ [y]) → Touch g w w' → (∀ k, v'.ownBlock = some k → v.ownBlock = some k ∨ w.heap.size ≤ k) → wpList Try.prog ops Q rest (a.put o.dst v') w') :
    wpList Try.prog ops Q (o :: rest) a (w.alloc (.cells cs e)) := by
  obtain ⟨ht, i, z, hi, hz, hsize, hby, hzs, hsz⟩ := E
  have hown' : OwnR (w.alloc (.cells cs e)) base e sz v xs.length (xs.flatMap f) := OwnR.alloc hown _
  refine wpList_append_OwnR hgd s x T ho base e i z sz by_ ht hi hz hsize hby hzs v xs.length (xs.flatMap f) hs hown' ⟨w.heap.size, 0, none⟩ 1 1 (f y) hx (by rw [hf]; omega) ?_ (h1 y) (by unfold maxLen; omega) hlen (by simp; omega) ?_
  · intro j u hj
    rw [Addr.add_lit, Nat.zero_add, World.cell?_alloc_at _ _ _ _ rfl, ← hj, ← hcs]
    simp
  · intro v' w' ho' hg _ hbl
    refine h v' w' ?_ (Touch.trans ((Touch.refl g w).alloc _) ⟨hg.os, hg.tape, hg.output, hg.size, fun k hk hne => hg.block k hk (fun e => hne (hv k e.symm))⟩) (fun k hk => ?_)
    · unfold Owns
      simpa using ho'
    · rcases hbl with hbl | hbl
      · exact .inl (by rw [← hbl]; exact hk)
      · rw [hbl] at hk; right; simp at hk; omega

theorem Owns.putRow1' {w : World} {base e g off n c : Nat} {xs : List Int} (h : Owns w base e 1 rowI (.slice (some ⟨g, off, none⟩) n c) xs) (k : Nat) (hk : k < xs.length) (x : Int) {b : Nat} (hb : b = off + k) : Owns (w.setCell ⟨g, b, none⟩ (.int .i64 x)) base e 1 rowI (.slice (some ⟨g, off, none⟩) n c) (xs.set k x) := by
  subst hb; exact h.putI k hk x
/-- Two boxes of one cell each, not frozen: s0 holds v0, gm holds v. -/
def MB (w : World) (s0 gm : Nat) (v0 v : Value) : Prop := w.cell? ⟨gm, 0, none⟩ = some v ∧ w.frozen? ⟨gm, 0, none⟩ = false ∧ w.cell? ⟨s0, 0, none⟩ = some v0 ∧ w.frozen? ⟨s0, 0, none⟩ = false ∧ gm < w.heap.size ∧ s0 < w.heap.size
theorem MB.touch {w w' : World} {r s0 gm : Nat} {v0 v : Value} (h : MB w s0 gm v0 v) (ht : Touch r w w') (h1 : gm ≠ r) (h2 : s0 ≠ r) : MB w' s0 gm v0 v := by
  obtain ⟨a, b, c, d, e, f⟩ := h
  exact ⟨by rw [ht.cell (p := ⟨gm, 0, none⟩) h1 e]; exact a, by rw [ht.frozen (p := ⟨gm, 0, none⟩) h1 e]; exact b, by rw [ht.cell (p := ⟨s0, 0, none⟩) h2 f]; exact c, by rw [ht.frozen (p := ⟨s0, 0, none⟩) h2 f]; exact d, Nat.lt_of_lt_of_le e ht.size, Nat.lt_of_lt_of_le f ht.size⟩
theorem MB.setc {w : World} {s0 gm : Nat} {v0 v : Value} (h : MB w s0 gm v0 v) (g o : Nat) (u : Value) (h1 : gm ≠ g) (h2 : s0 ≠ g) : MB (w.setCell ⟨g, o, none⟩ u) s0 gm v0 v := h.touch (Touch.setCell g o w u) h1 h2
theorem MB.drewd {w : World} {s0 gm : Nat} {v0 v : Value} (h : MB w s0 gm v0 v) : MB w.drew s0 gm v0 v := h
theorem MB.alloc {w : World} {s0 gm : Nat} {v0 v : Value} (h : MB w s0 gm v0 v) (o : Obj) : MB (w.alloc o) s0 gm v0 v := by
  have hl := h.2.2.2.2
  have hb : Below w.heap.size w (w.alloc o) := (Below.refl _ _).alloc (Nat.le_refl _) o
  obtain ⟨a, b, c, d, e, f⟩ := h
  exact ⟨by rw [hb.cell (p := ⟨gm, 0, none⟩) e]; exact a, by rw [hb.frozen (p := ⟨gm, 0, none⟩) e]; exact b, by rw [hb.cell (p := ⟨s0, 0, none⟩) f]; exact c, by rw [hb.frozen (p := ⟨s0, 0, none⟩) f]; exact d, by simp; omega, by simp; omega⟩
theorem MB.setM {w : World} {s0 gm : Nat} {v0 v : Value} (h : MB w s0 gm v0 v) (u : Value) (hne : s0 ≠ gm) : MB (w.setCell ⟨gm, 0, none⟩ u) s0 gm v0 u := by
  have ht := Touch.setCell gm 0 w u
  obtain ⟨a, b, c, d, e, f⟩ := h
  exact ⟨by simp [go_sem, a], by simp [go_sem, b], by rw [ht.cell (p := ⟨s0, 0, none⟩) hne f]; exact c, by rw [ht.frozen (p := ⟨s0, 0, none⟩) hne f]; exact d, by simpa [World.setCell] using e, by simpa [World.setCell] using f⟩
theorem loadVar_mem (w : World) (g : Nat) (a : Value) (h0 : w.cell? ⟨g, 0, none⟩ = some a) : (loadVar 38 ⟨g, 0, none⟩).run Try.prog w = .ok (.agg #[a]) w := by
  simp [loadVar, go_sem, h0]
theorem app64I {ws : List Int} {y : Int} (h : ∀ x ∈ ws, I64 x) (hy : I64 y) : ∀ x ∈ ws ++ [y], I64 x := by
  intro x hx
  rcases List.mem_append.1 hx with hx | hx
  · exact h x hx
  · simp only [List.mem_singleton] at hx; rw [hx]; exact hy
theorem set64I {ws : List Int} {k : Nat} {y : Int} (h : ∀ x ∈ ws, I64 x) (hy : I64 y) : ∀ x ∈ ws.set k y, I64 x := by
  intro x hx
  rcases List.mem_or_eq_of_mem_set hx with h1 | h1
  · exact h x h1
  · rw [h1]; exact hy

end Go.Proofs.Yteamebdehembgaa

namespace Go.Proofs.Yteamebdehembgaa
open Go.RowKit
attribute [local go_sem ↓] Go.wp_at_zero Go.wp_at_succ

/-- Two boxes of two cells each, not frozen: s0 holds a0, a1; gs holds wv, hv. -/
def AB (w : World) (s0 gs : Nat) (a0 a1 wv hv : Value) : Prop :=
  w.cell? ⟨gs, 0, none⟩ = some wv ∧ w.cell? ⟨gs, 1, none⟩ = some hv ∧ w.frozen? ⟨gs, 0, none⟩ = false ∧ w.frozen? ⟨gs, 1, none⟩ = false ∧
  w.cell? ⟨s0, 0, none⟩ = some a0 ∧ w.cell? ⟨s0, 1, none⟩ = some a1 ∧ w.frozen? ⟨s0, 0, none⟩ = false ∧ w.frozen? ⟨s0, 1, none⟩ = false ∧ gs < w.heap.size ∧ s0 < w.heap.size
theorem AB.touch {w w' : World} {r s0 gs : Nat} {a0 a1 wv hv : Value} (h : AB w s0 gs a0 a1 wv hv) (ht : Touch r w w') (h1 : gs ≠ r) (h2 : s0 ≠ r) : AB w' s0 gs a0 a1 wv hv := by
  obtain ⟨a, b, c, d, a', b', c', d', e, f⟩ := h
  exact ⟨(ht.cell (p := ⟨gs, 0, none⟩) h1 e).trans a, (ht.cell (p := ⟨gs, 1, none⟩) h1 e).trans b, (ht.frozen (p := ⟨gs, 0, none⟩) h1 e).trans c, (ht.frozen (p := ⟨gs, 1, none⟩) h1 e).trans d,
    (ht.cell (p := ⟨s0, 0, none⟩) h2 f).trans a', (ht.cell (p := ⟨s0, 1, none⟩) h2 f).trans b', (ht.frozen (p := ⟨s0, 0, none⟩) h2 f).trans c', (ht.frozen (p := ⟨s0, 1, none⟩) h2 f).trans d', Nat.lt_of_lt_of_le e ht.size, Nat.lt_of_lt_of_le f ht.size⟩
theorem AB.setc {w : World} {s0 gs : Nat} {a0 a1 wv hv : Value} (h : AB w s0 gs a0 a1 wv hv) (g o : Nat) (u : Value) (h1 : gs ≠ g) (h2 : s0 ≠ g) : AB (w.setCell ⟨g, o, none⟩ u) s0 gs a0 a1 wv hv := h.touch (Touch.setCell g o w u) h1 h2
theorem AB.drewd {w : World} {s0 gs : Nat} {a0 a1 wv hv : Value} (h : AB w s0 gs a0 a1 wv hv) : AB w.drew s0 gs a0 a1 wv hv := h
theorem AB.below {w w' : World} {s0 gs C : Nat} {a0 a1 wv hv : Value} (h : AB w s0 gs a0 a1 wv hv) (hb : Below C w w') (h1 : gs < C) (h2 : s0 < C) : AB w' s0 gs a0 a1 wv hv := by
  obtain ⟨a, b, c, d, a', b', c', d', e, f⟩ := h
  exact ⟨(hb.cell (p := ⟨gs, 0, none⟩) h1).trans a, (hb.cell (p := ⟨gs, 1, none⟩) h1).trans b, (hb.frozen (p := ⟨gs, 0, none⟩) h1).trans c, (hb.frozen (p := ⟨gs, 1, none⟩) h1).trans d,
    (hb.cell (p := ⟨s0, 0, none⟩) h2).trans a', (hb.cell (p := ⟨s0, 1, none⟩) h2).trans b', (hb.frozen (p := ⟨s0, 0, none⟩) h2).trans c', (hb.frozen (p := ⟨s0, 1, none⟩) h2).trans d', Nat.lt_of_lt_of_le e hb.size, Nat.lt_of_lt_of_le f hb.size⟩
theorem AB.alloc {w : World} {s0 gs : Nat} {a0 a1 wv hv : Value} (h : AB w s0 gs a0 a1 wv hv) (o : Obj) : AB (w.alloc o) s0 gs a0 a1 wv hv := h.below ((Below.refl w.heap.size w).alloc (Nat.le_refl _) o) h.2.2.2.2.2.2.2.2.1 h.2.2.2.2.2.2.2.2.2
theorem AB.setA {w : World} {s0 gs : Nat} {a0 a1 wv hv : Value} (h : AB w s0 gs a0 a1 wv hv) (u : Value) (hne : s0 ≠ gs) : AB (w.setCell ⟨gs, 0, none⟩ u) s0 gs a0 a1 u hv := by
  have ht := Touch.setCell gs 0 w u
  obtain ⟨a, b, c, d, a', b', c', d', e, f⟩ := h
  exact ⟨by simp [go_sem, a], by simp [go_sem, b], by simp [go_sem, c], by simp [go_sem, d], (ht.cell (p := ⟨s0, 0, none⟩) hne f).trans a', (ht.cell (p := ⟨s0, 1, none⟩) hne f).trans b', (ht.frozen (p := ⟨s0, 0, none⟩) hne f).trans c', (ht.frozen (p := ⟨s0, 1, none⟩) hne f).trans d', by simpa [World.setCell] using e, by simpa [World.setCell] using f⟩
theorem AB.setB {w : World} {s0 gs : Nat} {a0 a1 wv hv : Value} (h : AB w s0 gs a0 a1 wv hv) (u : Value) (hne : s0 ≠ gs) : AB (w.setCell ⟨gs, 1, none⟩ u) s0 gs a0 a1 wv u := by
  have ht := Touch.setCell gs 1 w u
  obtain ⟨a, b, c, d, a', b', c', d', e, f⟩ := h
  exact ⟨by simp [go_sem, a], by simp [go_sem, b], by simp [go_sem, c], by simp [go_sem, d], (ht.cell (p := ⟨s0, 0, none⟩) hne f).trans a', (ht.cell (p := ⟨s0, 1, none⟩) hne f).trans b', (ht.frozen (p := ⟨s0, 0, none⟩) hne f).trans c', (ht.frozen (p := ⟨s0, 1, none⟩) hne f).trans d', by simpa [World.setCell] using e, by simpa [World.setCell] using f⟩
/-- A new box behind what left the old one as it was. -/
theorem AB.fresh {w : World} {s0 : Nat} {a0 a1 : Value} (hc : w.cell? ⟨s0, 0, none⟩ = some a0) (hd : w.cell? ⟨s0, 1, none⟩ = some a1) (hf : w.frozen? ⟨s0, 0, none⟩ = false) (hg : w.frozen? ⟨s0, 1, none⟩ = false) (hl : s0 < w.heap.size) (wv hv : Value) (T : TypeId) :
    AB (w.alloc (.cells #[wv, hv] T)) s0 w.heap.size a0 a1 wv hv := by
  refine ⟨by simp [go_sem], by simp [go_sem], by simp [go_sem], by simp [go_sem], ?_, ?_, ?_, ?_, by simp, by simp; omega⟩
  · rw [World.cell?_alloc_past _ _ _ hl]; exact hc
  · rw [World.cell?_alloc_past _ _ _ hl]; exact hd
  · rw [World.frozen?_alloc_past _ _ _ hl]; exact hf
  · rw [World.frozen?_alloc_past _ _ _ hl]; exact hg

def AtmNewP (w : World) (e : Ending) (w' : World) : Prop :=
  ∃ wa wc ga go gc, e = .returned (.agg #[.slice wa 64 wc, .slice (some ⟨ga, go, none⟩) 6 gc]) ∧ Owns w' w.heap.size 3 1 rowI (.slice (some ⟨ga, go, none⟩) 6 gc) (List.replicate 6 (-1)) ∧
    6 ≤ gc ∧ gc ≤ 9223372036854775807 ∧ Below w.heap.size w w'
set_option maxHeartbeats 4000000 in
theorem atmNew_any (w : World) : Calls Try.prog 76 #[] w (AtmNewP w) := by
  go_enter Try.func76, Try.ntmps76
  go_wp2_with (first
    | (go_at_call 131; refine (memNew_any _).mono ?_; rintro e w1 ⟨g, off, c, rfl, hown, hc1, hc2, hb⟩; have hz1 := hb.size; simp only [World.size_alloc] at hz1; have d0 : w1.cell? ⟨w.heap.size, 0, none⟩ = some (.slice none 0 0) := (by rw [hb.cell (p := ⟨w.heap.size, 0, none⟩) (by simp)]; simp [go_sem]); have d1 : w1.frozen? ⟨w.heap.size, 0, none⟩ = false := (by rw [hb.frozen (p := ⟨w.heap.size, 0, none⟩) (by simp)]; simp [go_sem]); have d2 : w1.cell? ⟨w.heap.size, 1, none⟩ = some (.slice none 0 0) := (by rw [hb.cell (p := ⟨w.heap.size, 1, none⟩) (by simp)]; simp [go_sem]); have d3 : w1.frozen? ⟨w.heap.size, 1, none⟩ = false := (by rw [hb.frozen (p := ⟨w.heap.size, 1, none⟩) (by simp)]; simp [go_sem])))
  have HAB := hid (AB.fresh d0 d2 d1 d3 (by omega) (.slice (some ⟨g, off, none⟩) 64 c) (.slice none 0 0) 40)
  have HB := hid (show Below w.heap.size w w1 from ((Below.refl _ _).alloc (Nat.le_refl _) _).trans (hb.mono (by simp)))
  obtain ⟨gs, hgs⟩ : ∃ gs, gs = w1.heap.size := ⟨_, rfl⟩
  obtain ⟨W2, hW2⟩ : ∃ W2, W2 = w1.alloc (.cells #[.slice (some ⟨g, off, none⟩) 64 c, .slice none 0 0] 40) := ⟨_, rfl⟩
  rw [← hW2, ← hgs] at HAB
  have HB2 := hid (show Below w.heap.size w1 W2 by rw [hW2]; exact (Below.refl _ _).alloc (by omega) _)
  have hz2 : W2.heap.size = gs + 1 := by rw [hW2, hgs]; simp
  rw [← hW2, ← hgs]
  have hgs2 : w.heap.size + 1 ≤ gs := by omega
  have HGS := hid hgs
  clear hown hb hW2 hgs hz1 d0 d1 d2 d3
  go_loopw [2] (fun i wr => ∃ (k : Nat) (u : Value), i = .int .i64 k ∧ k ≤ 6 ∧ Owns wr (gs + 1) 3 1 rowI u (List.replicate k (-1 : Int)) ∧ Below gs W2 wr ∧ AB wr w.heap.size gs (.slice none 0 0) (.slice none 0 0) (.slice (some ⟨g, off, none⟩) 64 c) u) (fun i _ => 6 - (intOf i).toNat)
  case atStart => exact ⟨0, _, rfl, by omega, Owns.zero, Below.refl _ _, HAB.out⟩
  case round =>
    clear HAB
    obtain ⟨k, u, rfl, hk6, hown, hbl, hab⟩ := hrel
    have HOW := hid hown; have HBL := hid hbl; have HAB := hid hab
    obtain ⟨q0, q1, q2, q3, e0, e1, e2, e3, hgl2, hsl⟩ := hab
    have hrep := hid (show List.replicate k (-1 : Int) ++ [-1] = List.replicate (k + 1) (-1) from by rw [List.replicate_succ'])
    have hlr := hid (show (List.replicate k (-1 : Int)).length = k from by simp)
    clear hown hbl
    by_cases hlt : k < 6
    · go_wp2_with (at_builtin; go_must (refine wpList_push elem_int rowI rowI_len rowI_one wr rfl _ _ rfl (gs + 1) _ _ (-1) (by rfl) HOW.out _ (by rfl) (by rfl) (by rw [hlr.out]; omega) (by rw [hlr.out]; omega) (by omega) ?_); intro v' w3 hown1 hb1; rw [hrep.out] at hown1; obtain ⟨va, vc, hv', hvc1, hvc2⟩ := hown1.shape; rw [List.length_replicate] at hv'; subst hv'; have HAB3 := hid (HAB.out.below hb1 (by omega) (by omega)); obtain ⟨q0, q1, q2, q3, e0, e1, e2, e3, hgl3, hsl3⟩ := HAB3.out; have HO1 := hid hown1; have HB1 := hid hb1; clear hown1 hb1)
      go_roundw
      case rel => exact ⟨k + 1, _, by go_num, by omega, HO1.out.set gs 1 _ (by omega), (HBL.out.trans (HB1.out.mono (by omega))).setCell (by exact Nat.le_refl _) _, HAB3.out.setB _ (by omega)⟩
      case measure => simp [intOf]; omega
    · obtain rfl : k = 6 := by omega
      obtain ⟨ga, go, gc, rfl, hc1, hc2, hg1, hg2⟩ := HOW.out.someR (by simp)
      simp only [List.length_replicate] at hc1
      go_wp2_with fail
      refine bodyPost_ret (results_c1 Try.results76 _ _ ⟨w.heap.size, 0, none⟩ (.agg #[.slice (some ⟨g, off, none⟩) 64 c, .slice (some ⟨ga, go, none⟩) 6 gc]) rfl (loadVar_atm _ _ _ _ (by simp [go_sem, *]) (by simp [go_sem, *]))) rfl ⟨_, _, _, _, _, rfl, ?_, hc1, hc2, ?_⟩
      · have X := HOW.out.rebase (show w.heap.size ≤ gs + 1 by omega)
        simp only [List.length_replicate] at X
        repeat (first | with_reducible exact X | with_reducible refine Owns.set' ?_ _ _ _ (fun j hj => by simp [Value.ownBlock] at hj; omega))
      · exact (((HB.out.trans HB2.out).trans (HBL.out.mono (by omega))).setCell (by exact Nat.le_refl _) _).setCell (by exact Nat.le_refl _) _

end Go.Proofs.Yteamebdehembgaa

namespace Go.Proofs.Yteamebdehembgaa
open Go.RowKit
attribute [local go_sem ↓] Go.wp_at_zero Go.wp_at_succ

theorem tab5 (a b c d e : Int) {n : Nat} (h : n < 5) : ∃ y : Int, ([Value.int .i64 a, .int .i64 b, .int .i64 c, .int .i64 d, .int .i64 e] : List Value)[n]? = some (.int .i64 y) ∧ (y = a ∨ y = b ∨ y = c ∨ y = d ∨ y = e) := by
  rcases (show n = 0 ∨ n = 1 ∨ n = 2 ∨ n = 3 ∨ n = 4 by omega) with rfl | rfl | rfl | rfl | rfl
  · exact ⟨a, rfl, .inl rfl⟩
  · exact ⟨b, rfl, .inr (.inl rfl)⟩
  · exact ⟨c, rfl, .inr (.inr (.inl rfl))⟩
  · exact ⟨d, rfl, .inr (.inr (.inr (.inl rfl)))⟩
  · exact ⟨e, rfl, .inr (.inr (.inr (.inr rfl)))⟩
theorem holds64 {hs : List Int} (h : hs.all (fun x => inB x (-1) 63) = true) : ∀ x ∈ hs, I64 x := fun x hx => by
  have := List.all_eq_true.1 h x hx
  simp only [inB, Bool.and_eq_true, decide_eq_true_eq] at this
  unfold I64; omega

def AtmP (r B : Nat) (bs : List Nat) (p : Nat) (n : Int) (w : World) (e : Ending) (w' : World) : Prop :=
  ∃ wv hv ws hs q, e = .returned (.agg #[wv, hv]) ∧ Owns w' w.heap.size 3 1 rowI wv ws ∧ Owns w' w.heap.size 3 1 rowI hv hs ∧ (∀ x ∈ ws, I64 x) ∧ (∀ x ∈ hs, I64 x) ∧ ws.length ≤ 65 ∧ hs.length ≤ 6 ∧ (9000 ≤ n → atmOk ws hs = true) ∧ q ≤ p + 200 ∧ RdAt w' r B bs q ∧ Touch r w w'

end Go.Proofs.Yteamebdehembgaa
