/-
  What is read, by the blocks in which it lies: P says which. What keeps these blocks keeps it.
-/
import Derived.Test.YteamebdehembgaaJDeep
import Derived.Test.YteamebdehembgaaKGen
set_option linter.unusedVariables false
set_option linter.unusedSimpArgs false
namespace Go.Proofs.Yteamebdehembgaa
open Go.RowKit

/-- The blocks of P are as they were. -/
def Keeps (P : Nat → Prop) (w w' : World) : Prop := ∀ b, P b → w'.heap[b]? = w.heap[b]?
theorem Keeps.weak {P Q : Nat → Prop} {w w' : World} (h : Keeps Q w w') (hs : ∀ b, P b → Q b) : Keeps P w w' := fun b hb => h b (hs b hb)
theorem Keeps.trans {P : Nat → Prop} {u v w : World} (h : Keeps P u v) (k : Keeps P v w) : Keeps P u w := fun b hb => (k b hb).trans (h b hb)
theorem Keeps.cell {P : Nat → Prop} {w w' : World} (h : Keeps P w w') {a : Addr} (ha : P a.block) : w'.cell? a = w.cell? a := by simp only [World.cell?, h _ ha]
theorem Keeps.frozen {P : Nat → Prop} {w w' : World} (h : Keeps P w w') {a : Addr} (ha : P a.block) : w'.frozen? a = w.frozen? a := by simp only [World.frozen?, h _ ha]

/-- A slice of rows, read in blocks of P. -/
def ArrD (w : World) (P : Nat → Prop) (sz : Nat) (v : Value) (rows : List (List Value)) : Prop :=
  ∃ ao cap, v = .slice ao rows.length cap ∧ rows.length ≤ cap ∧ cap ≤ 9223372036854775807 ∧ rows.length ≤ 140737488351232 ∧ (ao = none → cap = 0) ∧
    (rows.length ≠ 0 → ∃ b off, ao = some ⟨b, off, none⟩ ∧ P b ∧ ∀ t, t < rows.length → ∀ j, j < sz → w.cell? ⟨b, off + t * sz + j, none⟩ = (rows.getD t [])[j]?)
theorem ArrD.of {w : World} {B sz : Nat} {v : Value} {rows : List (List Value)} (h : Arr w B sz v rows) : ArrD w (· < B) sz v rows := h
theorem ArrD.to {w : World} {P : Nat → Prop} {B sz : Nat} {v : Value} {rows : List (List Value)} (h : ArrD w P sz v rows) (hP : ∀ b, P b → b < B) : Arr w B sz v rows := by
  obtain ⟨ao, cap, hv, h1, h2, h0, h9, h3⟩ := h
  refine ⟨ao, cap, hv, h1, h2, h0, h9, fun hn => ?_⟩
  obtain ⟨b, off, ha, hlt, hc⟩ := h3 hn
  exact ⟨b, off, ha, hP b hlt, hc⟩
theorem ArrD.kept {w w' : World} {P : Nat → Prop} {sz : Nat} {v : Value} {rows : List (List Value)} (h : ArrD w P sz v rows) (hk : Keeps P w w') : ArrD w' P sz v rows := by
  obtain ⟨ao, cap, hv, h1, h2, h0, h9, h3⟩ := h
  refine ⟨ao, cap, hv, h1, h2, h0, h9, fun hn => ?_⟩
  obtain ⟨b, off, ha, hlt, hc⟩ := h3 hn
  exact ⟨b, off, ha, hlt, fun t ht j hj => by rw [← hc t ht j hj]; exact hk.cell (a := ⟨b, _, none⟩) hlt⟩
theorem ArrD.weak {w : World} {P Q : Nat → Prop} {sz : Nat} {v : Value} {rows : List (List Value)} (h : ArrD w P sz v rows) (hs : ∀ b, P b → Q b) : ArrD w Q sz v rows := by
  obtain ⟨ao, cap, hv, h1, h2, h0, h9, h3⟩ := h
  refine ⟨ao, cap, hv, h1, h2, h0, h9, fun hn => ?_⟩
  obtain ⟨b, off, ha, hlt, hc⟩ := h3 hn
  exact ⟨b, off, ha, hs b hlt, hc⟩
theorem OwnR.arrD {w : World} {base e sz : Nat} {v : Value} {n : Nat} {cells : List Value} {rows : List (List Value)} {P : Nat → Prop} (h : OwnR w base e sz v n cells) (hP : ∀ k, v.ownBlock = some k → P k)
    (hrows : rows.length = n) (hn : n ≤ 140737488351232) (hc : ∀ t, t < n → ∀ j, j < sz → cells[t * sz + j]? = (rows.getD t [])[j]?) : ArrD w P sz v rows := by
  obtain ⟨ao, cap, hv, h1, h2, h0, h9, h3⟩ := h.arr hrows hn hc
  refine ⟨ao, cap, hv, h1, h2, h0, h9, fun hnz => ?_⟩
  obtain ⟨b, off, ha, hlt, hc⟩ := h3 hnz
  exact ⟨b, off, ha, hP b (by rw [hv, ha]; rfl), hc⟩
theorem Owns.arrD {α : Type} {w : World} {base e sz : Nat} {f : α → List Value} {v : Value} {xs : List α} {P : Nat → Prop} (h : Owns w base e sz f v xs) (hP : ∀ k, v.ownBlock = some k → P k) (hf : ∀ x, (f x).length = sz) (hn : xs.length ≤ 140737488351232) : ArrD w P sz v (xs.map f) :=
  OwnR.arrD h hP (by simp) hn (fun t ht j hj => flatMap_get hf xs t j ht hj)

def IntsD (w : World) (P : Nat → Prop) (v : Value) (xs : List Int) : Prop := ArrD w P 1 v (xs.map rowI) ∧ ∀ x ∈ xs, I64 x
theorem IntsD.of {w : World} {B : Nat} {v : Value} {xs : List Int} (h : Ints w B v xs) : IntsD w (· < B) v xs := h
theorem IntsD.to {w : World} {P : Nat → Prop} {B : Nat} {v : Value} {xs : List Int} (h : IntsD w P v xs) (hP : ∀ b, P b → b < B) : Ints w B v xs := ⟨h.1.to hP, h.2⟩
theorem IntsD.kept {w w' : World} {P : Nat → Prop} {v : Value} {xs : List Int} (h : IntsD w P v xs) (hk : Keeps P w w') : IntsD w' P v xs := ⟨h.1.kept hk, h.2⟩
theorem IntsD.weak {w : World} {P Q : Nat → Prop} {v : Value} {xs : List Int} (h : IntsD w P v xs) (hs : ∀ b, P b → Q b) : IntsD w Q v xs := ⟨h.1.weak hs, h.2⟩
theorem Owns.intsD {w : World} {base e : Nat} {v : Value} {xs : List Int} {P : Nat → Prop} (h : Owns w base e 1 rowI v xs) (hP : ∀ k, v.ownBlock = some k → P k) (hn : xs.length ≤ 140737488351232) (hx : ∀ x ∈ xs, I64 x) : IntsD w P v xs := ⟨h.arrD hP rowI_len hn, hx⟩
theorem IntsD.nil (w : World) (P : Nat → Prop) : IntsD w P (.slice none 0 0) [] := ⟨⟨none, 0, rfl, by simp, by omega, by simp, fun _ => rfl, fun h => absurd rfl h⟩, by simp⟩

def MapsD (w : World) (P : Nat → Prop) (v : Value) (ms : List MR) : Prop := ArrD w P 4 v (ms.map rowM) ∧ ∀ r ∈ ms, MR64 r
theorem MapsD.of {w : World} {B : Nat} {v : Value} {xs : List MR} (h : Maps w B v xs) : MapsD w (· < B) v xs := h
theorem MapsD.to {w : World} {P : Nat → Prop} {B : Nat} {v : Value} {xs : List MR} (h : MapsD w P v xs) (hP : ∀ b, P b → b < B) : Maps w B v xs := ⟨h.1.to hP, h.2⟩
theorem MapsD.kept {w w' : World} {P : Nat → Prop} {v : Value} {xs : List MR} (h : MapsD w P v xs) (hk : Keeps P w w') : MapsD w' P v xs := ⟨h.1.kept hk, h.2⟩
theorem MapsD.weak {w : World} {P Q : Nat → Prop} {v : Value} {xs : List MR} (h : MapsD w P v xs) (hs : ∀ b, P b → Q b) : MapsD w Q v xs := ⟨h.1.weak hs, h.2⟩

/-- What is asked, with the slices in which its words and lanes lie. -/
abbrev RqV := Rq × Value × Value
def rowQ (y : RqV) : List Value := [.int .i64 y.1.id, .int .i64 y.1.kind, .int .i64 y.1.addr, .int .i64 y.1.many, .bool y.1.wrap, y.2.1, y.2.2]
theorem rowQ_len (y : RqV) : (rowQ y).length = 7 := rfl
def RqD (w : World) (P : Nat → Prop) (y : RqV) : Prop := IntsD w P y.2.1 y.1.data ∧ IntsD w P y.2.2 y.1.lanes ∧ I64 y.1.id ∧ I64 y.1.kind ∧ I64 y.1.addr ∧ I64 y.1.many
theorem RqD.kept {w w' : World} {P : Nat → Prop} {y : RqV} (h : RqD w P y) (hk : Keeps P w w') : RqD w' P y := ⟨h.1.kept hk, h.2.1.kept hk, h.2.2⟩
theorem RqD.weak {w : World} {P Q : Nat → Prop} {y : RqV} (h : RqD w P y) (hs : ∀ b, P b → Q b) : RqD w Q y := ⟨h.1.weak hs, h.2.1.weak hs, h.2.2⟩
theorem RqD.val {w : World} {P : Nat → Prop} {B : Nat} {y : RqV} (h : RqD w P y) (hP : ∀ b, P b → b < B) : ReqV w B (.agg #[.int .i64 y.1.id, .int .i64 y.1.kind, .int .i64 y.1.addr, .int .i64 y.1.many, .bool y.1.wrap, y.2.1, y.2.2]) y.1 :=
  ⟨_, _, rfl, h.1.to hP, h.2.1.to hP, h.2.2⟩
theorem reqs_of {w : World} {P : Nat → Prop} {B : Nat} {v : Value} {ys : List RqV} (ha : ArrD w P 7 v (ys.map rowQ)) (hy : ∀ y ∈ ys, RqD w P y) (hP : ∀ b, P b → b < B) : Reqs w B v (ys.map (·.1)) := by
  refine ⟨ys.map fun y => .agg #[.int .i64 y.1.id, .int .i64 y.1.kind, .int .i64 y.1.addr, .int .i64 y.1.many, .bool y.1.wrap, y.2.1, y.2.2], ?_, by simp, fun k hk d => ?_⟩
  · rw [List.map_map]; exact ha.to hP
  · simp only [List.length_map] at hk
    have e : (ys.map fun y : RqV => Value.agg #[.int .i64 y.1.id, .int .i64 y.1.kind, .int .i64 y.1.addr, .int .i64 y.1.many, .bool y.1.wrap, y.2.1, y.2.2]).getD k undef = .agg #[.int .i64 ys[k].1.id, .int .i64 ys[k].1.kind, .int .i64 ys[k].1.addr, .int .i64 ys[k].1.many, .bool ys[k].1.wrap, ys[k].2.1, ys[k].2.2] := by simp [List.getD, hk]
    have e2 : (ys.map (·.1)).getD k d = ys[k].1 := by simp [List.getD, hk]
    rw [e, e2]
    exact (hy _ (List.getElem_mem hk)).val hP

/-- The blocks that are there, but for block r and that of v. -/
def Clear (v : Value) (r : Nat) (w : World) (b : Nat) : Prop := b < w.heap.size ∧ b ≠ r ∧ v.ownBlock ≠ some b
theorem Clear.touch {v : Value} {r : Nat} {w w' : World} (ht : Touch r w w') : Keeps (Clear v r w) w w' := fun b hb => ht.block b hb.1 hb.2.1
theorem Clear.grow {v : Value} {r b : Nat} {w w' : World} (h : Clear v r w b) (hs : w.heap.size ≤ w'.heap.size) : Clear v r w' b := ⟨Nat.lt_of_lt_of_le h.1 hs, h.2⟩
theorem Clear.swap {v v' : Value} {r b : Nat} {w w' : World} (h : Clear v r w b) (hs : w.heap.size ≤ w'.heap.size) (hv : v'.ownBlock = v.ownBlock ∨ ∃ k, w.heap.size ≤ k ∧ v'.ownBlock = some k) : Clear v' r w' b := by
  refine ⟨Nat.lt_of_lt_of_le h.1 hs, h.2.1, ?_⟩
  rcases hv with hv | ⟨k, hk, hv⟩
  · rw [hv]; exact h.2.2
  · rw [hv]; intro e; obtain rfl := Option.some.inj e; have := h.1; omega

/-- The blocks from base on that are there, but for block r and that of v. -/
def ClearB (base : Nat) (v : Value) (r : Nat) (w : World) (b : Nat) : Prop := base ≤ b ∧ Clear v r w b
theorem ClearB.grow {base : Nat} {v : Value} {r b : Nat} {w w' : World} (h : ClearB base v r w b) (hs : w.heap.size ≤ w'.heap.size) : ClearB base v r w' b := ⟨h.1, h.2.grow hs⟩
theorem ClearB.swap {base : Nat} {v v' : Value} {r b : Nat} {w w' : World} (h : ClearB base v r w b) (hs : w.heap.size ≤ w'.heap.size) (hv : v'.ownBlock = v.ownBlock ∨ ∃ k, w.heap.size ≤ k ∧ v'.ownBlock = some k) : ClearB base v' r w' b := ⟨h.1, h.2.swap hs hv⟩

theorem ClearB.lt {base : Nat} {v : Value} {r : Nat} {w : World} : ∀ b, ClearB base v r w b → b < w.heap.size := fun b hb => hb.2.1
theorem ClearB.touch {base : Nat} {v : Value} {r : Nat} {w w' : World} (ht : Touch r w w') : Keeps (ClearB base v r w) w w' := fun b hb => ht.block b hb.2.1 hb.2.2.1

/-- 'out = append(out, y)' onto what the call itself owns: but for its block, and new ones, all is as it was. -/
theorem wpList_push2 {α : Type} {ops : Array Oper} {rest : List Oper} {o : Oper} {a : Act} {Q : Exit → Act → World → Prop} {T e sz by_ : Nat} (E : Elem T e sz by_) (f : α → List Value) (hf : ∀ x, (f x).length = sz) (y : α) (h1 : ∀ u ∈ f y, u.oneCell' = true)
    (w : World) (hgd : o.guard = none) (s x : Operand) (ho : o.op = .call { callee := .builtin .append, args := #[s, x], argTypes := #[T, T] })
    (base : Nat) (v : Value) (xs : List α) (hs : a.eval s = v) (hown : Owns w base e sz f v xs) (cs : Array Value) (hcs : cs.toList = f y) (hx : a.eval x = .slice (some ⟨w.heap.size, 0, none⟩) 1 1)
    (hlen : (xs.length + 1) * by_ ≤ 140737488355328) (hlen2 : xs.length + 1 ≤ 9223372036854775807) (hbase : base ≤ w.heap.size)
    (h : ∀ v' w', Owns w' base e sz f v' (xs ++ [y]) → w.heap.size ≤ w'.heap.size → (∀ b, b < w.heap.size → v.ownBlock ≠ some b → w'.heap[b]? = w.heap[b]?) → (v'.ownBlock = v.ownBlock ∨ ∃ k, w.heap.size ≤ k ∧ v'.ownBlock = some k) → Below base w w' → wpList Try.prog ops Q rest (a.put o.dst v') w') :
    wpList Try.prog ops Q (o :: rest) a (w.alloc (.cells cs e)) := by
  obtain ⟨ht, i, z, hi, hz, hsize, hby, hzs, hsz⟩ := E
  have hown' : OwnR (w.alloc (.cells cs e)) base e sz v xs.length (xs.flatMap f) := OwnR.alloc hown _
  refine wpList_append_OwnR hgd s x T ho base e i z sz by_ ht hi hz hsize hby hzs v xs.length (xs.flatMap f) hs hown' ⟨w.heap.size, 0, none⟩ 1 1 (f y) hx (by rw [hf]; omega) ?_ h1 (by unfold maxLen; omega) hlen (by simp; omega) ?_
  · intro j u hj
    rw [Addr.add_lit, Nat.zero_add, World.cell?_alloc_at _ _ _ _ rfl, ← hj, ← hcs]
    simp
  · intro v' w' ho' hg _ hb
    have hsz := hg.size
    simp only [World.size_alloc] at hsz
    refine h v' w' (by unfold Owns; simpa using ho') (by omega) (fun b hb hne => ?_) ?_ (((Below.refl _ _).alloc hbase _).grown hg (by simp; omega) (fun k hk => (OwnR.lt hown k hk).1))
    · rw [hg.block b (by simp; omega) (by intro e; exact hne e.symm)]
      exact ((Below.refl w.heap.size w).alloc (Nat.le_refl _) _).block b hb
    · rcases hb with hb | hb
      · exact .inl hb
      · exact .inr ⟨_, by simp, hb⟩

end Go.Proofs.Yteamebdehembgaa
