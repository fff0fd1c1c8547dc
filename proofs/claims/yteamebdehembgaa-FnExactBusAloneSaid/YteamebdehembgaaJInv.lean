/-
  A region that draws its order, by an invariant: what each step keeps, whatever was done before it.
-/
import Derived.Test.YteamebdehembgaaJDo6
import Derived.Deep.AppendLies
import Derived.Deep.RegionHeld3
import Derived.Deep.DrawnRows
import Derived.Orders
import Derived.StillTail
set_option linter.unusedVariables false
set_option linter.unusedSimpArgs false
namespace Go.Proofs.Yteamebdehembgaa
open Go.RowKit

theorem wp_append_OwnR {P : Program} {w : World} {o : Oper} {a : Act} {K : Act → World → Prop} {Q : Exit → Act → World → Prop} (s x : Operand) (t : TypeId)
    (ho : o.op = .call { callee := .builtin .append, args := #[s, x], argTypes := #[t, t] })
    (base : Nat) (e : TypeId) (i : TypeInfo) (z : Value) (size bytes : Nat) (ht : P.underlying t = some (.slice e)) (hi : P.info? e = some i) (hz : i.zero = some z)
    (hsize : i.size = size) (hby : i.bytes = bytes) (hzs : z.cells.size = size)
    (v : Value) (n : Nat) (xs : List Value) (hs : a.eval s = v) (hown : OwnR w base e size v n xs)
    (ad : Addr) (m c : Nat) (news : List Value) (hx : a.eval x = .slice (some ad) m c) (hl : news.length = m * size) (hnews : ∀ j u, news[j]? = some u → w.cell? (ad.add j) = some u) (h1 : ∀ u ∈ news, u.oneCell' = true)
    (h63 : n + m ≤ maxLen) (hbytes : (n + m) * bytes ≤ 140737488355328) (hbase : base ≤ w.heap.size)
    (h : ∀ v' w', OwnR w' base e size v' (n + m) (xs ++ news) → w.grownBy w' v.ownBlock → (v' = .slice none 0 0 → v = .slice none 0 0 ∧ m = 0) → (v'.ownBlock = v.ownBlock ∨ v'.ownBlock = some w.heap.size) → K (a.put o.dst v') w') : Oper.wp P o a w K Q := by
  obtain ⟨v', w', hr, h2, h3, h4, h5⟩ := run_append_OwnR (P := P) w base t o.type e i z size bytes ht hi hz hsize hby hzs v n xs hown ad m c news hl hnews h1 h63 hbytes hbase
  unfold Oper.wp execOp
  simp only [ho, resolve, invoke, builtin, Sem.run_bind, Sem.run_pure, Result.andThen_ok, List.map_toArray, List.map_cons, List.map_nil, hs, hx, hr]
  exact h v' w' h2 h3 h4 h5

theorem wp_append_OwnR_none {P : Program} {w : World} {o : Oper} {a : Act} {K : Act → World → Prop} {Q : Exit → Act → World → Prop} (s x : Operand) (t : TypeId)
    (ho : o.op = .call { callee := .builtin .append, args := #[s, x], argTypes := #[t, t] })
    (base : Nat) (e : TypeId) (i : TypeInfo) (size : Nat) (ht : P.underlying t = some (.slice e)) (hi : P.info? e = some i)
    (v : Value) (n : Nat) (xs : List Value) (hs : a.eval s = v) (hown : OwnR w base e size v n xs) (hx : a.eval x = .slice none 0 0)
    (h : K (a.put o.dst v) w) : Oper.wp P o a w K Q := by
  have hrun : (Builtin.append_ #[t, t] o.type #[v, .slice none 0 0]).run P w = .ok v w := by
    obtain ⟨hl, h2⟩ := hown
    rcases h2 with ⟨rfl, rfl⟩ | ⟨g, off, cap, cur, rfl, hg, hh, hle, _⟩
    · simp [Builtin.append_, run_underlying ht, sizeOf, typeInfo, hi, Builtin.lenOf, Builtin.firstCells, loadCells, loadCellsFrom]
    · simp [Builtin.append_, run_underlying ht, sizeOf, typeInfo, hi, Builtin.lenOf, Builtin.firstCells, hle, storeCells]
  unfold Oper.wp execOp
  simp only [ho, resolve, invoke, builtin, Sem.run_bind, Sem.run_pure, Result.andThen_ok, List.map_toArray, List.map_cons, List.map_nil, hs, hx, hrun]
  exact h

/-- A step of a region: 'append(out, y)', y laid at ad. -/
theorem step_push {α : Type} {ops : Array Oper} {o : Oper} {a : Act} {K : Act → World → Prop} {Q : Exit → Act → World → Prop} {Z : Prop} {T e sz by_ : Nat} (E : Elem T e sz by_) (f : α → List Value) (hf : ∀ x, (f x).length = sz) (h1 : ∀ x, ∀ u ∈ f x, u.oneCell' = true)
    (w : World) (hgd : o.guard = none) (s x : Operand) (ho : o.op = .call { callee := .builtin .append, args := #[s, x], argTypes := #[T, T] })
    (base : Nat) (v : Value) (xs : List α) (y : α) (hs : a.eval s = v) (hown : Owns w base e sz f v xs) (g c : Nat) (hx : a.eval x = .slice (some ⟨g, 0, none⟩) 1 c) (hnews : ∀ j u, (f y)[j]? = some u → w.cell? ⟨g, j, none⟩ = some u)
    (hlen : (xs.length + 1) * by_ ≤ 140737488355328) (hlen2 : xs.length + 1 ≤ 9223372036854775807) (hbase : base ≤ w.heap.size)
    (h : ∀ v' w', Owns w' base e sz f v' (xs ++ [y]) → Below base w w' → K (a.put o.dst v') w') :
    if Region.wanted o (yielded ops a.tmps) = true then Oper.wp Try.prog o a w K Q else Z := by
  have hw : Region.wanted o (yielded ops a.tmps) = true := by simp [Region.wanted, hgd]
  rw [if_pos hw]
  obtain ⟨ht, i, z, hi, hz, hsize, hby, hzs, hsz⟩ := E
  refine wp_append_OwnR s x T ho base e i z sz by_ ht hi hz hsize hby hzs v xs.length (xs.flatMap f) hs hown ⟨g, 0, none⟩ 1 c (f y) hx (by rw [hf]; omega) ?_ (h1 y) (by unfold maxLen; omega) hlen hbase ?_
  · intro j u hj
    rw [Addr.add_lit, Nat.zero_add]; exact hnews j u hj
  · intro v' w' ho' hg _ _
    refine h v' w' ?_ ((Below.refl _ _).grown hg hbase (fun k hk => (OwnR.lt hown k hk).1))
    unfold Owns
    simpa using ho'
/-- A step of a region: 'append(out, ys...)'. -/
theorem step_cat {α : Type} {ops : Array Oper} {o : Oper} {a : Act} {K : Act → World → Prop} {Q : Exit → Act → World → Prop} {Z : Prop} {T e sz by_ : Nat} (E : Elem T e sz by_) (f : α → List Value) (hf : ∀ x, (f x).length = sz) (h1 : ∀ x, ∀ u ∈ f x, u.oneCell' = true)
    (w : World) (hgd : o.guard = none) (s x : Operand) (ho : o.op = .call { callee := .builtin .append, args := #[s, x], argTypes := #[T, T] })
    (base : Nat) (v : Value) (xs : List α) (hs : a.eval s = v) (hown : Owns w base e sz f v xs) (u : Value) (ys : List α) (B : Nat) (hx : a.eval x = u) (harr : Arr w B sz u (ys.map f))
    (hlen : (xs.length + ys.length) * by_ ≤ 140737488355328) (hlen2 : xs.length + ys.length ≤ 9223372036854775807) (hbase : base ≤ w.heap.size)
    (h : ∀ v' w', Owns w' base e sz f v' (xs ++ ys) → Below base w w' → K (a.put o.dst v') w') :
    if Region.wanted o (yielded ops a.tmps) = true then Oper.wp Try.prog o a w K Q else Z := by
  have hw : Region.wanted o (yielded ops a.tmps) = true := by simp [Region.wanted, hgd]
  rw [if_pos hw]
  obtain ⟨ht, i, z, hi, hz, hsize, hby, hzs, hsz⟩ := E
  obtain ⟨ao, cap, rfl, g1, g2, g0, g9, g3⟩ := harr
  simp only [List.length_map] at hx g1 g0 g3
  cases ao with
  | none =>
    have hc := g9 rfl
    have hy : ys = [] := by
      rcases ys with _ | ⟨y, ys⟩
      · rfl
      · simp at g1; omega
    subst hy hc
    exact wp_append_OwnR_none s x T ho base e i sz ht hi v xs.length (xs.flatMap f) hs hown hx (h v w (by simpa using hown) (Below.refl _ _))
  | some ad =>
    refine wp_append_OwnR s x T ho base e i z sz by_ ht hi hz hsize hby hzs v xs.length (xs.flatMap f) hs hown ad ys.length cap (ys.flatMap f) hx (flatMap_len hf ys) ?_ ?_ (by unfold maxLen; omega) hlen hbase ?_
    · intro j u hj
      have hjl : j < ys.length * sz := by rw [← flatMap_len hf ys]; exact (List.getElem?_eq_some_iff.1 hj).1
      have hyn : ys.length ≠ 0 := by intro h0; rw [h0] at hjl; omega
      obtain ⟨b, off, had, _, hc⟩ := g3 hyn
      obtain rfl := Option.some.inj had
      rw [Addr.add_lit, ← hj, rows_flat hf ys j hjl hsz, ← hc (j / sz) (Nat.div_lt_of_lt_mul (by rw [Nat.mul_comm]; exact hjl)) (j % sz) (Nat.mod_lt _ hsz)]
      have e : off + j / sz * sz + j % sz = off + j := by
        have := Nat.div_add_mod j sz
        rw [Nat.mul_comm] at this; omega
      rw [e]
    · intro u hu
      obtain ⟨y, _, hy⟩ := List.mem_flatMap.1 hu
      exact h1 y u hy
    · intro v' w' ho' hg hiff _
      refine h v' w' ?_ ((Below.refl _ _).grown hg hbase (fun k hk => (OwnR.lt hown k hk).1))
      unfold Owns
      simpa using ho'

theorem Owns.allocd {α : Type} {w : World} {base e sz : Nat} {f : α → List Value} {v : Value} {xs : List α} (h : Owns w base e sz f v xs) (o : Obj) : Owns (w.alloc o) base e sz f v xs := OwnR.alloc h o
theorem Owns.drewd {α : Type} {w : World} {base e sz : Nat} {f : α → List Value} {v : Value} {xs : List α} (h : Owns w base e sz f v xs) : Owns w.drew base e sz f v xs := OwnR.kept h fun _ _ => rfl
theorem news_alloc {w : World} {cs : Array Value} {T : TypeId} (l : List Value) (hl : cs.toList = l) : ∀ j u, l[j]? = some u → (w.alloc (.cells cs T)).cell? ⟨w.heap.size, j, none⟩ = some u := by
  intro j u hj
  rw [World.cell?_alloc_at _ _ _ _ rfl, ← hj, ← hl]; simp
theorem news_drew {w : World} {cs : Array Value} {T : TypeId} (l : List Value) (hl : cs.toList = l) : ∀ j u, l[j]? = some u → (w.alloc (.cells cs T)).drew.cell? ⟨w.heap.size, j, none⟩ = some u := news_alloc l hl
theorem Touch.setNew {r g o : Nat} {w w' : World} (h : Touch r w w') (hg : w.heap.size ≤ g) (v : Value) : Touch r w (w'.setCell ⟨g, o, none⟩ v) :=
  ⟨h.os, h.tape, h.output, by simpa [World.setCell] using h.size, fun k hk hr => by rw [Below.heap_setCell _ _ _ _ (show k ≠ g by omega)]; exact h.block k hk hr⟩
theorem Touch.drewd {r : Nat} {a w : World} (h : Touch r a w) : Touch r a w.drew := h.trans ⟨rfl, rfl, rfl, Nat.le_refl _, fun _ _ _ => rfl⟩
theorem Touch.frozen {r : Nat} {w w' : World} (h : Touch r w w') {p : Addr} (ha : p.block ≠ r) (hlt : p.block < w.heap.size) : w'.frozen? p = w.frozen? p := by
  simp only [World.frozen?, h.block _ hlt ha]

end Go.Proofs.Yteamebdehembgaa

namespace Go.Proofs.Yteamebdehembgaa
open Go

def restOf (listed : Array Bool) : List Nat := (List.range listed.size).filter fun j => !listed.getD j true
theorem restOf_set {listed : Array Bool} {i : Nat} (hi : listed.getD i true = false) : (restOf (listed.setIfInBounds i true)).length < (restOf listed).length := by
  have hlt : i < listed.size := by
    rcases Nat.lt_or_ge i listed.size with h | h
    · exact h
    · simp [Array.getElem?_eq_none h] at hi
  have e : restOf (listed.setIfInBounds i true) = (restOf listed).filter (fun j => j != i) := by
    unfold restOf
    rw [Array.size_setIfInBounds, List.filter_filter]
    apply List.filter_congr
    intro j hj
    by_cases hij : i = j
    · subst hij
      simp [hlt]
    · have : (j != i) = true := by simpa using Ne.symm hij
      rw [Go.getD_set_ne true hij, this]; simp
  rw [e]
  apply List.length_filter_lt_length_iff_exists.2
  exact ⟨i, by simp [restOf, hlt]; simpa [hlt] using hi, by simp⟩

theorem wpAny_inv {P : Program} {md : Region.Mode} {ops : Array Oper} {Q : Exit → Act → World → Prop} (I : Array Bool → Act → World → Prop)
    (step : ∀ listed a w i, I listed a w → i ∈ Region.ready md ops listed → wpOp P ops Q i (fun a' w' => I (listed.setIfInBounds i true) a' w') a w)
    (done : ∀ listed a w, I listed a w → Region.ready md ops listed = [] → Q .normal a w) :
    ∀ (fuel : Nat) (listed : Array Bool) (a : Act) (w : World), (restOf listed).length ≤ fuel → I listed a w → wpAny P md ops Q fuel listed a w
  | 0, listed, a, w, hf, h => by
    have hr : Region.ready md ops listed = [] := by
      rcases hr : Region.ready md ops listed with _ | ⟨i, l⟩
      · rfl
      · have hi : i ∈ Region.ready md ops listed := by rw [hr]; simp
        have hlt := restOf_set (mem_ready.1 hi).1
        omega
    exact ⟨hr, done _ _ _ h hr⟩
  | fuel + 1, listed, a, w, hf, h => by
    refine ⟨fun hr => done _ _ _ h hr, fun i hi => ?_⟩
    exact wpOp_mono (fun a' w' h' => wpAny_inv I step done fuel _ a' w' (by have := restOf_set (mem_ready.1 hi).1; omega) h') (step listed a w i h hi)

/-- All edges lead to earlier operations. -/
def backB (md : Region.Mode) (ops : Array Oper) : Bool := (List.range ops.size).all fun i => match ops[i]? with
  | some o => o.after.all fun e => !Region.binds md e || decide (e.on < i)
  | none => true
theorem backB_spec {md : Region.Mode} {ops : Array Oper} (h : backB md ops = true) {i : Nat} {o : Oper} (ho : ops[i]? = some o) : ∀ e ∈ o.after, Region.binds md e = true → e.on < i := by
  intro e he hb
  have h1 := List.all_eq_true.1 h i (List.mem_range.2 (Array.getElem?_eq_some_iff.1 ho).1)
  simp only [ho] at h1
  have h2 := Array.all_eq_true'.1 h1 e he
  simpa [hb] using h2
theorem all_done {md : Region.Mode} {ops : Array Oper} (hb : backB md ops = true) {listed : Array Bool} (hs : listed.size = ops.size) (hr : Region.ready md ops listed = []) : ∀ i, i < ops.size → listed.getD i false = true := by
  intro i
  induction i using Nat.strongRecOn with
  | _ i ih =>
    intro hi
    rcases hl : listed.getD i false with _ | _
    · exfalso
      have hm : i ∈ Region.ready md ops listed := by
        refine mem_ready.2 ⟨getD_in (by omega) hl, ops[i], by simp [hi], fun e he hbd => ?_⟩
        have hlt := backB_spec hb (i := i) (o := ops[i]) (by simp [hi]) e he hbd
        exact ih e.on hlt (by omega)
      rw [hr] at hm; cases hm
    · rfl

/-- A region that draws, by an invariant. -/
theorem wp_region_inv {P : Program} {ops : Array Oper} {Q : Exit → Act → World → Prop} {id : Nat} {a : Act} {w : World} (I : Array Bool → Act → World → Prop) (hm : P.follows .mixedOrders = true) (hb : backB .any ops = true)
    (start : I (Array.replicate ops.size false) a { w with drawn := w.drawn + 1 })
    (step : ∀ listed a w i o, I listed a w → listed.size = ops.size → ops[i]? = some o → listed.getD i true = false → (∀ e ∈ o.after, Region.binds .any e = true → listed.getD e.on false = true) → wpOp P ops Q i (fun a' w' => I (listed.setIfInBounds i true) a' w') a w)
    (done : ∀ listed a w, I listed a w → (∀ i, i < ops.size → listed.getD i false = true) → Q .normal a w) : (Code.region id ops true).wp P Q a w := by
  refine wp_region_any hm (wpAny_inv (fun listed a w => listed.size = ops.size ∧ I listed a w) ?_ ?_ _ _ _ _ ?_ ⟨by simp, start⟩)
  · rintro listed a w i ⟨hs, h⟩ hi
    obtain ⟨h1, o, ho, h2⟩ := mem_ready.1 hi
    exact wpOp_mono (fun a' w' h' => ⟨by simpa using hs, h'⟩) (step listed a w i o h hs ho h1 h2)
  · rintro listed a w ⟨hs, h⟩ hr
    exact done listed a w h (all_done hb hs hr)
  · unfold restOf
    refine Nat.le_trans (List.length_filter_le _ _) ?_
    simp

/-- An operation without a guard. -/
theorem wpOp_wp {P : Program} {ops : Array Oper} {Q : Exit → Act → World → Prop} {i : Nat} {o : Oper} {K : Act → World → Prop} {a : Act} {w : World} (ho : ops[i]? = some o) (hg : o.guard = none) (h : o.wp P a w K Q) : wpOp P ops Q i K a w := by
  unfold wpOp
  simp only [ho]
  rw [if_pos (by simp [Region.wanted, hg])]
  exact .inl h

end Go.Proofs.Yteamebdehembgaa
