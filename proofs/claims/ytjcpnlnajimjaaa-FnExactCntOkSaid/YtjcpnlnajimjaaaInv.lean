/-
  A region that draws its order, by an invariant: what each step keeps, whatever was done before it.
-/
import Derived.Orders
import Derived.StillTail
namespace Go.Proofs.Ytjcpnlnajimjaaa
open Go

def restOf (listed : Array Bool) : List Nat := (List.range listed.size).filter fun j => !listed.getD j true
theorem restOf_set {listed : Array Bool} {i : Nat} (hi : listed.getD i true = false) : (restOf (listed.setIfInBounds i true)).length < (restOf listed).length := by
  have hlt : i < listed.size := by
    rcases Nat.lt_or_ge i listed.size with h | h
    · exact h
    · simp [Array.getElem?_eq_none h] at hi
  have e : restOf (listed.setIfInBounds i true) = (restOf listed).filter (fun j => j != i) := by
    unfold restOf
    rw [Array.size_setIfInBounds, List.filter_filter]
    apply List.filter_congr
    intro j hj
    by_cases hij : i = j
    · subst hij
      simp [hlt]
    · have : (j != i) = true := by simpa using Ne.symm hij
      rw [Go.getD_set_ne true hij, this]; simp
  rw [e]
  apply List.length_filter_lt_length_iff_exists.2
  exact ⟨i, by simp [restOf, hlt]; simpa [hlt] using hi, by simp⟩

theorem wpAny_inv {P : Program} {md : Region.Mode} {ops : Array Oper} {Q : Exit → Act → World → Prop} (I : Array Bool → Act → World → Prop)
    (step : ∀ listed a w i, I listed a w → i ∈ Region.ready md ops listed → wpOp P ops Q i (fun a' w' => I (listed.setIfInBounds i true) a' w') a w)
    (done : ∀ listed a w, I listed a w → Region.ready md ops listed = [] → Q .normal a w) :
    ∀ (fuel : Nat) (listed : Array Bool) (a : Act) (w : World), (restOf listed).length ≤ fuel → I listed a w → wpAny P md ops Q fuel listed a w
  | 0, listed, a, w, hf, h => by
    have hr : Region.ready md ops listed = [] := by
      rcases hr : Region.ready md ops listed with _ | ⟨i, l⟩
      · rfl
      · have hi : i ∈ Region.ready md ops listed := by rw [hr]; simp
        have hlt := restOf_set (mem_ready.1 hi).1
        omega
    exact ⟨hr, done _ _ _ h hr⟩
  | fuel + 1, listed, a, w, hf, h => by
    refine ⟨fun hr => done _ _ _ h hr, fun i hi => ?_⟩
    exact wpOp_mono (fun a' w' h' => wpAny_inv I step done fuel _ a' w' (by have := restOf_set (mem_ready.1 hi).1; omega) h') (step listed a w i h hi)

/-- All edges lead to earlier operations. -/
def backB (md : Region.Mode) (ops : Array Oper) : Bool := (List.range ops.size).all fun i => match ops[i]? with
  | some o => o.after.all fun e => !Region.binds md e || decide (e.on < i)
  | none => true
theorem backB_spec {md : Region.Mode} {ops : Array Oper} (h : backB md ops = true) {i : Nat} {o : Oper} (ho : ops[i]? = some o) : ∀ e ∈ o.after, Region.binds md e = true → e.on < i := by
  intro e he hb
  have h1 := List.all_eq_true.1 h i (List.mem_range.2 (Array.getElem?_eq_some_iff.1 ho).1)
  simp only [ho] at h1
  have h2 := Array.all_eq_true'.1 h1 e he
  simpa [hb] using h2
theorem all_done {md : Region.Mode} {ops : Array Oper} (hb : backB md ops = true) {listed : Array Bool} (hs : listed.size = ops.size) (hr : Region.ready md ops listed = []) : ∀ i, i < ops.size → listed.getD i false = true := by
  intro i
  induction i using Nat.strongRecOn with
  | _ i ih =>
    intro hi
    rcases hl : listed.getD i false with _ | _
    · exfalso
      have hm : i ∈ Region.ready md ops listed := by
        refine mem_ready.2 ⟨getD_in (by omega) hl, ops[i], by simp [hi], fun e he hbd => ?_⟩
        have hlt := backB_spec hb (i := i) (o := ops[i]) (by simp [hi]) e he hbd
        exact ih e.on hlt (by omega)
      rw [hr] at hm; cases hm
    · rfl

/-- A region that draws, by an invariant. -/
theorem wp_region_inv {P : Program} {ops : Array Oper} {Q : Exit → Act → World → Prop} {id : Nat} {a : Act} {w : World} (I : Array Bool → Act → World → Prop) (hm : P.follows .mixedOrders = true) (hb : backB .any ops = true)
    (start : I (Array.replicate ops.size false) a { w with drawn := w.drawn + 1 })
    (step : ∀ listed a w i o, I listed a w → listed.size = ops.size → ops[i]? = some o → listed.getD i true = false → (∀ e ∈ o.after, Region.binds .any e = true → listed.getD e.on false = true) → wpOp P ops Q i (fun a' w' => I (listed.setIfInBounds i true) a' w') a w)
    (done : ∀ listed a w, I listed a w → (∀ i, i < ops.size → listed.getD i false = true) → Q .normal a w) : (Code.region id ops true).wp P Q a w := by
  refine wp_region_any hm (wpAny_inv (fun listed a w => listed.size = ops.size ∧ I listed a w) ?_ ?_ _ _ _ _ ?_ ⟨by simp, start⟩)
  · rintro listed a w i ⟨hs, h⟩ hi
    obtain ⟨h1, o, ho, h2⟩ := mem_ready.1 hi
    exact wpOp_mono (fun a' w' h' => ⟨by simpa using hs, h'⟩) (step listed a w i o h hs ho h1 h2)
  · rintro listed a w ⟨hs, h⟩ hr
    exact done listed a w h (all_done hb hs hr)
  · unfold restOf
    refine Nat.le_trans (List.length_filter_le _ _) ?_
    simp

/-- An operation without a guard. -/
theorem wpOp_wp {P : Program} {ops : Array Oper} {Q : Exit → Act → World → Prop} {i : Nat} {o : Oper} {K : Act → World → Prop} {a : Act} {w : World} (ho : ops[i]? = some o) (hg : o.guard = none) (h : o.wp P a w K Q) : wpOp P ops Q i K a w := by
  unfold wpOp
  simp only [ho]
  rw [if_pos (by simp [Region.wanted, hg])]
  exact .inl h

end Go.Proofs.Ytjcpnlnajimjaaa
