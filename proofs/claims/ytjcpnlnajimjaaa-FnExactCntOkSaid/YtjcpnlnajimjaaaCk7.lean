/-
  The law FnExactCntOk returns true on all counts, in whatever memory: read, copied, held against the reference, and unchanged.
-/
import Derived.Test.YtjcpnlnajimjaaaCk6
import Derived.Test.YtjcpnlnajimjaaaRow
namespace Go.Proofs.Ytjcpnlnajimjaaa
open Go.ChangeShapes Go.WideShapes Go.ChangeAt Go.RowKit

section
variable {H : Type} {enc : TypeId × Value → H} {W : World}
set_option maxRecDepth 100000 in
theorem Read.cnt {cs : List Value} (h : Read enc W 39 cs) : ∃ (c : Int) (v1 v2 v3 v4 v5 v6 : Value) (x1 x2 x3 x4 x5 x6 : List Int), cs = [.int .i64 c, v1, v2, v3, v4, v5, v6] ∧ SixI W W.heap.size v1 v2 v3 v4 v5 v6 x1 x2 x3 x4 x5 x6 := by
  obtain ⟨n, d, q, ht, hq, hw⟩ := h
  obtain ⟨xs, k, rfl, hx, hcl, hxl, hg⟩ := DataW.trod_struct Try.underlying39 ht
  simp only [Prod.mk.injEq] at hx
  obtain ⟨rfl, rfl⟩ := hx
  have hcl7 : cs.length = 7 := hcl.trans (by kernel_rfl)
  have hci : Try.prog.cellsOf 3 = 1 := by kernel_rfl
  have hcs : Try.prog.cellsOf 31 = 1 := by kernel_rfl
  match cs, hcl7 with
  | [c0, c1, c2, c3, c4, c5, c6], _ =>
  match xs, hxl with
  | [y0, y1, y2, y3, y4, y5, y6], _ =>
    have g0 : DataW.trod enc Try.prog W 0 (fun _ => true) true k 3 [c0] = some y0 := by have := hg 0 _ rfl; simpa [hci] using this
    have g1 : DataW.trod enc Try.prog W 0 (fun _ => true) true k 31 [c1] = some y1 := by have := hg 1 _ rfl; simpa [hcs] using this
    have g2 : DataW.trod enc Try.prog W 0 (fun _ => true) true k 31 [c2] = some y2 := by have := hg 2 _ rfl; simpa [hcs] using this
    have g3 : DataW.trod enc Try.prog W 0 (fun _ => true) true k 31 [c3] = some y3 := by have := hg 3 _ rfl; simpa [hcs] using this
    have g4 : DataW.trod enc Try.prog W 0 (fun _ => true) true k 31 [c4] = some y4 := by have := hg 4 _ rfl; simpa [hcs] using this
    have g5 : DataW.trod enc Try.prog W 0 (fun _ => true) true k 31 [c5] = some y5 := by have := hg 5 _ rfl; simpa [hcs] using this
    have g6 : DataW.trod enc Try.prog W 0 (fun _ => true) true k 31 [c6] = some y6 := by have := hg 6 _ rfl; simpa [hcs] using this
    have r0 : Read enc W 3 [c0] := ⟨k, y0.1, y0.2, g0, fun x hx => hq x (by simp [hx]), fun x hx => hw x (by simp [DataW.weights, Try.underlying39, DataW.weightsEach, hx])⟩
    have r1 : Read enc W 31 [c1] := ⟨k, y1.1, y1.2, g1, fun x hx => hq x (by simp [hx]), fun x hx => hw x (by simp [DataW.weights, Try.underlying39, DataW.weightsEach, hx])⟩
    have r2 : Read enc W 31 [c2] := ⟨k, y2.1, y2.2, g2, fun x hx => hq x (by simp [hx]), fun x hx => hw x (by simp [DataW.weights, Try.underlying39, DataW.weightsEach, hx])⟩
    have r3 : Read enc W 31 [c3] := ⟨k, y3.1, y3.2, g3, fun x hx => hq x (by simp [hx]), fun x hx => hw x (by simp [DataW.weights, Try.underlying39, DataW.weightsEach, hx])⟩
    have r4 : Read enc W 31 [c4] := ⟨k, y4.1, y4.2, g4, fun x hx => hq x (by simp [hx]), fun x hx => hw x (by simp [DataW.weights, Try.underlying39, DataW.weightsEach, hx])⟩
    have r5 : Read enc W 31 [c5] := ⟨k, y5.1, y5.2, g5, fun x hx => hq x (by simp [hx]), fun x hx => hw x (by simp [DataW.weights, Try.underlying39, DataW.weightsEach, hx])⟩
    have r6 : Read enc W 31 [c6] := ⟨k, y6.1, y6.2, g6, fun x hx => hq x (by simp [hx]), fun x hx => hw x (by simp [DataW.weights, Try.underlying39, DataW.weightsEach, hx])⟩
    obtain ⟨c, hc, _⟩ := r0.int
    simp only [rowI, List.cons.injEq, and_true] at hc
    obtain ⟨x1, h1⟩ := r1.ints
    obtain ⟨x2, h2⟩ := r2.ints
    obtain ⟨x3, h3⟩ := r3.ints
    obtain ⟨x4, h4⟩ := r4.ints
    obtain ⟨x5, h5⟩ := r5.ints
    obtain ⟨x6, h6⟩ := r6.ints
    exact ⟨c, c1, c2, c3, c4, c5, c6, x1, x2, x3, x4, x5, x6, by rw [hc], h1, h2, h3, h4, h5, h6⟩
end

set_option maxRecDepth 100000 in
theorem exactCntOk_lifted (os : Os) (started : os.Started) (H : Type) (enc : TypeId × Value → H) :
    ReturnsInHanded {} Try.checked os 6 .any (Rows.fnExactCntOkSpec.pre6 enc Try.prog Try.f6 Rows.fnExactCntOkRow.domain false) (Rows.fnExactCntOkSpec.post enc Try.prog Try.f6 false true false false) := by
  refine law_lifted started enc 6 Try.f6 Rows.fnExactCntOkSpec rfl (by kernel_rfl) Try.func6
    (ChangeSpec.witness6 (enc := enc) (C := Try.checked) false ⟨#[], #[.agg #[.int .i64 0, .slice none 0 0, .slice none 0 0, .slice none 0 0, .slice none 0 0, .slice none 0 0, .slice none 0 0]], []⟩ 8 (by kernel_rfl) (by kernel_rfl) (by kernel_rfl) (by kernel_rfl)) rfl ?_ ?_ ?_
  · intro t ht
    simp [Try.params6] at ht
    subst ht
    exact ⟨by kernel_rfl, of_decide_eq_true (by kernel_rfl)⟩
  · intro ds hl
    simp [Try.params6] at hl
    match ds, hl with
    | [d1], _ => exact ⟨rfl, rfl, rfl⟩
  · intro W base args ds p hval hA hlt hw
    rw [Try.params6] at hA hval hw
    obtain ⟨v0, d0, rfl, rfl, h0⟩ := trodAll_one hA
    obtain ⟨cs, rfl, _⟩ := okWide_struct Try.underlying39 (hval 0 39 v0 rfl rfl)
    have hr := read_of h0 hlt (fun x hx => by
      have := List.all_eq_true.1 hw x (by simp [DataW.weightsEach, hx])
      simpa using this)
    obtain ⟨c, v1, v2, v3, v4, v5, v6, x1, x2, x3, x4, x5, x6, hcs, hs⟩ := hr.cnt
    obtain ⟨l⟩ := cs
    have hl : l = [.int .i64 c, v1, v2, v3, v4, v5, v6] := by simpa [Value.cells] using hcs
    subst hl
    exact exactCntOk_any c _ _ _ _ _ _ x1 x2 x3 x4 x5 x6 W.heap.size W hs (Nat.le_refl _)

set_option maxRecDepth 100000 in
theorem exactCntOk_holds : Rows.FnExactCntOkSaid :=
  OpenClaim.holds_of_wide 6 Try.f6 rfl rfl rfl rfl rfl rfl rfl ⟨rfl, rfl, rfl, rfl, rfl⟩ rfl rfl rfl rfl rfl (by kernel_rfl) Try.func6 (by kernel_rfl)
    (of_decide_eq_true (by kernel_rfl)) (by unfold Func.isWrapper; first | (rw [if_pos (by decide +kernel)]; kernel_rfl) | (rw [if_neg (by decide +kernel)]; exact ⟨rfl, rfl⟩))
    (fun os started H enc _ => exactCntOk_lifted os started H enc)
#print axioms exactCntOk_holds

end Go.Proofs.Ytjcpnlnajimjaaa
