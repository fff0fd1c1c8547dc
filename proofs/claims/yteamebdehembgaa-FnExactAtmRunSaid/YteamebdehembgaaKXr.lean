/-
  A law's own types, as they are read (printed by wip/gen_xr.py).
-/
import Derived.Test.YteamebdehembgaaKRow
import Derived.Test.YteamebdehembgaaKDat
import Derived.Carry
set_option linter.unusedVariables false
set_option linter.unusedSimpArgs false
namespace Go.Proofs.Yteamebdehembgaa
open Go.ChangeShapes Go.WideShapes Go.ChangeAt Go.RowKit Go.Deep

section
variable {H : Type} {enc : TypeId × Value → H} {W : World}
theorem rowI_eq {n : Int} {c : Value} (h : [c] = rowI n) : c = .int .i64 n := by simpa [rowI] using h
theorem rowB_eq {b : Bool} {c : Value} (h : [c] = rowB b) : c = .bool b := by simpa [rowB] using h
set_option maxRecDepth 100000 in
theorem Read.mr {cs : List Value} (h : Read enc W 135 cs) : ∃ r : MR, cs = rowM r ∧ MR64 r := by
  obtain ⟨n, d, q, ht, hq, hw⟩ := h
  obtain ⟨xs, k, rfl, hx, hcl, hxl, hg⟩ := DataW.trod_struct Try.underlying135 ht
  simp only [Prod.mk.injEq] at hx
  obtain ⟨rfl, rfl⟩ := hx
  have hcl7 : cs.length = 4 := hcl.trans (by kernel_rfl)
  have hc0 : Try.prog.cellsOf 4 = 1 := by kernel_rfl
  have hc1 : Try.prog.cellsOf 3 = 1 := by kernel_rfl
  match cs, hcl7 with
  | [c0, c1, c2, c3], _ =>
  match xs, hxl with
  | [y0, y1, y2, y3], _ =>
    have g0 : DataW.trod enc Try.prog W 0 (fun _ => true) true k 3 [c0] = some y0 := by have := hg 0 _ rfl; simpa [hc0, hc1] using this
    have g1 : DataW.trod enc Try.prog W 0 (fun _ => true) true k 3 [c1] = some y1 := by have := hg 1 _ rfl; simpa [hc0, hc1] using this
    have g2 : DataW.trod enc Try.prog W 0 (fun _ => true) true k 3 [c2] = some y2 := by have := hg 2 _ rfl; simpa [hc0, hc1] using this
    have g3 : DataW.trod enc Try.prog W 0 (fun _ => true) true k 4 [c3] = some y3 := by have := hg 3 _ rfl; simpa [hc0, hc1] using this
    have r0 : Read enc W 3 [c0] := ⟨k, y0.1, y0.2, g0, fun x hx => hq x (by simp [hx]), fun x hx => hw x (by simp [DataW.weights, Try.underlying135, DataW.weightsEach, hx])⟩
    have r1 : Read enc W 3 [c1] := ⟨k, y1.1, y1.2, g1, fun x hx => hq x (by simp [hx]), fun x hx => hw x (by simp [DataW.weights, Try.underlying135, DataW.weightsEach, hx])⟩
    have r2 : Read enc W 3 [c2] := ⟨k, y2.1, y2.2, g2, fun x hx => hq x (by simp [hx]), fun x hx => hw x (by simp [DataW.weights, Try.underlying135, DataW.weightsEach, hx])⟩
    have r3 : Read enc W 4 [c3] := ⟨k, y3.1, y3.2, g3, fun x hx => hq x (by simp [hx]), fun x hx => hw x (by simp [DataW.weights, Try.underlying135, DataW.weightsEach, hx])⟩
    obtain ⟨a, ha, ia⟩ := r0.int
    obtain ⟨b, hb, ib⟩ := r1.int
    obtain ⟨c, hc, ic⟩ := r2.int
    obtain ⟨d, hd⟩ := r3.bool
    exact ⟨⟨a, b, c, d⟩, by rw [rowI_eq ha, rowI_eq hb, rowI_eq hc, rowB_eq hd]; rfl, ia, ib, ic⟩

theorem Read.ranges {v : Value} (h : Read enc W 49 [v]) : ∃ ms, Maps W W.heap.size v ms := by
  obtain ⟨rows, ha, hr⟩ := open_arr (sz := 4) (by_ := 32) Try.underlying49 (by kernel_rfl) (by kernel_rfl) (by omega) (by omega) h
  obtain ⟨xs, rfl, hx⟩ := list_of_rows rowM MR64 rows (fun r h => (hr r h).2.mr)
  exact ⟨xs, ha, hx⟩
set_option maxRecDepth 100000 in
theorem Read.mem {cs : List Value} (h : Read enc W 57 cs) : ∃ v xs, cs = [v] ∧ Ints W W.heap.size v xs := by
  obtain ⟨n, d, q, ht, hq, hw⟩ := h
  obtain ⟨xs, k, rfl, hx, hcl, hxl, hg⟩ := DataW.trod_struct Try.underlying57 ht
  simp only [Prod.mk.injEq] at hx
  obtain ⟨rfl, rfl⟩ := hx
  have hcl7 : cs.length = 1 := hcl.trans (by kernel_rfl)
  have hc0 : Try.prog.cellsOf 24 = 1 := by kernel_rfl
  match cs, hcl7 with
  | [c0], _ =>
  match xs, hxl with
  | [y0], _ =>
    have g0 : DataW.trod enc Try.prog W 0 (fun _ => true) true k 24 [c0] = some y0 := by have := hg 0 _ rfl; simpa [hc0] using this
    have r0 : Read enc W 24 [c0] := ⟨k, y0.1, y0.2, g0, fun x hx => hq x (by simp [hx]), fun x hx => hw x (by simp [DataW.weights, Try.underlying57, DataW.weightsEach, hx])⟩
    obtain ⟨x0, h0⟩ := r0.ints
    exact ⟨_, _, rfl, h0⟩

set_option maxRecDepth 100000 in
theorem Read.atm {cs : List Value} (h : Read enc W 59 cs) : ∃ wv hv ws hs, cs = [wv, hv] ∧ AtmV W W.heap.size (.agg #[wv, hv]) ws hs := by
  obtain ⟨n, d, q, ht, hq, hw⟩ := h
  obtain ⟨xs, k, rfl, hx, hcl, hxl, hg⟩ := DataW.trod_struct Try.underlying59 ht
  simp only [Prod.mk.injEq] at hx
  obtain ⟨rfl, rfl⟩ := hx
  have hcl7 : cs.length = 2 := hcl.trans (by kernel_rfl)
  have hc0 : Try.prog.cellsOf 57 = 1 := by kernel_rfl
  have hc1 : Try.prog.cellsOf 24 = 1 := by kernel_rfl
  match cs, hcl7 with
  | [c0, c1], _ =>
  match xs, hxl with
  | [y0, y1], _ =>
    have g0 : DataW.trod enc Try.prog W 0 (fun _ => true) true k 57 [c0] = some y0 := by have := hg 0 _ rfl; simpa [hc0, hc1] using this
    have g1 : DataW.trod enc Try.prog W 0 (fun _ => true) true k 24 [c1] = some y1 := by have := hg 1 _ rfl; simpa [hc0, hc1] using this
    have r0 : Read enc W 57 [c0] := ⟨k, y0.1, y0.2, g0, fun x hx => hq x (by simp [hx]), fun x hx => hw x (by simp [DataW.weights, Try.underlying59, DataW.weightsEach, hx])⟩
    have r1 : Read enc W 24 [c1] := ⟨k, y1.1, y1.2, g1, fun x hx => hq x (by simp [hx]), fun x hx => hw x (by simp [DataW.weights, Try.underlying59, DataW.weightsEach, hx])⟩
    obtain ⟨v0, x0, e0, h0⟩ := r0.mem
    obtain ⟨x1, h1⟩ := r1.ints
    simp only [List.cons.injEq, and_true] at e0
    subst e0
    exact ⟨_, _, _, _, rfl, _, _, rfl, h0, h1⟩

set_option maxRecDepth 100000 in
theorem Read.req {cs : List Value} (h : Read enc W 61 cs) : ∃ (q : Rq) (dv lv : Value), cs = rowQ (q, dv, lv) ∧ RqD W (· < W.heap.size) (q, dv, lv) := by
  obtain ⟨n, d, q, ht, hq, hw⟩ := h
  obtain ⟨xs, k, rfl, hx, hcl, hxl, hg⟩ := DataW.trod_struct Try.underlying61 ht
  simp only [Prod.mk.injEq] at hx
  obtain ⟨rfl, rfl⟩ := hx
  have hcl7 : cs.length = 7 := hcl.trans (by kernel_rfl)
  have hc0 : Try.prog.cellsOf 24 = 1 := by kernel_rfl
  have hc1 : Try.prog.cellsOf 4 = 1 := by kernel_rfl
  have hc2 : Try.prog.cellsOf 3 = 1 := by kernel_rfl
  match cs, hcl7 with
  | [c0, c1, c2, c3, c4, c5, c6], _ =>
  match xs, hxl with
  | [y0, y1, y2, y3, y4, y5, y6], _ =>
    have g0 : DataW.trod enc Try.prog W 0 (fun _ => true) true k 3 [c0] = some y0 := by have := hg 0 _ rfl; simpa [hc0, hc1, hc2] using this
    have g1 : DataW.trod enc Try.prog W 0 (fun _ => true) true k 3 [c1] = some y1 := by have := hg 1 _ rfl; simpa [hc0, hc1, hc2] using this
    have g2 : DataW.trod enc Try.prog W 0 (fun _ => true) true k 3 [c2] = some y2 := by have := hg 2 _ rfl; simpa [hc0, hc1, hc2] using this
    have g3 : DataW.trod enc Try.prog W 0 (fun _ => true) true k 3 [c3] = some y3 := by have := hg 3 _ rfl; simpa [hc0, hc1, hc2] using this
    have g4 : DataW.trod enc Try.prog W 0 (fun _ => true) true k 4 [c4] = some y4 := by have := hg 4 _ rfl; simpa [hc0, hc1, hc2] using this
    have g5 : DataW.trod enc Try.prog W 0 (fun _ => true) true k 24 [c5] = some y5 := by have := hg 5 _ rfl; simpa [hc0, hc1, hc2] using this
    have g6 : DataW.trod enc Try.prog W 0 (fun _ => true) true k 24 [c6] = some y6 := by have := hg 6 _ rfl; simpa [hc0, hc1, hc2] using this
    have r0 : Read enc W 3 [c0] := ⟨k, y0.1, y0.2, g0, fun x hx => hq x (by simp [hx]), fun x hx => hw x (by simp [DataW.weights, Try.underlying61, DataW.weightsEach, hx])⟩
    have r1 : Read enc W 3 [c1] := ⟨k, y1.1, y1.2, g1, fun x hx => hq x (by simp [hx]), fun x hx => hw x (by simp [DataW.weights, Try.underlying61, DataW.weightsEach, hx])⟩
    have r2 : Read enc W 3 [c2] := ⟨k, y2.1, y2.2, g2, fun x hx => hq x (by simp [hx]), fun x hx => hw x (by simp [DataW.weights, Try.underlying61, DataW.weightsEach, hx])⟩
    have r3 : Read enc W 3 [c3] := ⟨k, y3.1, y3.2, g3, fun x hx => hq x (by simp [hx]), fun x hx => hw x (by simp [DataW.weights, Try.underlying61, DataW.weightsEach, hx])⟩
    have r4 : Read enc W 4 [c4] := ⟨k, y4.1, y4.2, g4, fun x hx => hq x (by simp [hx]), fun x hx => hw x (by simp [DataW.weights, Try.underlying61, DataW.weightsEach, hx])⟩
    have r5 : Read enc W 24 [c5] := ⟨k, y5.1, y5.2, g5, fun x hx => hq x (by simp [hx]), fun x hx => hw x (by simp [DataW.weights, Try.underlying61, DataW.weightsEach, hx])⟩
    have r6 : Read enc W 24 [c6] := ⟨k, y6.1, y6.2, g6, fun x hx => hq x (by simp [hx]), fun x hx => hw x (by simp [DataW.weights, Try.underlying61, DataW.weightsEach, hx])⟩
    obtain ⟨a, ha, ia⟩ := r0.int
    obtain ⟨b, hb, ib⟩ := r1.int
    obtain ⟨c, hc, ic⟩ := r2.int
    obtain ⟨d, hd, id⟩ := r3.int
    obtain ⟨e, he⟩ := r4.bool
    obtain ⟨x5, h5⟩ := r5.ints
    obtain ⟨x6, h6⟩ := r6.ints
    exact ⟨⟨a, b, c, d, e, x5, x6⟩, _, _, by rw [rowI_eq ha, rowI_eq hb, rowI_eq hc, rowI_eq hd, rowB_eq he]; rfl, h5, h6, ia, ib, ic, id⟩

theorem Read.reqs {v : Value} (h : Read enc W 82 [v]) : ∃ rs, Reqs W W.heap.size v rs := by
  obtain ⟨rows, ha, hr⟩ := open_arr (sz := 7) (by_ := 88) Try.underlying82 (by kernel_rfl) (by kernel_rfl) (by omega) (by omega) h
  obtain ⟨ys, rfl, hy⟩ := list_of_rows rowQ (fun y => RqD W (· < W.heap.size) y) rows (fun r h => by
    obtain ⟨q, dv, lv, e, hd⟩ := (hr r h).2.req
    exact ⟨(q, dv, lv), e, hd⟩)
  exact ⟨_, reqs_of (P := (· < W.heap.size)) ha hy (fun b hb => hb)⟩
end

end Go.Proofs.Yteamebdehembgaa
