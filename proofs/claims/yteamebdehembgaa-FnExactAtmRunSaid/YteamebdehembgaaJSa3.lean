/-
  The opening of the laws of one thing at once: boxes behind calls.
-/
import Derived.Test.YteamebdehembgaaKSa2
import Derived.Test.YteamebdehembgaaJCr1
import Derived.Test.YteamebdehembgaaJPl1
import Derived.Deep.Cut
import Derived.Deep.CutRange
import Derived.Deep.CutBlock
set_option linter.unusedVariables false
set_option linter.unusedSimpArgs false
namespace Go.Proofs.Yteamebdehembgaa
open Go.RowKit

theorem specAtmDo_any (v sv u : Value) (ms : List MR) (B : Nat) (ws hs : List Int) (who : Int) (r : Rq) (w : World) (hv : Maps w B v ms) (hs1 : AtmV w B sv ws hs) (hu : ReqV w B u r) (hB : B ≤ w.heap.size) :
    Calls Try.prog 29 #[v, sv, .int .i64 who, u] w (AtmDoP (atmDo ms ws hs who r) w) := by
  unfold atmDo
  rcases hc : (mapOk ms && atmOk ws hs && inB who 0 2 && reqOk r) with _ | _
  · rw [if_neg (by simp)]
    exact specAtmDo_no v sv u ms B ws hs who r w hv hs1 hu hB hc
  · rw [if_pos rfl]
    simp only [Bool.and_eq_true] at hc
    exact specAtmDo_yes v sv u ms B ws hs who r w hv hs1 hu hB hc.1.1.1 hc.1.1.2 hc.1.2 hc.2

theorem specDo_v (v sv u : Value) (ms : List MR) (B : Nat) (ws hs : List Int) (who : Int) (r : Rq) (w : World) (hv : Maps w B v ms) (hs1 : AtmV w B sv ws hs) (hu : ReqV w B u r) (hB : B ≤ w.heap.size) :
    Calls Try.prog 29 #[v, sv, .int .i64 who, u] w (DoV (atmDo ms ws hs who r) w) := by
  have hs := atmDo_small ms ws hs who r
  refine (specAtmDo_any v sv u ms B ws _ who r w hv hs1 hu hB).mono ?_
  rintro e w' ⟨wv, hv', dv, rfl, o1, o2, o3, _, _, _, hb⟩
  have i1 := o1.ints (by have := hs.lw; omega) hs.w
  have i2 := o2.ints (by have := hs.lh; omega) hs.h
  have i3 := o3.ints (by have := hs.ld; omega) hs.d
  obtain ⟨q1, k1, rfl, _, _⟩ := o1.shape
  obtain ⟨q2, k2, rfl, _, _⟩ := o2.shape
  obtain ⟨q3, k3, rfl, _, _⟩ := o3.shape
  exact ⟨_, _, _, _, _, _, rfl, i1, i2, i3, hb⟩

end Go.Proofs.Yteamebdehembgaa

namespace Go.Proofs.Yteamebdehembgaa
open Go.RowKit

theorem law_open {w w' : World} {a b dv lv : Value} {id kind addr many : Int} {wp : Bool} {T U : TypeId}
    (hb : Below ((w.alloc (.cells #[a, b] T)).alloc (.cells #[.int .i64 id, .int .i64 kind, .int .i64 addr, .int .i64 many, .bool wp, dv, lv] U)).heap.size ((w.alloc (.cells #[a, b] T)).alloc (.cells #[.int .i64 id, .int .i64 kind, .int .i64 addr, .int .i64 many, .bool wp, dv, lv] U)) w') :
    Box2 w' w.heap.size a b ∧ ReqAt w' (w.heap.size + 1) id kind addr many wp dv lv ∧ Below w.heap.size w w' ∧ w.heap.size + 2 ≤ w'.heap.size := by
  refine ⟨⟨?_, ?_⟩, ⟨?_, ?_, ?_, ?_, ?_, ?_, ?_⟩, two_below hb⟩
  all_goals first
    | (rw [hb.cell (by simp; omega)]; simp [go_sem]; done)
    | (rw [hb.cell (by simp)]; simp [go_sem]; done)
theorem law_next {w w' : World} {a b c d e : Value} {T U : TypeId} (hb : Below ((w.alloc (.cells #[a, b] T)).alloc (.cells #[c, d, e] U)).heap.size ((w.alloc (.cells #[a, b] T)).alloc (.cells #[c, d, e] U)) w') :
    Box2 w' w.heap.size a b ∧ Box3 w' (w.heap.size + 1) c d e ∧ Below w.heap.size w w' ∧ w.heap.size + 2 ≤ w'.heap.size := by
  refine ⟨⟨?_, ?_⟩, ⟨?_, ?_, ?_⟩, two_below hb⟩
  all_goals first
    | (rw [hb.cell (by simp; omega)]; simp [go_sem]; done)
    | (rw [hb.cell (by simp)]; simp [go_sem]; done)
theorem law_q {w w' : World} {dv lv : Value} {id kind addr many : Int} {wp : Bool} {U : TypeId} (hb : Below (w.alloc (.cells #[.int .i64 id, .int .i64 kind, .int .i64 addr, .int .i64 many, .bool wp, dv, lv] U)).heap.size (w.alloc (.cells #[.int .i64 id, .int .i64 kind, .int .i64 addr, .int .i64 many, .bool wp, dv, lv] U)) w') :
    ReqAt w' w.heap.size id kind addr many wp dv lv ∧ Below w.heap.size w w' ∧ w.heap.size + 1 ≤ w'.heap.size := by
  refine ⟨⟨?_, ?_, ?_, ?_, ?_, ?_, ?_⟩, ((Below.refl _ _).alloc (Nat.le_refl _) _).trans (hb.mono (by simp)), by have := hb.size; simp at this; omega⟩
  all_goals (rw [hb.cell (by simp)]; simp [go_sem]; done)
theorem ReqV.reid {w : World} {B : Nat} {dv lv : Value} {id kind addr many : Int} {wp : Bool} {r : Rq} (h : ReqV w B (.agg #[.int .i64 id, .int .i64 kind, .int .i64 addr, .int .i64 many, .bool wp, dv, lv]) r) {i : Int} (hi : I64 i) :
    ReqV w B (.agg #[.int .i64 i, .int .i64 kind, .int .i64 addr, .int .i64 many, .bool wp, dv, lv]) ⟨i, r.kind, r.addr, r.many, r.wrap, r.data, r.lanes⟩ := by
  obtain ⟨d, l, e, h1, h2, h3, h4⟩ := h
  simp at e
  obtain ⟨rfl, rfl, rfl, rfl, rfl, rfl, rfl⟩ := e
  exact ⟨_, _, rfl, h1, h2, hi, h4⟩
theorem alloc_new (w : World) (o : Obj) : (w.alloc o).heap[w.heap.size]? = some o := by show (w.heap.push _)[w.heap.size]? = _; simp
theorem alloc_old (w : World) (o : Obj) {k : Nat} (h : k < w.heap.size) : (w.alloc o).heap[k]? = w.heap[k]? := ((Below.refl w.heap.size w).alloc (Nat.le_refl _) o).block k h
theorem two_new {w W : World} {o p : Obj} (hW : W = (w.alloc o).alloc p) : W.heap[w.heap.size]? = some o ∧ W.heap[w.heap.size + 1]? = some p ∧ Below w.heap.size w W ∧ W.heap.size = w.heap.size + 2 := by
  subst hW
  refine ⟨by rw [alloc_old _ _ (by simp)]; exact alloc_new w o, by have := alloc_new (w.alloc o) p; simpa using this, two_in _ _ _, by simp⟩
theorem three_new {w W : World} {o p q : Obj} (hW : W = ((w.alloc o).alloc p).alloc q) : W.heap[w.heap.size]? = some o ∧ W.heap[w.heap.size + 1]? = some p ∧ W.heap[w.heap.size + 1 + 1]? = some q ∧ Below w.heap.size w W ∧ W.heap.size = w.heap.size + 3 := by
  subst hW
  obtain ⟨a, b, c, d⟩ := two_new (w := w) (o := o) (p := p) rfl
  refine ⟨by rw [alloc_old _ _ (by simp; omega)]; exact a, by rw [alloc_old _ _ (by simp)]; exact b, by have := alloc_new ((w.alloc o).alloc p) q; simpa using this, c.alloc (by simp; omega) _, by simp⟩
theorem ints_lit {W : World} {b B : Nat} {x : Int} (h : W.heap[b]? = some (.cells #[.int .i64 x] 3 (0, 0))) (hx : I64 x) (hb : b < B) : Ints W B (.slice (some ⟨b, 0, none⟩) 1 1) [x] := by
  refine ⟨⟨some ⟨b, 0, none⟩, 1, rfl, by simp, by omega, by simp, (fun h => by cases h), fun _ => ⟨b, 0, rfl, hb, fun t ht j hj => ?_⟩⟩, by intro y hy; simp only [List.mem_singleton] at hy; rw [hy]; exact hx⟩
  have ht0 : t = 0 := by simp at ht; omega
  have hj0 : j = 0 := by omega
  subst ht0 hj0
  simp [World.cell?, h, rowI]
theorem maps_lit {W : World} {b B : Nat} (h : W.heap[b]? = some (.cells #[.int .i64 0, .int .i64 63, .int .i64 0, .bool false] 101 (0, 0))) (hb : b < B) : Maps W B (.slice (some ⟨b, 0, none⟩) 1 1) ms1 := by
  refine ⟨⟨some ⟨b, 0, none⟩, 1, rfl, by simp [ms1], by omega, by simp [ms1], (fun h => by cases h), fun _ => ⟨b, 0, rfl, hb, fun t ht j hj => ?_⟩⟩, by intro y hy; simp only [ms1, List.mem_singleton] at hy; rw [hy]; simp [MR64, I64]⟩
  have ht0 : t = 0 := by simp [ms1] at ht; omega
  subst ht0
  rcases (show j = 0 ∨ j = 1 ∨ j = 2 ∨ j = 3 by omega) with rfl | rfl | rfl | rfl <;> simp [World.cell?, h, rowM, ms1]
theorem reqAt_of {W : World} {g : Nat} {id kind addr many : Int} {wp : Bool} {dv lv : Value} (h : W.heap[g]? = some (.cells #[.int .i64 id, .int .i64 kind, .int .i64 addr, .int .i64 many, .bool wp, dv, lv] 71 (0, 0))) : ReqAt W g id kind addr many wp dv lv := by
  refine ⟨?_, ?_, ?_, ?_, ?_, ?_, ?_⟩ <;> simp [World.cell?, h]
theorem AtmV.shape {w : World} {B : Nat} {v : Value} {ws hs : List Int} (h : AtmV w B v ws hs) : ∃ wa wc ha hc, v = .agg #[.slice wa ws.length wc, .slice ha hs.length hc] ∧ Ints w B (.slice wa ws.length wc) ws ∧ Ints w B (.slice ha hs.length hc) hs := by
  obtain ⟨wv, hv, rfl, h1, h2⟩ := h
  obtain ⟨a1, c1, e1, _⟩ := h1.1
  obtain ⟨a2, c2, e2, _⟩ := h2.1
  simp only [List.length_map] at e1 e2
  subst e1 e2
  exact ⟨_, _, _, _, rfl, h1, h2⟩
theorem ReqV.shape {w : World} {B : Nat} {v : Value} {r : Rq} (h : ReqV w B v r) : ∃ da dc la lc, v = .agg #[.int .i64 r.id, .int .i64 r.kind, .int .i64 r.addr, .int .i64 r.many, .bool r.wrap, .slice da r.data.length dc, .slice la r.lanes.length lc] := by
  obtain ⟨dv, lv, rfl, h1, h2, _⟩ := h
  obtain ⟨a1, c1, e1, _⟩ := h1.1
  obtain ⟨a2, c2, e2, _⟩ := h2.1
  simp only [List.length_map] at e1 e2
  subst e1 e2
  exact ⟨_, _, _, _, rfl⟩
theorem atmV_of {w : World} {B : Nat} {wv hv : Value} {ws hs : List Int} (h1 : Ints w B wv ws) (h2 : Ints w B hv hs) : AtmV w B (.agg #[wv, hv]) ws hs := ⟨_, _, rfl, h1, h2⟩

end Go.Proofs.Yteamebdehembgaa
