/-
  The box of what is asked.
-/
import Derived.Test.YteamebdehembgaaJAdr
import Derived.Test.YteamebdehembgaaJY2
import Derived.Test.YteamebdehembgaaJSa0
import Derived.Test.YteamebdehembgaaJXt
set_option linter.unusedVariables false
set_option linter.unusedSimpArgs false
namespace Go.Proofs.Yteamebdehembgaa
open Go.RowKit

def NilP (w : World) (e : Ending) (w' : World) : Prop := e = .returned vnil ∧ w' = w

set_option maxHeartbeats 1000000 in
theorem sNil_int (w : World) : Calls Try.prog 162 #[vnil] w (NilP w) := by
  have he := fun w => Lib.run_eql_slice_nil (P := Try.prog) w 24 3 none 0 0 0 0 Try.underlying24
  go_enter Try.func162, Try.ntmps162
  go_wp2_with fail
  go_ret
  exact ⟨rfl, rfl⟩
set_option maxHeartbeats 1000000 in
theorem kNil_int (w : World) : Calls Try.prog 161 #[vnil] w (NilP w) := by
  go_enter Try.func161, Try.ntmps161
  go_wp2_with fail
  go_ret
  exact ⟨rfl, rfl⟩
set_option maxHeartbeats 1000000 in
theorem nil_int (w : World) : Calls Try.prog 119 #[vnil] w (NilP w) := by
  go_enter Try.func119, Try.ntmps119
  go_wp2_with fail
  refine (sNil_int w).mono ?_
  rintro e w1 ⟨rfl, rfl⟩
  go_wp2_with fail
  refine (kNil_int _).mono ?_
  rintro e w1 ⟨rfl, rfl⟩
  go_wp2_with fail
  go_ret
  exact ⟨rfl, rfl⟩


set_option maxHeartbeats 1000000 in
theorem sNil_CycJob (w : World) : Calls Try.prog 176 #[vnil] w (NilP w) := by
  have he := fun w => Lib.run_eql_slice_nil (P := Try.prog) w 114 161 none 0 0 0 0 Try.underlying114
  go_enter Try.func176, Try.ntmps176
  go_wp2_with fail
  go_ret
  exact ⟨rfl, rfl⟩
set_option maxHeartbeats 1000000 in
theorem kNil_CycJob (w : World) : Calls Try.prog 175 #[vnil] w (NilP w) := by
  go_enter Try.func175, Try.ntmps175
  go_wp2_with fail
  go_ret
  exact ⟨rfl, rfl⟩
set_option maxHeartbeats 1000000 in
theorem nil_CycJob (w : World) : Calls Try.prog 137 #[vnil] w (NilP w) := by
  go_enter Try.func137, Try.ntmps137
  go_wp2_with fail
  refine (sNil_CycJob w).mono ?_
  rintro e w1 ⟨rfl, rfl⟩
  go_wp2_with fail
  refine (kNil_CycJob _).mono ?_
  rintro e w1 ⟨rfl, rfl⟩
  go_wp2_with fail
  go_ret
  exact ⟨rfl, rfl⟩


set_option maxHeartbeats 1000000 in
theorem sNil_TlmJob (w : World) : Calls Try.prog 186 #[vnil] w (NilP w) := by
  have he := fun w => Lib.run_eql_slice_nil (P := Try.prog) w 43 166 none 0 0 0 0 Try.underlying43
  go_enter Try.func186, Try.ntmps186
  go_wp2_with fail
  go_ret
  exact ⟨rfl, rfl⟩
set_option maxHeartbeats 1000000 in
theorem kNil_TlmJob (w : World) : Calls Try.prog 185 #[vnil] w (NilP w) := by
  go_enter Try.func185, Try.ntmps185
  go_wp2_with fail
  go_ret
  exact ⟨rfl, rfl⟩
set_option maxHeartbeats 1000000 in
theorem nil_TlmJob (w : World) : Calls Try.prog 174 #[vnil] w (NilP w) := by
  go_enter Try.func174, Try.ntmps174
  go_wp2_with fail
  refine (sNil_TlmJob w).mono ?_
  rintro e w1 ⟨rfl, rfl⟩
  go_wp2_with fail
  refine (kNil_TlmJob _).mono ?_
  rintro e w1 ⟨rfl, rfl⟩
  go_wp2_with fail
  go_ret
  exact ⟨rfl, rfl⟩


set_option maxHeartbeats 1000000 in
theorem copyJobs_nil (w : World) : Calls Try.prog 136 #[vnil] w (NilP w) := by
  go_enter Try.func136, Try.ntmps136
  go_wp2_with fail
  refine (nil_TlmJob _).mono ?_
  rintro e w1 ⟨rfl, rfl⟩
  go_wp2_with fail
  go_loopw [10] (fun i wr => i = .int .i64 0 ∧ wr = w1) (fun _ _ => 0)
  case atStart => exact ⟨rfl, rfl⟩
  case round =>
    obtain ⟨rfl, rfl⟩ := hrel
    go_wp2_with fail
    go_ret
    exact ⟨rfl, rfl⟩

end Go.Proofs.Yteamebdehembgaa

namespace Go.Proofs.Yteamebdehembgaa
open Go.RowKit

def BoxC (w : World) (s : Nat) (a b p d t : Value) : Prop := w.heap[s]? = some (.cells #[a, b, p, d, t] 45 (0, 0))
theorem BoxC.lt {w : World} {s : Nat} {a b p d t : Value} (h : BoxC w s a b p d t) : s < w.heap.size := heap_lt h
theorem BoxC.keep {w w' : World} {s : Nat} {a b p d t : Value} (h : BoxC w s a b p d t) (e : w'.heap[s]? = w.heap[s]?) : BoxC w' s a b p d t := by unfold BoxC at h ⊢; rw [e]; exact h
theorem BoxC.touch {w w' : World} {s x : Nat} {a b p d t : Value} (h : BoxC w s a b p d t) (ht : Touch x w w') (hx : s ≠ x) : BoxC w' s a b p d t := h.keep (ht.block s h.lt hx)
theorem BoxC.below {w w' : World} {s C : Nat} {a b p d t : Value} (h : BoxC w s a b p d t) (hb : Below C w w') (hx : s < C) : BoxC w' s a b p d t := h.keep (hb.block s hx)
theorem BoxC.bx {w : World} {s : Nat} {a b p d t : Value} (h : BoxC w s a b p d t) : Bx w s [a, b, p, d, t] := by
  unfold BoxC at h
  exact ⟨fun j hj => by simp [World.cell?, h], fun j hj => by simp [World.frozen?, h], by simp⟩
theorem BoxC.put {w : World} {s : Nat} {a b p d t : Value} (h : BoxC w s a b p d t) (a' b' p' d' t' : Value) : BoxC (((((w.setCell ⟨s, 0, none⟩ a').setCell ⟨s, 1, none⟩ b').setCell ⟨s, 2, none⟩ p').setCell ⟨s, 3, none⟩ d').setCell ⟨s, 4, none⟩ t') s a' b' p' d' t' := by
  unfold BoxC at h ⊢; simp [World.setCell, Array.getElem?_modify, h]
theorem BoxC.new (w : World) (a b p d t : Value) : BoxC (w.alloc (.cells #[a, b, p, d, t] 45)) w.heap.size a b p d t := by
  show (w.heap.push _)[w.heap.size]? = _; simp
theorem touchC (s : Nat) (w : World) (a b p d t : Value) : Touch s w (((((w.setCell ⟨s, 0, none⟩ a).setCell ⟨s, 1, none⟩ b).setCell ⟨s, 2, none⟩ p).setCell ⟨s, 3, none⟩ d).setCell ⟨s, 4, none⟩ t) :=
  ((((Touch.setCell _ _ _ _).trans (Touch.setCell _ _ _ _)).trans (Touch.setCell _ _ _ _)).trans (Touch.setCell _ _ _ _)).trans (Touch.setCell _ _ _ _)
theorem Owns.boxC {α : Type} {f : α → List Value} {w w' : World} {base e sz g : Nat} {v a b p d t : Value} {xs : List α} (h : Owns w base e sz f v xs) (hB : BoxC w g a b p d t) (hT : 45 ≠ e) (ht : Touch g w w') : Owns w' base e sz f v xs :=
  OwnR.kept h fun k hk => ht.block k (OwnR.lt h k hk).2 (by
    intro e2
    subst e2
    obtain ⟨_, h2⟩ := h
    rcases h2 with ⟨rfl, _⟩ | ⟨g', off, cap, cur, rfl, _, hh, _⟩
    · simp [Value.ownBlock] at hk
    · simp [Value.ownBlock] at hk
      subst hk
      unfold BoxC at hB
      rw [hh] at hB
      simp only [Option.some.injEq, Obj.cells.injEq] at hB
      exact hT hB.2.1.symm)
theorem cellH {w w' : World} (h : w'.heap = w.heap) (p : Addr) : w'.cell? p = w.cell? p := by simp only [World.cell?, h]
theorem frozenH {w w' : World} (h : w'.heap = w.heap) (p : Addr) : w'.frozen? p = w.frozen? p := by simp only [World.frozen?, h]
/-- To store what lies there turns nothing. -/
theorem setCell_same {w : World} {b o : Nat} {v : Value} (h : w.cell? ⟨b, o, none⟩ = some v) : (w.setCell ⟨b, o, none⟩ v).heap = w.heap := by
  apply Array.ext_getElem?
  intro k
  simp only [World.setCell, Array.getElem?_modify]
  split
  · rename_i e
    subst e
    simp only [World.cell?] at h
    rcases hh : w.heap[b]? with _ | ob
    · rfl
    · rw [hh] at h
      cases ob with
      | cells cs T fr =>
        simp only at h
        obtain ⟨hlt, h⟩ := Array.getElem?_eq_some_iff.1 h
        rw [← h]
        simp only [Option.isSome_none, Bool.false_eq_true, if_false, Option.map_some]
        congr 2
        apply Array.ext_getElem?
        intro j
        rw [Array.getElem?_setIfInBounds]
        split
        · rename_i e; subst e; simp [hlt]
        · rfl
      | _ => simp at h
  · rfl
theorem CyO.heap {W W' : World} {lo : Nat} {a b p s : Value} {xs ys : List Int} {ps : List (Int × Int)} {ss : List Int} (h : CyO W lo a b p s xs ys ps ss) (hh : W'.heap = W.heap) : CyO W' lo a b p s xs ys ps ss := h.kept fun k _ _ => by rw [hh]

end Go.Proofs.Yteamebdehembgaa

namespace Go.Proofs.Yteamebdehembgaa
open Go.RowKit

theorem ints_arr {w : World} {B : Nat} {v : Value} {xs : List Int} (h : Ints w B v xs) : Arr w B 1 v (xs.map rowI) := h.1
def BoxQ (w : World) (s : Nat) (r : Rq) (d l : Value) : Prop := w.heap[s]? = some (.cells #[.int .i64 r.id, .int .i64 r.kind, .int .i64 r.addr, .int .i64 r.many, .bool r.wrap, d, l] 71 (0, 0))
theorem BoxQ.lt {w : World} {s : Nat} {r : Rq} {d l : Value} (h : BoxQ w s r d l) : s < w.heap.size := heap_lt h
theorem BoxQ.keep {w w' : World} {s : Nat} {r : Rq} {d l : Value} (h : BoxQ w s r d l) (e : w'.heap[s]? = w.heap[s]?) : BoxQ w' s r d l := by unfold BoxQ at h ⊢; rw [e]; exact h
theorem BoxQ.below {w w' : World} {s C : Nat} {r : Rq} {d l : Value} (h : BoxQ w s r d l) (hb : Below C w w') (hx : s < C) : BoxQ w' s r d l := h.keep (hb.block s hx)
theorem BoxQ.bx {w : World} {s : Nat} {r : Rq} {d l : Value} (h : BoxQ w s r d l) : Bx w s [.int .i64 r.id, .int .i64 r.kind, .int .i64 r.addr, .int .i64 r.many, .bool r.wrap, d, l] := by
  unfold BoxQ at h
  exact ⟨fun j hj => by simp [World.cell?, h], fun j hj => by simp [World.frozen?, h], by simp⟩
theorem BoxQ.put5 {w : World} {s : Nat} {r : Rq} {d l : Value} (h : BoxQ w s r d l) (u : Value) : BoxQ (w.setCell ⟨s, 5, none⟩ u) s r u l := by
  unfold BoxQ at h ⊢; simp [World.setCell, Array.getElem?_modify, h]
theorem BoxQ.put6 {w : World} {s : Nat} {r : Rq} {d l : Value} (h : BoxQ w s r d l) (u : Value) : BoxQ (w.setCell ⟨s, 6, none⟩ u) s r d u := by
  unfold BoxQ at h ⊢; simp [World.setCell, Array.getElem?_modify, h]
theorem BoxQ.new (w : World) (r : Rq) (d l : Value) : BoxQ (w.alloc (.cells #[.int .i64 r.id, .int .i64 r.kind, .int .i64 r.addr, .int .i64 r.many, .bool r.wrap, d, l] 71)) w.heap.size r d l := by
  show (w.heap.push _)[w.heap.size]? = _; simp

end Go.Proofs.Yteamebdehembgaa
