/-
  What an exact law holds on its way: its boxes, and what it owns, each in blocks of an interval of its own.
-/
import Derived.Test.YteamebdehembgaaKSa2
import Derived.Test.YteamebdehembgaaJXt
set_option linter.unusedVariables false
set_option linter.unusedSimpArgs false
namespace Go.Proofs.Yteamebdehembgaa
open Go.RowKit

theorem specAtmDo_any (v sv u : Value) (ms : List MR) (B : Nat) (ws hs : List Int) (who : Int) (r : Rq) (w : World) (hv : Maps w B v ms) (hs1 : AtmV w B sv ws hs) (hu : ReqV w B u r) (hB : B ≤ w.heap.size) :
    Calls Try.prog 29 #[v, sv, .int .i64 who, u] w (AtmDoP (atmDo ms ws hs who r) w) := by
  unfold atmDo
  rcases hc : (mapOk ms && atmOk ws hs && inB who 0 2 && reqOk r) with _ | _
  · rw [if_neg (by simp)]
    exact specAtmDo_no v sv u ms B ws hs who r w hv hs1 hu hB hc
  · rw [if_pos rfl]
    simp only [Bool.and_eq_true] at hc
    exact specAtmDo_yes v sv u ms B ws hs who r w hv hs1 hu hB hc.1.1.1 hc.1.1.2 hc.1.2 hc.2

theorem specDo_v (v sv u : Value) (ms : List MR) (B : Nat) (ws hs : List Int) (who : Int) (r : Rq) (w : World) (hv : Maps w B v ms) (hs1 : AtmV w B sv ws hs) (hu : ReqV w B u r) (hB : B ≤ w.heap.size) :
    Calls Try.prog 29 #[v, sv, .int .i64 who, u] w (DoV (atmDo ms ws hs who r) w) := by
  have hs := atmDo_small ms ws hs who r
  refine (specAtmDo_any v sv u ms B ws _ who r w hv hs1 hu hB).mono ?_
  rintro e w' ⟨wv, hv', dv, rfl, o1, o2, o3, _, _, _, hb⟩
  have i1 := o1.ints (by have := hs.lw; omega) hs.w
  have i2 := o2.ints (by have := hs.lh; omega) hs.h
  have i3 := o3.ints (by have := hs.ld; omega) hs.d
  obtain ⟨q1, k1, rfl, _, _⟩ := o1.shape
  obtain ⟨q2, k2, rfl, _, _⟩ := o2.shape
  obtain ⟨q3, k3, rfl, _, _⟩ := o3.shape
  exact ⟨_, _, _, _, _, _, rfl, i1, i2, i3, hb⟩

end Go.Proofs.Yteamebdehembgaa

namespace Go.Proofs.Yteamebdehembgaa
open Go.RowKit

/-- Numbers owned in blocks from lo up to hi. -/
structure Ow (W : World) (lo hi : Nat) (v : Value) (xs : List Int) : Prop where
  o : Owns W lo 3 1 rowI v xs
  h : ∀ k, v.ownBlock = some k → k < hi
theorem Ow.of {W : World} {lo : Nat} {v : Value} {xs : List Int} (h : Owns W lo 3 1 rowI v xs) : Ow W lo W.heap.size v xs := ⟨h, fun k hk => (OwnR.lt h k hk).2⟩
theorem Ow.lo {W : World} {lo hi : Nat} {v : Value} {xs : List Int} (h : Ow W lo hi v xs) : ∀ k, v.ownBlock = some k → lo ≤ k ∧ k < hi := fun k hk => ⟨(OwnR.lt h.o k hk).1, h.h k hk⟩
theorem Ow.below {W W' : World} {lo hi : Nat} {v : Value} {xs : List Int} (h : Ow W lo hi v xs) (hb : Below W.heap.size W W') : Ow W' lo hi v xs := ⟨h.o.below hb, h.h⟩
theorem Ow.bt {W W' : World} {lo hi l r : Nat} {v : Value} {xs : List Int} (h : Ow W lo hi v xs) (hb : Bt l r W W') (hk : hi ≤ l ∨ r ≤ lo) : Ow W' lo hi v xs :=
  ⟨h.o.bt hb fun k hk2 => by have := h.lo k hk2; omega, h.h⟩
theorem Ow.ints {W : World} {lo hi : Nat} {v : Value} {xs : List Int} (h : Ow W lo hi v xs) (hn : xs.length ≤ 140737488351232) (hx : ∀ x ∈ xs, I64 x) : Ints W W.heap.size v xs := h.o.ints hn hx

structure EX (w : World) (bs : List (Nat × List Value)) (os : List (Nat × Nat × Value × List Int)) (W : World) : Prop where
  b : ∀ p ∈ bs, Bx W p.1 p.2
  o : ∀ p ∈ os, Ow W p.1 p.2.1 p.2.2.1 p.2.2.2
  w : Below w.heap.size w W
theorem EX.box {w : World} {bs : List (Nat × List Value)} {os : List (Nat × Nat × Value × List Int)} {W : World} (h : EX w bs os W) {g : Nat} {cs : List Value} (hm : (g, cs) ∈ bs) : Bx W g cs := h.b _ hm
theorem EX.own {w : World} {bs : List (Nat × List Value)} {os : List (Nat × Nat × Value × List Int)} {W : World} (h : EX w bs os W) {lo hi : Nat} {v : Value} {xs : List Int} (hm : (lo, hi, v, xs) ∈ os) : Ow W lo hi v xs := h.o _ hm
theorem EX.below {w : World} {bs : List (Nat × List Value)} {os : List (Nat × Nat × Value × List Int)} {W W' : World} (h : EX w bs os W) (hb : Below W.heap.size W W') : EX w bs os W' :=
  ⟨fun p hp => (h.b p hp).below hb (h.b p hp).lt, fun p hp => (h.o p hp).below hb, h.w.trans (hb.mono h.w.size)⟩
theorem EX.bt {w : World} {bs : List (Nat × List Value)} {os : List (Nat × Nat × Value × List Int)} {W W' : World} {l r : Nat} (h : EX w bs os W) (hb : Bt l r W W') (h1 : ∀ p ∈ bs, p.1 < l ∨ r ≤ p.1) (h2 : ∀ p ∈ os, p.2.1 ≤ l ∨ r ≤ p.1) (hl : w.heap.size ≤ l) : EX w bs os W' :=
  ⟨fun p hp => (h.b p hp).bt hb (h1 p hp), fun p hp => (h.o p hp).bt hb (h2 p hp), ⟨hb.os.trans h.w.os, hb.tape.trans h.w.tape, hb.output.trans h.w.output, Nat.le_trans h.w.size hb.size, fun k hk => (hb.block k (Nat.lt_of_lt_of_le hk h.w.size) (.inl (by omega))).trans (h.w.block k hk)⟩⟩
theorem EX.addB {w : World} {bs : List (Nat × List Value)} {os : List (Nat × Nat × Value × List Int)} {W : World} (h : EX w bs os W) {g : Nat} {cs : List Value} (hb : Bx W g cs) : EX w ((g, cs) :: bs) os W :=
  ⟨fun p hp => by rcases List.mem_cons.1 hp with rfl | hp; exact hb; exact h.b p hp, h.o, h.w⟩
theorem EX.addO {w : World} {bs : List (Nat × List Value)} {os : List (Nat × Nat × Value × List Int)} {W : World} (h : EX w bs os W) {lo hi : Nat} {v : Value} {xs : List Int} (ho : Ow W lo hi v xs) : EX w bs ((lo, hi, v, xs) :: os) W :=
  ⟨h.b, fun p hp => by rcases List.mem_cons.1 hp with rfl | hp; exact ho; exact h.o p hp, h.w⟩
theorem EX.sub {w : World} {bs bs' : List (Nat × List Value)} {os os' : List (Nat × Nat × Value × List Int)} {W : World} (h : EX w bs os W) (h1 : ∀ p ∈ bs', p ∈ bs) (h2 : ∀ p ∈ os', p ∈ os) : EX w bs' os' W :=
  ⟨fun p hp => h.b p (h1 p hp), fun p hp => h.o p (h2 p hp), h.w⟩
theorem EX.del0 {w : World} {bs : List (Nat × List Value)} {a : Nat × Nat × Value × List Int} {os : List (Nat × Nat × Value × List Int)} {W : World} (h : EX w bs (a :: os) W) : EX w bs os W := h.sub (by simp) (by intro p hp; simp [hp])
theorem EX.del2 {w : World} {bs : List (Nat × List Value)} {a b c : Nat × Nat × Value × List Int} {os : List (Nat × Nat × Value × List Int)} {W : World} (h : EX w bs (a :: b :: c :: os) W) : EX w bs (a :: b :: os) W :=
  h.sub (by simp) (by intro p hp; simp only [List.mem_cons] at hp ⊢; rcases hp with h | h | h <;> simp [h])
theorem EX.del3 {w : World} {bs : List (Nat × List Value)} {a b c d : Nat × Nat × Value × List Int} {os : List (Nat × Nat × Value × List Int)} {W : World} (h : EX w bs (a :: b :: c :: d :: os) W) : EX w bs (a :: b :: c :: os) W :=
  h.sub (by simp) (by intro p hp; simp only [List.mem_cons] at hp ⊢; rcases hp with h | h | h | h <;> simp [h])
theorem EX.del5 {w : World} {bs : List (Nat × List Value)} {a b c d e f : Nat × Nat × Value × List Int} {os : List (Nat × Nat × Value × List Int)} {W : World} (h : EX w bs (a :: b :: c :: d :: e :: f :: os) W) : EX w bs (a :: b :: c :: d :: e :: os) W :=
  h.sub (by simp) (by intro p hp; simp only [List.mem_cons] at hp ⊢; rcases hp with h | h | h | h | h | h <;> simp [h])
/-- A new box. -/
theorem EX.new {w : World} {bs : List (Nat × List Value)} {os : List (Nat × Nat × Value × List Int)} {W : World} (h : EX w bs os W) (cs : Array Value) (T : TypeId) (hn : 0 < cs.size) : EX w ((W.heap.size, cs.toList) :: bs) os (W.alloc (.cells cs T)) :=
  (h.below (bx1 _ _)).addB (Bx.new W cs T hn)
theorem EX.new2 {w : World} {bs : List (Nat × List Value)} {os : List (Nat × Nat × Value × List Int)} {W : World} (h : EX w bs os W) (cs ds : Array Value) (T U : TypeId) (hn : 0 < cs.size) (hm : 0 < ds.size) : EX w ((W.heap.size + 1, ds.toList) :: (W.heap.size, cs.toList) :: bs) os ((W.alloc (.cells cs T)).alloc (.cells ds U)) := by
  have := (h.new cs T hn).new ds U hm
  rwa [World.size_alloc] at this
theorem EX.start (w : World) : EX w [] [] w := ⟨by simp, by simp, Below.refl _ _⟩
theorem BoxA.bx {w : World} {s : Nat} {a b : Value} (h : BoxA w s a b) : Bx w s [a, b] := by
  obtain ⟨k0, k1, m0, m1⟩ := h.cells
  refine ⟨fun j hj => ?_, fun j hj => ?_, by simp⟩
  all_goals
    have : j = 0 ∨ j = 1 := by simp at hj; omega
    rcases this with rfl | rfl
  · simpa using k0
  · simpa using k1
  · exact m0
  · exact m1
theorem BoxR.bx {w : World} {s : Nat} {i c : Int} {d : Value} (h : BoxR w s i c d) : Bx w s [.int .i64 i, .int .i64 c, d] := by
  obtain ⟨k0, k1, k2, m0, m1, m2⟩ := h.cells
  refine ⟨fun j hj => ?_, fun j hj => ?_, by simp⟩
  all_goals
    have : j = 0 ∨ j = 1 ∨ j = 2 := by simp at hj; omega
    rcases this with rfl | rfl | rfl
  · simpa using k0
  · simpa using k1
  · simpa using k2
  · exact m0
  · exact m1
  · exact m2
theorem Touch.toBt {g lo hi : Nat} {w w' : World} (h : Touch g w w') (h1 : lo ≤ g) (h2 : g < hi) : Bt lo hi w w' := ⟨h.os, h.tape, h.output, h.size, fun k hk hp => h.block k hk (by omega)⟩

end Go.Proofs.Yteamebdehembgaa
