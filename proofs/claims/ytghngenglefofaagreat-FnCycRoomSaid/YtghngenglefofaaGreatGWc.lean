/- A cycle: what a store does is done and laid behind what it has done: the phases of work's drawn region 11. -/
import Derived.Test.YtghngenglefofaaGreatGLt
import Derived.Test.YtghngenglefofaaGreatGFl
set_option linter.unusedVariables false
set_option linter.unusedSimpArgs false
namespace Go.Proofs.YtghngenglefofaaGreat
open Go.RowKit
section
variable (wq : World) (base S Hb : Nat) (L : Nat → Value) (st : Cy) (ev : List Ev) (V : Nat → Value) (N : Nat → Nat) (C : Nat → List Value) (D : Nat → List TJV) (s who n : Nat) (ws1 hs1 : List Int) (x : Rs)
def wkD (dv : Value) (W : World) : Prop := ∃ N1 C1, CyM W base S Hb L { st with ws := ws1, hs := hs1 } ev V N1 C1 D ∧ DatP L W (DFree V S Hb W) ((⟨who, n, x⟩ : TJ), dv) ∧ Kp S Hb V wq V W ∧ Below base wq W
def wkC : List Value → World → Prop
 | [], W => CyM W base S Hb L st ev V N C D ∧ Kp S Hb V wq V W ∧ Below base wq W
 | [v0], W => ∃ a k m, v0 = .agg #[.int .i64 x.id, .int .i64 x.code, .slice a k m] ∧ wkD wq base S Hb L st ev V D who n ws1 hs1 x (.slice a k m) W
 | [_, v1], W => ∃ a k m, v1 = .agg #[.int .i64 (who : Nat), .int .i64 (n : Nat), .int .i64 x.id, .int .i64 x.code, .slice a k m] ∧ wkD wq base S Hb L st ev V D who n ws1 hs1 x (.slice a k m) W
 | [_, _, v2], W => ∃ a k m, wkD wq base S Hb L st ev V D who n ws1 hs1 x (.slice a k m) W ∧ ∃ g2, v2 = .slice (some ⟨g2, 0, none⟩) 1 1 ∧ ∀ j u, (tjRow ((⟨who, n, x⟩ : TJ), .slice a k m))[j]? = some u → W.cell? ⟨g2, j, none⟩ = some u
 | [_, _, _, v3], W => ∃ w1 dv, wkD wq base S Hb L st ev V D who n ws1 hs1 x dv w1 ∧ Owns W base 107 5 tjRow v3 (D (15 + s) ++ [((⟨who, n, x⟩ : TJ), dv)]) ∧ (∀ b, b < w1.heap.size → (V (15 + s)).ownBlock ≠ some b → W.heap[b]? = w1.heap[b]?) ∧ w1.heap.size ≤ W.heap.size ∧ (∀ k, v3.ownBlock = some k → (V (15 + s)).ownBlock = some k ∨ w1.heap.size ≤ k) ∧ Below base wq W
 | [_, _, _, _, _], W => ∃ v N2 C2 dv, CyM W base S Hb L { st with ws := ws1, hs := hs1, slaves := upd st.slaves s { st.slaves s with done := (D (15 + s) ++ [((⟨who, n, x⟩ : TJ), dv)]).map (·.1) } } ev (upd V (15 + s) v) N2 C2 (upd D (15 + s) (D (15 + s) ++ [((⟨who, n, x⟩ : TJ), dv)])) ∧ Kp S Hb V wq (upd V (15 + s) v) W ∧ Below base wq W
 | _, _ => False
end
section
variable {wq : World} {base S Hb : Nat} {L : Nat → Value} {st : Cy} {ev : List Ev} {V : Nat → Value} {N : Nat → Nat} {C : Nat → List Value} {D : Nat → List TJV} {s who n : Nat} {ws1 hs1 : List Int} {x : Rs}
theorem wkC.cell {us : List Value} {W : World} (h : wkC wq base S Hb L st ev V N C D s who n ws1 hs1 x us W) (hs : s < 4) {b o : Nat} {v : Value} (hb : DFree V S Hb wq b ∨ b < base) (hc : wq.cell? ⟨b, o, none⟩ = some v) : W.cell? ⟨b, o, none⟩ = some v := by
 rcases hb with hb | hb
 ·have key : W.heap[b]? = wq.heap[b]? := by
   match us, h with
   | [], h => exact (h.2.1 b hb).1
   | [_], ⟨_, _, _, _, _, _, _, _, hk, _⟩ => exact (hk b hb).1
   | [_, _], ⟨_, _, _, _, _, _, _, _, hk, _⟩ => exact (hk b hb).1
   | [_, _, _], ⟨_, _, _, ⟨_, _, _, _, hk, _⟩, _⟩ => exact (hk b hb).1
   | [_, _, _, _], ⟨_, _, ⟨_, _, _, _, hk, _⟩, _, h2, _⟩ =>
    obtain ⟨k1, k2⟩ := hk b hb
    exact (h2 b k2.1 (k2.2.1 (15 + s) (by omega))).trans k1
   | [_, _, _, _, _], ⟨_, _, _, _, _, hk, _⟩ => exact (hk b hb).1
  simp only [World.cell?] at hc ⊢
  rw [key]; exact hc
 ·have key : Below base wq W := by
   match us, h with
   | [], h => exact h.2.2
   | [_], ⟨_, _, _, _, _, _, _, _, _, hk⟩ => exact hk
   | [_, _], ⟨_, _, _, _, _, _, _, _, _, hk⟩ => exact hk
   | [_, _, _], ⟨_, _, _, ⟨_, _, _, _, _, hk⟩, _⟩ => exact hk
   | [_, _, _, _], ⟨_, _, _, _, _, _, _, hk⟩ => exact hk
   | [_, _, _, _, _], ⟨_, _, _, _, _, _, hk⟩ => exact hk
  rw [key.cell (p := ⟨b, o, none⟩) hb]; exact hc
theorem wkC.p1 {v0 : Value} {W : World} : wkC wq base S Hb L st ev V N C D s who n ws1 hs1 x ([] ++ [v0]) W ↔ ∃ a k m, v0 = .agg #[.int .i64 x.id, .int .i64 x.code, .slice a k m] ∧ wkD wq base S Hb L st ev V D who n ws1 hs1 x (.slice a k m) W := Iff.rfl
theorem wkC.p2 {v0 v1 : Value} {W : World} : wkC wq base S Hb L st ev V N C D s who n ws1 hs1 x ([] ++ [v0] ++ [v1]) W ↔ ∃ a k m, v1 = .agg #[.int .i64 (who : Nat), .int .i64 (n : Nat), .int .i64 x.id, .int .i64 x.code, .slice a k m] ∧ wkD wq base S Hb L st ev V D who n ws1 hs1 x (.slice a k m) W := Iff.rfl
theorem wkC.p3 {v0 v1 v2 : Value} {W : World} : wkC wq base S Hb L st ev V N C D s who n ws1 hs1 x ([] ++ [v0] ++ [v1] ++ [v2]) W ↔ ∃ a k m, wkD wq base S Hb L st ev V D who n ws1 hs1 x (.slice a k m) W ∧ ∃ g2, v2 = .slice (some ⟨g2, 0, none⟩) 1 1 ∧ ∀ j u, (tjRow ((⟨who, n, x⟩ : TJ), .slice a k m))[j]? = some u → W.cell? ⟨g2, j, none⟩ = some u := Iff.rfl
theorem wkC.p4 {v0 v1 v2 v3 : Value} {W : World} : wkC wq base S Hb L st ev V N C D s who n ws1 hs1 x ([] ++ [v0] ++ [v1] ++ [v2] ++ [v3]) W ↔ ∃ w1 dv, wkD wq base S Hb L st ev V D who n ws1 hs1 x dv w1 ∧ Owns W base 107 5 tjRow v3 (D (15 + s) ++ [((⟨who, n, x⟩ : TJ), dv)]) ∧ (∀ b, b < w1.heap.size → (V (15 + s)).ownBlock ≠ some b → W.heap[b]? = w1.heap[b]?) ∧ w1.heap.size ≤ W.heap.size ∧ (∀ k, v3.ownBlock = some k → (V (15 + s)).ownBlock = some k ∨ w1.heap.size ≤ k) ∧ Below base wq W := Iff.rfl
theorem wkC.p5 {v0 v1 v2 v3 v4 : Value} {W : World} : wkC wq base S Hb L st ev V N C D s who n ws1 hs1 x ([] ++ [v0] ++ [v1] ++ [v2] ++ [v3] ++ [v4]) W ↔ ∃ v N2 C2 dv, CyM W base S Hb L { st with ws := ws1, hs := hs1, slaves := upd st.slaves s { st.slaves s with done := (D (15 + s) ++ [((⟨who, n, x⟩ : TJ), dv)]).map (·.1) } } ev (upd V (15 + s) v) N2 C2 (upd D (15 + s) (D (15 + s) ++ [((⟨who, n, x⟩ : TJ), dv)])) ∧ Kp S Hb V wq (upd V (15 + s) v) W ∧ Below base wq W := Iff.rfl
theorem wkC.row {us : List Value} {W : World} (h : wkC wq base S Hb L st ev V N C D s who n ws1 hs1 x us W) (hl : us.length ≤ 3) (hs : s < 4) {g o k : Nat} (hV : V 3 = .slice (some ⟨g, o, none⟩) 4 k) : W.cell? ⟨g, o + s * 3 + 1, none⟩ = some (V (15 + s)) := by
 match us, h with
 | [], h => exact (h.1.store hV hs).2.1
 | [_], ⟨_, _, _, _, _, _, hm, _⟩ => exact (hm.store hV hs).2.1
 | [_, _], ⟨_, _, _, _, _, _, hm, _⟩ => exact (hm.store hV hs).2.1
 | [_, _, _], ⟨_, _, _, ⟨_, _, hm, _⟩, _⟩ => exact (hm.store hV hs).2.1
 | _ :: _ :: _ :: _ :: _, _ => exact absurd hl (by simp)
end
end Go.Proofs.YtghngenglefofaaGreat
