/-
  Counts made new: the same, marked and held; the law FnExactCntNew.
-/
import Derived.Test.YtjcpnlnajimjaaaEx2
import Derived.Test.YtjcpnlnajimjaaaRow
namespace Go.Proofs.Ytjcpnlnajimjaaa
open Go.ChangeShapes Go.WideShapes Go.ChangeAt Go.RowKit

/-- Six lists, as they are read. -/
def SixI (w : World) (B : Nat) (v1 v2 v3 v4 v5 v6 : Value) (x1 x2 x3 x4 x5 x6 : List Int) : Prop := Ints w B v1 x1 ∧ Ints w B v2 x2 ∧ Ints w B v3 x3 ∧ Ints w B v4 x4 ∧ Ints w B v5 x5 ∧ Ints w B v6 x6
theorem SixI.below {w w' : World} {B : Nat} {v1 v2 v3 v4 v5 v6 : Value} {x1 x2 x3 x4 x5 x6 : List Int} (h : SixI w B v1 v2 v3 v4 v5 v6 x1 x2 x3 x4 x5 x6) (hb : Below B w w') : SixI w' B v1 v2 v3 v4 v5 v6 x1 x2 x3 x4 x5 x6 :=
  ⟨h.1.below hb, h.2.1.below hb, h.2.2.1.below hb, h.2.2.2.1.below hb, h.2.2.2.2.1.below hb, h.2.2.2.2.2.below hb⟩
theorem SixI.mono {w : World} {B B' : Nat} {v1 v2 v3 v4 v5 v6 : Value} {x1 x2 x3 x4 x5 x6 : List Int} (h : SixI w B v1 v2 v3 v4 v5 v6 x1 x2 x3 x4 x5 x6) (hb : B ≤ B') : SixI w B' v1 v2 v3 v4 v5 v6 x1 x2 x3 x4 x5 x6 :=
  ⟨h.1.mono hb, h.2.1.mono hb, h.2.2.1.mono hb, h.2.2.2.1.mono hb, h.2.2.2.2.1.mono hb, h.2.2.2.2.2.mono hb⟩
theorem SixI.shape {w : World} {B : Nat} {v1 v2 v3 v4 v5 v6 : Value} {x1 x2 x3 x4 x5 x6 : List Int} (h : SixI w B v1 v2 v3 v4 v5 v6 x1 x2 x3 x4 x5 x6) : (∃ a c, v1 = .slice a x1.length c) ∧ (∃ a c, v2 = .slice a x2.length c) ∧ (∃ a c, v3 = .slice a x3.length c) ∧ (∃ a c, v4 = .slice a x4.length c) ∧ (∃ a c, v5 = .slice a x5.length c) ∧ (∃ a c, v6 = .slice a x6.length c) := by
  have key : ∀ {v : Value} {x : List Int}, Ints w B v x → ∃ a c, v = .slice a x.length c := fun h => by
    obtain ⟨a, c, e, _⟩ := h.1
    simp only [List.length_map] at e
    exact ⟨a, c, e⟩
  exact ⟨key h.1, key h.2.1, key h.2.2.1, key h.2.2.2.1, key h.2.2.2.2.1, key h.2.2.2.2.2⟩

theorem twoBox (w : World) (o p : Obj) : Below w.heap.size w ((w.alloc o).alloc p) := ((Below.refl _ _).alloc (Nat.le_refl _) _).alloc (by simp) _
set_option maxHeartbeats 4000000 in
/-- The same counts are the same. -/
theorem eqCnt_same (c : Int) (v1 v2 v3 v4 v5 v6 u1 u2 u3 u4 u5 u6 : Value) (x1 x2 x3 x4 x5 x6 : List Int) (B : Nat) (w : World) (h : SixI w B v1 v2 v3 v4 v5 v6 x1 x2 x3 x4 x5 x6) (h' : SixI w B u1 u2 u3 u4 u5 u6 x1 x2 x3 x4 x5 x6) (hB : B ≤ w.heap.size) :
    Calls Try.prog 16 #[.agg #[.int .i64 c, v1, v2, v3, v4, v5, v6], .agg #[.int .i64 c, u1, u2, u3, u4, u5, u6]] w fun e w' => e = .returned (.bool true) ∧ Below w.heap.size w w' := by
  have HS := hid h; have HS' := hid h'
  obtain ⟨⟨a1, c1, rfl⟩, ⟨a2, c2, rfl⟩, ⟨a3, c3, rfl⟩, ⟨a4, c4, rfl⟩, ⟨a5, c5, rfl⟩, ⟨a6, c6, rfl⟩⟩ := h.shape
  obtain ⟨⟨b1, d1, rfl⟩, ⟨b2, d2, rfl⟩, ⟨b3, d3, rfl⟩, ⟨b4, d4, rfl⟩, ⟨b5, d5, rfl⟩, ⟨b6, d6, rfl⟩⟩ := h'.shape
  clear h h'
  have hq : (c != c) = false := by simp
  have HB := hid (fun o p => twoBox w o p)
  go_enter Try.func16, Try.ntmps16
  go_wp2_with (first
    | (go_at_call 30; (with_reducible refine (eqIntS_same (.slice a1 x1.length c1) (.slice b1 x1.length d1) x1 B B _ ?_ ?_).mono ?_); (first | exact HS.out.1.below ((HB.out _ _).mono hB) | exact (HS.out.1.below ((HB.out _ _).mono hB)).below (Below.draws (Below.refl _ _) _)); (first | exact HS'.out.1.below ((HB.out _ _).mono hB) | exact (HS'.out.1.below ((HB.out _ _).mono hB)).below (Below.draws (Below.refl _ _) _)); rintro e w1 ⟨rfl, nd, rfl⟩)
    | (go_at_call 30; (with_reducible refine (eqIntS_same (.slice a2 x2.length c2) (.slice b2 x2.length d2) x2 B B _ ?_ ?_).mono ?_); (first | exact HS.out.2.1.below ((HB.out _ _).mono hB) | exact (HS.out.2.1.below ((HB.out _ _).mono hB)).below (Below.draws (Below.refl _ _) _)); (first | exact HS'.out.2.1.below ((HB.out _ _).mono hB) | exact (HS'.out.2.1.below ((HB.out _ _).mono hB)).below (Below.draws (Below.refl _ _) _)); rintro e w1 ⟨rfl, nd, rfl⟩)
    | (go_at_call 30; (with_reducible refine (eqIntS_same (.slice a3 x3.length c3) (.slice b3 x3.length d3) x3 B B _ ?_ ?_).mono ?_); (first | exact HS.out.2.2.1.below ((HB.out _ _).mono hB) | exact (HS.out.2.2.1.below ((HB.out _ _).mono hB)).below (Below.draws (Below.refl _ _) _)); (first | exact HS'.out.2.2.1.below ((HB.out _ _).mono hB) | exact (HS'.out.2.2.1.below ((HB.out _ _).mono hB)).below (Below.draws (Below.refl _ _) _)); rintro e w1 ⟨rfl, nd, rfl⟩)
    | (go_at_call 30; (with_reducible refine (eqIntS_same (.slice a4 x4.length c4) (.slice b4 x4.length d4) x4 B B _ ?_ ?_).mono ?_); (first | exact HS.out.2.2.2.1.below ((HB.out _ _).mono hB) | exact (HS.out.2.2.2.1.below ((HB.out _ _).mono hB)).below (Below.draws (Below.refl _ _) _)); (first | exact HS'.out.2.2.2.1.below ((HB.out _ _).mono hB) | exact (HS'.out.2.2.2.1.below ((HB.out _ _).mono hB)).below (Below.draws (Below.refl _ _) _)); rintro e w1 ⟨rfl, nd, rfl⟩)
    | (go_at_call 30; (with_reducible refine (eqIntS_same (.slice a5 x5.length c5) (.slice b5 x5.length d5) x5 B B _ ?_ ?_).mono ?_); (first | exact HS.out.2.2.2.2.1.below ((HB.out _ _).mono hB) | exact (HS.out.2.2.2.2.1.below ((HB.out _ _).mono hB)).below (Below.draws (Below.refl _ _) _)); (first | exact HS'.out.2.2.2.2.1.below ((HB.out _ _).mono hB) | exact (HS'.out.2.2.2.2.1.below ((HB.out _ _).mono hB)).below (Below.draws (Below.refl _ _) _)); rintro e w1 ⟨rfl, nd, rfl⟩)
    | (go_at_call 30; (with_reducible refine (eqIntS_same (.slice a6 x6.length c6) (.slice b6 x6.length d6) x6 B B _ ?_ ?_).mono ?_); (first | exact HS.out.2.2.2.2.2.below ((HB.out _ _).mono hB) | exact (HS.out.2.2.2.2.2.below ((HB.out _ _).mono hB)).below (Below.draws (Below.refl _ _) _)); (first | exact HS'.out.2.2.2.2.2.below ((HB.out _ _).mono hB) | exact (HS'.out.2.2.2.2.2.below ((HB.out _ _).mono hB)).below (Below.draws (Below.refl _ _) _)); rintro e w1 ⟨rfl, nd, rfl⟩)
    | fail)
  go_ret
  exact ⟨rfl, Below.draws (HB.out _ _) _⟩

end Go.Proofs.Ytjcpnlnajimjaaa
