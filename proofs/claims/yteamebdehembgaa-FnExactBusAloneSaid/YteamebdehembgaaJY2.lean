/-
  CycNew of the reference: a store, three ports, four stores.
-/
import Derived.Test.YteamebdehembgaaJY0
import Derived.Test.YteamebdehembgaaJDr4
import Derived.Test.YteamebdehembgaaJSa3
set_option linter.unusedVariables false
set_option linter.unusedSimpArgs false
namespace Go.Proofs.Yteamebdehembgaa
open Go.RowKit

set_option maxHeartbeats 1000000 in
theorem implMemNew_any (w : World) : Calls Try.prog 132 #[] w fun e w' => ∃ g off c, e = .returned (.agg #[.slice (some ⟨g, off, none⟩) 64 c]) ∧ Owns w' w.heap.size 3 1 rowI (.slice (some ⟨g, off, none⟩) 64 c) (List.replicate 64 0) ∧ 64 ≤ c ∧ c ≤ 9223372036854775807 ∧ Below w.heap.size w w' := by
  obtain ⟨i1, hj, jz0, jz1, jz2⟩ := info_parts infoI
  go_enter Try.func132, Try.ntmps132
  go_wp2_with (at_make; go_must (refine wpList_make_full _ rfl _ _ 24 rfl (w.heap.size + 1) 3 i1 (.int .i64 0) 1 Try.underlying24 hj jz0 jz1 _ _ _ _ 64 rfl rfl rfl rfl (by rw [jz2]; omega) (by unfold maxLen; omega) (by simp) ?_); intro w1 hown hgrow; have hbx := (show Below (w.heap.size + 1) (w.alloc (.cells #[.slice none 0 0] 38)) w1 from (Below.refl _ _).grown hgrow (by simp) (by simp)); have d0 : w1.cell? ⟨w.heap.size, 0, none⟩ = some (.slice none 0 0) := (by rw [hbx.cell (p := ⟨w.heap.size, 0, none⟩) (by simp)]; simp [go_sem]); have d1 : w1.frozen? ⟨w.heap.size, 0, none⟩ = false := (by rw [hbx.frozen (p := ⟨w.heap.size, 0, none⟩) (by simp)]; simp [go_sem]))
  rw [show madeCells (Value.int .i64 0).cells (64 * 1) = madeCells #[.int .i64 0] 64 by rfl, toList_madeCells_one] at hown
  have HO := hid (owns_made hown)
  simp only [World.size_alloc] at HO
  have HB := hid hbx
  clear hown hgrow hbx
  go_wp2_with fail
  refine bodyPost_ret (v := .agg #[.slice (some ⟨w.heap.size + 1, 0, none⟩) 64 64]) (by simp [results, Try.results132, go_sem, d0]) rfl ⟨_, _, _, rfl, ?_, by omega, by omega, ?_⟩
  · exact (HO.out.rebase (by omega)).set' _ _ _ (fun k hk => by have := (OwnR.lt HO.out k hk).1; omega)
  · exact (((Below.refl _ _).alloc (Nat.le_refl _) _).trans (HB.out.mono (by omega))).setCell (by simp) _

/-- A new store: its words, and what is held, each in new blocks. -/
def AtmNewW (w : World) (e : Ending) (w' : World) : Prop :=
  ∃ wa wc g ga go gc, e = .returned (.agg #[.slice (some ⟨g, wa, none⟩) 64 wc, .slice (some ⟨ga, go, none⟩) 6 gc]) ∧ Owns w' w.heap.size 3 1 rowI (.slice (some ⟨g, wa, none⟩) 64 wc) (List.replicate 64 0) ∧ Owns w' w.heap.size 3 1 rowI (.slice (some ⟨ga, go, none⟩) 6 gc) (List.replicate 6 (-1)) ∧
    6 ≤ gc ∧ gc ≤ 9223372036854775807 ∧ Apart (.slice (some ⟨g, wa, none⟩) 64 wc) (.slice (some ⟨ga, go, none⟩) 6 gc) ∧ Below w.heap.size w w'
set_option maxHeartbeats 4000000 in
theorem specAtmNewW_any (w : World) : Calls Try.prog 76 #[] w (AtmNewW w) := by
  go_enter Try.func76, Try.ntmps76
  go_wp2_with (first
    | (go_at_call 131; refine (memNew_any _).mono ?_; rintro e w1 ⟨g, off, c, rfl, hown, hc1, hc2, hb⟩; have hz1 := hb.size; simp only [World.size_alloc] at hz1; have d0 : w1.cell? ⟨w.heap.size, 0, none⟩ = some (.slice none 0 0) := (by rw [hb.cell (p := ⟨w.heap.size, 0, none⟩) (by simp)]; simp [go_sem]); have d1 : w1.frozen? ⟨w.heap.size, 0, none⟩ = false := (by rw [hb.frozen (p := ⟨w.heap.size, 0, none⟩) (by simp)]; simp [go_sem]); have d2 : w1.cell? ⟨w.heap.size, 1, none⟩ = some (.slice none 0 0) := (by rw [hb.cell (p := ⟨w.heap.size, 1, none⟩) (by simp)]; simp [go_sem]); have d3 : w1.frozen? ⟨w.heap.size, 1, none⟩ = false := (by rw [hb.frozen (p := ⟨w.heap.size, 1, none⟩) (by simp)]; simp [go_sem])))
  have HWD := hid hown; have HWL := hid (OwnR.lt hown)
  have HAB := hid (AB.fresh d0 d2 d1 d3 (by omega) (.slice (some ⟨g, off, none⟩) 64 c) (.slice none 0 0) 40)
  have HB := hid (show Below w.heap.size w w1 from ((Below.refl _ _).alloc (Nat.le_refl _) _).trans (hb.mono (by simp)))
  obtain ⟨gs, hgs⟩ : ∃ gs, gs = w1.heap.size := ⟨_, rfl⟩
  obtain ⟨W2, hW2⟩ : ∃ W2, W2 = w1.alloc (.cells #[.slice (some ⟨g, off, none⟩) 64 c, .slice none 0 0] 40) := ⟨_, rfl⟩
  rw [← hW2, ← hgs] at HAB
  have HB2 := hid (show Below w.heap.size w1 W2 by rw [hW2]; exact (Below.refl _ _).alloc (by omega) _)
  have HB2' := hid (show Below w1.heap.size w1 W2 by rw [hW2]; exact bx1 _ _)
  have hz2 : W2.heap.size = gs + 1 := by rw [hW2, hgs]; simp
  rw [← hW2, ← hgs]
  have hgs2 : w.heap.size + 1 ≤ gs := by omega
  have HGS := hid hgs
  clear hown hb hW2 hgs hz1 d0 d1 d2 d3
  go_loopw [2] (fun i wr => ∃ (k : Nat) (u : Value), i = .int .i64 k ∧ k ≤ 6 ∧ Owns wr (gs + 1) 3 1 rowI u (List.replicate k (-1 : Int)) ∧ Below gs W2 wr ∧ AB wr w.heap.size gs (.slice none 0 0) (.slice none 0 0) (.slice (some ⟨g, off, none⟩) 64 c) u) (fun i _ => 6 - (intOf i).toNat)
  case atStart => exact ⟨0, _, rfl, by omega, Owns.zero, Below.refl _ _, HAB.out⟩
  case round =>
    clear HAB
    obtain ⟨k, u, rfl, hk6, hown, hbl, hab⟩ := hrel
    have HOW := hid hown; have HBL := hid hbl; have HAB := hid hab
    obtain ⟨q0, q1, q2, q3, e0, e1, e2, e3, hgl2, hsl⟩ := hab
    have hrep := hid (show List.replicate k (-1 : Int) ++ [-1] = List.replicate (k + 1) (-1) from by rw [List.replicate_succ'])
    have hlr := hid (show (List.replicate k (-1 : Int)).length = k from by simp)
    clear hown hbl
    by_cases hlt : k < 6
    · go_wp2_with (at_builtin; go_must (refine wpList_push elem_int rowI rowI_len rowI_one wr rfl _ _ rfl (gs + 1) _ _ (-1) (by rfl) HOW.out _ (by rfl) (by rfl) (by rw [hlr.out]; omega) (by rw [hlr.out]; omega) (by omega) ?_); intro v' w3 hown1 hb1; rw [hrep.out] at hown1; obtain ⟨va, vc, hv', hvc1, hvc2⟩ := hown1.shape; rw [List.length_replicate] at hv'; subst hv'; have HAB3 := hid (HAB.out.below hb1 (by omega) (by omega)); obtain ⟨q0, q1, q2, q3, e0, e1, e2, e3, hgl3, hsl3⟩ := HAB3.out; have HO1 := hid hown1; have HB1 := hid hb1; clear hown1 hb1)
      go_roundw
      case rel => exact ⟨k + 1, _, by go_num, by omega, HO1.out.set gs 1 _ (by omega), (HBL.out.trans (HB1.out.mono (by omega))).setCell (by exact Nat.le_refl _) _, HAB3.out.setB _ (by omega)⟩
      case measure => simp [intOf]; omega
    · obtain rfl : k = 6 := by omega
      obtain ⟨ga, go, gc, rfl, hc1, hc2, hg1, hg2⟩ := HOW.out.someR (by simp)
      simp only [List.length_replicate] at hc1
      go_wp2_with fail
      refine bodyPost_ret (results_c1 Try.results76 _ _ ⟨w.heap.size, 0, none⟩ (.agg #[.slice (some ⟨g, off, none⟩) 64 c, .slice (some ⟨ga, go, none⟩) 6 gc]) rfl (loadVar_atm _ _ _ _ (by simp [go_sem, *]) (by simp [go_sem, *]))) rfl ⟨_, _, _, _, _, _, rfl, ?_, ?_, hc1, hc2, fun k hk hk2 => ?_, ?_⟩
      · have X : Owns wr w.heap.size 3 1 rowI (.slice (some ⟨g, off, none⟩) 64 c) (List.replicate 64 0) := ((OwnR.below (HWD.out.below (HB2'.out)) HBL.out (fun k hk => by have := (HWL.out k hk).2; have := HGS.out; omega))).rebase (by simp)
        have hl := fun k hk => (HWL.out k hk).1
        repeat (first | with_reducible exact X | with_reducible refine Owns.set' ?_ _ _ _ (fun j hj => by have := hl j hj; simp at this; omega))
      · have X := HOW.out.rebase (show w.heap.size ≤ gs + 1 by omega)
        simp only [List.length_replicate] at X
        repeat (first | with_reducible exact X | with_reducible refine Owns.set' ?_ _ _ _ (fun j hj => by simp [Value.ownBlock] at hj; omega))
      · have h1 := (HWL.out k hk).2; have h2 := (OwnR.lt HOW.out k hk2).1; have := HGS.out; omega
      · exact (((HB.out.trans HB2.out).trans (HBL.out.mono (by omega))).setCell (by exact Nat.le_refl _) _).setCell (by exact Nat.le_refl _) _

set_option maxHeartbeats 4000000 in
theorem implAtmNewW_any (w : World) : Calls Try.prog 77 #[] w (AtmNewW w) := by
  go_enter Try.func77, Try.ntmps77
  go_wp2_with fail
  refine (implMemNew_any _).mono ?_
  rintro e w1 ⟨g, off, c, rfl, hown, hc1, hc2, hb⟩
  have HB1 := hid ((bx1 w _).trans (hb.mono (by simp)))
  have HO := hid hown
  have d0 : w1.cell? ⟨w.heap.size, 0, none⟩ = some (.slice none 0 0) := by rw [hb.cell (p := ⟨w.heap.size, 0, none⟩) (by simp)]; simp [go_sem]
  have d1 : w1.cell? ⟨w.heap.size, 1, none⟩ = some (.slice none 0 0) := by rw [hb.cell (p := ⟨w.heap.size, 1, none⟩) (by simp)]; simp [go_sem]
  have f0 : w1.frozen? ⟨w.heap.size, 0, none⟩ = false := by rw [hb.frozen (p := ⟨w.heap.size, 0, none⟩) (by simp)]; simp [go_sem]
  have f1 : w1.frozen? ⟨w.heap.size, 1, none⟩ = false := by rw [hb.frozen (p := ⟨w.heap.size, 1, none⟩) (by simp)]; simp [go_sem]
  have hz1 : w.heap.size < w1.heap.size := World.block_lt_of_cell? w1 _ d0
  clear hown hb
  go_wp2_with fail
  refine (repeat6_any (-1) w1.heap.size 0 _ (by simp [go_sem])).mono ?_
  rintro e w2 ⟨rfl, ho2, hb2⟩
  simp only [World.size_alloc] at ho2 hb2 ⊢
  have HB2 := hid ((bx1 w1 _).trans (hb2.mono (by omega)))
  have HO2 := hid ho2
  have e0 : w2.cell? ⟨w.heap.size, 0, none⟩ = some (.slice none 0 0) := by rw [HB2.out.cell (p := ⟨w.heap.size, 0, none⟩) hz1]; exact d0
  have e1 : w2.cell? ⟨w.heap.size, 1, none⟩ = some (.slice none 0 0) := by rw [HB2.out.cell (p := ⟨w.heap.size, 1, none⟩) hz1]; exact d1
  have g0 : w2.frozen? ⟨w.heap.size, 0, none⟩ = false := by rw [HB2.out.frozen (p := ⟨w.heap.size, 0, none⟩) hz1]; exact f0
  have g1 : w2.frozen? ⟨w.heap.size, 1, none⟩ = false := by rw [HB2.out.frozen (p := ⟨w.heap.size, 1, none⟩) hz1]; exact f1
  have hz2 : w.heap.size < w2.heap.size := World.block_lt_of_cell? w2 _ e0
  clear ho2 hb2 d0 d1 f0 f1
  go_wp2_with fail
  refine bodyPost_ret (results_c1 Try.results77 _ _ ⟨w.heap.size, 0, none⟩ (.agg #[.slice (some ⟨g, off, none⟩) 64 c, .slice (some ⟨w1.heap.size + 1, 0, none⟩) 6 6]) rfl (loadVar_atm _ _ _ _ (by simp [go_sem, *]) (by simp [go_sem, *]))) rfl ⟨_, _, _, _, _, _, rfl, ?_, ?_, by omega, by omega, fun k hk hk2 => ?_, ?_⟩
  · have X := (HO.out.below HB2.out).rebase (show w.heap.size ≤ _ by simp)
    have hl := fun k hk => (OwnR.lt HO.out k hk).1
    repeat (first | with_reducible exact X | with_reducible refine Owns.set' ?_ _ _ _ (fun j hj => by have := hl j hj; simp at this; omega))
  · have X := HO2.out.rebase (show w.heap.size ≤ _ by omega)
    repeat (first | with_reducible exact X | with_reducible refine Owns.set' ?_ _ _ _ (fun j hj => by simp [Value.ownBlock] at hj; omega))
  · have h1 := (OwnR.lt HO.out k hk).2; simp only [Value.ownBlock, Option.some.injEq] at hk2; omega
  · exact ((HB1.out.trans (HB2.out.mono (by omega))).setCell (by exact Nat.le_refl _) _).setCell (by exact Nat.le_refl _) _

end Go.Proofs.Yteamebdehembgaa

namespace Go.Proofs.Yteamebdehembgaa
open Go.RowKit

abbrev vnil : Value := .slice none 0 0
def rowP (x : Int × Int) : List Value := [.int .i64 x.1, vnil, vnil, .int .i64 x.2]
def rowS (x : Int) : List Value := [vnil, vnil, .int .i64 x]
theorem rowP_len (x : Int × Int) : (rowP x).length = 4 := rfl
theorem rowS_len (x : Int) : (rowS x).length = 3 := rfl
theorem rowP_one (x : Int × Int) : ∀ u ∈ rowP x, u.oneCell' = true := by
  intro u hu; simp only [rowP, List.mem_cons, List.not_mem_nil, or_false] at hu; rcases hu with rfl | rfl | rfl | rfl <;> rfl
theorem rowS_one (x : Int) : ∀ u ∈ rowS x, u.oneCell' = true := by
  intro u hu; simp only [rowS, List.mem_cons, List.not_mem_nil, or_false] at hu; rcases hu with rfl | rfl | rfl <;> rfl
theorem elem_portY : Elem 41 116 4 64 := elem_of Try.underlying41 (z := .agg #[.int .i64 0, .slice none 0 0, .slice none 0 0, .int .i64 0]) (by kernel_rfl) rfl (by omega)
theorem elem_slaveY : Elem 42 118 3 56 := elem_of Try.underlying42 (z := .agg #[.slice none 0 0, .slice none 0 0, .int .i64 0]) (by kernel_rfl) rfl (by omega)

/-- A bus of which nothing was asked: what it owns. -/
structure CyO (W : World) (lo : Nat) (a b p s : Value) (xs ys : List Int) (ps : List (Int × Int)) (ss : List Int) : Prop where
  oa : Owns W lo 3 1 rowI a xs
  ob : Owns W lo 3 1 rowI b ys
  op : Owns W lo 116 4 rowP p ps
  os : Owns W lo 118 3 rowS s ss
  dab : Apart a b
  dap : Apart a p
  das : Apart a s
  dbp : Apart b p
  dbs : Apart b s
  dps : Apart p s
theorem CyO.kept {W W' : World} {lo : Nat} {a b p s : Value} {xs ys : List Int} {ps : List (Int × Int)} {ss : List Int} (h : CyO W lo a b p s xs ys ps ss) (hk : ∀ k, lo ≤ k → k < W.heap.size → W'.heap[k]? = W.heap[k]?) : CyO W' lo a b p s xs ys ps ss :=
  { h with oa := OwnR.kept h.oa fun k hk2 => hk k (OwnR.lt h.oa k hk2).1 (OwnR.lt h.oa k hk2).2
           ob := OwnR.kept h.ob fun k hk2 => hk k (OwnR.lt h.ob k hk2).1 (OwnR.lt h.ob k hk2).2
           op := OwnR.kept h.op fun k hk2 => hk k (OwnR.lt h.op k hk2).1 (OwnR.lt h.op k hk2).2
           os := OwnR.kept h.os fun k hk2 => hk k (OwnR.lt h.os k hk2).1 (OwnR.lt h.os k hk2).2 }
theorem CyO.below {W W' : World} {lo : Nat} {a b p s : Value} {xs ys : List Int} {ps : List (Int × Int)} {ss : List Int} (h : CyO W lo a b p s xs ys ps ss) (hb : Below W.heap.size W W') : CyO W' lo a b p s xs ys ps ss := h.kept fun k _ hk => hb.block k hk
theorem CyO.rebase {W : World} {lo lo' : Nat} {a b p s : Value} {xs ys : List Int} {ps : List (Int × Int)} {ss : List Int} (h : CyO W lo a b p s xs ys ps ss) (hl : lo' ≤ lo) : CyO W lo' a b p s xs ys ps ss :=
  { h with oa := OwnR.rebase h.oa hl, ob := OwnR.rebase h.ob hl, op := OwnR.rebase h.op hl, os := OwnR.rebase h.os hl }
abbrev z64 : List Int := List.replicate 64 0
abbrev z6 : List Int := List.replicate 6 (-1)
abbrev z3 : List (Int × Int) := List.replicate 3 (0, 3)
abbrev z4 : List Int := List.replicate 4 2
def CyNewP (w : World) (e : Ending) (w' : World) : Prop := ∃ a b p s, e = .returned (.agg #[a, b, p, s, vnil]) ∧ CyO w' w.heap.size a b p s z64 z6 z3 z4 ∧ Below w.heap.size w w'
theorem Bx.five {W : World} {H : Nat} {a b c d e : Value} (h : Bx W H [a, b, c, d, e]) : (W.cell? ⟨H, 0, none⟩ = some a ∧ W.cell? ⟨H, 1, none⟩ = some b ∧ W.cell? ⟨H, 2, none⟩ = some c ∧ W.cell? ⟨H, 3, none⟩ = some d ∧ W.cell? ⟨H, 4, none⟩ = some e) ∧ W.frozen? ⟨H, 0, none⟩ = false ∧ W.frozen? ⟨H, 1, none⟩ = false ∧ W.frozen? ⟨H, 2, none⟩ = false ∧ W.frozen? ⟨H, 3, none⟩ = false ∧ W.frozen? ⟨H, 4, none⟩ = false :=
  ⟨⟨h.c 0 (by simp), h.c 1 (by simp), h.c 2 (by simp), h.c 3 (by simp), h.c 4 (by simp)⟩, h.f 0 (by simp), h.f 1 (by simp), h.f 2 (by simp), h.f 3 (by simp), h.f 4 (by simp)⟩
theorem loadVar_cyc (w : World) (g : Nat) (a b c d e : Value) (h0 : w.cell? ⟨g, 0, none⟩ = some a) (h1 : w.cell? ⟨g, 1, none⟩ = some b) (h2 : w.cell? ⟨g, 2, none⟩ = some c) (h3 : w.cell? ⟨g, 3, none⟩ = some d) (h4 : w.cell? ⟨g, 4, none⟩ = some e) : (loadVar 45 ⟨g, 0, none⟩).run Try.prog w = .ok (.agg #[a, b, c, d, e]) w := by
  simp [loadVar, go_sem, h0, h1, h2, h3, h4]

set_option maxRecDepth 8000 in
set_option maxHeartbeats 8000000 in
theorem specCycNew_any (w : World) : Calls Try.prog 16 #[] w (CyNewP w) := by
  go_enter Try.func16, Try.ntmps16
  go_wp2_with fail
  refine (specAtmNewW_any _).mono ?_
  rintro e w1 ⟨wa, wc, g, ga, go, gc, rfl, o1, o2, _, _, hap, hb⟩
  have HR := hid ((Bx.new w #[vnil, vnil, vnil, vnil, vnil] 45 (by simp)).below hb (by simp))
  have HB1 := hid ((bx1 w _).trans (hb.mono (by simp)))
  have O1 := hid o1; have O2 := hid o2; have AP := hid hap
  clear o1 o2 hap hb
  obtain ⟨⟨r0, r1, r2, r3, r4⟩, f0, f1, f2, f3, f4⟩ := HR.out.five
  have hz1 := HR.out.lt
  go_wp2_with fail
  clear r0 r1 r2 r3 r4 f0 f1 f2 f3 f4
  obtain ⟨W2, hW2⟩ : ∃ W2, W2 = w1.alloc (.cells #[.slice (some ⟨g, wa, none⟩) 64 wc, .slice (some ⟨ga, go, none⟩) 6 gc, .slice none 0 0, .slice none 0 0, .slice none 0 0] 45) := ⟨_, rfl⟩
  rw [← hW2]
  have hb2 : Below w1.heap.size w1 W2 := by rw [hW2]; exact bx1 _ _
  have hz2 : W2.heap.size = w1.heap.size + 1 := by rw [hW2]; simp
  have HS := hid (show Bx W2 w1.heap.size [.slice (some ⟨g, wa, none⟩) 64 wc, .slice (some ⟨ga, go, none⟩) 6 gc, vnil, vnil, vnil] by rw [hW2]; exact Bx.new w1 #[.slice (some ⟨g, wa, none⟩) 64 wc, .slice (some ⟨ga, go, none⟩) 6 gc, vnil, vnil, vnil] _ (by simp))
  have HR2 := hid (HR.out.below hb2 hz1)
  have HB2 := hid hb2
  have HZ2 := hid hz2
  clear hW2 hb2 HR hz2
  go_loopw [2] (fun i wr => ∃ (k : Nat) (u : Value), i = .int .i64 k ∧ k ≤ 3 ∧ Owns wr (w1.heap.size + 1) 116 4 rowP u (List.replicate k ((0, 3) : Int × Int)) ∧ Below w1.heap.size W2 wr ∧ Bx wr w.heap.size [vnil, vnil, vnil, vnil, vnil] ∧ Bx wr w1.heap.size [.slice (some ⟨g, wa, none⟩) 64 wc, .slice (some ⟨ga, go, none⟩) 6 gc, u, vnil, vnil] ∧ w1.heap.size + 1 ≤ wr.heap.size) (fun i _ => 3 - (intOf i).toNat)
  case atStart => exact ⟨0, _, rfl, by omega, Owns.zero, Below.refl _ _, HR2.out, HS.out, by have := HZ2.out; omega⟩
  case round =>
    clear HS HR2
    obtain ⟨k, u, rfl, hk3, hown, hbl, hr, hs, hsz⟩ := hrel
    have HOW := hid hown; have HBL := hid hbl; have HR := hid hr; have HS := hid hs; have HSZ := hid hsz
    clear hown hbl hr hs hsz
    have hrep := hid (show List.replicate k ((0, 3) : Int × Int) ++ [(0, 3)] = List.replicate (k + 1) (0, 3) from by rw [List.replicate_succ'])
    have hlr := hid (show (List.replicate k ((0, 3) : Int × Int)).length = k from by simp)
    obtain ⟨⟨s0, s1, s2, s3, s4⟩, e0, e1, e2, e3, e4⟩ := HS.out.five
    have hsl := HS.out.lt
    by_cases hlt : k < 3
    · go_wp2_with (at_builtin; go_must (refine wpList_push elem_portY rowP rowP_len rowP_one wr rfl _ _ rfl (w1.heap.size + 1) _ _ (0, 3) (by rfl) HOW.out _ (by rfl) (by rfl) (by rw [hlr.out]; omega) (by rw [hlr.out]; omega) HSZ.out ?_); intro v' w3 hown1 hb1; rw [hrep.out] at hown1; obtain ⟨va, vc, hv', hvc1, hvc2⟩ := hown1.shape; rw [List.length_replicate] at hv'; subst hv'; have HS3 := hid (HS.out.below hb1 (by omega)); have HR3 := hid (HR.out.below hb1 (by omega)); obtain ⟨⟨s0, s1, s2, s3, s4⟩, e0, e1, e2, e3, e4⟩ := HS3.out.five; have hsl3 := HS3.out.lt; have HO1 := hid hown1; have HB1' := hid hb1; clear hown1 hb1)
      go_roundw
      case rel => exact ⟨k + 1, _, by go_num, by omega, HO1.out.set' _ _ _ (fun j hj => by have := (OwnR.lt HO1.out j hj).1; omega), (HBL.out.trans (HB1'.out.mono (by omega))).setCell (by exact Nat.le_refl _) _, HR3.out.kept (Below.heap_setCell _ _ _ _ (by show w.heap.size ≠ w1.heap.size; omega)), HS3.out.set 2 (by simp) _, by have := HB1'.out.size; have := HSZ.out; simp [World.setCell]; omega⟩
      case measure => simp [intOf]; omega
    · obtain rfl : k = 3 := by omega
      go_wp2_with fail
      obtain ⟨wo, hwo⟩ : ∃ W, W = wr := ⟨_, rfl⟩
      subst hwo
      have hz3 : w1.heap.size < wo.heap.size := hsl
      clear s0 s1 s2 s3 s4 e0 e1 e2 e3 e4
      have hc3 : ((3 : Nat) : Int) = 3 := rfl
      simp only [hc3]
      clear hc3
      go_loopw [3] (fun i wx => ∃ (k : Nat) (v : Value), i = .int .i64 k ∧ k ≤ 4 ∧ Owns wx wo.heap.size 118 3 rowS v (List.replicate k (2 : Int)) ∧ Owns wx (w1.heap.size + 1) 116 4 rowP u (List.replicate 3 ((0, 3) : Int × Int)) ∧ Below w1.heap.size W2 wx ∧ Bx wx w.heap.size [vnil, vnil, vnil, vnil, vnil] ∧ Bx wx w1.heap.size [.slice (some ⟨g, wa, none⟩) 64 wc, .slice (some ⟨ga, go, none⟩) 6 gc, u, v, vnil] ∧ wo.heap.size ≤ wx.heap.size) (fun i _ => 4 - (intOf i).toNat)
      case atStart => exact ⟨0, _, rfl, by omega, Owns.zero, HOW.out, HBL.out, HR.out, HS.out, Nat.le_refl _⟩
      case round =>
        have hul := hid (fun j hj => (OwnR.lt HOW.out j hj).2)
        clear HBL HR HS
        obtain ⟨k, v, rfl, hk4, hown, hop, hbl, hr, hs, hsz⟩ := hrel
        have HOS := hid hown; have HOP := hid hop; have HBL := hid hbl; have HR := hid hr; have HS := hid hs; have HSZ2 := hid hsz
        clear hown hop hbl hr hs hsz
        have hrep := hid (show List.replicate k (2 : Int) ++ [2] = List.replicate (k + 1) 2 from by rw [List.replicate_succ'])
        have hlr := hid (show (List.replicate k (2 : Int)).length = k from by simp)
        obtain ⟨⟨s0, s1, s2, s3, s4⟩, e0, e1, e2, e3, e4⟩ := HS.out.five
        have hsl := HS.out.lt
        by_cases hlt4 : k < 4
        · have hle3 : (k : Int) ≤ 3 := by omega
          go_wp2_with (at_builtin; go_must (refine wpList_push elem_slaveY rowS rowS_len rowS_one _ rfl _ _ rfl wo.heap.size _ _ 2 (by rfl) HOS.out _ (by rfl) (by rfl) (by rw [hlr.out]; omega) (by rw [hlr.out]; omega) HSZ2.out ?_); intro v' w3 hown1 hb1; rw [hrep.out] at hown1; obtain ⟨va, vc, hv', hvc1, hvc2⟩ := hown1.shape; rw [List.length_replicate] at hv'; subst hv'; have HS3 := hid (HS.out.below hb1 (by omega)); have HR3 := hid (HR.out.below hb1 (by omega)); have HOP3 := hid (OwnR.below HOP.out hb1 (fun j hj => hul.out j hj)); obtain ⟨⟨s0, s1, s2, s3, s4⟩, e0, e1, e2, e3, e4⟩ := HS3.out.five; have hsl3 := HS3.out.lt; have HO1 := hid hown1; have HB1' := hid hb1; clear hown1 hb1)
          go_roundw
          case rel => exact ⟨k + 1, _, by go_num, by omega, HO1.out.set' _ _ _ (fun j hj => by have := (OwnR.lt HO1.out j hj).1; omega), Owns.set' HOP3.out _ _ _ (fun j hj => by have := (OwnR.lt HOP3.out j hj).1; omega), (HBL.out.trans (HB1'.out.mono (by omega))).setCell (by exact Nat.le_refl _) _, HR3.out.kept (Below.heap_setCell _ _ _ _ (by show w.heap.size ≠ w1.heap.size; omega)), HS3.out.set 3 (by simp) _, by have := HB1'.out.size; have := HSZ2.out; simp [World.setCell]; omega⟩
          case measure => simp [intOf]; omega
        · obtain rfl : k = 4 := by omega
          obtain ⟨⟨r0, r1, r2, r3, r4⟩, f0, f1, f2, f3, f4⟩ := HR.out.five
          have hrl := HR.out.lt
          obtain ⟨pa, pc, rfl, _, _⟩ := HOP.out.shape
          obtain ⟨sa, sc, rfl, _, _⟩ := HOS.out.shape
          simp only [List.length_replicate] at *
          have O1W := hid (OwnR.below (O1.out.below HB2.out) HBL.out (fun j hj => (OwnR.lt O1.out j hj).2))
          have O2W := hid (OwnR.below (O2.out.below HB2.out) HBL.out (fun j hj => (OwnR.lt O2.out j hj).2))
          go_wp2_with fail
          refine bodyPost_ret (results_c1 Try.results16 _ _ ⟨w.heap.size, 0, none⟩ (.agg #[.slice (some ⟨g, wa, none⟩) 64 wc, .slice (some ⟨ga, go, none⟩) 6 gc, .slice pa 3 pc, .slice sa 4 sc, vnil]) rfl (loadVar_cyc _ _ _ _ _ _ _ (by simp [go_sem, *]) (by simp [go_sem, *]) (by simp [go_sem, *]) (by simp [go_sem, *]) (by simp [go_sem, *]))) rfl ⟨_, _, _, _, rfl, ?_, ?_⟩
          · have hg1 : ∀ j, (Value.slice (some ⟨g, wa, none⟩) 64 wc).ownBlock = some j → w.heap.size + 1 ≤ j ∧ j < w1.heap.size := fun j hj => by have := OwnR.lt O1.out j hj; simpa using this
            have hg2 : ∀ j, (Value.slice (some ⟨ga, go, none⟩) 6 gc).ownBlock = some j → w.heap.size + 1 ≤ j ∧ j < w1.heap.size := fun j hj => by have := OwnR.lt O2.out j hj; simpa using this
            have hg3 : ∀ j, (Value.slice pa 3 pc).ownBlock = some j → w1.heap.size + 1 ≤ j ∧ j < wo.heap.size := fun j hj => ⟨(OwnR.lt HOP.out j hj).1, hul.out j hj⟩
            have hg4 : ∀ j, (Value.slice sa 4 sc).ownBlock = some j → wo.heap.size ≤ j := fun j hj => (OwnR.lt HOS.out j hj).1
            refine ⟨?_, ?_, ?_, ?_, AP.out, ?_, ?_, ?_, ?_, ?_⟩
            · have X := OwnR.rebase O1W.out (show w.heap.size ≤ _ by simp)
              repeat (with_reducible refine Owns.set' ?_ _ _ _ (fun j hj => by have := hg1 j hj; omega))
              exact X
            · have X := OwnR.rebase O2W.out (show w.heap.size ≤ _ by simp)
              repeat (with_reducible refine Owns.set' ?_ _ _ _ (fun j hj => by have := hg2 j hj; omega))
              exact X
            · have X := OwnR.rebase HOP.out (show w.heap.size ≤ w1.heap.size + 1 by omega)
              repeat (with_reducible refine Owns.set' ?_ _ _ _ (fun j hj => by have := hg3 j hj; omega))
              exact X
            · have X := OwnR.rebase HOS.out (show w.heap.size ≤ wo.heap.size by omega)
              repeat (with_reducible refine Owns.set' ?_ _ _ _ (fun j hj => by have := hg4 j hj; omega))
              exact X
            · exact Apart.of_lt (m := w1.heap.size) (fun j hj => (hg1 j hj).2) (fun j hj => by have := hg3 j hj; omega)
            · exact Apart.of_lt (m := w1.heap.size) (fun j hj => (hg1 j hj).2) (fun j hj => by have := hg4 j hj; omega)
            · exact Apart.of_lt (m := w1.heap.size) (fun j hj => (hg2 j hj).2) (fun j hj => by have := hg3 j hj; omega)
            · exact Apart.of_lt (m := w1.heap.size) (fun j hj => (hg2 j hj).2) (fun j hj => by have := hg4 j hj; omega)
            · exact Apart.of_lt (m := wo.heap.size) (fun j hj => (hg3 j hj).2) (fun j hj => hg4 j hj)
          · have hbE : Below w.heap.size w _ := (HB1.out.trans (HB2.out.mono (by omega))).trans (HBL.out.mono (by omega))
            exact ((((hbE.setCell (by exact Nat.le_refl _) _).setCell (by exact Nat.le_refl _) _).setCell (by exact Nat.le_refl _) _).setCell (by exact Nat.le_refl _) _).setCell (by exact Nat.le_refl _) _

end Go.Proofs.Yteamebdehembgaa
