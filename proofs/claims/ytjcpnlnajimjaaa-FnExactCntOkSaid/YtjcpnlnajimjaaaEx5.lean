/-
  Counts made new of the reference: its region draws its order, by an invariant; the law FnExactCntNew.
-/
import Derived.Test.YtjcpnlnajimjaaaEx4
import Derived.OwnWalk
namespace Go.Proofs.Ytjcpnlnajimjaaa
open Go.ChangeShapes Go.WideShapes Go.ChangeAt Go.RowKit

theorem wp_make {P : Program} {w : World} {o : Oper} {a : Act} {K : Act → World → Prop} {Q : Exit → Act → World → Prop} (l c : Operand) (t : TypeId) (hop : o.op = Op.makeSlice t l c)
    (base : Nat) (e : TypeId) (i : TypeInfo) (z : Value) (size : Nat) (h1 : P.underlying t = some (.slice e)) (h2 : P.info? e = some i) (h3 : i.zero = some z) (h4 : i.size = size)
    (kl kc : IntKind) (L C : Int) (n : Nat) (hl : a.eval l = .int kl L) (hc : a.eval c = .int kc C) (hL : L = (n : Int)) (hC : C = (n : Int)) (b2 : i.bytes * n ≤ 281474976710656) (b3 : n ≤ maxLen) (b4 : base ≤ w.heap.size)
    (hK : ∀ w', w'.ownsRow base e size (.slice (some ⟨w.heap.size, 0, none⟩) n n) n (madeCells z.cells (n * size)).toList → w.grownBy w' none → K (a.put o.dst (.slice (some ⟨w.heap.size, 0, none⟩) n n)) w') : o.wp P a w K Q := by
  obtain ⟨w', hrun, r1, r2⟩ := run_make_full (P := P) w base t e i z size h1 h2 h3 h4 kl kc n b2 b3 b4
  subst hL
  subst hC
  unfold Oper.wp
  simp [execOp, hop, hl, hc, hrun, Result.andThen]
  exact hK w' r1 r2

def nn (j : Nat) : Nat := if j < 3 then 3 else 4
def CellsAt (w : World) (H : Nat) (cs : List Value) : Prop := ∀ j, j < 7 → w.cell? ⟨H, j, none⟩ = cs[j]?
structure CntI (H : Nat) (w0 : World) (listed : Array Bool) (a : Act) (w' : World) : Prop where
  s : ∀ j, j < 6 → listed.getD j false = true → ∃ g c, a.tmps.getD (j + 1) undef = .slice (some ⟨g, 0, none⟩) (nn j) c ∧ H < g ∧ Ints w' w'.heap.size (.slice (some ⟨g, 0, none⟩) (nn j) c) (List.replicate (nn j) 0)
  b : listed.getD 6 false = true → a.tmps.getD 7 undef = .agg #[.int .i64 0, a.tmps.getD 1 undef, a.tmps.getD 2 undef, a.tmps.getD 3 undef, a.tmps.getD 4 undef, a.tmps.getD 5 undef, a.tmps.getD 6 undef] ∧ ∀ j, j < 6 → listed.getD j false = true
  t : listed.getD 7 false = true → listed.getD 6 false = true ∧ CellsAt w' H [.int .i64 0, a.tmps.getD 1 undef, a.tmps.getD 2 undef, a.tmps.getD 3 undef, a.tmps.getD 4 undef, a.tmps.getD 5 undef, a.tmps.getD 6 undef]
  u : listed.getD 7 false = false → CellsAt w' H [.int .i64 0, .slice none 0 0, .slice none 0 0, .slice none 0 0, .slice none 0 0, .slice none 0 0, .slice none 0 0]
  f : ∀ j, j < 7 → w'.frozen? ⟨H, j, none⟩ = false
  p : a.tmps.getD 0 undef = .pointer (some ⟨H, 0, none⟩)
  z : a.tmps.size = 8
  d : a.defers = []
  w : Below H w0 w'
  l : H < w'.heap.size

def SpecCntP (w : World) (e : Ending) (w' : World) : Prop :=
  ∃ v1 v2 v3 v4 v5 v6, e = .returned (.agg #[.int .i64 0, v1, v2, v3, v4, v5, v6]) ∧ SixI w' w'.heap.size v1 v2 v3 v4 v5 v6 (List.replicate 3 0) (List.replicate 3 0) (List.replicate 3 0) (List.replicate 4 0) (List.replicate 4 0) (List.replicate 4 0) ∧ Below w.heap.size w w'

theorem sget_ne {l : Array Bool} {i j : Nat} (h : i ≠ j) : (l.setIfInBounds i true).getD j false = l.getD j false := Go.getD_set_ne false h
theorem tget_ne {l : Array Value} {i j : Nat} {v d : Value} (h : i ≠ j) : (l.setIfInBounds i v).getD j d = l.getD j d := by
  simp [Array.getElem?_setIfInBounds_ne h]
theorem tget_eq {l : Array Value} {i : Nat} {v d : Value} (h : i < l.size) : (l.setIfInBounds i v).getD i d = v := by simp [h]
theorem CellsAt.below {w w' : World} {H C : Nat} {cs : List Value} (h : CellsAt w H cs) (hb : Below C w w') (hH : H < C) : CellsAt w' H cs := fun j hj => by rw [hb.cell (by exact hH)]; exact h j hj
theorem false_true {l : Array Bool} {j : Nat} (h : l.getD j true = false) (h' : l.getD j false = true) : False := by
  rw [getD_both h] at h'; cases h'

theorem CntI.make {H : Nat} {w0 w' w'' : World} {listed : Array Bool} {a : Act} {j : Nat} (h : CntI H w0 listed a w') (hj : j < 6) (hl : listed.getD j true = false)
    (ho : Owns w'' w'.heap.size 3 1 rowI (.slice (some ⟨w'.heap.size, 0, none⟩) (nn j) (nn j)) (List.replicate (nn j) 0)) (hb : Below w'.heap.size w' w'') :
    CntI H w0 (listed.setIfInBounds j true) (a.put (some (j + 1)) (.slice (some ⟨w'.heap.size, 0, none⟩) (nn j) (nn j))) w'' := by
  have hn : nn j ≤ 4 := by unfold nn; split <;> omega
  have hz := h.z
  refine ⟨fun k hk hlk => ?_, fun hl6 => ?_, fun hl7 => ?_, fun hl7 => ?_, fun k hk => ?_, ?_, ?_, h.d, h.w.trans (hb.mono (Nat.le_of_lt h.l)), Nat.lt_of_lt_of_le h.l hb.size⟩
  · by_cases hkj : k = j
    · subst hkj
      refine ⟨w'.heap.size, nn k, tget_eq (by omega), h.l, ho.ints (by simp; omega) (fun x hx => by rw [(List.mem_replicate.1 hx).2]; simp [I64])⟩
    · rw [sget_ne (Ne.symm hkj)] at hlk
      obtain ⟨g, c, e1, e3, e2⟩ := h.s k hk hlk
      exact ⟨g, c, by rw [← e1]; exact tget_ne (by omega), e3, (e2.below hb).mono hb.size⟩
  · rw [sget_ne (by omega)] at hl6
    exact (false_true hl ((h.b hl6).2 j hj)).elim
  · rw [sget_ne (by omega)] at hl7
    exact (false_true hl ((h.b (h.t hl7).1).2 j hj)).elim
  · rw [sget_ne (by omega)] at hl7
    exact (h.u hl7).below hb h.l
  · rw [hb.frozen (by exact h.l)]; exact h.f k hk
  · rw [← h.p]; exact tget_ne (by omega)
  · show (Array.setIfInBounds _ _ _).size = 8
    simpa using hz
theorem CntI.build {H : Nat} {w0 w' : World} {listed : Array Bool} {a : Act} (h : CntI H w0 listed a w') (hl : listed.getD 6 true = false) (hd : ∀ j, j < 6 → listed.getD j false = true) :
    CntI H w0 (listed.setIfInBounds 6 true) (a.put (some 7) (.agg #[.int .i64 0, a.tmps.getD 1 undef, a.tmps.getD 2 undef, a.tmps.getD 3 undef, a.tmps.getD 4 undef, a.tmps.getD 5 undef, a.tmps.getD 6 undef])) w' := by
  have hz := h.z
  have e : ∀ k, k < 7 → (a.tmps.setIfInBounds 7 (.agg #[.int .i64 0, a.tmps.getD 1 undef, a.tmps.getD 2 undef, a.tmps.getD 3 undef, a.tmps.getD 4 undef, a.tmps.getD 5 undef, a.tmps.getD 6 undef])).getD k undef = a.tmps.getD k undef := fun k hk => tget_ne (by omega)
  refine ⟨fun k hk hlk => ?_, fun hl6 => ⟨?_, fun j hj => ?_⟩, fun hl7 => ?_, fun hl7 => ?_, h.f, ?_, ?_, h.d, h.w, h.l⟩
  · rw [sget_ne (by omega)] at hlk
    obtain ⟨g, c, e1, e2⟩ := h.s k hk hlk
    exact ⟨g, c, by rw [← e1]; exact e (k + 1) (by omega), e2⟩
  · show (Array.setIfInBounds _ _ _).getD 7 undef = .agg #[.int .i64 0, (Array.setIfInBounds _ _ _).getD 1 undef, (Array.setIfInBounds _ _ _).getD 2 undef, (Array.setIfInBounds _ _ _).getD 3 undef, (Array.setIfInBounds _ _ _).getD 4 undef, (Array.setIfInBounds _ _ _).getD 5 undef, (Array.setIfInBounds _ _ _).getD 6 undef]
    rw [e 1 (by omega), e 2 (by omega), e 3 (by omega), e 4 (by omega), e 5 (by omega), e 6 (by omega)]
    exact tget_eq (by omega)
  · rw [sget_ne (by omega)]; exact hd j hj
  · rw [sget_ne (by omega)] at hl7
    exact (false_true hl (h.t hl7).1).elim
  · rw [sget_ne (by omega)] at hl7
    exact h.u hl7
  · rw [← h.p]; exact e 0 (by omega)
  · show (Array.setIfInBounds _ _ _).size = 8
    simpa using hz

set_option maxRecDepth 20000 in
set_option maxHeartbeats 8000000 in
theorem specCntNew_any (w : World) : Calls Try.prog 14 #[] w (SpecCntP w) := by
  obtain ⟨i1, hj, jz0, jz1, jz2⟩ := info_parts infoI
  go_enter Try.func14, Try.ntmps14
  go_wp2_with fail
  rename_i K hK
  refine wp_region_inv (CntI w.heap.size w) (by kernel_rfl) (by kernel_rfl) ?_ ?_ ?_
  · refine ⟨fun j hj h => ?_, fun h => ?_, fun h => ?_, fun _ j hj => ?_, fun j hj => ?_, rfl, rfl, rfl, ?_, ?_⟩
    · rw [getD_replicate_false] at h; cases h
    · rw [getD_replicate_false] at h; cases h
    · rw [getD_replicate_false] at h; cases h
    · show (w.alloc _).cell? _ = _
      simp [go_sem]
    · show (w.alloc _).frozen? _ = _
      simp [go_sem]
    · exact ((Below.refl _ _).alloc (Nat.le_refl _) _).drew
    · show w.heap.size < (w.alloc _).heap.size
      simp
  · intro listed a w' i o hI hs ho hl he
    have hi8 : i < 8 := (Array.getElem?_eq_some_iff.1 ho).1
    have hmk : ∀ (n : Nat), n ≤ 4 → ∀ w'' : World, w''.ownsRow w'.heap.size 3 1 (.slice (some ⟨w'.heap.size, 0, none⟩) n n) n (madeCells (Value.int .i64 0).cells (n * 1)).toList → w'.grownBy w'' none →
        Owns w'' w'.heap.size 3 1 rowI (.slice (some ⟨w'.heap.size, 0, none⟩) n n) (List.replicate n 0) ∧ Below w'.heap.size w' w'' := fun n _ w'' h1 h2 => by
      rw [Nat.mul_one, show madeCells (Value.int .i64 0).cells n = madeCells #[.int .i64 0] n from rfl, toList_madeCells_one] at h1
      exact ⟨Owns.mkI h1, (Below.refl _ _).grown h2 (Nat.le_refl _) (by simp)⟩
    have e : i = 0 ∨ i = 1 ∨ i = 2 ∨ i = 3 ∨ i = 4 ∨ i = 5 ∨ i = 6 ∨ i = 7 := by omega
    rcases e with rfl | rfl | rfl | rfl | rfl | rfl | rfl | rfl
    all_goals (have ho2 := ho; obtain rfl := Option.some.inj ho2.symm; clear ho2)
    iterate 3
      · refine wpOp_wp ho rfl (wp_make _ _ 31 rfl w'.heap.size 3 i1 (.int .i64 0) 1 Try.underlying31 hj jz0 jz1 _ _ _ _ 3 rfl rfl rfl rfl (by rw [jz2]; omega) (by unfold maxLen; omega) (Nat.le_refl _) fun w'' h1 h2 => ?_)
        obtain ⟨k1, k2⟩ := hmk 3 (by omega) w'' h1 h2
        exact hI.make (by omega) hl k1 k2
    iterate 3
      · refine wpOp_wp ho rfl (wp_make _ _ 31 rfl w'.heap.size 3 i1 (.int .i64 0) 1 Try.underlying31 hj jz0 jz1 _ _ _ _ 4 rfl rfl rfl rfl (by rw [jz2]; omega) (by unfold maxLen; omega) (Nat.le_refl _) fun w'' h1 h2 => ?_)
        obtain ⟨k1, k2⟩ := hmk 4 (by omega) w'' h1 h2
        exact hI.make (by omega) hl k1 k2
    · have hd : ∀ j, j < 6 → listed.getD j false = true := fun j hj => by
        have : j = 0 ∨ j = 1 ∨ j = 2 ∨ j = 3 ∨ j = 4 ∨ j = 5 := by omega
        rcases this with rfl | rfl | rfl | rfl | rfl | rfl
        · exact he ⟨0, .data⟩ (by simp) rfl
        · exact he ⟨1, .data⟩ (by simp) rfl
        · exact he ⟨2, .data⟩ (by simp) rfl
        · exact he ⟨3, .data⟩ (by simp) rfl
        · exact he ⟨4, .data⟩ (by simp) rfl
        · exact he ⟨5, .data⟩ (by simp) rfl
      have hb := hI.build hl hd
      obtain ⟨g1, c1, e1, m1, i1'⟩ := hI.s 0 (by omega) (hd 0 (by omega))
      obtain ⟨g2, c2, e2, m2, i2'⟩ := hI.s 1 (by omega) (hd 1 (by omega))
      obtain ⟨g3, c3, e3, m3, i3'⟩ := hI.s 2 (by omega) (hd 2 (by omega))
      obtain ⟨g4, c4, e4, m4, i4'⟩ := hI.s 3 (by omega) (hd 3 (by omega))
      obtain ⟨g5, c5, e5, m5, i5'⟩ := hI.s 4 (by omega) (hd 4 (by omega))
      obtain ⟨g6, c6, e6, m6, i6'⟩ := hI.s 5 (by omega) (hd 5 (by omega))
      refine wpOp_wp ho rfl ?_
      rw [e1, e2, e3, e4, e5, e6] at hb
      simp only [Nat.zero_add, Nat.reduceAdd] at e1 e2 e3 e4 e5 e6
      simp [Oper.wp, execOp, Act.eval, e1, e2, e3, e4, e5, e6, go_sem, -Array.getD_eq_getD_getElem?]
      exact hb
    · have h6 : listed.getD 6 false = true := he ⟨6, .data⟩ (by simp) rfl
      obtain ⟨e7, hd⟩ := hI.b h6
      have hu := hI.u (getD_both hl)
      have hf := hI.f
      have hp := hI.p
      have k0 := hu 0 (by omega); have k1 := hu 1 (by omega); have k2 := hu 2 (by omega); have k3 := hu 3 (by omega); have k4 := hu 4 (by omega); have k5 := hu 5 (by omega); have k6 := hu 6 (by omega)
      have f0 := hf 0 (by omega); have f1 := hf 1 (by omega); have f2 := hf 2 (by omega); have f3 := hf 3 (by omega); have f4 := hf 4 (by omega); have f5 := hf 5 (by omega); have f6 := hf 6 (by omega)
      obtain ⟨g1, c1, e1, m1, i1'⟩ := hI.s 0 (by omega) (hd 0 (by omega))
      obtain ⟨g2, c2, e2, m2, i2'⟩ := hI.s 1 (by omega) (hd 1 (by omega))
      obtain ⟨g3, c3, e3, m3, i3'⟩ := hI.s 2 (by omega) (hd 2 (by omega))
      obtain ⟨g4, c4, e4, m4, i4'⟩ := hI.s 3 (by omega) (hd 3 (by omega))
      obtain ⟨g5, c5, e5, m5, i5'⟩ := hI.s 4 (by omega) (hd 4 (by omega))
      obtain ⟨g6, c6, e6, m6, i6'⟩ := hI.s 5 (by omega) (hd 5 (by omega))
      simp only [Nat.zero_add, Nat.reduceAdd] at e1 e2 e3 e4 e5 e6
      have hll := hI.l
      rw [e1, e2, e3, e4, e5, e6] at e7
      simp only [List.getElem?_cons_zero, List.getElem?_cons_succ] at k0 k1 k2 k3 k4 k5 k6
      have ho3 := ho
      refine wpOp_wp ho3 rfl ?_
      clear hs ho ho3 he hu hf
      simp [Oper.wp, execOp, Act.eval, e7, hp, k0, k1, k2, k3, k4, k5, k6, f0, f1, f2, f3, f4, f5, f6, hll, go_sem, -Array.getD_eq_getD_getElem?]
      have keep : ∀ (g n c : Nat) (xs : List Int), w.heap.size < g → Ints w' w'.heap.size (.slice (some ⟨g, 0, none⟩) n c) xs → ∀ (o : Nat) (u : Value) (W : World), Ints W w'.heap.size (.slice (some ⟨g, 0, none⟩) n c) xs → Ints (W.setCell ⟨w.heap.size, o, none⟩ u) w'.heap.size (.slice (some ⟨g, 0, none⟩) n c) xs :=
        fun g n c xs hg _ o u W h => h.heap fun k hk _ => Below.heap_setCell _ _ _ _ (show k ≠ w.heap.size by simp [Value.ownBlock] at hk; omega)
      refine ⟨fun j hj hlj => ?_, fun _ => ⟨?_, fun j hj => by rw [sget_ne (by omega)]; exact hd j hj⟩, fun _ => ⟨by rw [sget_ne (by omega)]; exact h6, ?_⟩, fun hl7 => ?_, ?_, hp, hI.z, hI.d, ?_, by simp [World.setCell]; exact hll⟩
      · obtain ⟨g, c, q1, q2, q3⟩ := hI.s j hj (hd j hj)
        refine ⟨g, c, q1, q2, ?_⟩
        have k := keep g _ c _ q2 q3
        have := k 6 (.slice (some ⟨g6, 0, none⟩) (nn 5) c6) _ (k 5 (.slice (some ⟨g5, 0, none⟩) (nn 4) c5) _ (k 4 (.slice (some ⟨g4, 0, none⟩) (nn 3) c4) _ (k 3 (.slice (some ⟨g3, 0, none⟩) (nn 2) c3) _ (k 2 (.slice (some ⟨g2, 0, none⟩) (nn 1) c2) _ (k 1 (.slice (some ⟨g1, 0, none⟩) (nn 0) c1) _ (k 0 (.int .i64 0) _ q3))))))
        simpa [World.setCell] using this
      · rw [e1, e2, e3, e4, e5, e6]; exact e7
      · rw [e1, e2, e3, e4, e5, e6]
        intro j hj
        have : j = 0 ∨ j = 1 ∨ j = 2 ∨ j = 3 ∨ j = 4 ∨ j = 5 ∨ j = 6 := by omega
        rcases this with rfl | rfl | rfl | rfl | rfl | rfl | rfl <;> simp [go_sem, k0, k1, k2, k3, k4, k5, k6, hll]
      · exfalso
        have : (listed.setIfInBounds 7 true).getD 7 false = true := by
          have h7 : 7 < listed.size := by
            rcases Nat.lt_or_ge 7 listed.size with h | h
            · exact h
            · simp [Array.getElem?_eq_none h] at hl
          simp [h7]
        rw [this] at hl7; cases hl7
      · intro j hj
        have : j = 0 ∨ j = 1 ∨ j = 2 ∨ j = 3 ∨ j = 4 ∨ j = 5 ∨ j = 6 := by omega
        rcases this with rfl | rfl | rfl | rfl | rfl | rfl | rfl <;> simp [go_sem, f0, f1, f2, f3, f4, f5, f6]
      · exact ((((((hI.w.setCell (Nat.le_refl _) _).setCell (Nat.le_refl _) _).setCell (Nat.le_refl _) _).setCell (Nat.le_refl _) _).setCell (Nat.le_refl _) _).setCell (Nat.le_refl _) _).setCell (Nat.le_refl _) _
  · intro listed a w' hI hall
    refine hK _ _ (wp_ret ?_)
    obtain ⟨h6, hc⟩ := hI.t (hall 7 (by decide))
    obtain ⟨_, hd⟩ := hI.b h6
    obtain ⟨g1, c1, e1, _, i1'⟩ := hI.s 0 (by omega) (hd 0 (by omega))
    obtain ⟨g2, c2, e2, _, i2'⟩ := hI.s 1 (by omega) (hd 1 (by omega))
    obtain ⟨g3, c3, e3, _, i3'⟩ := hI.s 2 (by omega) (hd 2 (by omega))
    obtain ⟨g4, c4, e4, _, i4'⟩ := hI.s 3 (by omega) (hd 3 (by omega))
    obtain ⟨g5, c5, e5, _, i5'⟩ := hI.s 4 (by omega) (hd 4 (by omega))
    obtain ⟨g6, c6, e6, _, i6'⟩ := hI.s 5 (by omega) (hd 5 (by omega))
    simp only [Nat.zero_add, Nat.reduceAdd] at e1 e2 e3 e4 e5 e6
    rw [e1, e2, e3, e4, e5, e6] at hc
    have k0 := hc 0 (by omega); have k1 := hc 1 (by omega); have k2 := hc 2 (by omega); have k3 := hc 3 (by omega); have k4 := hc 4 (by omega); have k5 := hc 5 (by omega); have k6 := hc 6 (by omega)
    simp only [List.getElem?_cons_zero, List.getElem?_cons_succ] at k0 k1 k2 k3 k4 k5 k6
    refine bodyPost_ret (results_c1 Try.results14 _ _ ⟨w.heap.size, 0, none⟩ (.agg #[.int .i64 0, .slice (some ⟨g1, 0, none⟩) (nn 0) c1, .slice (some ⟨g2, 0, none⟩) (nn 1) c2, .slice (some ⟨g3, 0, none⟩) (nn 2) c3, .slice (some ⟨g4, 0, none⟩) (nn 3) c4, .slice (some ⟨g5, 0, none⟩) (nn 4) c5, .slice (some ⟨g6, 0, none⟩) (nn 5) c6]) hI.p ?_) hI.d ?_
    · simp [loadVar, go_sem, k0, k1, k2, k3, k4, k5, k6]
    · exact ⟨_, _, _, _, _, _, rfl, ⟨i1', i2', i3', i4', i5', i6'⟩, hI.w⟩

theorem Six.below {w w' : World} {base g1 g2 g3 g4 g5 g6 : Nat} {x1 x2 x3 x4 x5 x6 : List Int} (h : Six w base g1 g2 g3 g4 g5 g6 x1 x2 x3 x4 x5 x6) (hb : Below w.heap.size w w') : Six w' base g1 g2 g3 g4 g5 g6 x1 x2 x3 x4 x5 x6 :=
  ⟨h.o1.below hb, h.o2.below hb, h.o3.below hb, h.o4.below hb, h.o5.below hb, h.o6.below hb, h.r1, h.r2, h.r3, h.r4, h.r5, h.r6, Nat.lt_of_lt_of_le h.r7 hb.size, h.l1, h.l2, h.l3, h.l4, h.l5, h.l6⟩
theorem Six.zeros {w : World} {base g1 g2 g3 g4 g5 g6 : Nat} (h : Six w base g1 g2 g3 g4 g5 g6 (List.replicate 3 0) (List.replicate 3 0) (List.replicate 3 0) (List.replicate 4 0) (List.replicate 4 0) (List.replicate 4 0)) :
    SixI w w.heap.size (.slice (some ⟨g1, 0, none⟩) 3 3) (.slice (some ⟨g2, 0, none⟩) 3 3) (.slice (some ⟨g3, 0, none⟩) 3 3) (.slice (some ⟨g4, 0, none⟩) 4 4) (.slice (some ⟨g5, 0, none⟩) 4 4) (.slice (some ⟨g6, 0, none⟩) 4 4) (List.replicate 3 0) (List.replicate 3 0) (List.replicate 3 0) (List.replicate 4 0) (List.replicate 4 0) (List.replicate 4 0) :=
  ⟨(h.o1.ints (by simp) (fun x hx => by rw [(List.mem_replicate.1 hx).2]; simp [I64])), (h.o2.ints (by simp) (fun x hx => by rw [(List.mem_replicate.1 hx).2]; simp [I64])), (h.o3.ints (by simp) (fun x hx => by rw [(List.mem_replicate.1 hx).2]; simp [I64])), (h.o4.ints (by simp) (fun x hx => by rw [(List.mem_replicate.1 hx).2]; simp [I64])), (h.o5.ints (by simp) (fun x hx => by rw [(List.mem_replicate.1 hx).2]; simp [I64])), (h.o6.ints (by simp) (fun x hx => by rw [(List.mem_replicate.1 hx).2]; simp [I64]))⟩
theorem Six.marks {w : World} {base g1 g2 g3 g4 g5 g6 : Nat} (h : Six w base g1 g2 g3 g4 g5 g6 (marks 1 3) (marks 4 3) (marks 7 3) (marks 10 4) (marks 14 4) (marks 18 4)) :
    SixI w w.heap.size (.slice (some ⟨g1, 0, none⟩) 3 3) (.slice (some ⟨g2, 0, none⟩) 3 3) (.slice (some ⟨g3, 0, none⟩) 3 3) (.slice (some ⟨g4, 0, none⟩) 4 4) (.slice (some ⟨g5, 0, none⟩) 4 4) (.slice (some ⟨g6, 0, none⟩) 4 4) (marks 1 3) (marks 4 3) (marks 7 3) (marks 10 4) (marks 14 4) (marks 18 4) :=
  ⟨(h.o1.ints (by rw [marks_len]; omega) (marks_64 (by omega))), (h.o2.ints (by rw [marks_len]; omega) (marks_64 (by omega))), (h.o3.ints (by rw [marks_len]; omega) (marks_64 (by omega))), (h.o4.ints (by rw [marks_len]; omega) (marks_64 (by omega))), (h.o5.ints (by rw [marks_len]; omega) (marks_64 (by omega))), (h.o6.ints (by rw [marks_len]; omega) (marks_64 (by omega)))⟩
theorem Turned6.below {g1 g2 g3 g4 g5 g6 C : Nat} {w w' : World} (h : Turned6 g1 g2 g3 g4 g5 g6 w w') (h1 : C ≤ g1) (h2 : g1 < g2) (h3 : g2 < g3) (h4 : g3 < g4) (h5 : g4 < g5) (h6 : g5 < g6) (hC : C ≤ w.heap.size) : Below C w w' :=
  ⟨h.os, h.tape, h.output, h.size, fun k hk => h.block k (by omega) (by omega) (by omega) (by omega) (by omega) (by omega) (by omega)⟩
theorem Turned6.cells {g1 g2 g3 g4 g5 g6 H : Nat} {w w' : World} {cs : List Value} (h : Turned6 g1 g2 g3 g4 g5 g6 w w') (h2 : g1 < g2) (h3 : g2 < g3) (h4 : g3 < g4) (h5 : g4 < g5) (h6 : g5 < g6) (hH : H < g1 ∨ g6 < H) (hl : H < w.heap.size) (hc : CellsAt w H cs) : CellsAt w' H cs := fun j hj => by
  have e := h.block H hl (by omega) (by omega) (by omega) (by omega) (by omega) (by omega)
  rw [← hc j hj]
  simp only [World.cell?, e]
theorem cells_box (w : World) (c0 c1 c2 c3 c4 c5 c6 : Value) (T : TypeId) : CellsAt (w.alloc (.cells #[c0, c1, c2, c3, c4, c5, c6] T)) w.heap.size [c0, c1, c2, c3, c4, c5, c6] := fun j hj => by
  have : j = 0 ∨ j = 1 ∨ j = 2 ∨ j = 3 ∨ j = 4 ∨ j = 5 ∨ j = 6 := by omega
  rcases this with rfl | rfl | rfl | rfl | rfl | rfl | rfl <;> simp [go_sem]

set_option maxRecDepth 4000 in
set_option maxHeartbeats 8000000 in
theorem exactCntNew_any (w : World) : Calls Try.prog 5 #[] w fun e w' => e = .returned (.bool true) ∧ Below w.heap.size w w' := by
  go_enter Try.func5, Try.ntmps5
  go_wp2_with fail
  refine (specCntNew_any _).mono ?_
  rintro e w1 ⟨v1, v2, v3, v4, v5, v6, rfl, hs1, hb1⟩
  obtain ⟨⟨a1, c1, rfl⟩, ⟨a2, c2, rfl⟩, ⟨a3, c3, rfl⟩, ⟨a4, c4, rfl⟩, ⟨a5, c5, rfl⟩, ⟨a6, c6, rfl⟩⟩ := hs1.shape
  simp only [List.length_replicate] at hs1 ⊢
  have HS := hid hs1; have HB1 := hid hb1; clear hs1 hb1
  go_wp2_with fail
  refine (implCntNew_any _).mono ?_
  rintro e w2 ⟨g1, g2, g3, g4, g5, g6, rfl, h6, hb2⟩
  have C1 := hid ((cells_box w1 (.int .i64 0) (.slice a1 3 c1) (.slice a2 3 c2) (.slice a3 3 c3) (.slice a4 4 c4) (.slice a5 4 c5) (.slice a6 4 c6) 35).below hb2 (by simp))
  have hz2 := hb2.size
  simp only [World.size_alloc] at hz2
  have HB := hid ((oneBox w1 _).trans (hb2.mono (by simp)))
  have r1 := h6.r1; have r2 := h6.r2; have r3 := h6.r3; have r4 := h6.r4; have r5 := h6.r5; have r6 := h6.r6; have r7 := h6.r7
  simp only [World.size_alloc] at r1
  have H6 := hid h6; clear h6 hb2
  have hl12 : w1.heap.size < w2.heap.size := by omega
  have q0 := C1.out 0 (by omega); have q1 := C1.out 1 (by omega); have q2 := C1.out 2 (by omega); have q3 := C1.out 3 (by omega); have q4 := C1.out 4 (by omega); have q5 := C1.out 5 (by omega); have q6 := C1.out 6 (by omega); simp only [List.getElem?_cons_zero, List.getElem?_cons_succ] at q0 q1 q2 q3 q4 q5 q6
  go_wp2_with fail
  refine (eqCnt_same 0 _ _ _ _ _ _ _ _ _ _ _ _ _ _ _ _ _ _ w2.heap.size _ (H6.out.zeros.below (oneBox w2 _)) ((HS.out.below (HB.out.trans ((oneBox w2 _).mono (by omega)))).mono (by omega)) (by simp)).mono ?_
  rintro e w3 ⟨rfl, hb3⟩
  have C2 := hid ((cells_box w2 (.int .i64 0) (.slice (some ⟨g1, 0, none⟩) 3 3) (.slice (some ⟨g2, 0, none⟩) 3 3) (.slice (some ⟨g3, 0, none⟩) 3 3) (.slice (some ⟨g4, 0, none⟩) 4 4) (.slice (some ⟨g5, 0, none⟩) 4 4) (.slice (some ⟨g6, 0, none⟩) 4 4) 35).below hb3 (by simp))
  have hb23 := hid (show Below w2.heap.size w2 w3 from (oneBox w2 _).trans (hb3.mono (by simp)))
  have hz3 := hb3.size
  simp only [World.size_alloc] at hz3
  have C1 := hid (C1.out.below hb23.out (by omega))
  have HB := hid (HB.out.trans (hb23.out.mono (by omega)))
  have H6 := hid (H6.out.below hb23.out)
  clear hb3
  have p0 := C2.out 0 (by omega); have p1 := C2.out 1 (by omega); have p2 := C2.out 2 (by omega); have p3 := C2.out 3 (by omega); have p4 := C2.out 4 (by omega); have p5 := C2.out 5 (by omega); have p6 := C2.out 6 (by omega); simp only [List.getElem?_cons_zero, List.getElem?_cons_succ] at p0 p1 p2 p3 p4 p5 p6
  go_wp2_with fail
  refine (markCnt_any _ g1 g2 g3 g4 g5 g6 _ _ _ _ _ _ w3 H6.out).mono ?_
  rintro e w4 ⟨rfl, m6, t6⟩
  have hz4 := t6.size
  have C1 := hid (t6.cells r2 r3 r4 r5 r6 (.inl (by omega)) (by omega) C1.out)
  have C2 := hid (t6.cells r2 r3 r4 r5 r6 (.inr r7) (by omega) C2.out)
  have HB := hid (HB.out.trans (t6.below (by omega) r2 r3 r4 r5 r6 (by omega)))
  have M6 := hid m6; clear m6 t6
  have p0 := C2.out 0 (by omega); have p1 := C2.out 1 (by omega); have p2 := C2.out 2 (by omega); have p3 := C2.out 3 (by omega); have p4 := C2.out 4 (by omega); have p5 := C2.out 5 (by omega); have p6 := C2.out 6 (by omega); simp only [List.getElem?_cons_zero, List.getElem?_cons_succ] at p0 p1 p2 p3 p4 p5 p6
  go_wp2_with fail
  refine (heldCnt_any _ _ _ _ _ _ w4.heap.size w4 M6.out.marks (Nat.le_refl _)).mono ?_
  rintro e w5 ⟨rfl, hb5⟩
  have hz5 := hb5.size
  have C1 := hid (C1.out.below hb5 (by omega))
  have C2 := hid (C2.out.below hb5 (by omega))
  have HB := hid (HB.out.trans (hb5.mono (by omega)))
  have M6 := hid (M6.out.below hb5); clear hb5
  go_wp2_with fail
  refine (implCntNew_any _).mono ?_
  rintro e w6 ⟨k1, k2, k3, k4, k5, k6, rfl, n6, hb6⟩
  have hz6 := hb6.size
  have C1 := hid (C1.out.below hb6 (by omega))
  have C2 := hid (C2.out.below hb6 (by omega))
  have HB := hid (HB.out.trans (hb6.mono (by omega)))
  have M6 := hid (M6.out.below hb6)
  have N6 := hid n6; clear hb6 n6
  have hl16 : w1.heap.size < w6.heap.size := by omega
  have q0 := C1.out 0 (by omega); have q1 := C1.out 1 (by omega); have q2 := C1.out 2 (by omega); have q3 := C1.out 3 (by omega); have q4 := C1.out 4 (by omega); have q5 := C1.out 5 (by omega); have q6 := C1.out 6 (by omega); simp only [List.getElem?_cons_zero, List.getElem?_cons_succ] at q0 q1 q2 q3 q4 q5 q6
  go_wp2_with fail
  refine (eqCnt_same 0 _ _ _ _ _ _ _ _ _ _ _ _ _ _ _ _ _ _ w6.heap.size _ (N6.out.zeros.below (oneBox w6 _)) ((HS.out.below (HB.out.trans ((oneBox w6 _).mono (by omega)))).mono (by omega)) (by simp)).mono ?_
  rintro e w7 ⟨rfl, hb7⟩
  have hb67 := hid (show Below w6.heap.size w6 w7 from (oneBox w6 _).trans (hb7.mono (by simp)))
  have hz7 := hb67.out.size
  have C2 := hid (C2.out.below hb67.out (by omega))
  have HB := hid (HB.out.trans (hb67.out.mono (by omega)))
  have M6 := hid (M6.out.below hb67.out); clear hb7
  have p0 := C2.out 0 (by omega); have p1 := C2.out 1 (by omega); have p2 := C2.out 2 (by omega); have p3 := C2.out 3 (by omega); have p4 := C2.out 4 (by omega); have p5 := C2.out 5 (by omega); have p6 := C2.out 6 (by omega); simp only [List.getElem?_cons_zero, List.getElem?_cons_succ] at p0 p1 p2 p3 p4 p5 p6
  go_wp2_with fail
  refine (heldCnt_any _ _ _ _ _ _ w7.heap.size w7 M6.out.marks (Nat.le_refl _)).mono ?_
  rintro e w8 ⟨rfl, hb8⟩
  have HB := hid (HB.out.trans (hb8.mono (by omega)))
  go_wp2_with fail
  go_ret
  exact ⟨rfl, HB1.out.trans (HB.out.mono HB1.out.size)⟩

end Go.Proofs.Ytjcpnlnajimjaaa
