/-
  The exact laws' helpers: stores and what is asked, copied from the law's own type.
-/
import Derived.Test.YteamebdehembgaaJXs
import Derived.Test.YteamebdehembgaaJCr1
import Derived.Test.YteamebdehembgaaJDr1
import Derived.Deep.MidRow
set_option linter.unusedVariables false
set_option linter.unusedSimpArgs false
namespace Go.Proofs.Yteamebdehembgaa
open Go.RowKit

set_option maxHeartbeats 400000 in
theorem toIntS_any0 (v : Value) (xs : List Int) (B : Nat) (w : World) (hv : Ints w B v xs) (hB : B ≤ w.heap.size) (hlen : xs.length ≤ 1048576) :
    Calls Try.prog 90 #[v] w fun e w' => ∃ u, e = .returned u ∧ w'.ownsRow w.heap.size 3 1 u xs.length (xs.map (Value.int .i64)) ∧ Below w.heap.size w w' := by
  obtain ⟨ao, cap, rfl, hlc, hcap, hln, hni, hr⟩ := hv.opened
  obtain ⟨i0, hi, hz0, hz1, hz2⟩ := info_parts infoI
  clear hv
  go_enter Try.func90, Try.ntmps90
  go_wp2_with (at_make; refine wpList_make_full _ rfl _ _ 24 rfl w.heap.size 3 i0 (.int .i64 0) 1 Try.underlying24 hi hz0 hz1 _ _ _ _ xs.length rfl rfl rfl rfl (by rw [hz2]; omega) (by unfold maxLen; omega) (Nat.le_refl _) ?_)
  intro w1 hown hgrow
  have hbel : Below w.heap.size w w1 := (Below.refl _ _).grown hgrow (Nat.le_refl _) (by simp)
  have hsz := hgrow.size
  rw [toList_madeCells_one, ← fillRow_zero (Value.int .i64)] at hown
  go_wp2
  go_loopw [4] (fun i wr => ∃ k : Nat, k ≤ xs.length ∧ i = .int .i64 k ∧ wr.ownsRow w.heap.size 3 1 (.slice (some ⟨w.heap.size, 0, none⟩) xs.length xs.length) xs.length (fillRow (Value.int .i64) (.int .i64 0) xs k) ∧ Below w.heap.size w wr) (fun i _ => xs.length - (intOf i).toNat)
  case atStart => exact ⟨0, Nat.zero_le _, rfl, hown, hbel⟩
  case round =>
    clear hown hbel hgrow hsz
    obtain ⟨k, hk, rfl, hown, hbel⟩ := hrel
    by_cases hlt : k < xs.length
    · obtain ⟨b, off, rfl, hb, hc⟩ := hr (by omega)
      have hck := hc k hlt
      rw [← hbel.cell (p := ⟨b, off + k, none⟩) (by exact Nat.lt_of_lt_of_le hb hB)] at hck
      have hcell := hown.cellAt k (by omega)
      rw [fillRow_get _ _ _ _ hlt] at hcell
      have hfr := hown.frozenAt k
      have hst := hown.stored k (.int .i64 (xs.getD k 0))
      rw [fillRow_set _ _ _ _ _ hlt] at hst
      have HS := hid hst; clear hst
      have HB := hid hbel; clear hbel hc hr hown
      obtain ⟨x, hx⟩ : ∃ x, x = xs.getD k 0 := ⟨_, rfl⟩
      rw [← hx] at hck HS
      have HX := hid hx; clear hx
      go_wp2
      go_roundw
      case rel => exact ⟨k + 1, by omega, by go_num, HS.out.1, HB.out.setCell (by simp) _⟩
      case measure => simp [intOf]; omega
    · have hk2 : k = xs.length := by omega
      subst hk2
      go_wp2
      go_ret
      exact ⟨_, rfl, by rw [fillRow_all] at hown; exact hown, hbel⟩

theorem toIntS_any (v : Value) (xs : List Int) (B : Nat) (w : World) (hv : Ints w B v xs) (hB : B ≤ w.heap.size) (hlen : xs.length ≤ 1048576) :
    Calls Try.prog 90 #[v] w fun e w' => ∃ u, e = .returned u ∧ Owns w' w.heap.size 3 1 rowI u xs ∧ Below w.heap.size w w' := by
  refine (toIntS_any0 v xs B w hv hB hlen).mono ?_
  rintro e w' ⟨u, rfl, ho, hb⟩
  refine ⟨u, rfl, ?_, hb⟩
  unfold Owns
  rw [flat_rowI]
  exact OwnR.of_row ho

theorem at_world {P : Program} {f : FuncId} {args : Array Value} {w : World} {Q : Ending → World → Prop} (Z : World → Prop) (hZ : Z w) (h : ∀ W, Z W → Calls P f args W Q) : Calls P f args w Q := h w hZ

/-- A box of cells: what lies in it, and that it may be stored into. -/
structure Bx (W : World) (H : Nat) (cs : List Value) : Prop where
  c : ∀ j, j < cs.length → W.cell? ⟨H, j, none⟩ = cs[j]?
  f : ∀ j, j < cs.length → W.frozen? ⟨H, j, none⟩ = false
  n : 0 < cs.length
theorem Bx.lt {W : World} {H : Nat} {cs : List Value} (h : Bx W H cs) : H < W.heap.size := by
  have h0 := h.c 0 h.n
  have hn := h.n
  rw [List.getElem?_eq_getElem hn] at h0
  exact World.block_lt_of_cell? W _ h0
theorem Bx.kept {W W' : World} {H : Nat} {cs : List Value} (h : Bx W H cs) (hk : W'.heap[H]? = W.heap[H]?) : Bx W' H cs :=
  ⟨fun j hj => by rw [← h.c j hj]; simp only [World.cell?, hk], fun j hj => by rw [← h.f j hj]; simp only [World.frozen?, hk], h.n⟩
theorem Bx.below {W W' : World} {H C : Nat} {cs : List Value} (h : Bx W H cs) (hb : Below C W W') (hH : H < C) : Bx W' H cs := h.kept (hb.block H hH)
theorem Bx.set {W : World} {H : Nat} {cs : List Value} (h : Bx W H cs) (j : Nat) (hj : j < cs.length) (u : Value) : Bx (W.setCell ⟨H, j, none⟩ u) H (cs.set j u) := by
  refine ⟨fun i hi => ?_, fun i hi => ?_, by simpa using h.n⟩
  · have hi' : i < cs.length := by simpa using hi
    have hci := h.c i hi'
    by_cases hij : i = j
    · subst hij
      rw [List.getElem?_set_self hj]
      have hs : (W.cell? ⟨H, i, none⟩).isSome := by rw [hci]; simp [hj]
      simp [go_sem, hs]
    · rw [List.getElem?_set_ne (Ne.symm hij), ← hci]
      simp [go_sem, hij, Ne.symm hij]
  · have := h.f i (by simpa using hi)
    simpa [go_sem] using this
theorem Bx.new (w : World) (cs : Array Value) (T : TypeId) (hn : 0 < cs.size) : Bx (w.alloc (.cells cs T)) w.heap.size cs.toList :=
  ⟨fun j hj => by rw [World.cell?_alloc_at _ _ _ _ rfl]; simp, fun j hj => by simp [go_sem], by simpa using hn⟩
theorem Bx.one {W : World} {H : Nat} {a : Value} (h : Bx W H [a]) : W.cell? ⟨H, 0, none⟩ = some a ∧ W.frozen? ⟨H, 0, none⟩ = false := ⟨h.c 0 (by simp), h.f 0 (by simp)⟩
theorem Bx.two {W : World} {H : Nat} {a b : Value} (h : Bx W H [a, b]) : (W.cell? ⟨H, 0, none⟩ = some a ∧ W.cell? ⟨H, 1, none⟩ = some b) ∧ W.frozen? ⟨H, 0, none⟩ = false ∧ W.frozen? ⟨H, 1, none⟩ = false :=
  ⟨⟨h.c 0 (by simp), h.c 1 (by simp)⟩, h.f 0 (by simp), h.f 1 (by simp)⟩
theorem Bx.three {W : World} {H : Nat} {a b c : Value} (h : Bx W H [a, b, c]) : (W.cell? ⟨H, 0, none⟩ = some a ∧ W.cell? ⟨H, 1, none⟩ = some b ∧ W.cell? ⟨H, 2, none⟩ = some c) ∧ W.frozen? ⟨H, 0, none⟩ = false ∧ W.frozen? ⟨H, 1, none⟩ = false ∧ W.frozen? ⟨H, 2, none⟩ = false :=
  ⟨⟨h.c 0 (by simp), h.c 1 (by simp), h.c 2 (by simp)⟩, h.f 0 (by simp), h.f 1 (by simp), h.f 2 (by simp)⟩
theorem Bx.seven {W : World} {H : Nat} {a b c d e f g : Value} (h : Bx W H [a, b, c, d, e, f, g]) :
    (W.cell? ⟨H, 0, none⟩ = some a ∧ W.cell? ⟨H, 1, none⟩ = some b ∧ W.cell? ⟨H, 2, none⟩ = some c ∧ W.cell? ⟨H, 3, none⟩ = some d ∧ W.cell? ⟨H, 4, none⟩ = some e ∧ W.cell? ⟨H, 5, none⟩ = some f ∧ W.cell? ⟨H, 6, none⟩ = some g) ∧
    W.frozen? ⟨H, 0, none⟩ = false ∧ W.frozen? ⟨H, 1, none⟩ = false ∧ W.frozen? ⟨H, 2, none⟩ = false ∧ W.frozen? ⟨H, 3, none⟩ = false ∧ W.frozen? ⟨H, 4, none⟩ = false ∧ W.frozen? ⟨H, 5, none⟩ = false ∧ W.frozen? ⟨H, 6, none⟩ = false :=
  ⟨⟨h.c 0 (by simp), h.c 1 (by simp), h.c 2 (by simp), h.c 3 (by simp), h.c 4 (by simp), h.c 5 (by simp), h.c 6 (by simp)⟩, h.f 0 (by simp), h.f 1 (by simp), h.f 2 (by simp), h.f 3 (by simp), h.f 4 (by simp), h.f 5 (by simp), h.f 6 (by simp)⟩

set_option maxHeartbeats 2000000 in
theorem toRange_any (r : MR) (w : World) :
    Calls Try.prog 104 #[.agg #[.int .i64 r.fr, .int .i64 r.to, .int .i64 r.sl, .bool r.only]] w fun e w' => e = .returned (.agg #[.int .i64 r.fr, .int .i64 r.to, .int .i64 r.sl, .bool r.only]) ∧ Below w.heap.size w w' := by
  obtain ⟨a, b, c, d⟩ := r
  go_enter Try.func104, Try.ntmps104
  go_wp2_with fail
  refine bodyPost_ret (v := .agg #[.int .i64 a, .int .i64 b, .int .i64 c, .bool d]) (by simp [results, Try.results104, go_sem]) rfl ⟨rfl, ?_⟩
  repeat with_reducible refine Below.setCell ?_ (by simp; try omega) _
  exact (((Below.refl _ _).alloc (Nat.le_refl _) _).alloc (by simp) _).alloc (by simp; omega) _

theorem rowM4 (r : MR) : (rowM r).length = 4 := rfl
theorem infoMR : (Try.prog.info? 101).map (fun i => (i.zero, i.size, i.bytes)) = some (some (.agg #[.int .i64 0, .int .i64 0, .int .i64 0, .bool false]), 4, 32) := by kernel_rfl
/-- Rows that are being filled: the first k are there, the others are still z. -/
def fillL {α : Type} (z : α) (xs : List α) (k : Nat) : List α := xs.take k ++ List.replicate (xs.length - k) z
theorem fillL_zero {α : Type} (z : α) (xs : List α) : fillL z xs 0 = List.replicate xs.length z := by simp [fillL]
theorem fillL_all {α : Type} (z : α) (xs : List α) : fillL z xs xs.length = xs := by simp [fillL]
theorem fillL_len {α : Type} (z : α) (xs : List α) {k : Nat} (h : k ≤ xs.length) : (fillL z xs k).length = xs.length := by simp [fillL]; omega
theorem fillL_get {α : Type} (z : α) (xs : List α) {k : Nat} (h : k < xs.length) (d : α) : (fillL z xs k).getD k d = z := by
  unfold fillL
  have hl : (xs.take k).length = k := by simp; omega
  simp only [List.getD]
  rw [List.getElem?_append_right (by omega), hl, Nat.sub_self, List.getElem?_replicate, if_pos (by omega)]; rfl
theorem fillL_set {α : Type} (z : α) (xs : List α) {k : Nat} (h : k < xs.length) (d : α) : (fillL z xs k).set k (xs.getD k d) = fillL z xs (k + 1) := by
  unfold fillL
  have hl : (xs.take k).length = k := by simp; omega
  rw [List.set_append_right _ _ (by omega), hl, Nat.sub_self, List.take_succ_eq_append_getElem h, show xs.length - k = (xs.length - (k + 1)) + 1 from by omega, List.replicate_succ, List.append_assoc]
  simp [List.getD, h]

def zM : MR := ⟨0, 0, 0, false⟩
/-- A row of four cells is stored. -/
theorem Owns.row4 {w : World} {base g off n c k : Nat} {ms : List MR} (h : Owns w base 101 4 rowM (.slice (some ⟨g, off, none⟩) n c) ms) (hk : k < ms.length) (y : MR) :
    Owns ((((w.setCell ⟨g, off + k * 4, none⟩ (.int .i64 y.fr)).setCell ⟨g, off + k * 4 + 1, none⟩ (.int .i64 y.to)).setCell ⟨g, off + k * 4 + 2, none⟩ (.int .i64 y.sl)).setCell ⟨g, off + k * 4 + 3, none⟩ (.bool y.only)) base 101 4 rowM (.slice (some ⟨g, off, none⟩) n c) (ms.set k y) := by
  have hk1 : ∀ y, k < (ms.set k y).length := fun y => by simpa using hk
  have hg1 : ∀ y, (ms.set k y).getD k zM = y := fun y => by simp [List.getD, List.getElem?_set_self hk]
  have r1 := h.putRow rowM4 k 0 zM ⟨y.fr, (ms.getD k zM).to, (ms.getD k zM).sl, (ms.getD k zM).only⟩ (.int .i64 y.fr) hk (by omega) rfl
  have r2 := r1.putRow rowM4 k 1 zM ⟨y.fr, y.to, (ms.getD k zM).sl, (ms.getD k zM).only⟩ (.int .i64 y.to) (hk1 _) (by omega) (by rw [hg1]; rfl)
  rw [List.set_set] at r2
  have r3 := r2.putRow rowM4 k 2 zM ⟨y.fr, y.to, y.sl, (ms.getD k zM).only⟩ (.int .i64 y.sl) (hk1 _) (by omega) (by rw [hg1]; rfl)
  rw [List.set_set] at r3
  have r4 := r3.putRow rowM4 k 3 zM y (.bool y.only) (hk1 _) (by omega) (by rw [hg1]; rfl)
  rw [List.set_set] at r4
  simpa only [Nat.add_zero] using r4
theorem Owns.cells4 {w : World} {base g off n c k : Nat} {ms : List MR} (h : Owns w base 101 4 rowM (.slice (some ⟨g, off, none⟩) n c) ms) (hk : k < ms.length) :
    (w.cell? ⟨g, off + k * 4, none⟩ = some (.int .i64 (ms.getD k zM).fr) ∧ w.cell? ⟨g, off + k * 4 + 1, none⟩ = some (.int .i64 (ms.getD k zM).to) ∧ w.cell? ⟨g, off + k * 4 + 2, none⟩ = some (.int .i64 (ms.getD k zM).sl) ∧ w.cell? ⟨g, off + k * 4 + 3, none⟩ = some (.bool (ms.getD k zM).only)) ∧
      w.frozen? ⟨g, off + k * 4, none⟩ = false ∧ w.frozen? ⟨g, off + k * 4 + 1, none⟩ = false ∧ w.frozen? ⟨g, off + k * 4 + 2, none⟩ = false ∧ w.frozen? ⟨g, off + k * 4 + 3, none⟩ = false := by
  have c0 := h.cellAt rowM4 k 0 zM hk (by omega)
  have c1 := h.cellAt rowM4 k 1 zM hk (by omega)
  have c2 := h.cellAt rowM4 k 2 zM hk (by omega)
  have c3 := h.cellAt rowM4 k 3 zM hk (by omega)
  simp only [Nat.add_zero] at c0
  exact ⟨⟨c0, c1, c2, c3⟩, h.frozenAt _, h.frozenAt _, h.frozenAt _, h.frozenAt _⟩

def ToRP (ms : List MR) (w : World) (e : Ending) (w' : World) : Prop := ∃ g : Nat, e = .returned (.slice (some ⟨g, 0, none⟩) ms.length ms.length) ∧ Owns w' w.heap.size 101 4 rowM (.slice (some ⟨g, 0, none⟩) ms.length ms.length) ms ∧ Below w.heap.size w w'
set_option maxHeartbeats 4000000 in
theorem toRanges_any (v : Value) (ms : List MR) (B : Nat) (w : World) (hv : Maps w B v ms) (hB : B ≤ w.heap.size) (hlen : ms.length ≤ 1048576) :
    Calls Try.prog 30 #[v] w (ToRP ms w) := by
  obtain ⟨ao, cap, rfl, hlc, hcap, hln, hni, hr⟩ := hv.opened
  clear hv
  go_enter Try.func30, Try.ntmps30
  go_wp2_with (first | (at_make; go_must (refine wpList_mk rowM zM (.agg #[.int .i64 0, .int .i64 0, .int .i64 0, .bool false]) Try.underlying23 infoMR rfl (by omega) rfl _ rfl _ _ rfl _ _ _ _ ms.length rfl rfl rfl rfl (by omega) (by unfold maxLen; omega) ?_); intro w1 hown hbel hlt1))
  rw [← fillL_zero zM ms] at hown
  go_loopw [4] (fun i wr => ∃ k : Nat, k ≤ ms.length ∧ i = .int .i64 k ∧ Owns wr w.heap.size 101 4 rowM (.slice (some ⟨w.heap.size, 0, none⟩) ms.length ms.length) (fillL zM ms k) ∧ Below w.heap.size w wr) (fun i _ => ms.length - (intOf i).toNat)
  case atStart => exact ⟨0, Nat.zero_le _, rfl, hown, hbel⟩
  case round =>
    clear hown hbel hlt1
    obtain ⟨k, hk, rfl, hown, hbel⟩ := hrel
    by_cases hlt : k < ms.length
    · obtain ⟨b, off, rfl, hb, hc⟩ := hr (by omega)
      obtain ⟨c0, c1, c2, c3⟩ := hc k hlt
      rw [← hbel.cell (p := ⟨b, _, none⟩) (Nat.lt_of_lt_of_le hb hB)] at c0 c1 c2 c3
      obtain ⟨x, hx⟩ : ∃ x, x = ms.getD k default := ⟨_, rfl⟩
      rw [← hx] at c0 c1 c2 c3
      have HX := hid hx; have HB := hid hbel; have HO := hid hown
      clear hx hc hr hown hbel
      go_wp2_with fail
      refine (toRange_any x _).mono ?_
      rintro e w2 ⟨rfl, hb2⟩
      have ho2 := HO.out.below hb2
      obtain ⟨⟨q0, q1, q2, q3⟩, f0, f1, f2, f3⟩ := ho2.cells4 (k := k) (by rw [fillL_len _ _ hk]; exact hlt)
      have HN := hid (ho2.row4 (k := k) (by rw [fillL_len _ _ hk]; exact hlt) x)
      have HB2 := hid (HB.out.trans (hb2.mono HB.out.size))
      simp only [Nat.zero_add] at q0 q1 q2 q3 f0 f1 f2 f3 HN
      have hlt2 : w.heap.size < w2.heap.size := (OwnR.lt ho2 _ rfl).2
      clear hb2 ho2
      go_wp2_with fail
      go_roundw
      case rel => exact ⟨k + 1, by omega, by go_num, by rw [← fillL_set zM ms hlt default, ← HX.out]; exact HN.out, (((HB2.out.setCell (by simp) _).setCell (by simp) _).setCell (by simp) _).setCell (by simp) _⟩
      case measure => simp [intOf]; omega
    · have hk2 : k = ms.length := by omega
      subst hk2
      go_wp2_with fail
      go_ret
      exact ⟨_, rfl, by rw [fillL_all] at hown; exact hown, hbel⟩

/-- What is owned, as it is read: ranges. -/
theorem Owns.maps {w : World} {base : Nat} {v : Value} {ms : List MR} (h : Owns w base 101 4 rowM v ms) (hn : ms.length ≤ 1048576) (hx : ∀ r ∈ ms, MR64 r) : Maps w w.heap.size v ms := ⟨h.arr rowM4 (by omega), hx⟩

end Go.Proofs.Yteamebdehembgaa

namespace Go.Proofs.Yteamebdehembgaa
open Go.RowKit

set_option maxHeartbeats 1000000 in
theorem markIntB_any (v : Value) (xs : List Int) (m base : Nat) (w : World) (hv : Owns w base 3 1 rowI v xs) (hm : m + xs.length ≤ 1152921504606846976) :
    Calls Try.prog 94 #[v, .int .i64 m] w fun e w' => e = .returned (.int .i64 ((m + xs.length : Nat) : Int)) ∧ Owns w' base 3 1 rowI v (marks m xs.length) ∧ (∀ k, k < w.heap.size → v.ownBlock ≠ some k → w'.heap[k]? = w.heap[k]?) ∧ w'.os = w.os ∧ w'.tape = w.tape ∧ w'.output = w.output ∧ w'.heap.size = w.heap.size := by
  by_cases h0 : xs.length = 0
  · have hx : xs = [] := List.eq_nil_of_length_eq_zero h0
    subst hx
    obtain ⟨a, c, rfl, h1, h2⟩ := hv.shape
    simp only [List.length_nil] at *
    have HV := hid hv; clear hv
    go_enter Try.func94, Try.ntmps94
    go_wp2_with fail
    go_loopw [1, 5] (fun m' i wr => m' = .int .i64 m ∧ i = .int .i64 0 ∧ wr = w) (fun _ i _ => (intOf i).toNat)
    case atStart => exact ⟨rfl, rfl, rfl⟩
    case round =>
      obtain ⟨rfl, rfl, rfl⟩ := hrel
      go_wp2_with fail
      go_ret
      exact ⟨by simp, by simpa [marks] using HV.out, fun _ _ _ => rfl, rfl, rfl, rfl, rfl⟩
  · have HV := hid hv
    obtain ⟨hl, h2⟩ := hv
    rcases h2 with ⟨h2, h3⟩ | ⟨g, off, cap, cur, rfl, hg, hh, hle, hmax, hsz, hc⟩
    · exact absurd h3 h0
    have hcap : cap ≤ 9223372036854775807 := by unfold maxLen at hmax; omega
    clear hl hh hsz hc hmax
    have hz0 := hid (markK_zero xs m)
    go_enter Try.func94, Try.ntmps94
    go_wp2_with fail
    go_loopw [1, 5] (fun m' i wr => ∃ k : Nat, k ≤ xs.length ∧ m' = .int .i64 ((m + k : Nat) : Int) ∧ i = .int .i64 k ∧ Owns wr base 3 1 rowI (.slice (some ⟨g, off, none⟩) xs.length cap) (markK xs m k) ∧ Touch g w wr ∧ wr.heap.size = w.heap.size) (fun _ i _ => xs.length - (intOf i).toNat)
    case atStart => exact ⟨0, Nat.zero_le _, by simp, rfl, by rw [hz0.out]; exact HV.out, Touch.refl _ _, rfl⟩
    case round =>
      obtain ⟨k, hk, rfl, rfl, hown, ht, hsz⟩ := hrel
      by_cases hlt : k < xs.length
      · have hcell := hown.cellI k (by rw [markK_len hk]; exact hlt)
        have hfr := hown.frozenI k
        have hput := hown.putI k (by rw [markK_len hk]; exact hlt) ((m + k : Nat) : Int)
        rw [markK_set hlt] at hput
        have HP := hid hput; have HT := hid ht
        obtain ⟨y, hy⟩ : ∃ y, y = (markK xs m k).getD k 0 := ⟨_, rfl⟩
        rw [← hy] at hcell
        have HS := hid hsz
        clear hput hown ht hy hsz
        go_wp2_with fail
        go_roundw
        case rel => exact ⟨k + 1, by omega, by go_num, by go_num, HP.out, HT.out.trans (Touch.setCell ..), by simpa [World.setCell] using HS.out⟩
        case measure => simp [intOf]; omega
      · obtain rfl : k = xs.length := by omega
        rw [markK_all] at hown
        have HO := hid hown; have HT := hid ht; have HS := hid hsz
        clear hown ht hsz
        go_wp2_with fail
        go_ret
        exact ⟨rfl, HO.out, fun k hk hn => HT.out.block k hk (fun e => hn (by rw [e]; rfl)), HT.out.os, HT.out.tape, HT.out.output, HS.out⟩

set_option maxHeartbeats 1000000 in
theorem heldIntB_any (v : Value) (n m B : Nat) (w : World) (hv : Ints w B v (marks m n)) (hm : m + n ≤ 1152921504606846976) :
    Calls Try.prog 97 #[v, .int .i64 m] w fun e w' => e = .returned (.int .i64 ((m + n : Nat) : Int)) ∧ w = w' := by
  obtain ⟨ao, cap, rfl, hlc, hcap, hln, hni, hr⟩ := hv.opened
  rw [marks_len] at *
  clear hv
  go_enter Try.func97, Try.ntmps97
  go_wp2_with fail
  go_loop [1, 5] (fun m' i => ∃ k : Nat, k ≤ n ∧ m' = .int .i64 ((m + k : Nat) : Int) ∧ i = .int .i64 k) (fun _ i => n - (intOf i).toNat)
  case atStart => exact ⟨0, Nat.zero_le _, by simp, rfl⟩
  case round =>
    obtain ⟨k, hk, rfl, rfl⟩ := hrel
    by_cases hlt : k < n
    · obtain ⟨b, off, rfl, hb, hc⟩ := hr (by omega)
      have hck := hc k hlt
      rw [marks_get m hlt] at hck
      clear hc hr
      go_wp2_with fail
      go_round
      case rel => exact ⟨k + 1, by omega, by go_num, by go_num⟩
      case measure => simp [intOf]; omega
    · obtain rfl : k = n := by omega
      go_wp2_with fail
      go_ret
      exact ⟨rfl, rfl⟩

theorem cell_heap {w w' : World} {b o : Nat} (h : w'.heap[b]? = w.heap[b]?) : w'.cell? ⟨b, o, none⟩ = w.cell? ⟨b, o, none⟩ := by simp only [World.cell?, h]
/-- Of what was there, but for the blocks from lo up to hi, all is as it was. -/
structure Bt (lo hi : Nat) (w w' : World) : Prop where
  os : w'.os = w.os
  tape : w'.tape = w.tape
  output : w'.output = w.output
  size : w.heap.size ≤ w'.heap.size
  block : ∀ k, k < w.heap.size → (k < lo ∨ hi ≤ k) → w'.heap[k]? = w.heap[k]?
theorem Bt.refl (lo hi : Nat) (w : World) : Bt lo hi w w := ⟨rfl, rfl, rfl, Nat.le_refl _, fun _ _ _ => rfl⟩
theorem Bt.trans {lo hi : Nat} {a b c : World} (h : Bt lo hi a b) (k : Bt lo hi b c) : Bt lo hi a c :=
  ⟨k.os.trans h.os, k.tape.trans h.tape, k.output.trans h.output, Nat.le_trans h.size k.size, fun j hj hp => (k.block j (Nat.lt_of_lt_of_le hj h.size) hp).trans (h.block j hj hp)⟩
theorem Bt.of_below {lo hi : Nat} {w w' : World} (h : Below w.heap.size w w') : Bt lo hi w w' := ⟨h.os, h.tape, h.output, h.size, fun j hj _ => h.block j hj⟩
theorem Bt.below {lo hi : Nat} {w w' : World} (h : Bt lo hi w w') (hl : lo ≤ w.heap.size) : Below lo w w' := ⟨h.os, h.tape, h.output, h.size, fun k hk => h.block k (by omega) (.inl hk)⟩
theorem Bt.mono {lo hi lo' hi' : Nat} {w w' : World} (h : Bt lo hi w w') (h1 : lo' ≤ lo) (h2 : hi ≤ hi') : Bt lo' hi' w w' := ⟨h.os, h.tape, h.output, h.size, fun k hk hp => h.block k hk (by omega)⟩
theorem Bt.set {lo hi : Nat} {w w' : World} (h : Bt lo hi w w') {p : Addr} (h1 : lo ≤ p.block) (h2 : p.block < hi) (u : Value) : Bt lo hi w (w'.setCell p u) :=
  ⟨h.os, h.tape, h.output, by simpa [World.setCell] using h.size, fun k hk hp => by rw [Below.heap_setCell _ _ _ _ (by omega)]; exact h.block k hk hp⟩
/-- Whatever lies ahead of lo, or behind hi, is kept. -/
theorem Owns.bt {α : Type} {w w' : World} {base e sz lo hi : Nat} {f : α → List Value} {v : Value} {xs : List α} (h : Owns w base e sz f v xs) (hb : Bt lo hi w w') (hk : ∀ k, v.ownBlock = some k → k < lo ∨ hi ≤ k) : Owns w' base e sz f v xs :=
  OwnR.kept h fun k hk2 => hb.block k (OwnR.lt h k hk2).2 (hk k hk2)
theorem Bx.bt {W W' : World} {H lo hi : Nat} {cs : List Value} (h : Bx W H cs) (hb : Bt lo hi W W') (hk : H < lo ∨ hi ≤ H) : Bx W' H cs := h.kept (hb.block H h.lt hk)

/-- What a mark of one list leaves. -/
structure MkP (v : Value) (xs : List Int) (m base : Nat) (w w' : World) : Prop where
  own : Owns w' base 3 1 rowI v (marks m xs.length)
  keep : ∀ k, k < w.heap.size → v.ownBlock ≠ some k → w'.heap[k]? = w.heap[k]?
  os : w'.os = w.os
  tape : w'.tape = w.tape
  output : w'.output = w.output
  size : w'.heap.size = w.heap.size
theorem MkP.bt {v : Value} {xs : List Int} {m base lo hi : Nat} {w w' : World} (h : MkP v xs m base w w') (hv : ∀ k, v.ownBlock = some k → lo ≤ k ∧ k < hi) : Bt lo hi w w' :=
  ⟨h.os, h.tape, h.output, Nat.le_of_eq h.size.symm, fun k hk hp => h.keep k hk fun e => by have := hv k e; omega⟩
theorem MkP.other {α : Type} {v u : Value} {xs : List Int} {m base base' e sz : Nat} {f : α → List Value} {ys : List α} {w w' : World} (h : MkP v xs m base w w') (ho : Owns w base' e sz f u ys) (ha : Apart u v) : Owns w' base' e sz f u ys :=
  OwnR.kept ho fun k hk => h.keep k (OwnR.lt ho k hk).2 (ha k hk)
theorem MkP.box {v : Value} {xs : List Int} {m base H : Nat} {cs : List Value} {w w' : World} (h : MkP v xs m base w w') (hb : Bx w H cs) (ha : v.ownBlock ≠ some H) : Bx w' H cs := hb.kept (h.keep H hb.lt ha)
theorem markI_any (v : Value) (xs : List Int) (m base : Nat) (w : World) (hv : Owns w base 3 1 rowI v xs) (hm : m + xs.length ≤ 1152921504606846976) :
    Calls Try.prog 94 #[v, .int .i64 m] w fun e w' => e = .returned (.int .i64 ((m + xs.length : Nat) : Int)) ∧ MkP v xs m base w w' :=
  (markIntB_any v xs m base w hv hm).mono fun _ _ ⟨h1, h2, h3, h4, h5, h6, h7⟩ => ⟨h1, h2, h3, h4, h5, h6, h7⟩

set_option maxHeartbeats 2000000 in
theorem markMem_any (v : Value) (xs : List Int) (m base : Nat) (w : World) (hv : Owns w base 3 1 rowI v xs) (hm : m + xs.length ≤ 1152921504606846976) :
    Calls Try.prog 111 #[.agg #[v], .int .i64 m] w fun e w' => e = .returned (.int .i64 ((m + xs.length : Nat) : Int)) ∧ Owns w' base 3 1 rowI v (marks m xs.length) ∧ (∀ k, k < w.heap.size → v.ownBlock ≠ some k → w'.heap[k]? = w.heap[k]?) ∧ w'.os = w.os ∧ w'.tape = w.tape ∧ w'.output = w.output ∧ w.heap.size ≤ w'.heap.size := by
  have HV := hid hv
  obtain ⟨a, c, rfl, _, _⟩ := hv.shape
  clear hv
  have HB := hid (bx1 w)
  go_enter Try.func111, Try.ntmps111
  go_wp2_with fail
  refine (markI_any _ xs m base _ (HV.out.below (HB.out _)) hm).mono ?_
  rintro e w1 ⟨rfl, h⟩
  have H := hid h; clear h
  go_wp2_with fail
  go_ret
  exact ⟨rfl, H.out.own, fun k hk hn => (H.out.keep k (by simp; omega) hn).trans ((HB.out _).block k hk), H.out.os, H.out.tape, H.out.output, by rw [H.out.size]; simp⟩

def atmAgg (wv hv : Value) : Value := .agg #[wv, hv]
set_option maxHeartbeats 4000000 in
theorem markAtm_any (wv hv : Value) (ws hs : List Int) (m base lo hi : Nat) (w : World) (h1 : Owns w base 3 1 rowI wv ws) (h2 : Owns w base 3 1 rowI hv hs) (ha : Apart wv hv) (hm : m + ws.length + hs.length ≤ 1152921504606846976)
    (k1 : ∀ k, wv.ownBlock = some k → lo ≤ k ∧ k < hi) (k2 : ∀ k, hv.ownBlock = some k → lo ≤ k ∧ k < hi) :
    Calls Try.prog 39 #[.agg #[wv, hv], .int .i64 m] w fun e w' => e = .returned (.int .i64 ((m + ws.length + hs.length : Nat) : Int)) ∧ Owns w' base 3 1 rowI wv (marks m ws.length) ∧ Owns w' base 3 1 rowI hv (marks (m + ws.length) hs.length) ∧ Bt lo hi w w' ∧ ∀ k, k < w.heap.size → wv.ownBlock ≠ some k → hv.ownBlock ≠ some k → w'.heap[k]? = w.heap[k]? := by
  have H1 := hid h1; have H2 := hid h2; have HA := hid ha
  obtain ⟨a, c, rfl, _, _⟩ := h1.shape
  obtain ⟨b, d, rfl, _, _⟩ := h2.shape
  have g1 := hid (fun k hk => (OwnR.lt h1 k hk).2); have g2 := hid (fun k hk => (OwnR.lt h2 k hk).2)
  have K1 := hid k1; have K2 := hid k2
  clear h1 h2 ha k1 k2
  have HB := hid (bx1 w)
  go_enter Try.func39, Try.ntmps39
  go_wp2_with fail
  refine (markMem_any _ ws m base _ (H1.out.below (HB.out _)) (by omega)).mono ?_
  rintro e w1 ⟨rfl, o1, kp, z1, z2, z3, z4⟩
  have O1 := hid o1; have KP := hid kp; have Z := hid (And.intro z1 (And.intro z2 z3))
  have hne : ∀ k, (Value.slice a ws.length c).ownBlock = some k → k ≠ w.heap.size := fun k hk => by have := g1.out k hk; omega
  have c1 : w1.cell? ⟨w.heap.size, 1, none⟩ = some (.slice b hs.length d) := by
    have := kp w.heap.size (by simp) (fun e => hne _ e rfl)
    rw [cell_heap this]; simp
  have hl1 : w.heap.size < w1.heap.size := World.block_lt_of_cell? w1 _ c1
  have O2 := hid ((H2.out.below (HB.out _)).kept fun k hk => kp k (by simp; have := g2.out k hk; omega) (fun e => HA.out k e hk) : Owns w1 base 3 1 rowI (.slice b hs.length d) hs)
  clear o1 kp z1 z2 z3 hne
  go_wp2_with fail
  refine (markI_any _ hs (m + ws.length) base _ O2.out (by omega)).mono ?_
  rintro e w2 ⟨rfl, h⟩
  have H := hid h; clear h
  go_wp2_with fail
  go_ret
  refine ⟨rfl, H.out.other O1.out HA.out, H.out.own, ⟨H.out.os.trans Z.out.1, H.out.tape.trans Z.out.2.1, H.out.output.trans Z.out.2.2, by have := H.out.size; omega, fun k hk hp => ?_⟩, fun k hk a1 a2 => ?_⟩
  · rw [H.out.keep k (by omega) (fun e => by have := K2.out k e; omega), KP.out k (by simp; omega) (fun e => by have := K1.out k e; omega)]
    exact (HB.out _).block k hk
  · rw [H.out.keep k (by omega) a2, KP.out k (by simp; omega) a1]
    exact (HB.out _).block k hk

set_option maxHeartbeats 4000000 in
theorem markReq_any (q : Rq) (dv lv : Value) (m base lo hi : Nat) (w : World) (h1 : Owns w base 3 1 rowI dv q.data) (h2 : Owns w base 3 1 rowI lv q.lanes) (ha : Apart dv lv) (hm : m + q.data.length + q.lanes.length ≤ 1152921504606846976)
    (k1 : ∀ k, dv.ownBlock = some k → lo ≤ k ∧ k < hi) (k2 : ∀ k, lv.ownBlock = some k → lo ≤ k ∧ k < hi) :
    Calls Try.prog 40 #[.agg #[.int .i64 q.id, .int .i64 q.kind, .int .i64 q.addr, .int .i64 q.many, .bool q.wrap, dv, lv], .int .i64 m] w fun e w' => e = .returned (.int .i64 ((m + q.data.length + q.lanes.length : Nat) : Int)) ∧ Bt lo hi w w' := by
  have H1 := hid h1; have H2 := hid h2; have HA := hid ha
  obtain ⟨a, c, rfl, _, _⟩ := h1.shape
  obtain ⟨b, d, rfl, _, _⟩ := h2.shape
  have g1 := hid (fun k hk => (OwnR.lt h1 k hk).2); have g2 := hid (fun k hk => (OwnR.lt h2 k hk).2)
  have K1 := hid k1; have K2 := hid k2
  clear h1 h2 ha k1 k2
  have HB := hid (bx1 w)
  go_enter Try.func40, Try.ntmps40
  go_wp2_with fail
  refine (markI_any _ q.data m base _ (H1.out.below (HB.out _)) (by omega)).mono ?_
  rintro e w1 ⟨rfl, h⟩
  have H := hid h; clear h
  have hne : ∀ k, (Value.slice a q.data.length c).ownBlock = some k → k ≠ w.heap.size := fun k hk => by have := g1.out k hk; omega
  have c1 : w1.cell? ⟨w.heap.size, 6, none⟩ = some (.slice b q.lanes.length d) := by
    have := H.out.keep w.heap.size (by simp) (fun e => hne _ e rfl)
    rw [cell_heap this]; simp
  have hl1 : w.heap.size < w1.heap.size := World.block_lt_of_cell? w1 _ c1
  have O2 := hid (H.out.other (H2.out.below (HB.out _)) HA.out.symm)
  clear hne
  go_wp2_with fail
  refine (markI_any _ q.lanes (m + q.data.length) base _ O2.out (by omega)).mono ?_
  rintro e w2 ⟨rfl, h⟩
  have H' := hid h; clear h
  go_wp2_with fail
  go_ret
  exact ⟨rfl, ((Bt.of_below (HB.out _)).trans (H.out.bt K1.out)).trans (H'.out.bt K2.out)⟩

/-- But for the block of v (and new ones) all is as it was. -/
structure Kb (v : Value) (w w' : World) : Prop where
  keep : ∀ k, k < w.heap.size → v.ownBlock ≠ some k → w'.heap[k]? = w.heap[k]?
  os : w'.os = w.os
  tape : w'.tape = w.tape
  output : w'.output = w.output
  size : w.heap.size ≤ w'.heap.size
theorem Kb.bt {v : Value} {lo hi : Nat} {w w' : World} (h : Kb v w w') (hv : ∀ k, v.ownBlock = some k → lo ≤ k ∧ k < hi) : Bt lo hi w w' :=
  ⟨h.os, h.tape, h.output, h.size, fun k hk hp => h.keep k hk fun e => by have := hv k e; omega⟩
theorem Kb.other {α : Type} {v u : Value} {base' e sz : Nat} {f : α → List Value} {ys : List α} {w w' : World} (h : Kb v w w') (ho : Owns w base' e sz f u ys) (ha : Apart u v) : Owns w' base' e sz f u ys :=
  OwnR.kept ho fun k hk => h.keep k (OwnR.lt ho k hk).2 (ha k hk)
set_option maxHeartbeats 4000000 in
theorem markRsp_any (x : Rs) (dv : Value) (m base : Nat) (w : World) (h1 : Owns w base 3 1 rowI dv x.data) (hm : m + x.data.length ≤ 1152921504606846976) :
    Calls Try.prog 41 #[.agg #[.int .i64 x.id, .int .i64 x.code, dv], .int .i64 m] w fun e w' => e = .returned (.int .i64 ((m + x.data.length : Nat) : Int)) ∧ Owns w' base 3 1 rowI dv (marks m x.data.length) ∧ Kb dv w w' := by
  have H1 := hid h1
  obtain ⟨a, c, rfl, _, _⟩ := h1.shape
  clear h1
  have HB := hid (bx1 w)
  go_enter Try.func41, Try.ntmps41
  go_wp2_with fail
  refine (markI_any _ x.data m base _ (H1.out.below (HB.out _)) (by omega)).mono ?_
  rintro e w1 ⟨rfl, h⟩
  have H := hid h; clear h
  go_wp2_with fail
  go_ret
  exact ⟨rfl, H.out.own, fun k hk hn => (H.out.keep k (by simp; omega) hn).trans ((HB.out _).block k hk), H.out.os, H.out.tape, H.out.output, by rw [H.out.size]; simp⟩

/-- Ranges as they are marked. -/
def mk1M (m : Nat) : MR := ⟨(m : Nat), ((m + 1 : Nat) : Int), ((m + 2 : Nat) : Int), (((m + 3 : Nat) : Int).tmod 3 == 0)⟩
def markG {α : Type} (f : Nat → α → α) (wt : α → Nat) : Nat → List α → List α
  | _, [] => []
  | m, x :: xs => f m x :: markG f wt (m + wt x) xs
def sumG {α : Type} (wt : α → Nat) (xs : List α) : Nat := (xs.map wt).sum
def partG {α : Type} (f : Nat → α → α) (wt : α → Nat) (m : Nat) (xs : List α) (k : Nat) : List α := markG f wt m (xs.take k) ++ xs.drop k
theorem markG_len {α : Type} (f : Nat → α → α) (wt : α → Nat) : ∀ (xs : List α) (m : Nat), (markG f wt m xs).length = xs.length
  | [], _ => rfl
  | x :: xs, m => by simp [markG, markG_len f wt xs]
theorem markG_app {α : Type} (f : Nat → α → α) (wt : α → Nat) : ∀ (xs ys : List α) (m : Nat), markG f wt m (xs ++ ys) = markG f wt m xs ++ markG f wt (m + sumG wt xs) ys
  | [], ys, m => by simp [markG, sumG]
  | x :: xs, ys, m => by simp [markG, markG_app f wt xs, sumG, Nat.add_assoc]
theorem sumG_snoc {α : Type} (wt : α → Nat) {xs : List α} {k : Nat} (h : k < xs.length) (d : α) : sumG wt (xs.take (k + 1)) = sumG wt (xs.take k) + wt (xs.getD k d) := by
  rw [List.take_succ_eq_append_getElem h]; simp only [sumG, List.map_append, List.sum_append, List.map_cons, List.map_nil, List.sum_cons, List.sum_nil, List.getD, List.getElem?_eq_getElem h, Option.getD_some, Nat.add_zero]
theorem sumG_le {α : Type} (wt : α → Nat) (b : Nat) : ∀ xs : List α, (∀ x ∈ xs, wt x ≤ b) → sumG wt xs ≤ xs.length * b
  | [], _ => by simp [sumG]
  | x :: xs, h => by
    have := sumG_le wt b xs (fun y hy => h y (by simp [hy]))
    have h2 := h x (by simp)
    simp only [sumG, List.map_cons, List.sum_cons, List.length_cons, Nat.add_mul] at *
    omega
theorem sumG_take_le {α : Type} (wt : α → Nat) (xs : List α) (k : Nat) : sumG wt (xs.take k) ≤ sumG wt xs := by
  have : sumG wt xs = sumG wt (xs.take k) + sumG wt (xs.drop k) := by
    conv => lhs; rw [← List.take_append_drop k xs]
    simp only [sumG, List.map_append, List.sum_append]
  omega
theorem partG_len {α : Type} (f : Nat → α → α) (wt : α → Nat) (m : Nat) (xs : List α) (k : Nat) : (partG f wt m xs k).length = xs.length := by simp [partG, markG_len]; omega
theorem partG_zero {α : Type} (f : Nat → α → α) (wt : α → Nat) (m : Nat) (xs : List α) : partG f wt m xs 0 = xs := by simp [partG, markG]
theorem partG_all {α : Type} (f : Nat → α → α) (wt : α → Nat) (m : Nat) (xs : List α) : partG f wt m xs xs.length = markG f wt m xs := by simp [partG]
theorem partG_get {α : Type} (f : Nat → α → α) (wt : α → Nat) (m : Nat) {xs : List α} {k j : Nat} (h : k ≤ j) (hj : j < xs.length) (d : α) : (partG f wt m xs k).getD j d = xs.getD j d := by
  unfold partG
  have hl : (markG f wt m (xs.take k)).length = k := by rw [markG_len]; simp; omega
  simp only [List.getD]
  rw [List.getElem?_append_right (by omega), hl, List.getElem?_drop]
  congr 2; omega
theorem partG_set {α : Type} (f : Nat → α → α) (wt : α → Nat) (m : Nat) {xs : List α} {k : Nat} (h : k < xs.length) (d : α) : (partG f wt m xs k).set k (f (m + sumG wt (xs.take k)) (xs.getD k d)) = partG f wt m xs (k + 1) := by
  unfold partG
  have hl : (markG f wt m (xs.take k)).length = k := by rw [markG_len]; simp; omega
  rw [List.set_append_right _ _ (by omega), hl, Nat.sub_self, List.take_succ_eq_append_getElem h, markG_app, List.drop_eq_getElem_cons h, List.set_cons_zero, List.append_assoc]
  simp [markG, List.getD, h]
theorem markG_get {α : Type} (f : Nat → α → α) (wt : α → Nat) (m : Nat) {xs : List α} {k : Nat} (h : k < xs.length) (d : α) : (markG f wt m xs).getD k d = f (m + sumG wt (xs.take k)) (xs.getD k d) := by
  have e : xs = xs.take k ++ xs.getD k d :: xs.drop (k + 1) := by
    simp [List.getD, h]
  have hl : (markG f wt m (xs.take k)).length = k := by rw [markG_len]; simp; omega
  conv => lhs; rw [e]
  rw [markG_app]
  simp only [List.getD]
  rw [List.getElem?_append_right (by omega), hl, Nat.sub_self]
  simp [markG]

def markM (m : Nat) (ms : List MR) : List MR := markG (fun m _ => mk1M m) (fun _ => 4) m ms
theorem sum4 (ms : List MR) : sumG (fun _ : MR => 4) ms = 4 * ms.length := by
  induction ms with
  | nil => rfl
  | cons x xs ih => simp only [sumG, List.map_cons, List.sum_cons, List.length_cons] at *; omega
def MkRP (ms : List MR) (base m g off cap : Nat) (w : World) (e : Ending) (w' : World) : Prop := e = .returned (.int .i64 ((m + 4 * ms.length : Nat) : Int)) ∧ Owns w' base 101 4 rowM (.slice (some ⟨g, off, none⟩) ms.length cap) (markM m ms) ∧ Touch g w w' ∧ w'.heap.size = w.heap.size
set_option maxRecDepth 8000 in
set_option maxHeartbeats 8000000 in
theorem markRanges_any (ms : List MR) (base m g off cap : Nat) (w : World) (hv : Owns w base 101 4 rowM (.slice (some ⟨g, off, none⟩) ms.length cap) ms) (hm : m + 4 * ms.length ≤ 1152921504606846976) :
    Calls Try.prog 38 #[.slice (some ⟨g, off, none⟩) ms.length cap, .int .i64 m] w (MkRP ms base m g off cap w) := by
  have HV := hid hv
  obtain ⟨a, c, ev, hlc, hcap⟩ := hv.shape
  simp only [Value.slice.injEq, true_and] at ev
  obtain ⟨rfl, rfl⟩ := ev
  have hz0 := hid (partG_zero (fun m _ => mk1M m) (fun _ => 4) m ms)
  clear hv
  go_enter Try.func38, Try.ntmps38
  go_wp2_with fail
  go_loopw [1, 5] (fun m' i wr => ∃ k : Nat, k ≤ ms.length ∧ m' = .int .i64 ((m + 4 * k : Nat) : Int) ∧ i = .int .i64 k ∧ Owns wr base 101 4 rowM (.slice (some ⟨g, off, none⟩) ms.length cap) (partG (fun m _ => mk1M m) (fun _ => 4) m ms k) ∧ Touch g w wr ∧ wr.heap.size = w.heap.size) (fun _ i _ => ms.length - (intOf i).toNat)
  case atStart => exact ⟨0, Nat.zero_le _, by simp, rfl, by rw [hz0.out]; exact HV.out, Touch.refl _ _, rfl⟩
  case round =>
    obtain ⟨k, hk, rfl, rfl, hown, ht, hsz⟩ := hrel
    by_cases hlt : k < ms.length
    · obtain ⟨⟨q0, q1, q2, q3⟩, f0, f1, f2, f3⟩ := hown.cells4 (k := k) (by rw [partG_len]; exact hlt)
      have hput := hown.row4 (k := k) (by rw [partG_len]; exact hlt) (mk1M (m + sumG (fun _ : MR => 4) (ms.take k)))
      rw [partG_set (fun m _ => mk1M m) (fun _ => 4) m hlt zM] at hput
      have e4 : m + sumG (fun _ : MR => 4) (ms.take k) = m + 4 * k := by rw [sum4]; simp; omega
      rw [e4] at hput
      simp only [mk1M] at hput
      have HP := hid hput; have HT := hid ht
      have hgl : g < wr.heap.size := (OwnR.lt hown g rfl).2
      obtain ⟨y, hy⟩ : ∃ y, y = (partG (fun m _ => mk1M m) (fun _ => 4) m ms k).getD k zM := ⟨_, rfl⟩
      rw [← hy] at q0 q1 q2 q3
      have HS := hid hsz
      clear hput hown ht hy hsz e4
      go_wp2_with fail
      go_roundw
      case rel => exact ⟨k + 1, by omega, by go_num, by go_num, HP.out, (((HT.out.trans (Touch.setCell ..)).trans (Touch.setCell ..)).trans (Touch.setCell ..)).trans (Touch.setCell ..), by simpa [World.setCell] using HS.out⟩
      case measure => simp [intOf]; omega
    · obtain rfl : k = ms.length := by omega
      rw [partG_all] at hown
      have HO := hid hown; have HT := hid ht; have HS := hid hsz
      clear hown ht hsz
      go_wp2_with fail
      go_ret
      exact ⟨rfl, HO.out, HT.out, HS.out⟩

end Go.Proofs.Yteamebdehembgaa

namespace Go.Proofs.Yteamebdehembgaa
open Go.RowKit

set_option maxHeartbeats 2000000 in
theorem heldMem_any (v : Value) (n m B : Nat) (w : World) (hv : Ints w B v (marks m n)) (hB : B ≤ w.heap.size) (hm : m + n ≤ 1152921504606846976) :
    Calls Try.prog 112 #[.agg #[v], .int .i64 m] w fun e w' => e = .returned (.int .i64 ((m + n : Nat) : Int)) ∧ Below w.heap.size w w' := by
  have HV := hid hv
  obtain ⟨a, c, rfl, _⟩ := hv.opened
  clear hv
  have HB := hid (bx1 w)
  go_enter Try.func112, Try.ntmps112
  go_wp2_with fail
  refine (heldIntB_any _ n m B _ (HV.out.below ((HB.out _).mono hB)) hm).mono ?_
  rintro e w1 ⟨rfl, hw⟩
  subst hw
  go_wp2_with fail
  go_ret
  exact ⟨rfl, HB.out _⟩

set_option maxHeartbeats 4000000 in
theorem heldAtm_any (v : Value) (n1 n2 m B : Nat) (w : World) (h : AtmV w B v (marks m n1) (marks (m + n1) n2)) (hB : B ≤ w.heap.size) (hm : m + n1 + n2 ≤ 1152921504606846976) :
    Calls Try.prog 42 #[v, .int .i64 m] w fun e w' => e = .returned (.int .i64 ((m + n1 + n2 : Nat) : Int)) ∧ Below w.heap.size w w' := by
  obtain ⟨wv, hv, rfl, a1, a2⟩ := h
  have H1 := hid a1; have H2 := hid a2
  obtain ⟨a, c, rfl, _⟩ := a1.opened
  obtain ⟨b, d, rfl, _⟩ := a2.opened
  clear a1 a2
  have HB := hid (bx1 w)
  go_enter Try.func42, Try.ntmps42
  go_wp2_with fail
  refine (heldMem_any _ n1 m B _ (H1.out.below ((HB.out _).mono hB)) (Nat.le_trans hB (HB.out _).size) (by omega)).mono ?_
  rintro e w1 ⟨rfl, hb⟩
  have c1 : w1.cell? ⟨w.heap.size, 1, none⟩ = some (.slice b (marks (m + n1) n2).length d) := by rw [hb.cell (p := ⟨w.heap.size, 1, none⟩) (by simp)]; simp
  have HD := hid ((HB.out _).trans (hb.mono (by simp)))
  have hl1 : w.heap.size < w1.heap.size := World.block_lt_of_cell? w1 _ c1
  clear hb
  go_wp2_with fail
  refine (heldIntB_any _ n2 (m + n1) B _ (H2.out.below (HD.out.mono hB)) hm).mono ?_
  rintro e w2 ⟨rfl, hw⟩
  subst hw
  go_wp2_with fail
  go_ret
  exact ⟨rfl, HD.out⟩

set_option maxHeartbeats 2000000 in
theorem heldRsp_any (v : Value) (id code : Int) (n m B : Nat) (w : World) (hv : Ints w B v (marks m n)) (hB : B ≤ w.heap.size) (hm : m + n ≤ 1152921504606846976) :
    Calls Try.prog 43 #[.agg #[.int .i64 id, .int .i64 code, v], .int .i64 m] w fun e w' => e = .returned (.int .i64 ((m + n : Nat) : Int)) ∧ Below w.heap.size w w' := by
  have HV := hid hv
  obtain ⟨a, c, rfl, _⟩ := hv.opened
  clear hv
  have HB := hid (bx1 w)
  go_enter Try.func43, Try.ntmps43
  go_wp2_with fail
  refine (heldIntB_any _ n m B _ (HV.out.below ((HB.out _).mono hB)) hm).mono ?_
  rintro e w1 ⟨rfl, hw⟩
  subst hw
  go_wp2_with fail
  go_ret
  exact ⟨rfl, HB.out _⟩

end Go.Proofs.Yteamebdehembgaa

namespace Go.Proofs.Yteamebdehembgaa
open Go.RowKit

def ToMP (xs : List Int) (w : World) (e : Ending) (w' : World) : Prop := ∃ u, e = .returned (.agg #[u]) ∧ Owns w' w.heap.size 3 1 rowI u xs ∧ Below w.heap.size w w'
set_option maxHeartbeats 2000000 in
theorem toMem_any (v : Value) (xs : List Int) (B : Nat) (w : World) (hv : Ints w B v xs) (hB : B ≤ w.heap.size) (hl : xs.length ≤ 1048576) :
    Calls Try.prog 105 #[.agg #[v]] w (ToMP xs w) := by
  have HV := hid hv
  obtain ⟨ao, cap, rfl, _⟩ := hv.opened
  clear hv
  go_enter Try.func105, Try.ntmps105
  go_wp2_with fail
  refine at_world (fun W => Bx W (w.heap.size + 1) [.slice none 0 0] ∧ Bx W (w.heap.size + 1 + 1) [.slice none 0 0] ∧ Below w.heap.size w W) ⟨⟨fun j hj => ?_, fun j hj => ?_, by simp⟩, ⟨fun j hj => ?_, fun j hj => ?_, by simp⟩, ?_⟩ ?_
  · obtain rfl : j = 0 := by simpa using hj
    simp [go_sem]
  · obtain rfl : j = 0 := by simpa using hj
    simp [go_sem]
  · obtain rfl : j = 0 := by simpa using hj
    simp [go_sem]
  · obtain rfl : j = 0 := by simpa using hj
    simp [go_sem]
  · exact (((Below.refl _ _).alloc (Nat.le_refl _) _).alloc (by simp) _).alloc (by simp; omega) _
  rintro W1 ⟨hr, ho, hb⟩
  refine (toIntS_any _ xs B _ (HV.out.below (hb.mono hB)) (Nat.le_trans hB hb.size) hl).mono ?_
  rintro e w1 ⟨u, rfl, hu, hb1⟩
  have HU := hid hu
  obtain ⟨q, c, rfl, _, _⟩ := hu.shape
  obtain ⟨r0, rf0⟩ := (hr.below hb1 hr.lt).one
  obtain ⟨o0, of0⟩ := (ho.below hb1 ho.lt).one
  have hlo := (ho.below hb1 ho.lt).lt
  have HB := hid (hb.trans (hb1.mono hb.size))
  have hg : ∀ k, (Value.slice q xs.length c).ownBlock = some k → w.heap.size + 1 + 1 < k := fun k hk => by have := (OwnR.lt hu k hk).1; have := ho.lt; omega
  have HG := hid hg
  have hlr : w.heap.size + 1 < w1.heap.size := by omega
  have hO1 := hid (hu.rebase hb.size)
  clear hu hr ho hb1 hb hg
  go_wp2_with fail
  refine bodyPost_ret (v := .agg #[.slice q xs.length c]) (by simp [results, Try.results105, go_sem, hlr, r0]) rfl ⟨_, rfl, ?_, ?_⟩
  · exact (hO1.out.set' _ _ _ (fun k hk => by have := HG.out k hk; omega)).set' _ _ _ (fun k hk => by have := HG.out k hk; omega)
  · exact (HB.out.setCell (by simp; omega) _).setCell (by simp) _

def ToAP (ws hs : List Int) (w : World) (e : Ending) (w' : World) : Prop := ∃ u z, e = .returned (.agg #[u, z]) ∧ Owns w' w.heap.size 3 1 rowI u ws ∧ Owns w' w.heap.size 3 1 rowI z hs ∧ Apart u z ∧ Below w.heap.size w w'
set_option maxHeartbeats 4000000 in
theorem toAtm_any (v : Value) (ws hs : List Int) (B : Nat) (w : World) (h : AtmV w B v ws hs) (hB : B ≤ w.heap.size) (hl : ws.length ≤ 1048576) (hl2 : hs.length ≤ 1048576) :
    Calls Try.prog 31 #[v] w (ToAP ws hs w) := by
  obtain ⟨wv, hv, rfl, k1, k2⟩ := h
  have HV := hid k1; have HU := hid k2
  obtain ⟨ao, cap, rfl, _⟩ := k1.opened
  obtain ⟨bo, cbp, rfl, _⟩ := k2.opened
  clear k1 k2
  go_enter Try.func31, Try.ntmps31
  go_wp2_with fail
  refine at_world (fun W => Bx W w.heap.size [.slice ao ws.length cap, .slice bo hs.length cbp] ∧ Bx W (w.heap.size + 1) [.slice none 0 0, .slice none 0 0] ∧ Bx W (w.heap.size + 1 + 1) [.slice none 0 0, .slice none 0 0] ∧ Below w.heap.size w W) ⟨⟨fun j hj => ?_, fun j hj => ?_, by simp⟩, ⟨fun j hj => ?_, fun j hj => ?_, by simp⟩, ⟨fun j hj => ?_, fun j hj => ?_, by simp⟩, ?_⟩ ?_
  iterate 6
    · have : j = 0 ∨ j = 1 := by simp at hj; omega
      rcases this with rfl | rfl <;> simp [go_sem]
  · exact (((Below.refl _ _).alloc (Nat.le_refl _) _).alloc (by simp) _).alloc (by simp; omega) _
  rintro W1 ⟨hp, hr, ho, hb⟩
  refine (toMem_any _ ws B _ (HV.out.below (hb.mono hB)) (Nat.le_trans hB hb.size) hl).mono ?_
  rintro e w1 ⟨u, rfl, hu, hb1⟩
  have HU1 := hid (hu.rebase hb.size)
  obtain ⟨q, c, rfl, _, _⟩ := hu.shape
  have HP := hid (hp.below hb1 hp.lt); have HR := hid (hr.below hb1 hr.lt); have HO := hid (ho.below hb1 ho.lt)
  have HG := hid (show ∀ k, (Value.slice q ws.length c).ownBlock = some k → w.heap.size + 1 + 1 < k from fun k hk => by have := (OwnR.lt hu k hk).1; have := ho.lt; omega)
  have HB := hid (hb.trans (hb1.mono hb.size))
  obtain ⟨⟨o0, o1⟩, of0, of1⟩ := HO.out.two
  obtain ⟨⟨p0, p1⟩, _, _⟩ := HP.out.two
  have hlo := HO.out.lt
  have hlp : w.heap.size < w1.heap.size := by omega
  clear hu hp hr ho hb1 hb
  go_wp2_with fail
  refine at_world (fun W => Bx W (w.heap.size + 1) [.slice none 0 0, .slice none 0 0] ∧ Bx W (w.heap.size + 1 + 1) [.slice q ws.length c, .slice none 0 0] ∧ Below w.heap.size w W ∧ Owns W w.heap.size 3 1 rowI (.slice q ws.length c) ws) ⟨HR.out.kept (Below.heap_setCell _ _ _ _ (by simp)), HO.out.set 0 (by simp) _, HB.out.setCell (by simp; omega) _, HU1.out.set' _ _ _ (fun k hk => by have := HG.out k hk; omega)⟩ ?_
  clear p0 p1 o0 o1 of0 of1 hlo hlp
  rintro W2 ⟨hr, ho, hb, hu1⟩
  refine (toIntS_any _ hs B _ (HU.out.below (hb.mono hB)) (Nat.le_trans hB hb.size) hl2).mono ?_
  rintro e w2 ⟨z, rfl, hz, hb2⟩
  have HZ := hid (hz.rebase hb.size)
  have HU2 := hid (hu1.below hb2)
  have HAP := hid (apart_of hu1 hz)
  obtain ⟨q2, c2, rfl, _, _⟩ := hz.shape
  have HG2 := hid (show ∀ k, (Value.slice q2 hs.length c2).ownBlock = some k → w.heap.size + 1 + 1 < k from fun k hk => by have := (OwnR.lt hz k hk).1; have := ho.lt; omega)
  obtain ⟨⟨r0, r1⟩, rf0, rf1⟩ := (hr.below hb2 hr.lt).two
  obtain ⟨⟨o0, o1⟩, of0, of1⟩ := (ho.below hb2 ho.lt).two
  have hlo := (ho.below hb2 ho.lt).lt
  have hlr : w.heap.size + 1 < w2.heap.size := by omega
  have HB2 := hid (hb.trans (hb2.mono hb.size))
  clear hu1 hz hr ho hb2 hb
  go_wp2_with fail
  refine bodyPost_ret (v := .agg #[.slice q ws.length c, .slice q2 hs.length c2]) (by simp [results, Try.results31, go_sem, hlr, r0, r1]) rfl ⟨_, _, rfl, ?_, ?_, HAP.out, ?_⟩
  · repeat with_reducible refine Owns.set' ?_ _ _ _ (fun k hk => by have := HG.out k hk; omega)
    exact HU2.out
  · repeat with_reducible refine Owns.set' ?_ _ _ _ (fun k hk => by have := HG2.out k hk; omega)
    exact HZ.out
  · repeat with_reducible refine Below.setCell ?_ (by simp; try omega) _
    exact HB2.out

def reqAgg (r : Rq) (dv lv : Value) : Value := .agg #[.int .i64 r.id, .int .i64 r.kind, .int .i64 r.addr, .int .i64 r.many, .bool r.wrap, dv, lv]
def ToQP (r : Rq) (w : World) (e : Ending) (w' : World) : Prop := ∃ u z, e = .returned (.agg #[.int .i64 r.id, .int .i64 r.kind, .int .i64 r.addr, .int .i64 r.many, .bool r.wrap, u, z]) ∧ Owns w' w.heap.size 3 1 rowI u r.data ∧ Owns w' w.heap.size 3 1 rowI z r.lanes ∧ Apart u z ∧ Below w.heap.size w w'
set_option maxRecDepth 4000 in
set_option maxHeartbeats 8000000 in
theorem toReq_any (v : Value) (r : Rq) (B : Nat) (w : World) (h : ReqV w B v r) (hB : B ≤ w.heap.size) (hl : r.data.length ≤ 1048576) (hl2 : r.lanes.length ≤ 1048576) :
    Calls Try.prog 32 #[v] w (ToQP r w) := by
  obtain ⟨wv, hv, rfl, k1, k2, _⟩ := h
  have HV := hid k1; have HU := hid k2
  obtain ⟨ao, cap, rfl, _⟩ := k1.opened
  obtain ⟨bo, cbp, rfl, _⟩ := k2.opened
  clear k1 k2
  obtain ⟨id, kind, addr, many, wp, data, lanes⟩ := r
  simp only at HV HU hl hl2
  go_enter Try.func32, Try.ntmps32
  go_wp2_with fail
  refine at_world (fun W => Bx W w.heap.size [.int .i64 id, .int .i64 kind, .int .i64 addr, .int .i64 many, .bool wp, .slice ao data.length cap, .slice bo lanes.length cbp] ∧ Bx W (w.heap.size + 1) [.int .i64 0, .int .i64 0, .int .i64 0, .int .i64 0, .bool false, .slice none 0 0, .slice none 0 0] ∧ Bx W (w.heap.size + 1 + 1) [.int .i64 id, .int .i64 kind, .int .i64 addr, .int .i64 many, .bool wp, .slice none 0 0, .slice none 0 0] ∧ Below w.heap.size w W) ⟨⟨fun j hj => ?_, fun j hj => ?_, by simp⟩, ⟨fun j hj => ?_, fun j hj => ?_, by simp⟩, ⟨fun j hj => ?_, fun j hj => ?_, by simp⟩, ?_⟩ ?_
  iterate 6
    · have : j = 0 ∨ j = 1 ∨ j = 2 ∨ j = 3 ∨ j = 4 ∨ j = 5 ∨ j = 6 := by simp at hj; omega
      rcases this with rfl | rfl | rfl | rfl | rfl | rfl | rfl <;> simp [go_sem]
  · repeat with_reducible refine Below.setCell ?_ (by simp; try omega) _
    exact (((Below.refl _ _).alloc (Nat.le_refl _) _).alloc (by simp) _).alloc (by simp; omega) _
  rintro W1 ⟨hp, hr, ho, hb⟩
  refine (toIntS_any _ data B _ (HV.out.below (hb.mono hB)) (Nat.le_trans hB hb.size) hl).mono ?_
  rintro e w1 ⟨u, rfl, hu, hb1⟩
  have HU1 := hid (hu.rebase hb.size)
  obtain ⟨q, c, rfl, _, _⟩ := hu.shape
  have HP := hid (hp.below hb1 hp.lt); have HR := hid (hr.below hb1 hr.lt); have HO := hid (ho.below hb1 ho.lt)
  have HG := hid (show ∀ k, (Value.slice q data.length c).ownBlock = some k → w.heap.size + 1 + 1 < k from fun k hk => by have := (OwnR.lt hu k hk).1; have := ho.lt; omega)
  have HB := hid (hb.trans (hb1.mono hb.size))
  obtain ⟨⟨o0, o1, o2, o3, o4, o5, o6⟩, of0, of1, of2, of3, of4, of5, of6⟩ := HO.out.seven
  obtain ⟨⟨p0, p1, p2, p3, p4, p5, p6⟩, _⟩ := HP.out.seven
  have hlo := HO.out.lt
  have hlp : w.heap.size < w1.heap.size := by omega
  clear hu hp hr ho hb1 hb
  go_wp2_with fail
  refine at_world (fun W => Bx W (w.heap.size + 1) [.int .i64 0, .int .i64 0, .int .i64 0, .int .i64 0, .bool false, .slice none 0 0, .slice none 0 0] ∧ Bx W (w.heap.size + 1 + 1) [.int .i64 id, .int .i64 kind, .int .i64 addr, .int .i64 many, .bool wp, .slice q data.length c, .slice none 0 0] ∧ Below w.heap.size w W ∧ Owns W w.heap.size 3 1 rowI (.slice q data.length c) data) ⟨HR.out.kept (Below.heap_setCell _ _ _ _ (by simp)), HO.out.set 5 (by simp) _, HB.out.setCell (by simp; omega) _, HU1.out.set' _ _ _ (fun k hk => by have := HG.out k hk; omega)⟩ ?_
  clear p0 p1 p2 p3 p4 p5 p6 o0 o1 o2 o3 o4 o5 o6 of0 of1 of2 of3 of4 of5 of6 hlo hlp
  rintro W2 ⟨hr, ho, hb, hu1⟩
  refine (toIntS_any _ lanes B _ (HU.out.below (hb.mono hB)) (Nat.le_trans hB hb.size) hl2).mono ?_
  rintro e w2 ⟨z, rfl, hz, hb2⟩
  have HZ := hid (hz.rebase hb.size)
  have HU2 := hid (hu1.below hb2)
  have HAP := hid (apart_of hu1 hz)
  obtain ⟨q2, c2, rfl, _, _⟩ := hz.shape
  have HG2 := hid (show ∀ k, (Value.slice q2 lanes.length c2).ownBlock = some k → w.heap.size + 1 + 1 < k from fun k hk => by have := (OwnR.lt hz k hk).1; have := ho.lt; omega)
  obtain ⟨⟨r0, r1, r2, r3, r4, r5, r6⟩, rf0, rf1, rf2, rf3, rf4, rf5, rf6⟩ := (hr.below hb2 hr.lt).seven
  obtain ⟨⟨o0, o1, o2, o3, o4, o5, o6⟩, of0, of1, of2, of3, of4, of5, of6⟩ := (ho.below hb2 ho.lt).seven
  have hlo := (ho.below hb2 ho.lt).lt
  have hlr : w.heap.size + 1 < w2.heap.size := by omega
  have HB2 := hid (hb.trans (hb2.mono hb.size))
  clear hu1 hz hr ho hb2 hb
  go_wp2_with fail
  refine bodyPost_ret (v := .agg #[.int .i64 id, .int .i64 kind, .int .i64 addr, .int .i64 many, .bool wp, .slice q data.length c, .slice q2 lanes.length c2]) (by simp [results, Try.results32, go_sem, hlr, r0, r1, r2, r3, r4, r5, r6]) rfl ⟨_, _, rfl, ?_, ?_, HAP.out, ?_⟩
  · repeat with_reducible refine Owns.set' ?_ _ _ _ (fun k hk => by have := HG.out k hk; omega)
    exact HU2.out
  · repeat with_reducible refine Owns.set' ?_ _ _ _ (fun k hk => by have := HG2.out k hk; omega)
    exact HZ.out
  · repeat with_reducible refine Below.setCell ?_ (by simp; try omega) _
    exact HB2.out

end Go.Proofs.Yteamebdehembgaa
