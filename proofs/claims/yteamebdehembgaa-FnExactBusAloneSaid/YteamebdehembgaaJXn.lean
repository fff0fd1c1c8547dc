/-
  The exact laws' helpers: slices of what is asked, marked.
-/
import Derived.Test.YteamebdehembgaaJXt
import Derived.Test.YteamebdehembgaaJSa3
import Derived.Test.YteamebdehembgaaKRu3
set_option linter.unusedVariables false
set_option linter.unusedSimpArgs false
namespace Go.Proofs.Yteamebdehembgaa
open Go.RowKit

theorem sizeReq7 : (Try.prog.info? 71).map (·.size) = some 7 := by kernel_rfl
def zQ : RqV := (⟨0, 0, 0, 0, false, [], []⟩, .slice none 0 0, .slice none 0 0)
theorem infoRQ : (Try.prog.info? 71).map (fun i => (i.zero, i.size, i.bytes)) = some (some (.agg #[.int .i64 0, .int .i64 0, .int .i64 0, .int .i64 0, .bool false, .slice none 0 0, .slice none 0 0]), 7, 88) := by kernel_rfl
def zipQ (qs : List Rq) (vs : List (Value × Value)) : List RqV := List.zipWith (fun q p => (q, p)) qs vs
theorem zipQ_len {qs : List Rq} {vs : List (Value × Value)} (h : vs.length = qs.length) : (zipQ qs vs).length = qs.length := by simp [zipQ, h]
theorem zipQ_get {qs : List Rq} {vs : List (Value × Value)} (h : vs.length = qs.length) {k : Nat} (hk : k < qs.length) (d : RqV) : (zipQ qs vs).getD k d = (qs.getD k default, vs.getD k default) := by
  have hk2 : k < vs.length := by omega
  simp [zipQ, List.getD, List.getElem?_zipWith, hk, hk2]
theorem zipQ_set {qs : List Rq} {vs : List (Value × Value)} (h : vs.length = qs.length) {k : Nat} (hk : k < qs.length) (q : Rq) : (zipQ qs vs).set k (q, vs.getD k default) = zipQ (qs.set k q) vs := by
  apply List.ext_getElem?
  intro i
  have hk2 : k < vs.length := by omega
  simp only [zipQ, List.getElem?_zipWith, List.getElem?_set, List.length_zipWith, h, Nat.min_self]
  by_cases e : k = i
  · subst e
    simp [hk, List.getD, hk2]
  · simp [e]
theorem zipQ_snoc {qs : List Rq} {vs : List (Value × Value)} (h : vs.length = qs.length) (q : Rq) (p : Value × Value) : zipQ (qs ++ [q]) (vs ++ [p]) = zipQ qs vs ++ [(q, p)] := by
  unfold zipQ
  rw [List.zipWith_append h.symm]; rfl

/-- A slice of n things that are asked, the first ones laid: rows in block g, and each list in a block of its own. -/
structure QsO (w : World) (lo g n : Nat) (qs : List Rq) (vs : List (Value × Value)) : Prop where
  len : vs.length = qs.length
  le : qs.length ≤ n
  rows : Owns w lo 71 7 rowQ (.slice (some ⟨g, 0, none⟩) n n) (zipQ qs vs ++ List.replicate (n - qs.length) zQ)
  d : ∀ j, j < qs.length → Owns w lo 3 1 rowI (vs.getD j default).1 (qs.getD j default).data
  l : ∀ j, j < qs.length → Owns w lo 3 1 rowI (vs.getD j default).2 (qs.getD j default).lanes
  n1 : ∀ j, j < qs.length → (vs.getD j default).1.ownBlock ≠ some g
  n2 : ∀ j, j < qs.length → (vs.getD j default).2.ownBlock ≠ some g
  a1 : ∀ i j, i < qs.length → j < qs.length → i ≠ j → Apart (vs.getD i default).1 (vs.getD j default).1
  a2 : ∀ i j, i < qs.length → j < qs.length → i ≠ j → Apart (vs.getD i default).2 (vs.getD j default).2
  a3 : ∀ i j, i < qs.length → j < qs.length → Apart (vs.getD i default).1 (vs.getD j default).2
theorem QsO.g {w : World} {lo g n : Nat} {qs : List Rq} {vs : List (Value × Value)} (h : QsO w lo g n qs vs) : lo ≤ g ∧ g < w.heap.size := OwnR.lt h.rows g rfl
theorem QsO.kept {w w' : World} {lo g n : Nat} {qs : List Rq} {vs : List (Value × Value)} (h : QsO w lo g n qs vs) (hk : ∀ k, lo ≤ k → k < w.heap.size → w'.heap[k]? = w.heap[k]?) : QsO w' lo g n qs vs :=
  { h with rows := OwnR.kept h.rows fun k hk2 => hk k (OwnR.lt h.rows k hk2).1 (OwnR.lt h.rows k hk2).2
           d := fun j hj => OwnR.kept (h.d j hj) fun k hk2 => hk k (OwnR.lt (h.d j hj) k hk2).1 (OwnR.lt (h.d j hj) k hk2).2
           l := fun j hj => OwnR.kept (h.l j hj) fun k hk2 => hk k (OwnR.lt (h.l j hj) k hk2).1 (OwnR.lt (h.l j hj) k hk2).2 }
theorem QsO.below {w w' : World} {lo g n : Nat} {qs : List Rq} {vs : List (Value × Value)} (h : QsO w lo g n qs vs) (hb : Below w.heap.size w w') : QsO w' lo g n qs vs := h.kept fun k _ hk => hb.block k hk
theorem QsO.rebase {w : World} {lo lo' g n : Nat} {qs : List Rq} {vs : List (Value × Value)} (h : QsO w lo g n qs vs) (hl : lo' ≤ lo) : QsO w lo' g n qs vs :=
  { h with rows := OwnR.rebase h.rows hl, d := fun j hj => OwnR.rebase (h.d j hj) hl, l := fun j hj => OwnR.rebase (h.l j hj) hl }

/-- A row of seven cells is stored. -/
theorem Owns.row7 {w : World} {base g off n c k : Nat} {ys : List RqV} (h : Owns w base 71 7 rowQ (.slice (some ⟨g, off, none⟩) n c) ys) (hk : k < ys.length) (y : RqV) :
    Owns (w.setCells g (off + k * 7) (rowQ y)) base 71 7 rowQ (.slice (some ⟨g, off, none⟩) n c) (ys.set k y) := by
  have hk1 : ∀ y, k < (ys.set k y).length := fun y => by simpa using hk
  have hg1 : ∀ y, (ys.set k y).getD k zQ = y := fun y => by simp [List.getD, List.getElem?_set_self hk]
  obtain ⟨o, ho⟩ : ∃ o, o = ys.getD k zQ := ⟨_, rfl⟩
  have r1 := h.putRow rowQ_len k 0 zQ (⟨y.1.id, o.1.kind, o.1.addr, o.1.many, o.1.wrap, [], []⟩, o.2) (.int .i64 y.1.id) hk (by omega) (by rw [← ho]; rfl)
  have r2 := r1.putRow rowQ_len k 1 zQ (⟨y.1.id, y.1.kind, o.1.addr, o.1.many, o.1.wrap, [], []⟩, o.2) (.int .i64 y.1.kind) (hk1 _) (by omega) (by rw [hg1]; rfl)
  rw [List.set_set] at r2
  have r3 := r2.putRow rowQ_len k 2 zQ (⟨y.1.id, y.1.kind, y.1.addr, o.1.many, o.1.wrap, [], []⟩, o.2) (.int .i64 y.1.addr) (hk1 _) (by omega) (by rw [hg1]; rfl)
  rw [List.set_set] at r3
  have r4 := r3.putRow rowQ_len k 3 zQ (⟨y.1.id, y.1.kind, y.1.addr, y.1.many, o.1.wrap, [], []⟩, o.2) (.int .i64 y.1.many) (hk1 _) (by omega) (by rw [hg1]; rfl)
  rw [List.set_set] at r4
  have r5 := r4.putRow rowQ_len k 4 zQ (⟨y.1.id, y.1.kind, y.1.addr, y.1.many, y.1.wrap, [], []⟩, o.2) (.bool y.1.wrap) (hk1 _) (by omega) (by rw [hg1]; rfl)
  rw [List.set_set] at r5
  have r6 := r5.putRow rowQ_len k 5 zQ (⟨y.1.id, y.1.kind, y.1.addr, y.1.many, y.1.wrap, [], []⟩, y.2.1, o.2.2) y.2.1 (hk1 _) (by omega) (by rw [hg1]; rfl)
  rw [List.set_set] at r6
  have r7 := r6.putRow rowQ_len k 6 zQ y y.2.2 (hk1 _) (by omega) (by rw [hg1]; rfl)
  rw [List.set_set] at r7
  exact r7
theorem setCells_heap (g : Nat) : ∀ (cs : List Value) (w : World) (o b : Nat), b ≠ g → (w.setCells g o cs).heap[b]? = w.heap[b]?
  | [], _, _, _, _ => rfl
  | c :: cs, w, o, b, h => by
    show ((w.setCell ⟨g, o, none⟩ c).setCells g (o + 1) cs).heap[b]? = _
    rw [setCells_heap g cs _ _ b h, Below.heap_setCell _ _ _ _ h]
theorem setCells_below (g : Nat) : ∀ (cs : List Value) (w0 w : World) (o C : Nat), Below C w0 w → C ≤ g → Below C w0 (w.setCells g o cs)
  | [], _, _, _, _, h, _ => h
  | c :: cs, w0, w, o, C, h, hg => setCells_below g cs w0 _ (o + 1) C (h.setCell (by exact hg) _) hg
theorem Owns.there7 {w : World} {base g off n c k : Nat} {ys : List RqV} (h : Owns w base 71 7 rowQ (.slice (some ⟨g, off, none⟩) n c) ys) (hk : k < ys.length) : w.there g (off + k * 7) 7 := fun j hj => by
  refine ⟨?_, h.frozenAt _⟩
  rw [h.cellAt rowQ_len k j zQ hk hj]
  have : j < (rowQ (ys.getD k zQ)).length := by rw [rowQ_len]; exact hj
  rw [List.getElem?_eq_getElem this]; rfl

theorem Owns.cells7 {w : World} {base g n c k : Nat} {ys : List RqV} (h : Owns w base 71 7 rowQ (.slice (some ⟨g, 0, none⟩) n c) ys) (hk : k < ys.length) (hz : ys.getD k zQ = zQ) :
    (w.cell? ⟨g, k * 7, none⟩ = some (.int .i64 0) ∧ w.cell? ⟨g, k * 7 + 1, none⟩ = some (.int .i64 0) ∧ w.cell? ⟨g, k * 7 + 2, none⟩ = some (.int .i64 0) ∧ w.cell? ⟨g, k * 7 + 3, none⟩ = some (.int .i64 0) ∧ w.cell? ⟨g, k * 7 + 4, none⟩ = some (.bool false) ∧ w.cell? ⟨g, k * 7 + 5, none⟩ = some (.slice none 0 0) ∧ w.cell? ⟨g, k * 7 + 6, none⟩ = some (.slice none 0 0)) ∧
      w.frozen? ⟨g, k * 7, none⟩ = false ∧ w.frozen? ⟨g, k * 7 + 1, none⟩ = false ∧ w.frozen? ⟨g, k * 7 + 2, none⟩ = false ∧ w.frozen? ⟨g, k * 7 + 3, none⟩ = false ∧ w.frozen? ⟨g, k * 7 + 4, none⟩ = false ∧ w.frozen? ⟨g, k * 7 + 5, none⟩ = false ∧ w.frozen? ⟨g, k * 7 + 6, none⟩ = false := by
  have c : ∀ j, j < 7 → w.cell? ⟨g, k * 7 + j, none⟩ = (rowQ zQ)[j]? := fun j hj => by
    have := h.cellAt rowQ_len k j zQ hk hj
    rw [hz, Nat.zero_add] at this; exact this
  exact ⟨⟨c 0 (by omega), c 1 (by omega), c 2 (by omega), c 3 (by omega), c 4 (by omega), c 5 (by omega), c 6 (by omega)⟩, h.frozenAt _, h.frozenAt _, h.frozenAt _, h.frozenAt _, h.frozenAt _, h.frozenAt _, h.frozenAt _⟩

theorem getD_snoc_lt {α : Type} {xs : List α} {y d : α} {j : Nat} (h : j < xs.length) : (xs ++ [y]).getD j d = xs.getD j d := by
  simp only [List.getD]; rw [List.getElem?_append_left h]
theorem getD_snoc_eq {α : Type} {xs : List α} {y d : α} : (xs ++ [y]).getD xs.length d = y := by simp [List.getD]
/-- One more is laid. -/
theorem QsO.snoc {w w' : World} {lo g n : Nat} {qs : List Rq} {vs : List (Value × Value)} (h : QsO w lo g n qs vs) (hn : qs.length < n) (hb : Below w.heap.size w w') {q : Rq} {u z : Value}
    (hu : Owns w' w.heap.size 3 1 rowI u q.data) (hz : Owns w' w.heap.size 3 1 rowI z q.lanes) (ha : Apart u z) :
    QsO (w'.setCells g (0 + qs.length * 7) (rowQ (q, u, z))) lo g n (qs ++ [q]) (vs ++ [(u, z)]) := by
  have hg := h.g
  have h' := h.below hb
  have hloh : lo ≤ w.heap.size := by omega
  have hul : ∀ k, u.ownBlock = some k → w.heap.size ≤ k := fun k hk => (OwnR.lt hu k hk).1
  have hzl : ∀ k, z.ownBlock = some k → w.heap.size ≤ k := fun k hk => (OwnR.lt hz k hk).1
  have hset : ∀ k, k ≠ g → (w'.setCells g (0 + qs.length * 7) (rowQ (q, u, z))).heap[k]? = w'.heap[k]? := fun k hk => setCells_heap g _ _ _ _ hk
  have hl1 : (zipQ qs vs).length = qs.length := zipQ_len h.len
  have dl : ∀ j, j < qs.length → ∀ k, (vs.getD j default).1.ownBlock = some k → k < w.heap.size := fun j hj k hk => (OwnR.lt (h.d j hj) k hk).2
  have ll : ∀ j, j < qs.length → ∀ k, (vs.getD j default).2.ownBlock = some k → k < w.heap.size := fun j hj k hk => (OwnR.lt (h.l j hj) k hk).2
  have ev : ∀ j, j < qs.length → (vs ++ [(u, z)]).getD j default = vs.getD j default := fun j hj => getD_snoc_lt (by rw [h.len]; exact hj)
  have ev2 : (vs ++ [(u, z)]).getD qs.length default = (u, z) := by rw [← h.len]; exact getD_snoc_eq
  have eq1 : ∀ j, j < qs.length → (qs ++ [q]).getD j default = qs.getD j default := fun j hj => getD_snoc_lt hj
  have eq2 : (qs ++ [q]).getD qs.length default = q := getD_snoc_eq
  have cs : ∀ j, j < (qs ++ [q]).length → j < qs.length ∨ j = qs.length := fun j hj => by simp at hj; omega
  refine ⟨by simp [h.len], by simp; omega, ?_, ?_, ?_, ?_, ?_, ?_, ?_, ?_⟩
  · have hk : qs.length < (zipQ qs vs ++ List.replicate (n - qs.length) zQ).length := by simp [hl1]; omega
    have r := h'.rows.row7 (k := qs.length) hk (q, u, z)
    rw [zipQ_snoc h.len, show (qs ++ [q]).length = (zipQ qs vs).length + 1 from by simp [hl1]]
    have e : (zipQ qs vs ++ List.replicate (n - qs.length) zQ).set qs.length (q, u, z) = zipQ qs vs ++ [(q, u, z)] ++ List.replicate (n - ((zipQ qs vs).length + 1)) zQ := by
      rw [List.set_append_right _ _ (by omega), hl1, Nat.sub_self, show n - qs.length = (n - (qs.length + 1)) + 1 from by omega, List.replicate_succ, List.set_cons_zero, List.append_assoc]; rfl
    rw [e] at r
    exact r
  · intro j hj
    rcases cs j hj with hj | rfl
    · rw [ev j hj, eq1 j hj]
      exact OwnR.kept (h'.d j hj) fun k hk => hset k fun e => h.n1 j hj (e ▸ hk)
    · rw [ev2, eq2]
      exact (hu.rebase hloh).kept fun k hk => hset k (by have := hul k hk; omega)
  · intro j hj
    rcases cs j hj with hj | rfl
    · rw [ev j hj, eq1 j hj]
      exact OwnR.kept (h'.l j hj) fun k hk => hset k fun e => h.n2 j hj (e ▸ hk)
    · rw [ev2, eq2]
      exact (hz.rebase hloh).kept fun k hk => hset k (by have := hzl k hk; omega)
  · intro j hj
    rcases cs j hj with hj | rfl
    · rw [ev j hj]; exact h.n1 j hj
    · rw [ev2]; intro e; have := hul g e; omega
  · intro j hj
    rcases cs j hj with hj | rfl
    · rw [ev j hj]; exact h.n2 j hj
    · rw [ev2]; intro e; have := hzl g e; omega
  · intro i j hi hj hne
    rcases cs i hi with hi | rfl <;> rcases cs j hj with hj | rfl
    · rw [ev i hi, ev j hj]; exact h.a1 i j hi hj hne
    · rw [ev i hi, ev2]; exact Apart.of_lt (dl i hi) hul
    · rw [ev j hj, ev2]; exact (Apart.of_lt (dl j hj) hul).symm
    · exact absurd rfl hne
  · intro i j hi hj hne
    rcases cs i hi with hi | rfl <;> rcases cs j hj with hj | rfl
    · rw [ev i hi, ev j hj]; exact h.a2 i j hi hj hne
    · rw [ev i hi, ev2]; exact Apart.of_lt (ll i hi) hzl
    · rw [ev j hj, ev2]; exact (Apart.of_lt (ll j hj) hzl).symm
    · exact absurd rfl hne
  · intro i j hi hj
    rcases cs i hi with hi | rfl <;> rcases cs j hj with hj | rfl
    · rw [ev i hi, ev j hj]; exact h.a3 i j hi hj
    · rw [ev i hi, ev2]; exact Apart.of_lt (dl i hi) hzl
    · rw [ev j hj, ev2]; exact (Apart.of_lt (ll j hj) hul).symm
    · rw [ev2]; exact ha
/-- As it is read. -/
theorem QsO.reqs {w : World} {lo g : Nat} {qs : List Rq} {vs : List (Value × Value)} (h : QsO w lo g qs.length qs vs) (hn : qs.length ≤ 1048576) (hq : ∀ q ∈ qs, Rq20 q ∧ (∀ y ∈ q.data, I64 y) ∧ (∀ y ∈ q.lanes, I64 y) ∧ I64 q.id ∧ I64 q.kind ∧ I64 q.addr ∧ I64 q.many) : Reqs w w.heap.size (.slice (some ⟨g, 0, none⟩) qs.length qs.length) qs := by
  have hr := h.rows
  rw [Nat.sub_self, List.replicate_zero, List.append_nil] at hr
  have hl1 : (zipQ qs vs).length = qs.length := zipQ_len h.len
  have key := reqs_of (B := w.heap.size) (P := (· < w.heap.size)) (hr.arrD (P := (· < w.heap.size)) (fun k hk => (OwnR.lt hr k hk).2) rowQ_len (by omega)) (fun y hy => ?_) (fun b hb => hb)
  · have e : (zipQ qs vs).map (·.1) = qs := by
      unfold zipQ
      rw [List.map_zipWith]
      apply List.ext_getElem
      · simp [h.len]
      · intro i h1 h2; simp
    rw [e] at key
    exact key
  · obtain ⟨k, hk, rfl⟩ := List.mem_iff_getElem.1 hy
    have hk' : k < qs.length := by omega
    have e : (zipQ qs vs)[k] = (qs.getD k default, vs.getD k default) := by
      rw [← zipQ_get h.len hk' zQ]; simp [List.getD, hk]
    rw [e]
    obtain ⟨⟨b1, b2⟩, i1, i2, i3⟩ := hq _ (getD_mem (d := default) hk')
    exact ⟨(h.d k hk').intsD (fun b hb => (OwnR.lt (h.d k hk') b hb).2) (by omega) i1, (h.l k hk').intsD (fun b hb => (OwnR.lt (h.l k hk') b hb).2) (by omega) i2, i3⟩

def ToQsP (qs : List Rq) (w : World) (e : Ending) (w' : World) : Prop := ∃ (g : Nat) (vs : List (Value × Value)), e = .returned (.slice (some ⟨g, 0, none⟩) qs.length qs.length) ∧ QsO w' w.heap.size g qs.length qs vs ∧ Below w.heap.size w w'
set_option maxRecDepth 8000 in
set_option maxHeartbeats 8000000 in
theorem toReqs_any (v : Value) (qs : List Rq) (B : Nat) (w : World) (hv : Reqs w B v qs) (hB : B ≤ w.heap.size) (hlen : qs.length ≤ 1048576) (h20 : ∀ j, j < qs.length → Rq20 (qs.getD j default)) :
    Calls Try.prog 46 #[v] w (ToQsP qs w) := by
  obtain ⟨ao, cap, rfl, hlc, hcap, hln, hni, hr⟩ := hv.opened
  have H20 := hid h20
  clear hv h20
  go_enter Try.func46, Try.ntmps46
  go_wp2_with (first | (at_make; go_must (refine wpList_mk rowQ zQ (.agg #[.int .i64 0, .int .i64 0, .int .i64 0, .int .i64 0, .bool false, .slice none 0 0, .slice none 0 0]) Try.underlying34 infoRQ rfl (by omega) rfl _ rfl _ _ rfl _ _ _ _ qs.length rfl rfl rfl rfl (by omega) (by unfold maxLen; omega) ?_); intro w1 hown hbel hlt1))
  have h0 : QsO w1 w.heap.size w.heap.size qs.length [] [] := ⟨rfl, by simp, by simpa [zipQ] using hown, by simp, by simp, by simp, by simp, by simp, by simp, by simp⟩
  have H0 := hid h0; have HB0 := hid hbel
  clear h0 hown hbel hlt1
  go_loopw [4] (fun i wr => ∃ (k : Nat) (vs : List (Value × Value)), k ≤ qs.length ∧ i = .int .i64 k ∧ QsO wr w.heap.size w.heap.size qs.length (qs.take k) vs ∧ Below w.heap.size w wr) (fun i _ => qs.length - (intOf i).toNat)
  case atStart => exact ⟨0, [], Nat.zero_le _, rfl, H0.out, HB0.out⟩
  case round =>
    obtain ⟨k, vs, hk, rfl, hq, hbel⟩ := hrel
    have HQ := hid hq; have HB := hid hbel
    clear hq
    have htl : (qs.take k).length = k := by simp; omega
    have HTL := hid htl; clear htl
    by_cases hlt : k < qs.length
    · obtain ⟨b, off, rfl, hb, hc⟩ := hr (by omega)
      obtain ⟨da, dc, la, lc, hu, c0, c1, c2, c3, c4, c5, c6⟩ := hc k hlt
      obtain ⟨x, hx⟩ : ∃ x, x = qs.getD k default := ⟨_, rfl⟩
      rw [← hx] at c0 c1 c2 c3 c4 c5 c6 hu
      rw [← hbel.cell (p := ⟨b, _, none⟩) (Nat.lt_of_lt_of_le hb hB)] at c0 c1 c2 c3 c4 c5 c6
      have HX := hid hx; have HU := hid (hu.below (hbel.mono hB))
      have HK := hid (show Rq20 x by rw [hx]; exact H20.out k hlt)
      clear hx hc hr hu hbel
      go_wp2_with fail
      refine (toReq_any _ x B wr HU.out (Nat.le_trans hB HB.out.size) HK.out.1 HK.out.2).mono ?_
      rintro e w2 ⟨u, z, rfl, o1, o2, oa, hb2⟩
      have HN := hid (HQ.out.snoc (by rw [HTL.out]; exact hlt) hb2 o1 o2 oa)
      rw [HTL.out] at HN
      have HB2 := hid (HB.out.trans (hb2.mono HB.out.size))
      simp only [World.setCells, rowQ, Nat.zero_add, Nat.add_assoc, Nat.reduceAdd] at HN
      obtain ⟨⟨k0, k1, k2, k3, k4, k5, k6⟩, m0, m1, m2, m3, m4, m5, m6⟩ := (HQ.out.below hb2).rows.cells7 (k := k) (by simp [zipQ_len HQ.out.len, HTL.out]; omega) (by simp only [List.getD]; rw [List.getElem?_append_right (by rw [zipQ_len HQ.out.len, HTL.out]; exact Nat.le_refl _), zipQ_len HQ.out.len, HTL.out, Nat.sub_self, List.getElem?_replicate, if_pos (by omega)]; rfl)
      have hlt2 : w.heap.size < w2.heap.size := (HQ.out.below hb2).g.2
      obtain ⟨q1, n1, rfl, _, _⟩ := o1.shape
      obtain ⟨q2, n2, rfl, _, _⟩ := o2.shape
      clear hb2 o1 o2 oa c0 c1 c2 c3 c4 c5 c6
      go_wp2_with fail
      go_roundw
      case rel => exact ⟨k + 1, _, by omega, by go_num, by rw [show qs.take (k + 1) = qs.take k ++ [x] by rw [List.take_succ_eq_append_getElem hlt, HX.out]; simp [List.getD, hlt]]; exact HN.out, ((((((HB2.out.setCell (Nat.le_refl _) _).setCell (Nat.le_refl _) _).setCell (Nat.le_refl _) _).setCell (Nat.le_refl _) _).setCell (Nat.le_refl _) _).setCell (Nat.le_refl _) _).setCell (Nat.le_refl _) _⟩
      case measure => simp [intOf]; omega
    · have hk2 : k = qs.length := by omega
      subst hk2
      rw [List.take_length] at HQ
      go_wp2_with fail
      go_ret
      exact ⟨_, _, rfl, HQ.out, HB.out⟩

end Go.Proofs.Yteamebdehembgaa

namespace Go.Proofs.Yteamebdehembgaa
open Go.RowKit

/-- What came of several things: rows and each list in a block of its own, from lo up to hi. -/
structure RsO (w : World) (lo hi : Nat) (v : Value) (xs : List Rs) (ds : List Value) : Prop where
  len : ds.length = xs.length
  rows : Owns w lo 66 3 rowR v (mkRows xs ds)
  d : ∀ j, j < xs.length → Owns w lo 3 1 rowI (ds.getD j undef) (xs.getD j default).data
  hv : ∀ k, v.ownBlock = some k → k < hi
  hd : ∀ j, j < xs.length → ∀ k, (ds.getD j undef).ownBlock = some k → k < hi
theorem RsO.of {w : World} {lo : Nat} {v : Value} {xs : List Rs} {ds : List Value} (h1 : ds.length = xs.length) (h2 : Owns w lo 66 3 rowR v (mkRows xs ds)) (h3 : ∀ j, j < xs.length → Owns w lo 3 1 rowI (ds.getD j undef) (xs.getD j default).data) : RsO w lo w.heap.size v xs ds :=
  ⟨h1, h2, h3, fun k hk => (OwnR.lt h2 k hk).2, fun j hj k hk => (OwnR.lt (h3 j hj) k hk).2⟩
theorem RsO.kept {w w' : World} {lo hi : Nat} {v : Value} {xs : List Rs} {ds : List Value} (h : RsO w lo hi v xs ds) (hk : ∀ k, lo ≤ k → k < hi → k < w.heap.size → w'.heap[k]? = w.heap[k]?) : RsO w' lo hi v xs ds :=
  { h with rows := OwnR.kept h.rows fun k hk2 => hk k (OwnR.lt h.rows k hk2).1 (h.hv k hk2) (OwnR.lt h.rows k hk2).2
           d := fun j hj => OwnR.kept (h.d j hj) fun k hk2 => hk k (OwnR.lt (h.d j hj) k hk2).1 (h.hd j hj k hk2) (OwnR.lt (h.d j hj) k hk2).2 }
theorem RsO.below {w w' : World} {lo hi : Nat} {v : Value} {xs : List Rs} {ds : List Value} (h : RsO w lo hi v xs ds) (hb : Below w.heap.size w w') : RsO w' lo hi v xs ds := h.kept fun k _ _ hk => hb.block k hk
theorem RsO.bt {w w' : World} {lo hi l r : Nat} {v : Value} {xs : List Rs} {ds : List Value} (h : RsO w lo hi v xs ds) (hb : Bt l r w w') (hk : hi ≤ l ∨ r ≤ lo) : RsO w' lo hi v xs ds := h.kept fun k h1 h2 h3 => hb.block k h3 (by omega)
theorem RsO.rsps {w : World} {lo hi : Nat} {v : Value} {xs : List Rs} {ds : List Value} (h : RsO w lo hi v xs ds) (hs : ∀ r ∈ xs, (∀ y ∈ r.data, I64 y) ∧ I64 r.id ∧ I64 r.code ∧ r.data.length ≤ 4) (hn : xs.length ≤ 140737488351232) : Rsps w w.heap.size v xs := rsps_of h.rows h.len h.d hs hn

def mk1R (m : Nat) (r : Rs) : Rs := ⟨((m : Nat) : Int), ((m + 1 : Nat) : Int), marks (m + 2) r.data.length⟩
def wR (r : Rs) : Nat := 2 + r.data.length
def markR (m : Nat) (xs : List Rs) : List Rs := markG mk1R wR m xs
theorem mkRows_get {xs : List Rs} {ds : List Value} (h : ds.length = xs.length) {k : Nat} (hk : k < xs.length) (d : Int × Int × Value) : (mkRows xs ds).getD k d = ((xs.getD k default).id, (xs.getD k default).code, ds.getD k undef) := by
  have hk2 : k < ds.length := by omega
  simp [mkRows, List.getD, List.getElem?_zipWith, hk, hk2]
theorem mkRows_set {xs : List Rs} {ds : List Value} (h : ds.length = xs.length) {k : Nat} (hk : k < xs.length) (r : Rs) : (mkRows xs ds).set k (r.id, r.code, ds.getD k undef) = mkRows (xs.set k r) ds := by
  apply List.ext_getElem?
  intro i
  have hk2 : k < ds.length := by omega
  simp only [mkRows, List.getElem?_zipWith, List.getElem?_set, List.length_zipWith, h, Nat.min_self]
  by_cases e : k = i
  · subst e
    simp [hk, List.getD, hk2]
  · simp [e]
theorem getD_set_eq {α : Type} {xs : List α} {k : Nat} (h : k < xs.length) (y d : α) : (xs.set k y).getD k d = y := by simp [List.getD, List.getElem?_set_self h]
theorem getD_set_ne' {α : Type} {xs : List α} {k j : Nat} (h : j ≠ k) (y d : α) : (xs.set k y).getD j d = xs.getD j d := by simp [List.getD, List.getElem?_set_ne (Ne.symm h)]

/-- The apartness of what came of several things. -/
structure RsA (g : Nat) (n : Nat) (ds : List Value) : Prop where
  n1 : ∀ j, j < n → (ds.getD j undef).ownBlock ≠ some g
  a1 : ∀ i j, i < n → j < n → i ≠ j → Apart (ds.getD i undef) (ds.getD j undef)
/-- But for the blocks of v and of ds (and new ones) all is as it was. -/
structure KrP (v : Value) (ds : List Value) (n : Nat) (w w' : World) : Prop where
  keep : ∀ k, k < w.heap.size → v.ownBlock ≠ some k → (∀ j, j < n → (ds.getD j undef).ownBlock ≠ some k) → w'.heap[k]? = w.heap[k]?
  os : w'.os = w.os
  tape : w'.tape = w.tape
  output : w'.output = w.output
  size : w.heap.size ≤ w'.heap.size
theorem KrP.refl (v : Value) (ds : List Value) (n : Nat) (w : World) : KrP v ds n w w := ⟨fun _ _ _ _ => rfl, rfl, rfl, rfl, Nat.le_refl _⟩
theorem KrP.set {v : Value} {ds : List Value} {n g o : Nat} {w w' : World} (h : KrP v ds n w w') (hg : v.ownBlock = some g) (u : Value) : KrP v ds n w (w'.setCell ⟨g, o, none⟩ u) :=
  ⟨fun k hk h1 h2 => by rw [Below.heap_setCell _ _ _ _ (show k ≠ g from fun e => h1 (by rw [hg, e]))]; exact h.keep k hk h1 h2, h.os, h.tape, h.output, by simpa [World.setCell] using h.size⟩
theorem KrP.mk1 {v : Value} {ds : List Value} {n j m base : Nat} {xs : List Int} {w w' w'' : World} (h : KrP v ds n w w') (hj : j < n) (hm : MkP (ds.getD j undef) xs m base w' w'') : KrP v ds n w w'' :=
  ⟨fun k hk h1 h2 => by rw [hm.keep k (Nat.lt_of_lt_of_le hk h.size) (h2 j hj)]; exact h.keep k hk h1 h2, hm.os.trans h.os, hm.tape.trans h.tape, hm.output.trans h.output, Nat.le_trans h.size (Nat.le_of_eq hm.size.symm)⟩
theorem KrP.bt {v : Value} {ds : List Value} {n lo hi : Nat} {w w' : World} (h : KrP v ds n w w') (h1 : ∀ k, v.ownBlock = some k → lo ≤ k ∧ k < hi) (h2 : ∀ j, j < n → ∀ k, (ds.getD j undef).ownBlock = some k → lo ≤ k ∧ k < hi) : Bt lo hi w w' :=
  ⟨h.os, h.tape, h.output, h.size, fun k hk hp => h.keep k hk (fun e => by have := h1 k e; omega) (fun j hj e => by have := h2 j hj k e; omega)⟩
theorem RsO.lo {w : World} {lo hi : Nat} {v : Value} {xs : List Rs} {ds : List Value} (h : RsO w lo hi v xs ds) : (∀ k, v.ownBlock = some k → lo ≤ k ∧ k < hi) ∧ ∀ j, j < xs.length → ∀ k, (ds.getD j undef).ownBlock = some k → lo ≤ k ∧ k < hi :=
  ⟨fun k hk => ⟨(OwnR.lt h.rows k hk).1, h.hv k hk⟩, fun j hj k hk => ⟨(OwnR.lt (h.d j hj) k hk).1, h.hd j hj k hk⟩⟩
theorem RsO.keep2 {w w' : World} {lo hi : Nat} {v : Value} {xs : List Rs} {ds : List Value} (h : RsO w lo hi v xs ds) (hk : ∀ k, k < w.heap.size → (v.ownBlock = some k ∨ ∃ j, j < xs.length ∧ (ds.getD j undef).ownBlock = some k) → w'.heap[k]? = w.heap[k]?) : RsO w' lo hi v xs ds :=
  { h with rows := OwnR.kept h.rows fun k hk2 => hk k (OwnR.lt h.rows k hk2).2 (.inl hk2)
           d := fun j hj => OwnR.kept (h.d j hj) fun k hk2 => hk k (OwnR.lt (h.d j hj) k hk2).2 (.inr ⟨j, hj, hk2⟩) }
def MkRsP (xs : List Rs) (lo hi m : Nat) (v : Value) (ds : List Value) (w : World) (e : Ending) (w' : World) : Prop := e = .returned (.int .i64 ((m + sumG wR xs : Nat) : Int)) ∧ RsO w' lo hi v (markR m xs) ds ∧ KrP v ds xs.length w w'
theorem Bt.alloc {lo hi : Nat} {w w' : World} (h : Bt lo hi w w') (o : Obj) : Bt lo hi w (w'.alloc o) := h.trans (Bt.of_below (bx1 _ _))

set_option maxRecDepth 8000 in
set_option maxHeartbeats 8000000 in
theorem markRsps_any (xs : List Rs) (lo hi m g off cap : Nat) (ds : List Value) (w : World) (h : RsO w lo hi (.slice (some ⟨g, off, none⟩) xs.length cap) xs ds) (ha : RsA g xs.length ds) (hcap : cap ≤ 9223372036854775807) (hcap2 : xs.length ≤ cap) (hm : m + sumG wR xs ≤ 1152921504606846976) :
    Calls Try.prog 51 #[.slice (some ⟨g, off, none⟩) xs.length cap, .int .i64 m] w (MkRsP xs lo hi m (.slice (some ⟨g, off, none⟩) xs.length cap) ds w) := by
  have H := hid h; have HA := hid ha; have HM := hid hm
  have hz0 := hid (partG_zero mk1R wR m xs)
  have hgh := hid (h.hv g rfl)
  clear h ha hm
  go_enter Try.func51, Try.ntmps51
  go_wp2_with fail
  go_loopw [1, 5] (fun m' i wr => ∃ k : Nat, k ≤ xs.length ∧ m' = .int .i64 ((m + sumG wR (xs.take k) : Nat) : Int) ∧ i = .int .i64 k ∧ RsO wr lo hi (.slice (some ⟨g, off, none⟩) xs.length cap) (partG mk1R wR m xs k) ds ∧ KrP (.slice (some ⟨g, off, none⟩) xs.length cap) ds xs.length w wr) (fun _ i _ => xs.length - (intOf i).toNat)
  case atStart => exact ⟨0, Nat.zero_le _, by simp [sumG], rfl, by rw [hz0.out]; exact H.out, KrP.refl _ _ _ _⟩
  case round =>
    obtain ⟨k, hk, rfl, rfl, hro, hbt⟩ := hrel
    have HR := hid hro; have HB := hid hbt
    clear hro hbt
    by_cases hlt : k < xs.length
    · have hpl : (partG mk1R wR m xs k).length = xs.length := partG_len ..
      have HPL := hid hpl
      obtain ⟨mk, hmk⟩ : ∃ mk, mk = m + sumG wR (xs.take k) := ⟨_, rfl⟩
      obtain ⟨x, hx⟩ : ∃ x, x = xs.getD k default := ⟨_, rfl⟩
      have hwx : wR x = 2 + x.data.length := rfl
      have HNX := hid (show m + sumG wR (xs.take (k + 1)) = mk + (2 + x.data.length) by rw [sumG_snoc wR hlt default, hmk, ← hx, hwx]; omega)
      have hmb : mk + (2 + x.data.length) ≤ 1152921504606846976 := by
        have := sumG_take_le wR xs (k + 1); have := HM.out; have := HNX.out; omega
      have hgx := partG_get mk1R wR m (Nat.le_refl k) hlt default
      rw [← hx] at hgx
      have HGX := hid hgx
      have c0 := HR.out.rows.cellAt rowR_len k 0 zR (by rw [mkRows_len _ _ HR.out.len, hpl]; exact hlt) (by omega)
      have c1 := HR.out.rows.cellAt rowR_len k 1 zR (by rw [mkRows_len _ _ HR.out.len, hpl]; exact hlt) (by omega)
      have c2 := HR.out.rows.cellAt rowR_len k 2 zR (by rw [mkRows_len _ _ HR.out.len, hpl]; exact hlt) (by omega)
      rw [mkRows_get HR.out.len (by rw [hpl]; exact hlt) zR, hgx] at c0 c1 c2
      simp only [rowR, Nat.add_zero, List.getElem?_cons_zero, List.getElem?_cons_succ] at c0 c1 c2
      have f0 := HR.out.rows.frozenAt (off + k * 3); have f1 := HR.out.rows.frozenAt (off + k * 3 + 1)
      have hgl := (OwnR.lt HR.out.rows g rfl).2
      -- the row behind both stores
      have hr1 := HR.out.rows.putRow rowR_len k 0 zR ((mk : Int), x.code, ds.getD k undef) (.int .i64 (mk : Int)) (by rw [mkRows_len _ _ HR.out.len, hpl]; exact hlt) (by omega) (by rw [mkRows_get HR.out.len (by rw [hpl]; exact hlt) zR, hgx]; rfl)
      have hr2 := hr1.putRow rowR_len k 1 zR ((mk : Int), ((mk + 1 : Nat) : Int), ds.getD k undef) (.int .i64 ((mk + 1 : Nat) : Int)) (by rw [List.length_set, mkRows_len _ _ HR.out.len, hpl]; exact hlt) (by omega) (by rw [getD_set_eq (by rw [mkRows_len _ _ HR.out.len, hpl]; exact hlt)]; rfl)
      rw [List.set_set] at hr2
      have e2 := mkRows_set HR.out.len (k := k) (by rw [hpl]; exact hlt) (mk1R mk x)
      have e3 : (partG mk1R wR m xs k).set k (mk1R mk x) = partG mk1R wR m xs (k + 1) := by rw [hmk, hx]; exact partG_set mk1R wR m hlt default
      rw [e3] at e2
      rw [show ((mk : Int), ((mk + 1 : Nat) : Int), ds.getD k undef) = ((mk1R mk x).id, (mk1R mk x).code, ds.getD k undef) from rfl, e2] at hr2
      simp only [Nat.add_zero] at hr2
      have HR2 := hid hr2; have HE3 := hid e3
      have hd0 := HR.out.d k (by rw [hpl]; exact hlt)
      rw [hgx] at hd0
      have hne := HA.out.n1 k hlt
      have hd1 : Owns ((wr.setCell ⟨g, off + k * 3, none⟩ (.int .i64 (mk : Int))).setCell ⟨g, off + k * 3 + 1, none⟩ (.int .i64 ((mk + 1 : Nat) : Int))) lo 3 1 rowI (ds.getD k undef) x.data := (hd0.set' _ _ _ (fun j hj e => hne (by rw [hj, e]))).set' _ _ _ (fun j hj e => hne (by rw [hj, e]))
      obtain ⟨dv, hdv⟩ : ∃ dv, dv = ds.getD k undef := ⟨_, rfl⟩
      rw [← hdv] at hd1 c2 hne hd0
      obtain ⟨qa, qc, hqe, hq1, hq2⟩ := hd0.shape
      rw [hqe] at c2 hd1 hne
      have HD1 := hid hd1; have HNE := hid hne; have HDV := hid hdv; have HQE := hid hqe
      rw [← hmk]
      have HMK := hid hmk; have HXX := hid hx
      clear hr1 hr2 e2 e3 hd0 hd1 hgx hpl hwx hmk hx hne hdv hqe
      go_wp2_with fail
      refine (markI_any _ x.data (mk + 2) lo _ HD1.out (by omega)).mono ?_
      rintro e w2 ⟨rfl, hmk2⟩
      have HK2 := hid hmk2
      clear hmk2
      have hk2 : MkP (ds.getD k undef) x.data (mk + 2) lo ((wr.setCell ⟨g, off + k * 3, none⟩ (.int .i64 (mk : Int))).setCell ⟨g, off + k * 3 + 1, none⟩ (.int .i64 ((mk + 1 : Nat) : Int))) w2 := by
        rw [← HDV.out, HQE.out]
        exact HK2.out
      have HBN := hid (show KrP (.slice (some ⟨g, off, none⟩) xs.length cap) ds xs.length w w2 from ((HB.out.set (g := g) rfl _).set (g := g) rfl _).mk1 hlt hk2)
      clear hk2
      have HRN := hid (show RsO w2 lo hi (.slice (some ⟨g, off, none⟩) xs.length cap) (partG mk1R wR m xs (k + 1)) ds from by
        refine ⟨by rw [partG_len]; rw [← HPL.out]; exact HR.out.len, ?_, fun j hj => ?_, HR.out.hv, fun j hj => HR.out.hd j (by rw [partG_len] at hj ⊢; exact hj)⟩
        · exact HK2.out.other HR2.out (fun j hj1 hj2 => by simp only [Value.ownBlock, Option.some.injEq] at hj1; subst hj1; exact HNE.out hj2)
        · rw [partG_len] at hj
          rw [← HE3.out]
          by_cases e : j = k
          · subst e
            rw [getD_set_eq (by rw [HPL.out]; exact hlt), ← HDV.out, HQE.out]
            exact HK2.out.own
          · rw [getD_set_ne' e]
            have := HR.out.d j (by rw [HPL.out]; exact hj)
            refine HK2.out.other ((this.set' _ _ _ (fun i hi e => HA.out.n1 j hj (by rw [hi, e]))).set' _ _ _ (fun i hi e => HA.out.n1 j hj (by rw [hi, e]))) ?_
            have := HA.out.a1 j k hj hlt e
            rw [← HDV.out, HQE.out] at this
            exact this)
      go_wp2_with fail
      go_roundw
      case rel => exact ⟨k + 1, by omega, by rw [HNX.out]; go_num, by go_num, HRN.out, HBN.out⟩
      case measure => simp [intOf]; omega
    · obtain rfl : k = xs.length := by omega
      have he := hid (show sumG wR (xs.take xs.length) = sumG wR xs by rw [List.take_length])
      rw [partG_all] at HR
      rw [he.out]
      go_wp2_with fail
      go_ret
      exact ⟨rfl, HR.out, HB.out⟩

set_option maxHeartbeats 2000000 in
theorem markRsps_v (xs : List Rs) (lo hi m : Nat) (v : Value) (ds : List Value) (w : World) (h : RsO w lo hi v xs ds) (ha1 : ∀ j, j < xs.length → Apart v (ds.getD j undef)) (ha2 : ∀ i j, i < xs.length → j < xs.length → i ≠ j → Apart (ds.getD i undef) (ds.getD j undef)) (hm : m + sumG wR xs ≤ 1152921504606846976) :
    Calls Try.prog 51 #[v, .int .i64 m] w (MkRsP xs lo hi m v ds w) := by
  have hl := mkRows_len _ _ h.len
  obtain ⟨hll, h2⟩ := id h.rows
  rcases h2 with ⟨h2, h3⟩ | ⟨g, off, cap, cur, rfl, hg, hh, hle, hmax, hsz, hc⟩
  · rw [hl] at h3
    have hx : xs = [] := List.eq_nil_of_length_eq_zero h3
    subst hx h2
    have H := hid h
    clear h hl hll h3 ha1 ha2 hm
    go_enter Try.func51, Try.ntmps51
    go_wp2_with fail
    go_loopw [1, 5] (fun m' i wr => m' = .int .i64 m ∧ i = .int .i64 0 ∧ wr = w) (fun _ i _ => (intOf i).toNat)
    case atStart => exact ⟨rfl, rfl, rfl⟩
    case round =>
      obtain ⟨rfl, rfl, rfl⟩ := hrel
      go_wp2_with fail
      go_ret
      exact ⟨by simp [sumG], by simpa [markR, markG] using H.out, KrP.refl _ _ _ _⟩
  · rw [hl] at h hle ha1 ⊢
    exact markRsps_any xs lo hi m g off cap ds w h ⟨fun j hj e => ha1 j hj g rfl e, ha2⟩ (by unfold maxLen at hmax; omega) hle hm

theorem markR_small : ∀ (xs : List Rs) (m : Nat), m + sumG wR xs ≤ 1048576 → (∀ r ∈ xs, r.data.length ≤ 4) → ∀ r ∈ markR m xs, (∀ y ∈ r.data, I64 y) ∧ I64 r.id ∧ I64 r.code ∧ r.data.length ≤ 4
  | [], _, _, _ => by simp [markR, markG]
  | x :: xs, m, hm, h4 => by
    have e : sumG wR (x :: xs) = 2 + x.data.length + sumG wR xs := by simp [sumG, wR]
    rw [e] at hm
    intro r hr
    simp only [markR, markG, List.mem_cons] at hr
    rcases hr with rfl | hr
    · refine ⟨marks_64 (by omega), ?_, ?_, by simp only [mk1R, marks_len]; exact h4 x (by simp)⟩
      · simp only [mk1R, I64]; omega
      · simp only [mk1R, I64]; omega
    · exact markR_small xs (m + wR x) (by simp only [wR]; omega) (fun y hy => h4 y (by simp [hy])) r hr

set_option maxRecDepth 8000 in
set_option maxHeartbeats 8000000 in
theorem heldRsps_any (v : Value) (xs : List Rs) (m B : Nat) (w : World) (hv : Rsps w B v (markR m xs)) (hB : B ≤ w.heap.size) (hm : m + sumG wR xs ≤ 1152921504606846976) :
    Calls Try.prog 52 #[v, .int .i64 m] w fun e w' => e = .returned (.int .i64 ((m + sumG wR xs : Nat) : Int)) ∧ w = w' := by
  obtain ⟨ao, cap, rfl, hlc, hcap, hln, hni, hr⟩ := hv.opened
  have HL := hid (markG_len mk1R wR xs m)
  unfold markR at hlc hln hr ⊢
  rw [HL.out] at hlc hln hr ⊢
  have HM := hid hm
  clear hv hm
  go_enter Try.func52, Try.ntmps52
  go_wp2_with fail
  go_loop [1, 5] (fun m' i => ∃ k : Nat, k ≤ xs.length ∧ m' = .int .i64 ((m + sumG wR (xs.take k) : Nat) : Int) ∧ i = .int .i64 k) (fun _ i => xs.length - (intOf i).toNat)
  case atStart => exact ⟨0, Nat.zero_le _, by simp [sumG], rfl⟩
  case round =>
    obtain ⟨k, hk, rfl, rfl⟩ := hrel
    by_cases hlt : k < xs.length
    · obtain ⟨b, off, rfl, hb, hc⟩ := hr (by omega)
      obtain ⟨da, dc, hd, _, _, c0, c1, c2⟩ := hc k hlt
      have hg := markG_get mk1R wR m hlt default
      rw [hg] at c0 c1 c2 hd
      obtain ⟨mk, hmk⟩ : ∃ mk, mk = m + sumG wR (xs.take k) := ⟨_, rfl⟩
      obtain ⟨x, hx⟩ : ∃ x, x = xs.getD k default := ⟨_, rfl⟩
      rw [← hmk, ← hx] at c0 c1 c2 hd
      rw [← hmk]
      simp only [mk1R] at c0 c1 c2 hd
      have HD := hid hd
      have HNX := hid (show m + sumG wR (xs.take (k + 1)) = mk + (2 + x.data.length) by rw [sumG_snoc wR hlt default, hmk, ← hx]; show m + (sumG wR (List.take k xs) + (2 + x.data.length)) = _; omega)
      have hmb : mk + (2 + x.data.length) ≤ 1152921504606846976 := by
        have := sumG_take_le wR xs (k + 1); have := HM.out; have := HNX.out; omega
      rw [marks_len] at c2 HD
      clear hc hr hg hd hmk hx
      go_wp2_with fail
      refine (heldIntB_any _ x.data.length (mk + 2) B _ HD.out (by omega)).mono ?_
      rintro e w2 ⟨rfl, hww⟩
      subst hww
      go_wp2_with fail
      go_round
      case rel => exact ⟨k + 1, by omega, by rw [HNX.out]; go_num, by go_num⟩
      case measure => simp [intOf]; omega
    · obtain rfl : k = xs.length := by omega
      have he := hid (show sumG wR (xs.take xs.length) = sumG wR xs by rw [List.take_length])
      rw [he.out]
      go_wp2_with fail
      go_ret
      exact ⟨rfl, rfl⟩

end Go.Proofs.Yteamebdehembgaa

namespace Go.Proofs.Yteamebdehembgaa
open Go.RowKit

def mk1Q (m : Nat) (r : Rq) : Rq := ⟨((m : Nat) : Int), ((m + 1 : Nat) : Int), ((m + 2 : Nat) : Int), ((m + 3 : Nat) : Int), (((m + 4 : Nat) : Int).tmod 3 == 0), marks (m + 5) r.data.length, marks (m + 5 + r.data.length) r.lanes.length⟩
def wQ (r : Rq) : Nat := 5 + r.data.length + r.lanes.length
def markQ (m : Nat) (xs : List Rq) : List Rq := markG mk1Q wQ m xs
/-- All blocks of a slice of what is asked lie below hi. -/
structure QsB (hi g n : Nat) (vs : List (Value × Value)) : Prop where
  g : g < hi
  d : ∀ j, j < n → ∀ k, (vs.getD j default).1.ownBlock = some k → k < hi
  l : ∀ j, j < n → ∀ k, (vs.getD j default).2.ownBlock = some k → k < hi
theorem QsO.bound {w : World} {lo g n : Nat} {qs : List Rq} {vs : List (Value × Value)} (h : QsO w lo g n qs vs) : QsB w.heap.size g qs.length vs :=
  ⟨h.g.2, fun j hj k hk => (OwnR.lt (h.d j hj) k hk).2, fun j hj k hk => (OwnR.lt (h.l j hj) k hk).2⟩
theorem QsO.bt {w w' : World} {lo hi l r g n : Nat} {qs : List Rq} {vs : List (Value × Value)} (h : QsO w lo g n qs vs) (hh : QsB hi g qs.length vs) (hb : Bt l r w w') (hk : hi ≤ l ∨ r ≤ lo) : QsO w' lo g n qs vs :=
  { h with rows := OwnR.kept h.rows fun k hk2 => hb.block k (OwnR.lt h.rows k hk2).2 (by have := (OwnR.lt h.rows k hk2).1; have := hh.g; simp only [Value.ownBlock, Option.some.injEq] at hk2; omega)
           d := fun j hj => OwnR.kept (h.d j hj) fun k hk2 => hb.block k (OwnR.lt (h.d j hj) k hk2).2 (by have := (OwnR.lt (h.d j hj) k hk2).1; have := hh.d j hj k hk2; omega)
           l := fun j hj => OwnR.kept (h.l j hj) fun k hk2 => hb.block k (OwnR.lt (h.l j hj) k hk2).2 (by have := (OwnR.lt (h.l j hj) k hk2).1; have := hh.l j hj k hk2; omega) }
theorem QsO.rows0 {w : World} {lo g : Nat} {qs : List Rq} {vs : List (Value × Value)} {n : Nat} (h : QsO w lo g n qs vs) (hn : qs.length = n) : Owns w lo 71 7 rowQ (.slice (some ⟨g, 0, none⟩) n n) (zipQ qs vs) := by
  have := h.rows
  rwa [hn, Nat.sub_self, List.replicate_zero, List.append_nil] at this

def MkQsP (qs : List Rq) (lo hi m g : Nat) (vs : List (Value × Value)) (w : World) (e : Ending) (w' : World) : Prop := e = .returned (.int .i64 ((m + sumG wQ qs : Nat) : Int)) ∧ QsO w' lo g qs.length (markQ m qs) vs ∧ Bt lo hi w w'
set_option maxRecDepth 8000 in
set_option maxHeartbeats 16000000 in
theorem markReqs_any (qs : List Rq) (lo hi m g : Nat) (vs : List (Value × Value)) (w : World) (h : QsO w lo g qs.length qs vs) (hb : QsB hi g qs.length vs) (hlen : qs.length ≤ 1048576) (hm : m + sumG wQ qs ≤ 1152921504606846976) :
    Calls Try.prog 50 #[.slice (some ⟨g, 0, none⟩) qs.length qs.length, .int .i64 m] w (MkQsP qs lo hi m g vs w) := by
  have H := hid h; have HM := hid hm; have HH := hid hb
  have hz0 := hid (partG_zero mk1Q wQ m qs)
  clear h hm hb
  go_enter Try.func50, Try.ntmps50
  go_wp2_with fail
  go_loopw [1, 5] (fun m' i wr => ∃ k : Nat, k ≤ qs.length ∧ m' = .int .i64 ((m + sumG wQ (qs.take k) : Nat) : Int) ∧ i = .int .i64 k ∧ QsO wr lo g qs.length (partG mk1Q wQ m qs k) vs ∧ Bt lo hi w wr) (fun _ i _ => qs.length - (intOf i).toNat)
  case atStart => exact ⟨0, Nat.zero_le _, by simp [sumG], rfl, by rw [hz0.out]; exact H.out, Bt.refl _ _ _⟩
  case round =>
    obtain ⟨k, hk, rfl, rfl, hro, hbt⟩ := hrel
    have HR := hid hro; have HB := hid hbt
    clear hro hbt
    have hpl : (partG mk1Q wQ m qs k).length = qs.length := partG_len ..
    have HPL := hid hpl
    clear hpl
    by_cases hlt : k < qs.length
    · obtain ⟨mk, hmk⟩ : ∃ mk, mk = m + sumG wQ (qs.take k) := ⟨_, rfl⟩
      obtain ⟨x, hx⟩ : ∃ x, x = qs.getD k default := ⟨_, rfl⟩
      have hwx : wQ x = 5 + x.data.length + x.lanes.length := rfl
      have HNX := hid (show m + sumG wQ (qs.take (k + 1)) = mk + (5 + x.data.length + x.lanes.length) by rw [sumG_snoc wQ hlt default, hmk, ← hx, hwx]; omega)
      have hmb : mk + (5 + x.data.length + x.lanes.length) ≤ 1152921504606846976 := by
        have := sumG_take_le wQ qs (k + 1); have := HM.out; have := HNX.out; omega
      have hgx := partG_get mk1Q wQ m (Nat.le_refl k) hlt default
      rw [← hx] at hgx
      obtain ⟨p, hp⟩ : ∃ p, p = vs.getD k default := ⟨_, rfl⟩
      have hkp : k < (partG mk1Q wQ m qs k).length := by rw [HPL.out]; exact hlt
      have hrow := HR.out.rows0 HPL.out
      have hkz : k < (zipQ (partG mk1Q wQ m qs k) vs).length := by rw [zipQ_len HR.out.len]; exact hkp
      have hgz : (zipQ (partG mk1Q wQ m qs k) vs).getD k zQ = (x, p) := by rw [zipQ_get HR.out.len hkp, hgx, hp]
      have c0 := hrow.cellAt rowQ_len k 0 zQ hkz (by omega)
      have c1 := hrow.cellAt rowQ_len k 1 zQ hkz (by omega)
      have c2 := hrow.cellAt rowQ_len k 2 zQ hkz (by omega)
      have c3 := hrow.cellAt rowQ_len k 3 zQ hkz (by omega)
      have c4 := hrow.cellAt rowQ_len k 4 zQ hkz (by omega)
      have c5 := hrow.cellAt rowQ_len k 5 zQ hkz (by omega)
      rw [hgz] at c0 c1 c2 c3 c4 c5
      simp only [rowQ, Nat.add_zero, Nat.zero_add, List.getElem?_cons_zero, List.getElem?_cons_succ] at c0 c1 c2 c3 c4 c5
      have f0 := hrow.frozenAt (k * 7); have f1 := hrow.frozenAt (k * 7 + 1); have f2 := hrow.frozenAt (k * 7 + 2); have f3 := hrow.frozenAt (k * 7 + 3); have f4 := hrow.frozenAt (k * 7 + 4)
      have hgl := (OwnR.lt hrow g rfl).2
      have hge := (OwnR.lt hrow g rfl).1
      have hk1 : ∀ y, k < ((zipQ (partG mk1Q wQ m qs k) vs).set k y).length := fun y => by simpa using hkz
      have hg1 : ∀ y, ((zipQ (partG mk1Q wQ m qs k) vs).set k y).getD k zQ = y := fun y => getD_set_eq hkz y zQ
      have r1 := hrow.putRow rowQ_len k 0 zQ (⟨(mk : Int), x.kind, x.addr, x.many, x.wrap, [], []⟩, p) (.int .i64 (mk : Int)) hkz (by omega) (by rw [hgz]; rfl)
      have r2 := r1.putRow rowQ_len k 1 zQ (⟨(mk : Int), ((mk + 1 : Nat) : Int), x.addr, x.many, x.wrap, [], []⟩, p) (.int .i64 ((mk + 1 : Nat) : Int)) (hk1 _) (by omega) (by rw [hg1]; rfl)
      rw [List.set_set] at r2
      have r3 := r2.putRow rowQ_len k 2 zQ (⟨(mk : Int), ((mk + 1 : Nat) : Int), ((mk + 2 : Nat) : Int), x.many, x.wrap, [], []⟩, p) (.int .i64 ((mk + 2 : Nat) : Int)) (hk1 _) (by omega) (by rw [hg1]; rfl)
      rw [List.set_set] at r3
      have r4 := r3.putRow rowQ_len k 3 zQ (⟨(mk : Int), ((mk + 1 : Nat) : Int), ((mk + 2 : Nat) : Int), ((mk + 3 : Nat) : Int), x.wrap, [], []⟩, p) (.int .i64 ((mk + 3 : Nat) : Int)) (hk1 _) (by omega) (by rw [hg1]; rfl)
      rw [List.set_set] at r4
      have r5 := r4.putRow rowQ_len k 4 zQ (mk1Q mk x, p) (.bool (((mk + 4 : Nat) : Int).tmod 3 == 0)) (hk1 _) (by omega) (by rw [hg1]; rfl)
      rw [List.set_set, hp, zipQ_set HR.out.len hkp] at r5
      have e3 : (partG mk1Q wQ m qs k).set k (mk1Q mk x) = partG mk1Q wQ m qs (k + 1) := by rw [hmk, hx]; exact partG_set mk1Q wQ m hlt default
      rw [e3] at r5
      simp only [Nat.add_zero, Nat.zero_add] at r5
      have HR5 := hid r5; have HE3 := hid e3
      have hne1 := HR.out.n1 k hkp; have hne2 := HR.out.n2 k hkp
      have hd0 := HR.out.d k hkp; have hl0 := HR.out.l k hkp
      rw [hgx, ← hp] at hd0 hl0
      rw [← hp] at hne1 hne2
      have hap := HR.out.a3 k k hkp hkp
      rw [← hp] at hap
      obtain ⟨W5, hW5⟩ : ∃ W5, W5 = ((((wr.setCell ⟨g, k * 7, none⟩ (.int .i64 (mk : Int))).setCell ⟨g, k * 7 + 1, none⟩ (.int .i64 ((mk + 1 : Nat) : Int))).setCell ⟨g, k * 7 + 2, none⟩ (.int .i64 ((mk + 2 : Nat) : Int))).setCell ⟨g, k * 7 + 3, none⟩ (.int .i64 ((mk + 3 : Nat) : Int))).setCell ⟨g, k * 7 + 4, none⟩ (.bool (((mk + 4 : Nat) : Int).tmod 3 == 0)) := ⟨_, rfl⟩
      have hset : ∀ i, i ≠ g → W5.heap[i]? = wr.heap[i]? := fun i hi => by
        rw [hW5, Below.heap_setCell _ _ _ _ hi, Below.heap_setCell _ _ _ _ hi, Below.heap_setCell _ _ _ _ hi, Below.heap_setCell _ _ _ _ hi, Below.heap_setCell _ _ _ _ hi]
      have HSET := hid hset
      have HB5 := hid (show Bt lo hi w W5 from by
        rw [hW5]
        exact ((((HB.out.set (p := ⟨g, k * 7, none⟩) hge HH.out.g _).set (p := ⟨g, k * 7 + 1, none⟩) hge HH.out.g _).set (p := ⟨g, k * 7 + 2, none⟩) hge HH.out.g _).set (p := ⟨g, k * 7 + 3, none⟩) hge HH.out.g _).set (p := ⟨g, k * 7 + 4, none⟩) hge HH.out.g _)
      rw [← hW5] at HR5
      have HD1 := hid (OwnR.kept hd0 fun i hi => hset i fun e => hne1 (e ▸ hi) : Owns W5 lo 3 1 rowI p.1 x.data)
      have HL1 := hid (OwnR.kept hl0 fun i hi => hset i fun e => hne2 (e ▸ hi) : Owns W5 lo 3 1 rowI p.2 x.lanes)
      obtain ⟨u, z⟩ := p
      simp only at HD1 HL1 hne1 hne2 hd0 hl0 hap c5
      obtain ⟨qa, qc, rfl, _, _⟩ := hd0.shape
      obtain ⟨la, lc, rfl, _, _⟩ := hl0.shape
      have HN1 := hid hne1; have HN2 := hid hne2; have HP := hid hp; have HAP := hid hap
      have hc5 : W5.cell? ⟨g, k * 7 + 5, none⟩ = some (.slice qa x.data.length qc) := by rw [hW5]; simp [go_sem, c5]
      have hg5 : g < W5.heap.size := (OwnR.lt HR5.out g rfl).2
      rw [← hmk]
      have HMK := hid hmk; have HXX := hid hx; have HW5 := hid hW5; have HGX := hid hgx
      clear r1 r2 r3 r4 r5 e3 hd0 hl0 hgx hwx hmk hx hne1 hne2 hp hset hrow hkz hgz hk1 hg1 hap hge hW5 hc5 hg5
      go_wp2_with fail
      refine at_world (fun W => W = W5) (by
        have ht : ((mk + 4 : Nat) : Int).tmod 3 = ((mk : Int) + 1 + 1 + 1 + 1) % 3 := by
          rw [Int.tmod_eq_emod_of_nonneg (by omega)]; congr 1
        have e1 : ((mk + 1 : Nat) : Int) = (mk : Int) + 1 := by omega
        have e2 : ((mk + 2 : Nat) : Int) = (mk : Int) + 1 + 1 := by omega
        have e3 : ((mk + 3 : Nat) : Int) = (mk : Int) + 1 + 1 + 1 := by omega
        rw [HW5.out, ht, e1, e2, e3]) ?_
      rintro W6 h6
      rw [h6]
      clear h6 W6
      refine (markI_any _ x.data (mk + 5) lo _ HD1.out (by omega)).mono ?_
      rintro e w2 ⟨rfl, hmk2⟩
      have HK2 := hid hmk2
      clear hmk2
      have HR6 := hid (HK2.out.other HR5.out (fun j hj1 hj2 => by simp only [Value.ownBlock, Option.some.injEq] at hj1; subst hj1; exact HN1.out hj2))
      have HL2 := hid (HK2.out.other HL1.out HAP.out.symm)
      have hkz : k < (zipQ (partG mk1Q wQ m qs (k + 1)) vs).length := by rw [zipQ_len (by rw [partG_len, ← HPL.out]; exact HR.out.len), partG_len]; exact hlt
      have c6 := HR6.out.cellAt rowQ_len k 6 zQ hkz (by omega)
      have hgz : (zipQ (partG mk1Q wQ m qs (k + 1)) vs).getD k zQ = (mk1Q mk x, (Value.slice qa x.data.length qc, Value.slice la x.lanes.length lc)) := by
        rw [zipQ_get (by rw [partG_len, ← HPL.out]; exact HR.out.len) (by rw [partG_len]; exact hlt), ← HP.out, ← HE3.out, getD_set_eq hkp]
      rw [hgz] at c6
      simp only [rowQ, Nat.zero_add, List.getElem?_cons_zero, List.getElem?_cons_succ] at c6
      have hgl2 : g < w2.heap.size := (OwnR.lt HR6.out g rfl).2
      clear hkz hgz c0 c1 c2 c3 c4 c5 f0 f1 f2 f3 f4
      go_wp2_with fail
      refine (markI_any _ x.lanes (mk + 5 + x.data.length) lo _ HL2.out (by omega)).mono ?_
      rintro e w3 ⟨rfl, hmk3⟩
      have HK3 := hid hmk3
      clear hmk3 c6
      have HBN := hid (show Bt lo hi w w3 from (HB5.out.trans (HK2.out.bt (fun j hj => ⟨(OwnR.lt HD1.out j hj).1, HH.out.d k hlt j (by rw [← HP.out]; exact hj)⟩))).trans (HK3.out.bt (fun j hj => ⟨(OwnR.lt HL2.out j hj).1, HH.out.l k hlt j (by rw [← HP.out]; exact hj)⟩)))
      have keep : ∀ (i : Nat), i ≠ g → (Value.slice qa x.data.length qc).ownBlock ≠ some i → (Value.slice la x.lanes.length lc).ownBlock ≠ some i → i < wr.heap.size → w3.heap[i]? = wr.heap[i]? := fun i h1 h2 h3 h4 => by
        have hs5 : W5.heap.size = wr.heap.size := by rw [HW5.out]; simp [World.setCell]
        rw [HK3.out.keep i (by rw [HK2.out.size, hs5]; exact h4) h3, HK2.out.keep i (by rw [hs5]; exact h4) h2, HSET.out i h1]
      have KEEP := hid keep
      have HRN := hid (show QsO w3 lo g qs.length (partG mk1Q wQ m qs (k + 1)) vs from by
        have hle := HR.out
        have el : (partG mk1Q wQ m qs (k + 1)).length = (partG mk1Q wQ m qs k).length := by rw [partG_len, HPL.out]
        refine ⟨by rw [el]; exact hle.len, by rw [partG_len]; exact Nat.le_refl _, ?_, fun j hj => ?_, fun j hj => ?_, by rw [el]; exact hle.n1, by rw [el]; exact hle.n2, by rw [el]; exact hle.a1, by rw [el]; exact hle.a2, by rw [el]; exact hle.a3⟩
        · rw [partG_len, Nat.sub_self, List.replicate_zero, List.append_nil]
          exact HK3.out.other HR6.out (fun j hj1 hj2 => by simp only [Value.ownBlock, Option.some.injEq] at hj1; subst hj1; exact HN2.out hj2)
        · rw [el] at hj
          rw [← HE3.out]
          by_cases e : j = k
          · subst e
            rw [getD_set_eq hkp, ← HP.out]
            exact HK3.out.other HK2.out.own HAP.out
          · rw [getD_set_ne' e]
            refine OwnR.kept (hle.d j hj) fun i hi => KEEP.out i (fun e => hle.n1 j hj (e ▸ hi)) (fun e2 => ?_) (fun e2 => ?_) (OwnR.lt (hle.d j hj) i hi).2
            · have := hle.a1 j k hj hkp e; rw [← HP.out] at this; exact this i hi e2
            · have := hle.a3 j k hj hkp; rw [← HP.out] at this; exact this i hi e2
        · rw [el] at hj
          rw [← HE3.out]
          by_cases e : j = k
          · subst e
            rw [getD_set_eq hkp, ← HP.out]
            exact HK3.out.own
          · rw [getD_set_ne' e]
            refine OwnR.kept (hle.l j hj) fun i hi => KEEP.out i (fun e => hle.n2 j hj (e ▸ hi)) (fun e2 => ?_) (fun e2 => ?_) (OwnR.lt (hle.l j hj) i hi).2
            · have := hle.a3 k j hkp hj; rw [← HP.out] at this; exact this i e2 hi
            · have := hle.a2 j k hj hkp e; rw [← HP.out] at this; exact this i hi e2)
      go_wp2_with fail
      go_roundw
      case rel => exact ⟨k + 1, by omega, by rw [HNX.out]; go_num, by go_num, HRN.out, HBN.out⟩
      case measure => simp [intOf]; omega
    · obtain rfl : k = qs.length := by omega
      have he := hid (show sumG wQ (qs.take qs.length) = sumG wQ qs by rw [List.take_length])
      rw [partG_all] at HR
      rw [he.out]
      go_wp2_with fail
      go_ret
      exact ⟨rfl, HR.out, HB.out⟩

end Go.Proofs.Yteamebdehembgaa
