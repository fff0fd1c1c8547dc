/-
  Slices from k on; two lists of what came of things, one behind the other; what came of things, held side by side.
-/
import Derived.Test.YtjlnnnnpdagnpaaJRu3
import Derived.Test.YtjlnnnnpdagnpaaJCr1
import Derived.Outline
import Derived.Deep.RegionHeld3
set_option linter.unusedVariables false
set_option linter.unusedSimpArgs false
namespace Go.Proofs.Ytjlnnnnpdagnpaa
open Go.RowKit

theorem Arr.drop {w : World} {B sz n cap m b off : Nat} {rows : List (List Value)} (h : Arr w B sz (.slice (some ⟨b, off, none⟩) n cap) rows) (hm : m ≤ n) : Arr w B sz (.slice (some ⟨b, off + m * sz, none⟩) (n - m) (cap - m)) (rows.drop m) := by
  obtain ⟨ao, cap', hv, h1, h2, h0, h9, h3⟩ := h
  simp only [Value.slice.injEq] at hv
  obtain ⟨rfl, rfl, rfl⟩ := hv
  refine ⟨_, _, by rw [List.length_drop], by rw [List.length_drop]; omega, by omega, by rw [List.length_drop]; omega, (fun h => by cases h), fun hn => ?_⟩
  rw [List.length_drop] at hn ⊢
  obtain ⟨b', off', ha, hlt, hc⟩ := h3 (by omega)
  simp only [Option.some.injEq, Addr.mk.injEq, and_true] at ha
  obtain ⟨rfl, rfl⟩ := ha
  refine ⟨_, _, rfl, hlt, fun t ht j hj => ?_⟩
  have := hc (m + t) (by omega) j hj
  rw [show off + m * sz + t * sz + j = off + (m + t) * sz + j by rw [Nat.add_mul]; omega, this]
  simp [List.getD, List.getElem?_drop]
theorem ArrV.drop {α : Type} {R : World → Nat → Value → α → Prop} {w : World} {B sz n cap m b off : Nat} {xs : List α} (h : ArrV R w B sz (.slice (some ⟨b, off, none⟩) n cap) xs) (hm : m ≤ n) : ArrV R w B sz (.slice (some ⟨b, off + m * sz, none⟩) (n - m) (cap - m)) (xs.drop m) := by
  obtain ⟨vs, h1, h2, h3⟩ := h
  refine ⟨vs.drop m, by rw [List.map_drop]; exact h1.drop hm, by simp [h2], fun k hk d => ?_⟩
  simp only [List.length_drop] at hk
  have e1 : (vs.drop m).getD k undef = vs.getD (m + k) undef := by simp [List.getD, List.getElem?_drop]
  have e2 : (xs.drop m).getD k d = xs.getD (m + k) d := by simp [List.getD, List.getElem?_drop]
  rw [e1, e2]
  exact h3 (m + k) (by omega) d

theorem mkRows_app {xs ys : List Rs} {ds es : List Value} (h : ds.length = xs.length) : mkRows (xs ++ ys) (ds ++ es) = mkRows xs ds ++ mkRows ys es := by
  unfold mkRows
  rw [List.zipWith_append h.symm]
theorem getD_appl {α : Type} {xs ys : List α} {j : Nat} {d : α} (h : j < xs.length) : (xs ++ ys).getD j d = xs.getD j d := by
  simp only [List.getD]; rw [List.getElem?_append_left h]
theorem getD_appr {α : Type} {xs ys : List α} {j : Nat} {d : α} (h : xs.length ≤ j) : (xs ++ ys).getD j d = ys.getD (j - xs.length) d := by
  simp only [List.getD]; rw [List.getElem?_append_right h]
theorem rsps_join {w : World} {H : Nat} {v : Value} {xs ys : List Rs} {ds es : List Value} (h : Owns w H 42 3 rowR v (mkRows xs ds ++ mkRows ys es)) (l1 : ds.length = xs.length) (l2 : es.length = ys.length)
    (d1 : ∀ j, j < xs.length → Owns w H 3 1 rowI (ds.getD j undef) (xs.getD j default).data) (d2 : ∀ j, j < ys.length → Owns w H 3 1 rowI (es.getD j undef) (ys.getD j default).data)
    (hs : ∀ r ∈ xs ++ ys, (∀ y ∈ r.data, I64 y) ∧ I64 r.id ∧ I64 r.code ∧ r.data.length ≤ 4) (hn : (xs ++ ys).length ≤ 140737488351232) : Rsps w w.heap.size v (xs ++ ys) := by
  rw [← mkRows_app l1] at h
  refine rsps_of h (by simp [l1, l2]) (fun j hj => ?_) hs hn
  by_cases hx : j < xs.length
  · rw [getD_appl (by omega), getD_appl hx]; exact d1 j hx
  · rw [getD_appr (by omega), getD_appr (by omega), l1]
    exact d2 _ (by simp at hj; omega)

theorem le_drew {B : Nat} {w : World} (h : B ≤ w.heap.size) : B ≤ w.drew.heap.size := h
theorem six_kept {w w' : World} {b b2 o o2 : Nat} {v0 v1 v2 u0 u1 u2 : Option Value} (h : Below w.heap.size w.drew w') (hb : b < w.heap.size) (hb2 : b2 < w.heap.size) (c0 : w.cell? ⟨b, o, none⟩ = v0) (c1 : w.cell? ⟨b, o + 1, none⟩ = v1) (c2 : w.cell? ⟨b, o + 2, none⟩ = v2) (e0 : w.cell? ⟨b2, o2, none⟩ = u0) (e1 : w.cell? ⟨b2, o2 + 1, none⟩ = u1) (e2 : w.cell? ⟨b2, o2 + 2, none⟩ = u2) :
    w'.cell? ⟨b, o, none⟩ = v0 ∧ w'.cell? ⟨b, o + 1, none⟩ = v1 ∧ w'.cell? ⟨b, o + 2, none⟩ = v2 ∧ w'.cell? ⟨b2, o2, none⟩ = u0 ∧ w'.cell? ⟨b2, o2 + 1, none⟩ = u1 ∧ w'.cell? ⟨b2, o2 + 2, none⟩ = u2 :=
  ⟨(h.cell (p := ⟨b, _, none⟩) hb).trans c0, (h.cell (p := ⟨b, _, none⟩) hb).trans c1, (h.cell (p := ⟨b, _, none⟩) hb).trans c2, (h.cell (p := ⟨b2, _, none⟩) hb2).trans e0, (h.cell (p := ⟨b2, _, none⟩) hb2).trans e1, (h.cell (p := ⟨b2, _, none⟩) hb2).trans e2⟩

set_option maxRecDepth 4000 in
set_option maxHeartbeats 4000000 in
/-- The same list of what came of things is the same. -/
theorem crRsps_same (xs : List Rs) (v u : Value) (B : Nat) (w : World) (hv : Rsps w B v xs) (hu : Rsps w B u xs) (hB : B ≤ w.heap.size) :
    Calls Try.prog 15 #[v, u] w fun e w' => e = .returned (.bool true) ∧ Below w.heap.size w w' := by
  obtain ⟨ao, cap, rfl, hlc, hcap, hln, hni, hr⟩ := hv.opened
  obtain ⟨bo, cbp, rfl, hlc2, hcap2, hln2, hni2, hr2⟩ := hu.opened
  clear hv hu
  go_enter Try.func15, Try.ntmps15
  go_wp2_with fail
  go_loopw [5] (fun i wr => ∃ k : Nat, k ≤ xs.length ∧ i = .int .i64 k ∧ Below w.heap.size w wr) (fun i _ => xs.length - (intOf i).toNat)
  case atStart => exact ⟨0, Nat.zero_le _, rfl, by first | exact Below.refl _ _ | exact (Below.refl _ _).drew⟩
  case round =>
    obtain ⟨k, hk, rfl, hbl⟩ := hrel
    have hsz := hbl.size
    by_cases hlt : k < xs.length
    · obtain ⟨b, off, rfl, hb, hc⟩ := hr (by omega)
      obtain ⟨b2, off2, rfl, hb2, hc2⟩ := hr2 (by omega)
      obtain ⟨da, dc, hd, _, _, c0, c1, c2⟩ := hc k hlt
      obtain ⟨ea, ec, he, _, _, e0, e1, e2⟩ := hc2 k hlt
      obtain ⟨x, hx⟩ : ∃ x, x = xs.getD k default := ⟨_, rfl⟩
      rw [← hx] at c0 c1 c2 e0 e1 e2 hd he
      rw [← hbl.cell (p := ⟨b, _, none⟩) (Nat.lt_of_lt_of_le hb hB)] at c0 c1 c2
      rw [← hbl.cell (p := ⟨b2, _, none⟩) (Nat.lt_of_lt_of_le hb2 hB)] at e0 e1 e2
      have HD := hid (hd.below (hbl.mono hB)); have HE := hid (he.below (hbl.mono hB))
      have HBL := hid hbl.drew
      clear hc hr hc2 hr2 hx hd he hbl
      go_wp2_with fail
      go_region_held3 (fun w' => w'.cell? ⟨b, off + k * 3, none⟩ = some (.int .i64 x.id) ∧ w'.cell? ⟨b, off + k * 3 + 1, none⟩ = some (.int .i64 x.code) ∧ w'.cell? ⟨b, off + k * 3 + 2, none⟩ = some (.slice da x.data.length dc) ∧ w'.cell? ⟨b2, off2 + k * 3, none⟩ = some (.int .i64 x.id) ∧ w'.cell? ⟨b2, off2 + k * 3 + 1, none⟩ = some (.int .i64 x.code) ∧ w'.cell? ⟨b2, off2 + k * 3 + 2, none⟩ = some (.slice ea x.data.length ec))
        (first | exact s6 | go_keep)
        (first
          | (go_at_call 66; (with_reducible refine (crRsp_same x _ _ _ _ B _ (HD.out.below (Below.refl _ _).drew) (HE.out.below (Below.refl _ _).drew) (le_drew (Nat.le_trans hB hsz))).mono ?_); rintro e w2 ⟨rfl, hb3⟩; have s6 := six_kept hb3 (Nat.lt_of_lt_of_le hb (Nat.le_trans hB hsz)) (Nat.lt_of_lt_of_le hb2 (Nat.le_trans hB hsz)) c0 c1 c2 e0 e1 e2))
      go_wp2_with fail
      go_roundw
      case rel => exact ⟨k + 1, by omega, by go_num, HBL.out.trans (hb3.mono (by simpa using hsz))⟩
      case measure => simp [intOf]; omega
    · go_wp2_with fail
      go_ret
      exact ⟨rfl, hbl⟩

end Go.Proofs.Ytjlnnnnpdagnpaa
