/-
  Plain laws, law by law: wrap, one word after the other, to hold and to try, several things.
-/
import Derived.Test.YteamebdehembgaaJDo6
set_option linter.unusedVariables false
set_option linter.unusedSimpArgs false
namespace Go.Proofs.Yteamebdehembgaa

theorem ext_getD {xs ys : List Int} (hl : xs.length = ys.length) (h : ∀ n, n < xs.length → xs.getD n 0 = ys.getD n 0) : xs = ys := by
  apply List.ext_getElem hl
  intro i h1 h2
  have := h i h1
  simpa [List.getD, h1, h2] using this

theorem burst_mem {a m : Int} {wp : Bool} {x : Int} (h : x ∈ burst a m wp) : 0 ≤ x ∧ x ≤ 63 := by
  rcases hA : adrOk a m wp with _ | _
  · rw [burst_no hA] at h; simp at h
  · rw [burst_yes hA] at h
    obtain ⟨h0, h1, hm, hw⟩ := (adrOk_eq a m wp).1 hA
    obtain ⟨j, hj, rfl⟩ := List.mem_map.1 h
    rw [List.mem_range] at hj
    cases wp
    · simp at hw
      simp; omega
    · simp
      rcases hm with rfl | rfl | rfl <;> omega
theorem burst_nodup (a m : Int) (wp : Bool) : (burst a m wp).Nodup := by
  rcases hA : adrOk a m wp with _ | _
  · rw [burst_no hA]; exact List.nodup_nil
  · rw [burst_yes hA]
    obtain ⟨h0, h1, hm, hw⟩ := (adrOk_eq a m wp).1 hA
    unfold burstK List.Nodup
    rw [List.pairwise_map]
    refine List.Pairwise.imp_of_mem ?_ (List.nodup_range (n := m.toNat))
    intro i j hi hj hne
    rw [List.mem_range] at hi hj
    cases wp
    · simp; omega
    · simp
      rcases hm with rfl | rfl | rfl <;> omega
theorem burst_lenA {a m : Int} {wp : Bool} (h : adrOk a m wp = true) : (burst a m wp).length = m.toNat := by rw [burst_yes h, burstK_len]
theorem burst_get {a m : Int} {wp : Bool} (h : adrOk a m wp = true) {k : Nat} (hk : k < m.toNat) : (burst a m wp).getD k 0 = if wp then a - a % m + (a + (k : Int)) % m else a + (k : Int) := by
  rw [burst_yes h, burstK_get _ _ _ _ _ hk]

theorem lget_set_ne {xs : List Int} {i j : Nat} {x : Int} (h : i ≠ j) : (xs.set i x).getD j 0 = xs.getD j 0 := by
  simp [List.getD, List.getElem?_set, h]
theorem lget_set_self {xs : List Int} {i : Nat} {x : Int} (h : i < xs.length) : (xs.set i x).getD i 0 = x := by
  simp [List.getD, h]

theorem putAll_out : ∀ (all ds ls ws : List Int) (n : Nat), (∀ a ∈ all, a.toNat ≠ n) → (putAll ws all ds ls).getD n 0 = ws.getD n 0
  | [], _, _, ws, n, _ => by simp [putAll]
  | _ :: _, [], _, ws, n, _ => by simp [putAll]
  | _ :: _, _ :: _, [], ws, n, _ => by simp [putAll]
  | a :: all, d :: ds, l :: ls, ws, n, h => by
    rw [putAll, putAll_out all ds ls _ n (fun b hb => h b (List.mem_cons_of_mem _ hb))]
    exact lget_set_ne (h a (List.mem_cons_self ..))
theorem putAll_in : ∀ (all ds ls ws : List Int) (k : Nat), all.Nodup → (∀ a ∈ all, 0 ≤ a ∧ a.toNat < ws.length) → k < all.length → ds.length = all.length → ls.length = all.length →
    (putAll ws all ds ls).getD (all.getD k 0).toNat 0 = putW (ws.getD (all.getD k 0).toNat 0) (ds.getD k 0) (ls.getD k 0)
  | [], _, _, ws, k, _, _, hk, _, _ => by simp at hk
  | _ :: _, [], _, ws, k, _, _, hk, h1, _ => by simp at h1
  | _ :: _, _ :: _, [], ws, k, _, _, hk, _, h2 => by simp at h2
  | a :: all, d :: ds, l :: ls, ws, 0, hn, hr, hk, h1, h2 => by
    have ha := hr a (List.mem_cons_self ..)
    rw [List.nodup_cons] at hn
    rw [putAll]
    simp only [List.getD_cons_zero]
    rw [putAll_out all ds ls _ _ (fun b hb e => hn.1 (by have := hr b (List.mem_cons_of_mem _ hb); have : b = a := by omega
                                                         rwa [← this])), lget_set_self ha.2]
  | a :: all, d :: ds, l :: ls, ws, k + 1, hn, hr, hk, h1, h2 => by
    have ha := hr a (List.mem_cons_self ..)
    rw [List.nodup_cons] at hn
    have hk' : k < all.length := by simpa using hk
    have hm : all.getD k 0 ∈ all := getD_mem hk'
    have hb := hr _ (List.mem_cons_of_mem _ hm)
    rw [putAll]
    simp only [List.getD_cons_succ]
    rw [putAll_in all ds ls _ k hn.2 (fun b hb => by have := hr b (List.mem_cons_of_mem _ hb); simpa using this) hk' (by simpa using h1) (by simpa using h2)]
    rw [lget_set_ne (fun e => hn.1 (by have : a = all.getD k 0 := by omega
                                       rw [this]; exact hm))]

theorem putW_twice (o n l : Int) (ho : wordOk o = true) (hn : wordOk n = true) : putW (putW o n l) n l = putW o n l := by
  simp only [wordOk, inB, Bool.and_eq_true, decide_eq_true_eq] at ho hn
  unfold putW
  by_cases h1 : l / 2 = 1 <;> by_cases h2 : l % 2 = 1 <;> simp only [h1, h2, if_true, if_false] <;> omega

theorem freeOne_eq (xs : List Int) (h : Int) : freeOne xs h = if h ∈ xs then -1 else h := by simp [freeOne]
theorem freeAll_len (hs xs : List Int) : (freeAll hs xs).length = hs.length := by simp [freeAll]
theorem freeAll_get {hs xs : List Int} {k : Nat} (h : k < hs.length) : (freeAll hs xs).getD k 0 = freeOne xs (hs.getD k 0) := by
  simp [freeAll, freeOne, List.getD, h]
theorem freeAll_twice (hs xs : List Int) : freeAll (freeAll hs xs) xs = freeAll hs xs := by
  simp only [freeAll, List.map_map]
  apply List.map_congr_left
  intro h _
  simp only [Function.comp]
  rcases hc : xs.contains h with _ | _
  · simp only [Bool.false_eq_true, if_false, hc]
  · simp

/-- In which range all addresses are. -/
theorem wholeOf_iff {ms : List MR} {xs : List Int} {k : Int} (hk : 0 ≤ k) : wholeOf ms xs = k ↔ xs ≠ [] ∧ ∀ x ∈ xs, rngOf ms x = k := by
  rcases xs with _ | ⟨a, rest⟩
  · simp [wholeOf]; omega
  · simp only [wholeOf]
    constructor
    · intro h
      refine ⟨by simp, ?_⟩
      rcases hc : rest.all (fun b => rngOf ms b == rngOf ms a) with _ | _
      · rw [hc] at h; simp at h; omega
      · rw [hc, if_pos rfl] at h
        intro x hx
        rw [List.all_eq_true] at hc
        rcases List.mem_cons.1 hx with rfl | hx
        · exact h
        · have := hc x hx
          rw [beq_iff_eq] at this; omega
    · rintro ⟨_, h⟩
      have ha := h a (List.mem_cons_self ..)
      rw [if_pos ?_]
      · exact ha
      · rw [List.all_eq_true]
        intro x hx
        rw [beq_iff_eq, ha]
        exact h x (List.mem_cons_of_mem _ hx)
theorem wholeOf_sub {ms : List MR} {xs ys : List Int} (h : 0 ≤ wholeOf ms xs) (hne : ys ≠ []) (hs : ∀ y ∈ ys, y ∈ xs) : wholeOf ms ys = wholeOf ms xs := by
  have := (wholeOf_iff h).1 rfl
  exact (wholeOf_iff h).2 ⟨hne, fun y hy => this.2 y (hs y hy)⟩

-- what doReq comes to, way by way
theorem do_ways (ms : List MR) (ws hs : List Int) (who : Int) (r : Rq) :
    doReq ms ws hs who r = if wholeOf ms (rqBurst r) < 0 then (ws, hs, ⟨r.id, 4, []⟩)
      else if (rqWrites r && (ms.getD (wholeOf ms (rqBurst r)).toNat default).only) = true then (ws, hs, ⟨r.id, 3, []⟩)
      else if (r.kind == 1) = true then (ws, hs, ⟨r.id, 1, getAll ws (rqBurst r)⟩)
      else if (r.kind == 3) = true then (ws, hs.set (who * 2 + r.id).toNat r.addr, ⟨r.id, 2, getAll ws (rqBurst r)⟩)
      else if (r.kind == 4 && !(hs.getD (who * 2 + r.id).toNat 0 == r.addr)) = true then (ws, hs, ⟨r.id, 1, []⟩)
      else (putAll ws (rqBurst r) r.data r.lanes, freeAll hs (rqBurst r), ⟨r.id, if r.kind == 4 then 2 else 1, []⟩) := rfl

/-- One way that doReq goes, with all that is known there. -/
inductive Way (ms : List MR) (ws hs : List Int) (who : Int) (r : Rq) : List Int × List Int × Rs → Prop
  | none (h : wholeOf ms (rqBurst r) < 0) : Way ms ws hs who r (ws, hs, ⟨r.id, 4, []⟩)
  | deny (h : 0 ≤ wholeOf ms (rqBurst r)) (hk : r.kind = 2 ∨ r.kind = 4) (ho : (ms.getD (wholeOf ms (rqBurst r)).toNat default).only = true) : Way ms ws hs who r (ws, hs, ⟨r.id, 3, []⟩)
  | read (h : 0 ≤ wholeOf ms (rqBurst r)) (hk : r.kind = 1) : Way ms ws hs who r (ws, hs, ⟨r.id, 1, getAll ws (rqBurst r)⟩)
  | hold (h : 0 ≤ wholeOf ms (rqBurst r)) (hk : r.kind = 3) : Way ms ws hs who r (ws, hs.set (who * 2 + r.id).toNat r.addr, ⟨r.id, 2, getAll ws (rqBurst r)⟩)
  | tryno (h : 0 ≤ wholeOf ms (rqBurst r)) (hk : r.kind = 4) (ho : (ms.getD (wholeOf ms (rqBurst r)).toNat default).only = false) (hh : hs.getD (who * 2 + r.id).toNat 0 ≠ r.addr) : Way ms ws hs who r (ws, hs, ⟨r.id, 1, []⟩)
  | write (h : 0 ≤ wholeOf ms (rqBurst r)) (hk : r.kind = 2) (ho : (ms.getD (wholeOf ms (rqBurst r)).toNat default).only = false) : Way ms ws hs who r (putAll ws (rqBurst r) r.data r.lanes, freeAll hs (rqBurst r), ⟨r.id, 1, []⟩)
  | tryyes (h : 0 ≤ wholeOf ms (rqBurst r)) (hk : r.kind = 4) (ho : (ms.getD (wholeOf ms (rqBurst r)).toNat default).only = false) (hh : hs.getD (who * 2 + r.id).toNat 0 = r.addr) : Way ms ws hs who r (putAll ws (rqBurst r) r.data r.lanes, freeAll hs (rqBurst r), ⟨r.id, 2, []⟩)

theorem way_of (ms : List MR) (ws hs : List Int) (who : Int) (r : Rq) (hk : 1 ≤ r.kind ∧ r.kind ≤ 4) : Way ms ws hs who r (doReq ms ws hs who r) := by
  rw [do_ways]
  by_cases h : wholeOf ms (rqBurst r) < 0
  · rw [if_pos h]; exact .none h
  · rw [if_neg h]
    have h0 : 0 ≤ wholeOf ms (rqBurst r) := by omega
    have hkk : r.kind = 1 ∨ r.kind = 2 ∨ r.kind = 3 ∨ r.kind = 4 := by omega
    rcases ho : (ms.getD (wholeOf ms (rqBurst r)).toNat default).only with _ | _
    · rw [if_neg (by simp)]
      rcases hkk with hk | hk | hk | hk
      · rw [if_pos (by simp [hk])]; exact .read h0 hk
      · rw [if_neg (by simp [hk]), if_neg (by simp [hk]), if_neg (by simp [hk])]
        simp only [hk]
        exact .write h0 hk ho
      · rw [if_neg (by simp [hk]), if_pos (by simp [hk])]; exact .hold h0 hk
      · rw [if_neg (by simp [hk]), if_neg (by simp [hk])]
        by_cases hh : hs.getD (who * 2 + r.id).toNat 0 = r.addr
        · rw [if_neg (by simp only [hh]; simp)]
          simp only [hk]
          exact .tryyes h0 hk ho hh
        · rw [if_pos (by simp only [Bool.and_eq_true, beq_iff_eq, Bool.not_eq_true', beq_eq_false_iff_ne]; exact ⟨hk, hh⟩)]
          exact .tryno h0 hk ho hh
    · rcases hkk with hk | hk | hk | hk
      · rw [if_neg (by simp [rqWrites, hk]), if_pos (by simp [hk])]; exact .read h0 hk
      · rw [if_pos (by simp [rqWrites, hk])]; exact .deny h0 (.inl hk) ho
      · rw [if_neg (by simp [rqWrites, hk]), if_neg (by simp [hk]), if_pos (by simp [hk])]; exact .hold h0 hk
      · rw [if_pos (by simp [rqWrites, hk])]; exact .deny h0 (.inr hk) ho

theorem Way.eq {ms : List MR} {ws hs : List Int} {who : Int} {r : Rq} {x : List Int × List Int × Rs} (h : Way ms ws hs who r x) : doReq ms ws hs who r = x := by
  rw [do_ways]
  cases h with
  | none h => rw [if_pos h]
  | deny h hk ho => rw [if_neg (by omega), if_pos (by rw [ho]; rcases hk with hk | hk <;> simp [rqWrites, hk])]
  | read h hk => rw [if_neg (by omega), if_neg (by simp [rqWrites, hk]), if_pos (by simp [hk])]
  | hold h hk => rw [if_neg (by omega), if_neg (by simp [rqWrites, hk]), if_neg (by simp [hk]), if_pos (by simp [hk])]
  | tryno h hk ho hh => rw [if_neg (by omega), if_neg (by rw [ho]; simp), if_neg (by simp [hk]), if_neg (by simp [hk]), if_pos (by simp only [Bool.and_eq_true, beq_iff_eq, Bool.not_eq_true', beq_eq_false_iff_ne]; exact ⟨hk, hh⟩)]
  | write h hk ho => rw [if_neg (by omega), if_neg (by rw [ho]; simp), if_neg (by simp [hk]), if_neg (by simp [hk]), if_neg (by simp [hk])]; simp [hk]
  | tryyes h hk ho hh => rw [if_neg (by omega), if_neg (by rw [ho]; simp), if_neg (by simp [hk]), if_neg (by simp [hk]), if_neg (by simp only [hh]; simp)]; simp [hk]

def atmOkk (ms : List MR) (ws hs : List Int) (who : Int) (r : Rq) : Bool := mapOk ms && atmOk ws hs && inB who 0 2 && reqOk r
theorem atmDo_yes {ms : List MR} {ws hs : List Int} {who : Int} {r : Rq} (h : atmOkk ms ws hs who r = true) : atmDo ms ws hs who r = doReq ms ws hs who r := if_pos h
theorem atmDo_no {ms : List MR} {ws hs : List Int} {who : Int} {r : Rq} (h : atmOkk ms ws hs who r = false) : atmDo ms ws hs who r = ([], [], ⟨0, 0, []⟩) := if_neg (by rw [show (mapOk ms && atmOk ws hs && inB who 0 2 && reqOk r) = atmOkk ms ws hs who r from rfl, h]; simp)
theorem okk_parts {ms : List MR} {ws hs : List Int} {who : Int} {r : Rq} : atmOkk ms ws hs who r = true ↔ mapOk ms = true ∧ atmOk ws hs = true ∧ inB who 0 2 = true ∧ reqOk r = true := by
  simp [atmOkk, and_assoc]
theorem atmOk_parts {ws hs : List Int} (h : atmOk ws hs = true) : ws.length = 64 ∧ hs.length = 6 ∧ ws.all wordOk = true ∧ hs.all (fun h => inB h (-1) 63) = true := by
  simp only [atmOk, memOk, Bool.and_eq_true, beq_iff_eq] at h
  exact ⟨h.1.1.1, h.1.2, h.1.1.2, h.2⟩
theorem kind_of {r : Rq} (h : reqOk r = true) : 1 ≤ r.kind ∧ r.kind ≤ 4 := by
  have := (reqOk_parts h).2.1
  simpa [inB] using this
theorem adr_of {r : Rq} (h : reqOk r = true) : adrOk r.addr r.many r.wrap = true := (reqOk_parts h).2.2.1
theorem id_of {r : Rq} (h : reqOk r = true) : 0 ≤ r.id ∧ r.id ≤ 1 := by
  have := (reqOk_parts h).1
  simpa [inB] using this

/-- It is done again, and all is ok behind it. -/
theorem okk_again {ms : List MR} {ws hs : List Int} {who who2 : Int} {r q : Rq} (h : atmOkk ms ws hs who r = true) (hw : inB who2 0 2 = true) (hq : reqOk q = true) : atmOkk ms (doReq ms ws hs who r).1 (doReq ms ws hs who r).2.1 who2 q = true := by
  obtain ⟨h1, h2, h3, h4⟩ := okk_parts.1 h
  exact okk_parts.2 ⟨h1, doReq_ok h3 h4 h2, hw, hq⟩

theorem code_zero {ms : List MR} {ws hs : List Int} {who : Int} {r : Rq} : (atmDo ms ws hs who r).2.2.code = 0 ↔ atmOkk ms ws hs who r = false := by
  rcases h : atmOkk ms ws hs who r with _ | _
  · rw [atmDo_no h]; simp
  · rw [atmDo_yes h]
    have hk := kind_of (okk_parts.1 h).2.2.2
    have := way_of ms ws hs who r hk
    generalize doReq ms ws hs who r = x at this
    cases this <;> simp

end Go.Proofs.Yteamebdehembgaa

namespace Go.Proofs.Yteamebdehembgaa

theorem spot_or (all : List Int) (n : Nat) : (∃ k, k < all.length ∧ (all.getD k 0).toNat = n) ∨ ∀ a ∈ all, a.toNat ≠ n := by
  by_cases h : ∃ k, k < all.length ∧ (all.getD k 0).toNat = n
  · exact .inl h
  · refine .inr fun a ha e => h ?_
    obtain ⟨i, hi, rfl⟩ := List.mem_iff_getElem.1 ha
    exact ⟨i, hi, by simpa [List.getD, hi] using e⟩

theorem putAll_twice {ws all ds ls : List Int} (hn : all.Nodup) (hr : ∀ a ∈ all, 0 ≤ a ∧ a.toNat < ws.length) (h1 : ds.length = all.length) (h2 : ls.length = all.length) (hw : ws.all wordOk = true) (hd : ds.all wordOk = true) :
    putAll (putAll ws all ds ls) all ds ls = putAll ws all ds ls := by
  refine ext_getD (by simp [putAll_len]) fun n _ => ?_
  rcases spot_or all n with ⟨k, hk, rfl⟩ | hno
  · rw [putAll_in all ds ls _ k hn (by rw [putAll_len]; exact hr) hk h1 h2, putAll_in all ds ls ws k hn hr hk h1 h2]
    exact putW_twice _ _ _ (getD_ok hw (by decide)) (getD_ok hd (by decide))
  · rw [putAll_out _ _ _ _ _ hno]

/-- What is known of what is ok. -/
structure Ok1 (ms : List MR) (ws hs : List Int) (who : Int) (r : Rq) : Prop where
  m : mapOk ms = true
  a : atmOk ws hs = true
  w : inB who 0 2 = true
  rok : reqOk r = true
  l : ws.length = 64
  h : hs.length = 6
  ww : ws.all wordOk = true
  hh : hs.all (fun h => inB h (-1) 63) = true
  k : 1 ≤ r.kind ∧ r.kind ≤ 4
  i : 0 ≤ r.id ∧ r.id ≤ 1
  ad : adrOk r.addr r.many r.wrap = true
  wh : 0 ≤ who ∧ who ≤ 2
  rng : ∀ x ∈ rqBurst r, 0 ≤ x ∧ x.toNat < ws.length
  nd : (rqBurst r).Nodup
theorem ok1_of {ms : List MR} {ws hs : List Int} {who : Int} {r : Rq} (h : atmOkk ms ws hs who r = true) : Ok1 ms ws hs who r := by
  obtain ⟨h1, h2, h3, h4⟩ := okk_parts.1 h
  obtain ⟨a1, a2, a3, a4⟩ := atmOk_parts h2
  exact ⟨h1, h2, h3, h4, a1, a2, a3, a4, kind_of h4, id_of h4, adr_of h4, by simpa [inB] using h3, fun x hx => by have := burst_mem hx; omega, burst_nodup _ _ _⟩
theorem Ok1.data {ms : List MR} {ws hs : List Int} {who : Int} {r : Rq} (h : Ok1 ms ws hs who r) (hk : r.kind = 2 ∨ r.kind = 4) : r.data.length = (rqBurst r).length ∧ r.lanes.length = (rqBurst r).length ∧ r.data.all wordOk = true ∧ r.lanes.all (fun l => inB l 0 3) = true :=
  (reqOk_parts h.rok).2.2.2.1 (by rcases hk with hk | hk <;> simp [hk])

theorem twice_law {ms : List MR} {ws hs : List Int} {who : Int} {r : Rq} (hok : atmOkk ms ws hs who r = true) (hk : r.kind ≠ 4) :
    atmDo ms (atmDo ms ws hs who r).1 (atmDo ms ws hs who r).2.1 who r = atmDo ms ws hs who r := by
  have o := ok1_of hok
  have hag := okk_again hok o.w o.rok
  rw [atmDo_yes hok, atmDo_yes hag]
  have hw := way_of ms ws hs who r o.k
  generalize doReq ms ws hs who r = x at hw ⊢
  cases hw with
  | none h => exact (Way.none h).eq
  | deny h hk ho => exact (Way.deny h hk ho).eq
  | read h hk => exact (Way.read h hk).eq
  | hold h hk => rw [(Way.hold h hk).eq, List.set_set]
  | tryno h hk2 ho hh => exact absurd hk2 hk
  | write h hk2 ho =>
    obtain ⟨d1, d2, d3, d4⟩ := o.data (.inl hk2)
    rw [(Way.write h hk2 ho).eq, putAll_twice o.nd o.rng d1 d2 o.ww d3, freeAll_twice]
  | tryyes h hk2 ho hh => exact absurd hk2 hk

theorem rqOk_id {r : Rq} (i : Int) (hi : inB i 0 1 = true) (h : reqOk r = true) : reqOk ⟨i, r.kind, r.addr, r.many, r.wrap, r.data, r.lanes⟩ = true := by
  unfold reqOk at *
  simp only [Bool.and_eq_true] at *
  exact ⟨⟨⟨⟨hi, h.1.1.1.2⟩, h.1.1.2⟩, h.1.2⟩, h.2⟩
theorem next_who {who : Int} (h : 0 ≤ who ∧ who ≤ 2) : inB ((who + 1) % 3) 0 2 = true := by
  simp [inB]; omega

theorem who_law {ms : List MR} {ws hs : List Int} {who : Int} {r : Rq} (hok : atmOkk ms ws hs who r = true) (hk : r.kind = 1 ∨ r.kind = 2) :
    atmDo ms ws hs ((who + 1) % 3) ⟨1 - r.id, r.kind, r.addr, r.many, r.wrap, r.data, r.lanes⟩ =
      ((atmDo ms ws hs who r).1, (atmDo ms ws hs who r).2.1, ⟨1 - r.id, (atmDo ms ws hs who r).2.2.code, (atmDo ms ws hs who r).2.2.data⟩) := by
  have o := ok1_of hok
  have hok2 : atmOkk ms ws hs ((who + 1) % 3) ⟨1 - r.id, r.kind, r.addr, r.many, r.wrap, r.data, r.lanes⟩ = true :=
    okk_parts.2 ⟨o.m, o.a, next_who o.wh, rqOk_id _ (by have := o.i; simp [inB]; omega) o.rok⟩
  rw [atmDo_yes hok, atmDo_yes hok2]
  have hw := way_of ms ws hs who r o.k
  generalize doReq ms ws hs who r = x at hw ⊢
  cases hw with
  | none h => exact (Way.none (r := ⟨1 - r.id, r.kind, r.addr, r.many, r.wrap, r.data, r.lanes⟩) h).eq
  | deny h hk ho => exact (Way.deny (r := ⟨1 - r.id, r.kind, r.addr, r.many, r.wrap, r.data, r.lanes⟩) h hk ho).eq
  | read h hk => exact (Way.read (r := ⟨1 - r.id, r.kind, r.addr, r.many, r.wrap, r.data, r.lanes⟩) h hk).eq
  | hold h hk2 => omega
  | tryno h hk2 ho hh => omega
  | write h hk2 ho => exact (Way.write (r := ⟨1 - r.id, r.kind, r.addr, r.many, r.wrap, r.data, r.lanes⟩) h hk2 ho).eq
  | tryyes h hk2 ho hh => omega

/-- It was written. -/
def wroteB (r : Rq) (code : Int) : Bool := (r.kind == 2 && code == 1) || (r.kind == 4 && code == 2)
def inLst (xs : List Int) (n : Int) : Bool := decide (n ∈ xs)
def holdWant (r : Rq) (who code h : Int) (k : Nat) : Int :=
  if (r.kind == 3 && code == 2 && ((k : Int) == who * 2 + r.id)) = true then r.addr else if (wroteB r code && inLst (rqBurst r) h) = true then -1 else h
theorem hold_law {ms : List MR} {ws hs : List Int} {who : Int} {r : Rq} (hok : atmOkk ms ws hs who r = true) (k : Nat) (hk : k < 6) :
    (atmDo ms ws hs who r).2.1.getD k 0 = holdWant r who (atmDo ms ws hs who r).2.2.code (hs.getD k 0) k := by
  have o := ok1_of hok
  rw [atmDo_yes hok]
  have hw := way_of ms ws hs who r o.k
  have hl := o.h
  have hi := o.i
  have hwh := o.wh
  generalize doReq ms ws hs who r = x at hw ⊢
  unfold holdWant wroteB
  cases hw with
  | none h => simp
  | deny h hk ho => simp
  | read h hk => simp [hk]
  | hold h hk2 =>
    simp only [hk2]
    by_cases e : (k : Int) = who * 2 + r.id
    · have e2 : (who * 2 + r.id).toNat = k := by omega
      rw [e2, lget_set_self (by omega)]
      simp [e]
    · have e2 : (who * 2 + r.id).toNat ≠ k := by omega
      rw [lget_set_ne e2]
      simp [e]
  | tryno h hk2 ho hh => simp [hk2]
  | write h hk2 ho =>
    rw [freeAll_get (by omega), freeOne_eq]
    simp [hk2, inLst]
  | tryyes h hk2 ho hh =>
    rw [freeAll_get (by omega), freeOne_eq]
    simp [hk2, inLst]
theorem hold_len {ms : List MR} {ws hs : List Int} {who : Int} {r : Rq} (hok : atmOkk ms ws hs who r = true) : atmOk (atmDo ms ws hs who r).1 (atmDo ms ws hs who r).2.1 = true := by
  have o := ok1_of hok
  rw [atmDo_yes hok]; exact doReq_ok o.w o.rok o.a

theorem getAll_get {ws all : List Int} {k : Nat} (h : k < all.length) : (getAll ws all).getD k 0 = ws.getD (all.getD k 0).toNat 0 := by
  simp [getAll, List.getD, h]
theorem getAll_len (ws all : List Int) : (getAll ws all).length = all.length := by simp [getAll]

/-- To read the same burst. -/
def readOf (r : Rq) (i : Int) : Rq := ⟨i, 1, r.addr, r.many, r.wrap, [], []⟩
theorem readOf_ok {r : Rq} {i : Int} (h : reqOk r = true) (hi : inB i 0 1 = true) : reqOk (readOf r i) = true := by
  have := adr_of h
  simp [reqOk, readOf, hi, this, rqWrites]
  decide
theorem put_at {ms : List MR} {ws hs : List Int} {who : Int} {r : Rq} (o : Ok1 ms ws hs who r) (hk : r.kind = 2 ∨ r.kind = 4) (k : Nat) (h : k < (rqBurst r).length) :
    (putAll ws (rqBurst r) r.data r.lanes).getD ((rqBurst r).getD k 0).toNat 0 = wrdPut (ws.getD ((rqBurst r).getD k 0).toNat 0) (r.data.getD k 0) (r.lanes.getD k 0) := by
  obtain ⟨d1, d2, d3, d4⟩ := o.data hk
  rw [putAll_in _ _ _ _ k o.nd o.rng h d1 d2, wrdPut_yes (getD_ok o.ww (by decide)) (getD_ok d3 (by decide)) (getD_ok (p := fun l => inB l 0 3) d4 (by decide))]
theorem read_law {ms : List MR} {ws hs : List Int} {who : Int} {r : Rq} (hok : atmOkk ms ws hs who r = true) (hk : r.kind = 2) (hc : (atmDo ms ws hs who r).2.2.code = 1) :
    atmDo ms (atmDo ms ws hs who r).1 (atmDo ms ws hs who r).2.1 ((who + 1) % 3) (readOf r (1 - r.id)) = ((atmDo ms ws hs who r).1, (atmDo ms ws hs who r).2.1, ⟨1 - r.id, 1, getAll (atmDo ms ws hs who r).1 (rqBurst r)⟩) ∧
      ∀ k, k < (rqBurst r).length → (getAll (atmDo ms ws hs who r).1 (rqBurst r)).getD k 0 = wrdPut (ws.getD ((rqBurst r).getD k 0).toNat 0) (r.data.getD k 0) (r.lanes.getD k 0) := by
  have o := ok1_of hok
  have hag := okk_again hok (next_who o.wh) (readOf_ok (i := 1 - r.id) o.rok (by have := o.i; simp [inB]; omega))
  rw [atmDo_yes hok] at hc ⊢
  rw [atmDo_yes hag]
  have hw := way_of ms ws hs who r o.k
  generalize doReq ms ws hs who r = x at hw hc ⊢
  cases hw with
  | none h => simp at hc
  | deny h hk ho => simp at hc
  | read h hk2 => omega
  | hold h hk2 => omega
  | tryno h hk2 ho hh => omega
  | write h hk2 ho =>
    refine ⟨(Way.read (r := readOf r (1 - r.id)) h rfl).eq, fun k hk3 => ?_⟩
    rw [getAll_get hk3]
    exact put_at o (.inl hk2) k hk3
  | tryyes h hk2 ho hh => omega

/-- What is wanted of one word behind k of what was written. -/
def wantK (r : Rq) (wrote : Bool) (w0 : Int) (a : Int) : Nat → Int
  | 0 => w0
  | k + 1 => if (wrote && ((rqBurst r).getD k 0 == a)) = true then wrdPut (wantK r wrote w0 a k) (r.data.getD k 0) (r.lanes.getD k 0) else wantK r wrote w0 a k
theorem wantK_no (r : Rq) (w0 a : Int) : ∀ k, wantK r false w0 a k = w0
  | 0 => rfl
  | k + 1 => by simp [wantK, wantK_no r w0 a k]
theorem wantK_put {ms : List MR} {ws hs : List Int} {who : Int} {r : Rq} (o : Ok1 ms ws hs who r) (hk : r.kind = 2 ∨ r.kind = 4) (a : Nat) (ha : a < 64) : ∀ k, k ≤ (rqBurst r).length → wantK r true (ws.getD a 0) a k = (putK ws (rqBurst r) r.data r.lanes k).getD a 0
  | 0, _ => by rw [putK_zero]; rfl
  | k + 1, h => by
    obtain ⟨d1, d2, d3, d4⟩ := o.data hk
    have hr := o.rng _ (getD_mem (d := 0) (show k < (rqBurst r).length by omega))
    rw [putK_succ ws d1 d2 (by omega), wantK, wantK_put o hk a ha k (by omega)]
    by_cases e : (rqBurst r).getD k 0 = a
    · rw [if_pos (by rw [e]; simp)]
      rw [e, show ((a : Int)).toNat = a from by omega, lget_set_self (by rw [putK_len, o.l]; exact ha)]
      exact wrdPut_yes (getD_ok (putK_ok o.ww d3) (by decide)) (getD_ok d3 (by decide)) (getD_ok (p := fun l => inB l 0 3) d4 (by decide))
    · rw [if_neg (by simp only [Bool.true_and, beq_iff_eq]; exact e), lget_set_ne (by omega)]
theorem words_law {ms : List MR} {ws hs : List Int} {who : Int} {r : Rq} (hok : atmOkk ms ws hs who r = true) (a : Nat) (ha : a < 64) :
    (atmDo ms ws hs who r).1.getD a 0 = wantK r (wroteB r (atmDo ms ws hs who r).2.2.code) (ws.getD a 0) a (rqBurst r).length := by
  have o := ok1_of hok
  rw [atmDo_yes hok]
  have hw := way_of ms ws hs who r o.k
  generalize doReq ms ws hs who r = x at hw ⊢
  have no : ∀ c : Int, wroteB r c = false → ws.getD a 0 = wantK r (wroteB r c) (ws.getD a 0) a (rqBurst r).length := fun c h => by rw [h, wantK_no]
  cases hw with
  | none h => exact no _ (by simp [wroteB])
  | deny h hk ho => exact no _ (by simp [wroteB])
  | read h hk => exact no _ (by simp [wroteB, hk])
  | hold h hk => exact no _ (by simp [wroteB, hk])
  | tryno h hk ho hh => exact no _ (by simp [wroteB, hk])
  | write h hk ho =>
    obtain ⟨d1, d2, d3, d4⟩ := o.data (.inl hk)
    simp only [show wroteB r 1 = true by simp [wroteB, hk], wantK_put o (.inl hk) a ha _ (Nat.le_refl _), putK_all _ _ _ _ d1 d2]
  | tryyes h hk ho hh =>
    obtain ⟨d1, d2, d3, d4⟩ := o.data (.inr hk)
    simp only [show wroteB r 2 = true by simp [wroteB, hk], wantK_put o (.inr hk) a ha _ (Nat.le_refl _), putK_all _ _ _ _ d1 d2]

/-- It was read. -/
def readB (r : Rq) (code : Int) : Bool := (r.kind == 1 && code == 1) || (r.kind == 3 && code == 2)
theorem data_law {ms : List MR} {ws hs : List Int} {who : Int} {r : Rq} (hok : atmOkk ms ws hs who r = true) :
    (atmDo ms ws hs who r).2.2.data = if readB r (atmDo ms ws hs who r).2.2.code = true then getAll ws (rqBurst r) else [] := by
  have o := ok1_of hok
  rw [atmDo_yes hok]
  have hw := way_of ms ws hs who r o.k
  generalize doReq ms ws hs who r = x at hw ⊢
  cases hw with
  | none h => simp [readB]
  | deny h hk ho => simp [readB]
  | read h hk => simp [readB, hk]
  | hold h hk => simp [readB, hk]
  | tryno h hk ho hh => simp [readB, hk]
  | write h hk ho => simp [readB, hk]
  | tryyes h hk ho hh => simp [readB, hk]
theorem rsp_law {ms : List MR} {ws hs : List Int} {who : Int} {r : Rq} (hok : atmOkk ms ws hs who r = true) : rspOk (atmDo ms ws hs who r).2.2 = true ∧ (atmDo ms ws hs who r).2.2.id = r.id := by
  have o := ok1_of hok
  have hd := data_law hok
  rw [atmDo_yes hok] at hd ⊢
  have hw := way_of ms ws hs who r o.k
  have hi0 := o.i.1; have hi1 := o.i.2
  have hdat : (getAll ws (rqBurst r)).all wordOk = true ∧ (getAll ws (rqBurst r)).length ≤ 4 := by
    refine ⟨?_, ?_⟩
    · rw [List.all_eq_true]
      intro x hx
      obtain ⟨a, _, rfl⟩ := List.mem_map.1 hx
      exact getD_ok o.ww (by decide)
    · rw [getAll_len]
      have := burst_lenA o.ad
      have hm := ((adrOk_eq _ _ _).1 o.ad).2.2.1
      unfold rqBurst; omega
  generalize doReq ms ws hs who r = x at hw hd ⊢
  cases hw with
  | none h => simp [rspOk, hi0, hi1, inB]
  | deny h hk ho => simp [rspOk, hi0, hi1, inB]
  | read h hk => simp [rspOk, hi0, hi1, hdat.1, hdat.2, inB]
  | hold h hk => simp [rspOk, hi0, hi1, hdat.1, hdat.2, inB]
  | tryno h hk ho hh => simp [rspOk, hi0, hi1, inB]
  | write h hk ho => simp [rspOk, hi0, hi1, inB]
  | tryyes h hk ho hh => simp [rspOk, hi0, hi1, inB]

end Go.Proofs.Yteamebdehembgaa

namespace Go.Proofs.Yteamebdehembgaa

/-- Something writes, and may, by what is held. -/
def doesW (ms : List MR) (hs : List Int) (who : Int) (r : Rq) : Bool :=
  decide (0 ≤ wholeOf ms (rqBurst r)) && !(ms.getD (wholeOf ms (rqBurst r)).toNat default).only && (r.kind == 2 || (r.kind == 4 && hs.getD (who * 2 + r.id).toNat 0 == r.addr))
def doesH (ms : List MR) (r : Rq) : Bool := decide (0 ≤ wholeOf ms (rqBurst r)) && r.kind == 3
def newW (ms : List MR) (ws hs : List Int) (who : Int) (r : Rq) : List Int := if doesW ms hs who r = true then putAll ws (rqBurst r) r.data r.lanes else ws
def newH (ms : List MR) (hs : List Int) (who : Int) (r : Rq) : List Int := if doesW ms hs who r = true then freeAll hs (rqBurst r) else if doesH ms r = true then hs.set (who * 2 + r.id).toNat r.addr else hs
def newC (ms : List MR) (w : Bool) (r : Rq) : Int :=
  if wholeOf ms (rqBurst r) < 0 then 4 else if (rqWrites r && (ms.getD (wholeOf ms (rqBurst r)).toNat default).only) = true then 3 else if r.kind = 3 ∨ (r.kind = 4 ∧ w = true) then 2 else 1
def newD (ms : List MR) (ws : List Int) (r : Rq) : List Int := if 0 ≤ wholeOf ms (rqBurst r) ∧ (r.kind = 1 ∨ r.kind = 3) then getAll ws (rqBurst r) else []
theorem do_new {ms : List MR} {ws hs : List Int} {who : Int} {r : Rq} (hk : 1 ≤ r.kind ∧ r.kind ≤ 4) :
    doReq ms ws hs who r = (newW ms ws hs who r, newH ms hs who r, ⟨r.id, newC ms (doesW ms hs who r) r, newD ms ws r⟩) := by
  have hw := way_of ms ws hs who r hk
  generalize doReq ms ws hs who r = x at hw ⊢
  cases hw with
  | none h =>
    have e : ¬ 0 ≤ wholeOf ms (rqBurst r) := by omega
    simp [newW, newH, newC, newD, doesW, doesH, h, e]
  | deny h hk2 ho =>
    have e : ¬ wholeOf ms (rqBurst r) < 0 := by omega
    rcases hk2 with hk2 | hk2 <;> simp [newW, newH, newC, newD, doesW, doesH, e, hk2, ho, rqWrites, -List.getD_eq_getElem?_getD]
  | read h hk2 =>
    have e : ¬ wholeOf ms (rqBurst r) < 0 := by omega
    simp [newW, newH, newC, newD, doesW, doesH, e, h, hk2, rqWrites]
  | hold h hk2 =>
    have e : ¬ wholeOf ms (rqBurst r) < 0 := by omega
    simp [newW, newH, newC, newD, doesW, doesH, e, h, hk2, rqWrites]
  | tryno h hk2 ho hh =>
    have e : ¬ wholeOf ms (rqBurst r) < 0 := by omega
    simp [newW, newH, newC, newD, doesW, doesH, e, hk2, ho, hh, rqWrites, -List.getD_eq_getElem?_getD]
  | write h hk2 ho =>
    have e : ¬ wholeOf ms (rqBurst r) < 0 := by omega
    simp [newW, newH, newC, newD, doesW, doesH, e, h, hk2, ho, rqWrites, -List.getD_eq_getElem?_getD]
  | tryyes h hk2 ho hh =>
    have e : ¬ wholeOf ms (rqBurst r) < 0 := by omega
    simp [newW, newH, newC, newD, doesW, doesH, e, h, hk2, ho, hh, rqWrites, -List.getD_eq_getElem?_getD]

def Far (xs ys : List Int) : Prop := ∀ x ∈ xs, x ∉ ys
theorem Far.symm {xs ys : List Int} (h : Far xs ys) : Far ys xs := fun y hy hx => h y hx hy

theorem burst_one {r : Rq} (h : reqOk r = true) (hk : r.kind = 3 ∨ r.kind = 4) : rqBurst r = [r.addr] := by
  have hm := (reqOk_parts h).2.2.2.2 hk
  have ha := adr_of h
  unfold rqBurst
  rw [burst_yes ha, hm]
  simp [burstK, List.range_succ]
theorem freeOne_far {xs : List Int} {h a : Int} (ha : a ∉ xs) (h0 : 0 ≤ a) : (freeOne xs h == a) = (h == a) := by
  rw [freeOne_eq]
  split
  · rename_i hm
    have : h ≠ a := fun e => ha (e ▸ hm)
    have h1 : ((-1 : Int) == a) = false := by rw [beq_eq_false_iff_ne]; omega
    rw [h1]; simp [this]
  · rfl

section
variable {ms : List MR} {ws hs : List Int} {who other : Int} {r q : Rq}
theorem spots_ne (hw : 0 ≤ who ∧ who ≤ 2) (ho : 0 ≤ other ∧ other ≤ 2) (hne : who ≠ other) (hr : reqOk r = true) (hq : reqOk q = true) : (who * 2 + r.id).toNat ≠ (other * 2 + q.id).toNat := by
  have := id_of hr; have := id_of hq; omega
/-- What one does turns nothing of what decides whether the other one writes. -/
theorem doesW_far (hl : hs.length = 6) (hw : 0 ≤ who ∧ who ≤ 2) (ho : 0 ≤ other ∧ other ≤ 2) (hne : who ≠ other) (hr : reqOk r = true) (hq : reqOk q = true) (hf : Far (rqBurst r) (rqBurst q)) :
    doesW ms (newH ms hs who r) other q = doesW ms hs other q := by
  unfold doesW
  by_cases hk : q.kind = 4
  · have hb := burst_one hq (.inr hk)
    have hqa : q.addr ∉ rqBurst r := hf.symm _ (by rw [hb]; simp)
    have hq0 : 0 ≤ q.addr := ((adrOk_eq _ _ _).1 (adr_of hq)).1
    have hi := id_of hq
    have e : ((newH ms hs who r).getD (other * 2 + q.id).toNat 0 == q.addr) = (hs.getD (other * 2 + q.id).toNat 0 == q.addr) := by
      unfold newH
      split
      · rw [freeAll_get (by omega), freeOne_far hqa hq0]
      · split
        · rw [lget_set_ne (spots_ne hw ho hne hr hq)]
        · rfl
    rw [e]
  · have : (q.kind == 4) = false := by simpa using hk
    simp [this]
theorem putAll_comm {a b : List Int} {d l e m : List Int} (ha : a.Nodup) (hb : b.Nodup) (ra : ∀ x ∈ a, 0 ≤ x ∧ x.toNat < ws.length) (rb : ∀ x ∈ b, 0 ≤ x ∧ x.toNat < ws.length) (hf : Far a b)
    (h1 : d.length = a.length) (h2 : l.length = a.length) (h3 : e.length = b.length) (h4 : m.length = b.length) : putAll (putAll ws a d l) b e m = putAll (putAll ws b e m) a d l := by
  refine ext_getD (by simp [putAll_len]) fun n _ => ?_
  have nota : ∀ x ∈ b, ∀ y ∈ a, y.toNat ≠ x.toNat := fun x hx y hy he => hf y hy (by
    have := ra y hy; have := rb x hx
    have : y = x := by omega
    rwa [this])
  rcases spot_or a n with ⟨k, hk, rfl⟩ | hna
  · have hm : a.getD k 0 ∈ a := getD_mem hk
    rw [putAll_out b e m _ _ (fun x hx he => nota x hx _ hm he.symm), putAll_in a d l ws k ha ra hk h1 h2, putAll_in a d l _ k ha (by rw [putAll_len]; exact ra) hk h1 h2,
      putAll_out b e m ws _ (fun x hx he => nota x hx _ hm he.symm)]
  · rw [putAll_out a d l _ n hna]
    rcases spot_or b n with ⟨k, hk, rfl⟩ | hnb
    · rw [putAll_in b e m _ k hb (by rw [putAll_len]; exact rb) hk h3 h4, putAll_in b e m ws k hb rb hk h3 h4, putAll_out a d l ws _ hna]
    · rw [putAll_out b e m _ n hnb, putAll_out b e m _ n hnb, putAll_out a d l _ n hna]
theorem getAll_far {a b d l : List Int} (ra : ∀ x ∈ a, 0 ≤ x) (rb : ∀ x ∈ b, 0 ≤ x) (hf : Far a b) : getAll (putAll ws a d l) b = getAll ws b := by
  unfold getAll
  apply List.map_congr_left
  intro x hx
  exact putAll_out _ _ _ _ _ fun y hy he => hf y hy (by
    have := ra y hy; have := rb x hx
    have : y = x := by omega
    rwa [this])
theorem freeAll_comm (a b : List Int) : freeAll (freeAll hs a) b = freeAll (freeAll hs b) a := by
  simp only [freeAll, List.map_map]
  apply List.map_congr_left
  intro h _
  simp only [Function.comp]
  rcases ha : a.contains h with _ | _ <;> rcases hb : b.contains h with _ | _ <;> simp only [ha, hb, if_true, if_false, Bool.false_eq_true] <;> (try simp)
theorem freeAll_set {b : List Int} {i : Nat} {x : Int} (hx : x ∉ b) : freeAll (hs.set i x) b = (freeAll hs b).set i x := by
  simp only [freeAll, List.map_set]
  have : b.contains x = false := by simpa using hx
  rw [this]; simp
theorem burst_rng {hl : ws.length = 64} : ∀ x ∈ rqBurst r, 0 ≤ x ∧ x.toNat < ws.length := fun x hx => by have := burst_mem hx; omega

theorem swap_half (hl : ws.length = 64) (hh : hs.length = 6) (hw : 0 ≤ who ∧ who ≤ 2) (ho : 0 ≤ other ∧ other ≤ 2) (hne : who ≠ other) (hr : reqOk r = true) (hq : reqOk q = true) (hf : Far (rqBurst r) (rqBurst q)) :
    newW ms (newW ms ws hs who r) (newH ms hs who r) other q = newW ms (newW ms ws hs other q) (newH ms hs other q) who r ∧
    newH ms (newH ms hs who r) other q = newH ms (newH ms hs other q) who r ∧
    newC ms (doesW ms (newH ms hs who r) other q) q = newC ms (doesW ms hs other q) q ∧
    newD ms (newW ms ws hs who r) q = newD ms ws q := by
  have e1 := doesW_far (ms := ms) hh hw ho hne hr hq hf
  have e2 := doesW_far (ms := ms) hh ho hw (Ne.symm hne) hq hr hf.symm
  have lens : ∀ {x : Rq} {wh : Int} {h : List Int}, reqOk x = true → doesW ms h wh x = true → x.data.length = (rqBurst x).length ∧ x.lanes.length = (rqBurst x).length := by
    intro x wh h hx hd
    have : (x.kind == 2 || x.kind == 4) = true := by
      simp only [doesW, Bool.and_eq_true, Bool.or_eq_true] at hd
      simp only [Bool.or_eq_true]
      rcases hd.2 with h | h
      · exact .inl h
      · exact .inr h.1
    obtain ⟨d1, d2, _⟩ := (reqOk_parts hx).2.2.2.1 this
    exact ⟨d1, d2⟩
  have r1 : ∀ x ∈ rqBurst r, 0 ≤ x ∧ x.toNat < ws.length := burst_rng (hl := hl)
  have r2 : ∀ x ∈ rqBurst q, 0 ≤ x ∧ x.toNat < ws.length := burst_rng (hl := hl)
  refine ⟨?_, ?_, by rw [e1], ?_⟩
  · unfold newW
    rw [e1, e2]
    rcases h1 : doesW ms hs who r with _ | _ <;> rcases h2 : doesW ms hs other q with _ | _ <;> simp only [if_true, if_false, Bool.false_eq_true]
    obtain ⟨d1, d2⟩ := lens hr h1
    obtain ⟨d3, d4⟩ := lens hq h2
    exact putAll_comm (burst_nodup _ _ _) (burst_nodup _ _ _) r1 r2 hf d1 d2 d3 d4
  · have hW : ∀ {x : Rq} {wh : Int} {h : List Int}, doesW ms h wh x = true → doesH ms x = false := by
      intro x wh h hd
      simp only [doesW, Bool.and_eq_true, Bool.or_eq_true, beq_iff_eq] at hd
      have : (x.kind == 3) = false := by rw [beq_eq_false_iff_ne]; rcases hd.2 with h | h <;> omega
      simp [doesH, this]
    have hk3 : ∀ {x : Rq}, reqOk x = true → doesH ms x = true → rqBurst x = [x.addr] := by
      intro x hx hd
      simp only [doesH, Bool.and_eq_true, beq_iff_eq] at hd
      exact burst_one hx (.inl hd.2)
    have hne2 := spots_ne hw ho hne hr hq
    unfold newH at e1 e2 ⊢
    rw [e1, e2]
    rcases h1 : doesW ms hs who r with _ | _ <;> rcases h2 : doesW ms hs other q with _ | _ <;> rcases h3 : doesH ms r with _ | _ <;> rcases h4 : doesH ms q with _ | _ <;> simp only [if_true, if_false, Bool.false_eq_true]
    · exact List.set_comm _ _ hne2
    · exact freeAll_set (hf _ (by rw [hk3 hr h3]; simp))
    · exact freeAll_set (hf _ (by rw [hk3 hr h3]; simp))
    · exact (freeAll_set (hf.symm _ (by rw [hk3 hq h4]; simp))).symm
    · exact (freeAll_set (hf.symm _ (by rw [hk3 hq h4]; simp))).symm
    all_goals exact freeAll_comm _ _
  · unfold newD newW
    split
    · split
      · exact getAll_far (fun x hx => (r1 x hx).1) (fun x hx => (r2 x hx).1) hf
      · rfl
    · rfl

theorem swap_law (hok : atmOkk ms ws hs who r = true) (hq : reqOk q = true) (hf : Far (rqBurst r) (rqBurst q)) :
    (atmDo ms (atmDo ms ws hs who r).1 (atmDo ms ws hs who r).2.1 ((who + 1) % 3) q).1 = (atmDo ms (atmDo ms ws hs ((who + 1) % 3) q).1 (atmDo ms ws hs ((who + 1) % 3) q).2.1 who r).1 ∧
    (atmDo ms (atmDo ms ws hs who r).1 (atmDo ms ws hs who r).2.1 ((who + 1) % 3) q).2.1 = (atmDo ms (atmDo ms ws hs ((who + 1) % 3) q).1 (atmDo ms ws hs ((who + 1) % 3) q).2.1 who r).2.1 ∧
    (atmDo ms ws hs who r).2.2 = (atmDo ms (atmDo ms ws hs ((who + 1) % 3) q).1 (atmDo ms ws hs ((who + 1) % 3) q).2.1 who r).2.2 ∧
    (atmDo ms (atmDo ms ws hs who r).1 (atmDo ms ws hs who r).2.1 ((who + 1) % 3) q).2.2 = (atmDo ms ws hs ((who + 1) % 3) q).2.2 := by
  have o := ok1_of hok
  have ho := next_who o.wh
  have ho' : 0 ≤ (who + 1) % 3 ∧ (who + 1) % 3 ≤ 2 := by omega
  have hne : who ≠ (who + 1) % 3 := by have := o.wh; omega
  have hok2 : atmOkk ms ws hs ((who + 1) % 3) q = true := okk_parts.2 ⟨o.m, o.a, ho, hq⟩
  have h1 := okk_again hok ho hq
  have h2 := okk_again hok2 o.w o.rok
  rw [atmDo_yes hok, atmDo_yes hok2, atmDo_yes h1, atmDo_yes h2]
  rw [do_new o.k, do_new (kind_of hq)]
  simp only
  rw [do_new (kind_of hq), do_new o.k]
  simp only
  obtain ⟨a1, a2, a3, a4⟩ := swap_half (ms := ms) o.l o.h o.wh ho' hne o.rok hq hf
  obtain ⟨b1, b2, b3, b4⟩ := swap_half (ms := ms) o.l o.h ho' o.wh (Ne.symm hne) hq o.rok hf.symm
  exact ⟨a1, a2, by rw [b3, b4], by rw [a3, a4]⟩
end

-- how it goes
theorem rngOf_some {ms : List MR} {a k : Int} (h : rngOf ms a = k) (hk : 0 ≤ k) : k.toNat < ms.length ∧ inB a (ms.getD k.toNat default).fr (ms.getD k.toNat default).to = true := by
  unfold rngOf at h
  split at h
  · rename_i j hj
    obtain ⟨h1, h2, _⟩ := List.findIdx?_eq_some_iff_getElem.1 hj
    have : k.toNat = j := by omega
    rw [this]
    exact ⟨h1, by simpa [List.getD, h1] using h2⟩
  · omega
theorem addr_in {r : Rq} (h : reqOk r = true) : r.addr ∈ rqBurst r := by
  have ha := adr_of h
  obtain ⟨h0, h1, hm, _⟩ := (adrOk_eq _ _ _).1 ha
  have hl := burst_lenA ha
  have hg := burst_get ha (k := 0) (by omega)
  have hm2 : (burst r.addr r.many r.wrap).getD 0 0 ∈ burst r.addr r.many r.wrap := getD_mem (by omega)
  rw [hg] at hm2
  have e : (if r.wrap = true then r.addr - r.addr % r.many + (r.addr + ((0 : Nat) : Int)) % r.many else r.addr + ((0 : Nat) : Int)) = r.addr := by
    split
    · rw [show r.addr + ((0 : Nat) : Int) = r.addr by omega]; omega
    · omega
  rwa [e] at hm2
/-- Some range that may but be read holds the address, of the first k. -/
def onlyK (ms : List MR) (a : Int) (k : Nat) : Bool := (ms.take k).any fun m => m.only && (decide (m.fr ≤ a) && decide (a ≤ m.to))
theorem mapOk_apart {ms : List MR} (h : mapOk ms = true) {i j : Nat} (hi : i < ms.length) (hj : j < i) : over (ms.getD i default) (ms.getD j default) = false := by
  simp only [mapOk, Bool.and_eq_true, List.all_eq_true] at h
  have := h.2 i (List.mem_range.2 hi)
  rw [rangeOk_eq ms i _ rfl] at this
  simp only [Bool.and_eq_true, Bool.not_eq_true'] at this
  have h2 := List.any_eq_false.1 this.2 (ms.getD j default) (by
    rw [List.mem_iff_getElem]
    exact ⟨j, by simp; omega, by simp [List.getD, show j < ms.length by omega]⟩)
  simpa using h2
theorem only_whole {ms : List MR} {r : Rq} (hm : mapOk ms = true) (hr : reqOk r = true) (hw : 0 ≤ wholeOf ms (rqBurst r)) : onlyK ms r.addr ms.length = (ms.getD (wholeOf ms (rqBurst r)).toNat default).only := by
  have hk := ((wholeOf_iff hw).1 rfl).2 _ (addr_in hr)
  obtain ⟨h1, h2⟩ := rngOf_some hk hw
  generalize (wholeOf ms (rqBurst r)).toNat = k at h1 h2 ⊢
  simp only [inB, Bool.and_eq_true, decide_eq_true_eq] at h2
  unfold onlyK
  rw [List.take_length]
  have hmem : ms.getD k default ∈ ms := getD_mem h1
  rcases ho : (ms.getD k default).only with _ | _
  · rw [List.any_eq_false]
    intro m hmm
    obtain ⟨i, hi, rfl⟩ := List.mem_iff_getElem.1 hmm
    have e : ms[i] = ms.getD i default := by simp [List.getD, hi]
    rw [e]
    by_cases hik : i = k
    · rw [hik, ho]; simp
    · simp only [Bool.and_eq_true, decide_eq_true_eq, not_and]
      intro _ hle hge
      rcases Nat.lt_or_gt_of_ne hik with h | h
      · have := mapOk_apart hm h1 h
        simp only [over, Bool.and_eq_false_iff, decide_eq_false_iff_not] at this
        omega
      · have := mapOk_apart hm hi h
        simp only [over, Bool.and_eq_false_iff, decide_eq_false_iff_not] at this
        omega
  · rw [List.any_eq_true]
    exact ⟨_, hmem, by simp [ho, h2.1, h2.2, -List.getD_eq_getElem?_getD]⟩
def codeWant (ms : List MR) (hs : List Int) (who : Int) (r : Rq) : Int :=
  if (onlyK ms r.addr ms.length && (r.kind == 2 || r.kind == 4)) = true then 3 else if (r.kind == 3 || (r.kind == 4 && hs.getD (who * 2 + r.id).toNat 0 == r.addr)) = true then 2 else 1
theorem slave_three {ms : List MR} {r : Rq} (hm : mapOk ms = true) : slaveOf ms r = 3 ↔ wholeOf ms (rqBurst r) < 0 := by
  unfold slaveOf
  split
  · rename_i h; simp [h]
  · rename_i h
    have hw : 0 ≤ wholeOf ms (rqBurst r) := by omega
    have hlt := wholeOf_lt ms (rqBurst r)
    have hk : (wholeOf ms (rqBurst r)).toNat < ms.length := by omega
    simp only [mapOk, Bool.and_eq_true, List.all_eq_true] at hm
    have := hm.2 _ (List.mem_range.2 hk)
    rw [rangeOk_eq ms _ _ rfl] at this
    simp only [Bool.and_eq_true, inB, decide_eq_true_eq] at this
    constructor
    · intro h3; omega
    · intro h3; omega
theorem code_law {ms : List MR} {ws hs : List Int} {who : Int} {r : Rq} (hok : atmOkk ms ws hs who r = true) :
    (atmDo ms ws hs who r).2.2.code = if slaveOf ms r = 3 then 4 else codeWant ms hs who r := by
  have o := ok1_of hok
  rw [atmDo_yes hok]
  have hw := way_of ms ws hs who r o.k
  have hs3 := slave_three (r := r) o.m
  generalize doReq ms ws hs who r = x at hw ⊢
  have no : 0 ≤ wholeOf ms (rqBurst r) → ¬ slaveOf ms r = 3 := fun h e => by have := hs3.1 e; omega
  cases hw with
  | none h => rw [if_pos (hs3.2 h)]
  | deny h hk ho =>
    rw [if_neg (no h)]
    unfold codeWant
    rw [only_whole o.m o.rok h, ho]
    rcases hk with hk | hk <;> simp [hk]
  | read h hk => rw [if_neg (no h)]; simp [codeWant, hk]
  | hold h hk => rw [if_neg (no h)]; simp [codeWant, hk]
  | tryno h hk ho hh =>
    rw [if_neg (no h)]
    unfold codeWant
    rw [only_whole o.m o.rok h, ho]
    simp [hk, hh, -List.getD_eq_getElem?_getD]
  | write h hk ho =>
    rw [if_neg (no h)]
    unfold codeWant
    rw [only_whole o.m o.rok h, ho]
    simp [hk]
  | tryyes h hk ho hh =>
    rw [if_neg (no h)]
    unfold codeWant
    rw [only_whole o.m o.rok h, ho]
    simp [hk, hh, -List.getD_eq_getElem?_getD]

end Go.Proofs.Yteamebdehembgaa

namespace Go.Proofs.Yteamebdehembgaa

-- round about
def baseOf (r : Rq) : Int := r.addr - r.addr % r.many
def flatOf (r : Rq) : Rq := ⟨r.id, 1, baseOf r, r.many, false, [], []⟩
theorem flat_adr {r : Rq} (h : reqOk r = true) : adrOk (baseOf r) r.many false = true := by
  obtain ⟨h0, h1, hm, _⟩ := (adrOk_eq _ _ _).1 (adr_of h)
  refine (adrOk_eq _ _ _).2 ?_
  unfold baseOf
  rcases hm with hm | hm | hm <;> rw [hm] <;> refine ⟨by omega, by omega, by omega, .inr (by omega)⟩
theorem flat_ok {r : Rq} (h : reqOk r = true) : reqOk (flatOf r) = true := by
  have h1 := flat_adr h
  have h2 : inB r.id 0 1 = true := (reqOk_parts h).1
  simp [reqOk, flatOf, h1, h2, rqWrites]
  decide
theorem flat_burst {r : Rq} (h : reqOk r = true) (hw : r.wrap = true) : ∀ k : Nat, (k : Int) < r.many → 0 ≤ (r.addr - baseOf r + k) % r.many ∧ (r.addr - baseOf r + k) % r.many < r.many ∧
    (rqBurst r).getD k 0 = (rqBurst (flatOf r)).getD ((r.addr - baseOf r + k) % r.many).toNat 0 := by
  intro k hk
  obtain ⟨h0, h1, hm, _⟩ := (adrOk_eq _ _ _).1 (adr_of h)
  have hb : 0 ≤ (r.addr - baseOf r + k) % r.many ∧ (r.addr - baseOf r + k) % r.many < r.many := ⟨Int.emod_nonneg _ (by omega), Int.emod_lt_of_pos _ (by omega)⟩
  refine ⟨hb.1, hb.2, ?_⟩
  unfold rqBurst
  rw [burst_get (adr_of h) (by omega), if_pos hw]
  have := burst_get (flat_adr h) (k := ((r.addr - baseOf r + k) % r.many).toNat) (by omega)
  simp only [flatOf]
  rw [this]
  simp only [Bool.false_eq_true, if_false]
  unfold baseOf at *
  rcases hm with hm | hm | hm <;> rw [hm] at hb ⊢ <;> omega
theorem flat_mem {r : Rq} (h : reqOk r = true) (hw : r.wrap = true) : ∀ y ∈ rqBurst (flatOf r), y ∈ rqBurst r := by
  intro y hy
  obtain ⟨h0, h1, hm, _⟩ := (adrOk_eq _ _ _).1 (adr_of h)
  obtain ⟨i, hi, rfl⟩ := List.mem_iff_getElem.1 hy
  have hl : (rqBurst (flatOf r)).length = r.many.toNat := burst_lenA (flat_adr h)
  have hl2 : (rqBurst r).length = r.many.toNat := burst_lenA (adr_of h)
  have hg := burst_get (flat_adr h) (k := i) (by omega)
  have e : (rqBurst (flatOf r))[i] = baseOf r + i := by
    have : (rqBurst (flatOf r)).getD i 0 = (rqBurst (flatOf r))[i] := by simp [List.getD, hi]
    rw [← this]; simpa [rqBurst, flatOf] using hg
  rw [e]
  have key : ∃ k : Nat, (k : Int) < r.many ∧ (r.addr + (k : Int)) % r.many = i := by
    have hi' : (i : Int) < r.many := by omega
    rcases hm with hm | hm | hm <;> rw [hm] at hi' ⊢
    · exact ⟨0, by omega, by omega⟩
    · exact ⟨((i : Int) + 2 - r.addr % 2).toNat % 2, by omega, by omega⟩
    · exact ⟨((i : Int) + 4 - r.addr % 4).toNat % 4, by omega, by omega⟩
  obtain ⟨k, hk, hk2⟩ := key
  have hg2 := burst_get (adr_of h) (k := k) (by omega)
  rw [if_pos hw, hk2] at hg2
  have hmem : (rqBurst r).getD k 0 ∈ rqBurst r := getD_mem (by omega)
  rw [show (rqBurst r).getD k 0 = r.addr - r.addr % r.many + i from hg2] at hmem
  exact hmem
theorem wrap_law {ms : List MR} {ws hs : List Int} {who : Int} {r : Rq} (hok : atmOkk ms ws hs who r = true) (hk : r.kind = 1) (hw : r.wrap = true) (hc : (atmDo ms ws hs who r).2.2.code = 1) :
    (atmDo ms ws hs who r).2.2.data = getAll ws (rqBurst r) ∧ atmDo ms ws hs who (flatOf r) = (ws, hs, ⟨r.id, 1, getAll ws (rqBurst (flatOf r))⟩) := by
  have o := ok1_of hok
  have hok2 : atmOkk ms ws hs who (flatOf r) = true := okk_parts.2 ⟨o.m, o.a, o.w, flat_ok o.rok⟩
  rw [atmDo_yes hok2]
  rw [atmDo_yes hok] at hc ⊢
  have hway := way_of ms ws hs who r o.k
  have hl : (rqBurst (flatOf r)).length = r.many.toNat := burst_lenA (flat_adr o.rok)
  have hm := ((adrOk_eq _ _ _).1 o.ad).2.2.1
  generalize doReq ms ws hs who r = x at hway hc ⊢
  cases hway with
  | none h => simp at hc
  | deny h hk2 ho => simp at hc
  | read h hk2 =>
    have e := wholeOf_sub h (ys := rqBurst (flatOf r)) (by intro e; rw [e] at hl; simp at hl; omega) (flat_mem o.rok hw)
    exact ⟨rfl, (Way.read (r := flatOf r) (by rw [e]; exact h) rfl).eq⟩
  | hold h hk2 => omega
  | tryno h hk2 ho hh => omega
  | write h hk2 ho => omega
  | tryyes h hk2 ho hh => omega

-- one word after the other
def oneOf (r : Rq) (a : Int) (k : Nat) : Rq := ⟨r.id, r.kind, a, 1, false, if r.kind = 2 then [r.data.getD k 0] else [], if r.kind = 2 then [r.lanes.getD k 0] else []⟩
def wsK (ws : List Int) (r : Rq) (k : Nat) : List Int := if r.kind = 2 then putK ws (rqBurst r) r.data r.lanes k else ws
def hsK (hs : List Int) (r : Rq) (k : Nat) : List Int := if r.kind = 2 then freeAll hs ((rqBurst r).take k) else hs
def wdK (ws : List Int) (r : Rq) (k : Nat) : List Int := if r.kind = 1 then getAll ws ((rqBurst r).take k) else []
theorem freeAll_app (hs xs ys : List Int) : freeAll (freeAll hs xs) ys = freeAll hs (xs ++ ys) := by
  simp only [freeAll, List.map_map]
  apply List.map_congr_left
  intro h _
  simp only [Function.comp, List.contains_eq_mem, List.mem_append]
  by_cases h1 : h ∈ xs <;> by_cases h2 : h ∈ ys <;> simp [h1, h2]
theorem freeAll_nil (hs : List Int) : freeAll hs [] = hs := by simp [freeAll]
theorem oneOf_ok {ms : List MR} {ws hs : List Int} {who : Int} {r : Rq} (o : Ok1 ms ws hs who r) (hk : r.kind = 1 ∨ r.kind = 2) (k : Nat) (h : k < (rqBurst r).length) : reqOk (oneOf r ((rqBurst r).getD k 0) k) = true := by
  have hid1 : inB r.id 0 1 = true := (reqOk_parts o.rok).1
  have hr : 0 ≤ (rqBurst r).getD k 0 ∧ (rqBurst r).getD k 0 ≤ 63 := burst_mem (getD_mem (d := 0) h)
  have ha : adrOk ((rqBurst r).getD k 0) 1 false = true := (adrOk_eq _ _ _).2 ⟨hr.1, hr.2, .inl rfl, .inr (by omega)⟩
  rcases hk with hk | hk
  · simp [reqOk, oneOf, hk, rqWrites, hid1, ha, -List.getD_eq_getElem?_getD]
    decide
  · obtain ⟨d1, d2, d3, d4⟩ := o.data (.inl hk)
    have e1 : wordOk (r.data.getD k 0) = true := getD_ok d3 (by decide)
    have e2 : inB (r.lanes.getD k 0) 0 3 = true := getD_ok (p := fun l => inB l 0 3) d4 (by decide)
    simp [reqOk, oneOf, hk, rqWrites, hid1, ha, e1, e2, -List.getD_eq_getElem?_getD]
    decide
theorem oneOf_burst {ms : List MR} {ws hs : List Int} {who : Int} {r : Rq} (o : Ok1 ms ws hs who r) (k : Nat) (h : k < (rqBurst r).length) : rqBurst (oneOf r ((rqBurst r).getD k 0) k) = [(rqBurst r).getD k 0] := by
  have hr : 0 ≤ (rqBurst r).getD k 0 ∧ (rqBurst r).getD k 0 ≤ 63 := burst_mem (getD_mem (d := 0) h)
  have ha : adrOk ((rqBurst r).getD k 0) 1 false = true := (adrOk_eq _ _ _).2 ⟨hr.1, hr.2, .inl rfl, .inr (by omega)⟩
  show burst _ _ _ = _
  simp only [oneOf]
  rw [burst_yes ha]
  simp [burstK, List.range_succ]
theorem burst_law0 {ms : List MR} {ws hs : List Int} {who : Int} {r : Rq} (hok : atmOkk ms ws hs who r = true) (hk : r.kind = 1 ∨ r.kind = 2) (hc : (atmDo ms ws hs who r).2.2.code = 1) :
    atmDo ms ws hs who r = (wsK ws r (rqBurst r).length, hsK hs r (rqBurst r).length, ⟨r.id, 1, wdK ws r (rqBurst r).length⟩) ∧ 0 ≤ wholeOf ms (rqBurst r) ∧ (r.kind = 2 → (ms.getD (wholeOf ms (rqBurst r)).toNat default).only = false) := by
  have o := ok1_of hok
  rw [atmDo_yes hok] at hc ⊢
  have hw := way_of ms ws hs who r o.k
  generalize doReq ms ws hs who r = x at hw hc ⊢
  cases hw with
  | none h => simp at hc
  | deny h hk2 ho => simp at hc
  | read h hk2 =>
    refine ⟨?_, h, fun h => by omega⟩
    simp [wsK, hsK, wdK, hk2]
  | hold h hk2 => omega
  | tryno h hk2 ho hh => omega
  | write h hk2 ho =>
    obtain ⟨d1, d2, d3, d4⟩ := o.data (.inl hk2)
    refine ⟨?_, h, fun _ => ho⟩
    simp [wsK, hsK, wdK, hk2, putK_all _ _ _ _ d1 d2]
  | tryyes h hk2 ho hh => omega
theorem burst_step {ms : List MR} {ws hs : List Int} {who : Int} {r : Rq} (hok : atmOkk ms ws hs who r = true) (hk : r.kind = 1 ∨ r.kind = 2) (hc : (atmDo ms ws hs who r).2.2.code = 1) (k : Nat) (h : k < (rqBurst r).length) :
    atmDo ms (wsK ws r k) (hsK hs r k) who (oneOf r ((rqBurst r).getD k 0) k) = (wsK ws r (k + 1), hsK hs r (k + 1), ⟨r.id, 1, if r.kind = 1 then [ws.getD ((rqBurst r).getD k 0).toNat 0] else []⟩) := by
  have o := ok1_of hok
  obtain ⟨_, hwh, hon⟩ := burst_law0 hok hk hc
  have h1 := oneOf_ok o hk k h
  have hb := oneOf_burst o k h
  have hst : atmOk (wsK ws r k) (hsK hs r k) = true := by
    unfold wsK hsK
    rcases hk with hk | hk
    · rw [if_neg (by omega), if_neg (by omega)]; exact o.a
    · obtain ⟨d1, d2, d3, d4⟩ := o.data (.inl hk)
      rw [if_pos hk, if_pos hk]
      simp only [atmOk, memOk, Bool.and_eq_true, beq_iff_eq]
      exact ⟨⟨⟨by rw [putK_len]; exact o.l, putK_ok o.ww d3⟩, by rw [freeAll_len]; exact o.h⟩, freeAll_ok o.hh⟩
  have hok1 : atmOkk ms (wsK ws r k) (hsK hs r k) who (oneOf r ((rqBurst r).getD k 0) k) = true := okk_parts.2 ⟨o.m, hst, o.w, h1⟩
  have hmem : (rqBurst r).getD k 0 ∈ rqBurst r := getD_mem h
  have hw1 : wholeOf ms (rqBurst (oneOf r ((rqBurst r).getD k 0) k)) = wholeOf ms (rqBurst r) := by
    rw [hb]
    exact wholeOf_sub hwh (by simp) (fun y hy => by rw [List.mem_singleton] at hy; rw [hy]; exact hmem)
  rw [atmDo_yes hok1]
  rcases hk with hk | hk
  · rw [(Way.read (r := oneOf r ((rqBurst r).getD k 0) k) (by rw [hw1]; exact hwh) hk).eq, hb]
    simp [wsK, hsK, hk, oneOf, getAll]
  · obtain ⟨d1, d2, d3, d4⟩ := o.data (.inl hk)
    have hn : r.kind ≠ 1 := by omega
    rw [(Way.write (r := oneOf r ((rqBurst r).getD k 0) k) (by rw [hw1]; exact hwh) hk (by rw [hw1]; exact hon hk)).eq, hb]
    simp only [wsK, hsK, oneOf, if_pos hk, if_neg hn]
    rw [putK_succ ws d1 d2 h, freeAll_app, take_snoc (d := 0) h]
    rfl
theorem words_step {ws : List Int} {r : Rq} (hk : r.kind = 1 ∨ r.kind = 2) (k : Nat) (h : k < (rqBurst r).length) : wdK ws r (k + 1) = wdK ws r k ++ (if r.kind = 1 then [ws.getD ((rqBurst r).getD k 0).toNat 0] else []) := by
  unfold wdK
  rcases hk with hk | hk
  · rw [if_pos hk, if_pos hk, if_pos hk, take_snoc (d := 0) h]
    simp [getAll]
  · have hn : r.kind ≠ 1 := by omega
    rw [if_neg hn, if_neg hn, if_neg hn]; rfl

-- to hold and to try
def ms1 : List MR := [⟨0, 63, 0, false⟩]
theorem ms1_ok : mapOk ms1 = true := by decide
theorem ms1_whole {r : Rq} (h : reqOk r = true) : wholeOf ms1 (rqBurst r) = 0 := by
  refine (wholeOf_iff (by omega)).2 ⟨List.ne_nil_of_mem (addr_in h), fun x hx => ?_⟩
  have := burst_mem hx
  exact rngOf_hit (k := 0) (by simp [ms1]) (by simp [ms1, inB]; omega) (by simp)
theorem ms1_only {r : Rq} (h : reqOk r = true) : (ms1.getD (wholeOf ms1 (rqBurst r)).toNat default).only = false := by rw [ms1_whole h]; rfl
def holdOf (i a : Int) : Rq := ⟨i, 3, a, 1, false, [], []⟩
def tryOf (i a d : Int) : Rq := ⟨i, 4, a, 1, false, [d], [3]⟩
def writeOf (a d l : Int) : Rq := ⟨0, 2, a, 1, false, [d], [l]⟩
theorem one_adr {a : Int} (h : 0 ≤ a ∧ a ≤ 63) : adrOk a 1 false = true := (adrOk_eq _ _ _).2 ⟨h.1, h.2, .inl rfl, .inr (by omega)⟩
theorem holdOf_ok {i a : Int} (hi : 0 ≤ i ∧ i ≤ 1) (h : 0 ≤ a ∧ a ≤ 63) : reqOk (holdOf i a) = true := by
  simp [reqOk, holdOf, one_adr h, rqWrites, inB, hi.1, hi.2]
theorem tryOf_ok {i a d : Int} (hi : 0 ≤ i ∧ i ≤ 1) (h : 0 ≤ a ∧ a ≤ 63) (hd : wordOk d = true) : reqOk (tryOf i a d) = true := by
  simp [reqOk, tryOf, one_adr h, rqWrites, inB, hi.1, hi.2, hd]
theorem writeOf_ok {a d l : Int} (h : 0 ≤ a ∧ a ≤ 63) (hd : wordOk d = true) (hl : 0 ≤ l ∧ l ≤ 3) : reqOk (writeOf a d l) = true := by
  simp [reqOk, writeOf, one_adr h, rqWrites, inB, hd, hl.1, hl.2]
theorem one_burst {a : Int} (h : 0 ≤ a ∧ a ≤ 63) : burst a 1 false = [a] := by
  rw [burst_yes (one_adr h)]; simp [burstK, List.range_succ]
section
variable {ws hs : List Int} {who i a : Int}
theorem do_hold1 (ha : atmOk ws hs = true) (hw : 0 ≤ who ∧ who ≤ 2) (hi : 0 ≤ i ∧ i ≤ 1) (h : 0 ≤ a ∧ a ≤ 63) : atmOkk ms1 ws hs who (holdOf i a) = true ∧ atmDo ms1 ws hs who (holdOf i a) = (ws, hs.set (who * 2 + i).toNat a, ⟨i, 2, getAll ws [a]⟩) := by
  have hr := holdOf_ok hi h
  have hok : atmOkk ms1 ws hs who (holdOf i a) = true := okk_parts.2 ⟨ms1_ok, ha, by simp [inB]; omega, hr⟩
  refine ⟨hok, ?_⟩
  rw [atmDo_yes hok, (Way.hold (r := holdOf i a) (by rw [ms1_whole hr]; omega) rfl).eq]
  simp only [rqBurst, holdOf, one_burst h]
theorem do_try1 {d : Int} (ha : atmOk ws hs = true) (hw : 0 ≤ who ∧ who ≤ 2) (hi : 0 ≤ i ∧ i ≤ 1) (h : 0 ≤ a ∧ a ≤ 63) (hd : wordOk d = true) :
    atmOkk ms1 ws hs who (tryOf i a d) = true ∧ atmDo ms1 ws hs who (tryOf i a d) = if hs.getD (who * 2 + i).toNat 0 = a then (ws.set a.toNat (putW (ws.getD a.toNat 0) d 3), freeAll hs [a], ⟨i, 2, []⟩) else (ws, hs, ⟨i, 1, []⟩) := by
  have hr := tryOf_ok (d := d) hi h hd
  have hok : atmOkk ms1 ws hs who (tryOf i a d) = true := okk_parts.2 ⟨ms1_ok, ha, by simp [inB]; omega, hr⟩
  refine ⟨hok, ?_⟩
  rw [atmDo_yes hok]
  split
  · rename_i hh
    rw [(Way.tryyes (r := tryOf i a d) (by rw [ms1_whole hr]; omega) rfl (ms1_only hr) hh).eq]
    simp only [rqBurst, tryOf, one_burst h]
    rfl
  · rename_i hh
    rw [(Way.tryno (r := tryOf i a d) (by rw [ms1_whole hr]; omega) rfl (ms1_only hr) hh).eq]
    rfl
theorem do_write1 {d l : Int} (ha : atmOk ws hs = true) (hw : 0 ≤ who ∧ who ≤ 2) (h : 0 ≤ a ∧ a ≤ 63) (hd : wordOk d = true) (hl : 0 ≤ l ∧ l ≤ 3) :
    atmOkk ms1 ws hs who (writeOf a d l) = true ∧ atmDo ms1 ws hs who (writeOf a d l) = (ws.set a.toNat (putW (ws.getD a.toNat 0) d l), freeAll hs [a], ⟨0, 1, []⟩) := by
  have hr := writeOf_ok (d := d) (l := l) h hd hl
  have hok : atmOkk ms1 ws hs who (writeOf a d l) = true := okk_parts.2 ⟨ms1_ok, ha, by simp [inB]; omega, hr⟩
  refine ⟨hok, ?_⟩
  rw [atmDo_yes hok, (Way.write (r := writeOf a d l) (by rw [ms1_whole hr]; omega) rfl (ms1_only hr)).eq]
  simp only [rqBurst, writeOf, one_burst h]
  rfl
theorem ok_behind {ms : List MR} {r : Rq} (h : atmOkk ms ws hs who r = true) : atmOk (atmDo ms ws hs who r).1 (atmDo ms ws hs who r).2.1 = true := hold_len h
end
theorem putW_all (o d : Int) (hd : wordOk d = true) : putW o d 3 = d := by
  simp only [wordOk, inB, Bool.and_eq_true, decide_eq_true_eq] at hd
  simp [putW]; omega
theorem free_at {hs : List Int} {i : Nat} {a b : Int} (h : hs.getD i 0 = a) (hi : i < hs.length) : (freeAll hs [b]).getD i 0 = if a = b then -1 else a := by
  rw [freeAll_get hi, h, freeOne_eq]; simp

-- several things
def runReq (ms : List MR) (who : Int) : List Int → List Int → List Rq → List Int × List Int × List Rs
  | ws, hs, [] => (ws, hs, [])
  | ws, hs, r :: rs => ((runReq ms who (doReq ms ws hs who r).1 (doReq ms ws hs who r).2.1 rs).1, (runReq ms who (doReq ms ws hs who r).1 (doReq ms ws hs who r).2.1 rs).2.1,
      (doReq ms ws hs who r).2.2 :: (runReq ms who (doReq ms ws hs who r).1 (doReq ms ws hs who r).2.1 rs).2.2)
theorem run_app (ms : List MR) (who : Int) : ∀ (a b : List Rq) (ws hs : List Int), runReq ms who ws hs (a ++ b) =
    ((runReq ms who (runReq ms who ws hs a).1 (runReq ms who ws hs a).2.1 b).1, (runReq ms who (runReq ms who ws hs a).1 (runReq ms who ws hs a).2.1 b).2.1, (runReq ms who ws hs a).2.2 ++ (runReq ms who (runReq ms who ws hs a).1 (runReq ms who ws hs a).2.1 b).2.2)
  | [], b, ws, hs => by simp [runReq]
  | r :: a, b, ws, hs => by
    simp only [List.cons_append, runReq, run_app ms who a b]
theorem run_len (ms : List MR) (who : Int) : ∀ (a : List Rq) (ws hs : List Int), (runReq ms who ws hs a).2.2.length = a.length
  | [], ws, hs => by simp [runReq]
  | r :: a, ws, hs => by simp [runReq, run_len ms who a]
theorem run_ok {ms : List MR} {who : Int} (hw : inB who 0 2 = true) : ∀ (a : List Rq) (ws hs : List Int), atmOk ws hs = true → a.all reqOk = true → atmOk (runReq ms who ws hs a).1 (runReq ms who ws hs a).2.1 = true
  | [], ws, hs, h, _ => by simpa [runReq] using h
  | r :: a, ws, hs, h, hr => by
    simp only [List.all_cons, Bool.and_eq_true] at hr
    simp only [runReq]
    exact run_ok hw a _ _ (doReq_ok hw hr.1 h) hr.2
def runOk (ms : List MR) (ws hs : List Int) (who : Int) (rs : List Rq) : Bool := mapOk ms && atmOk ws hs && inB who 0 2 && decide (rs.length ≤ 12) && rs.all reqOk
def atmRun (ms : List MR) (ws hs : List Int) (who : Int) (rs : List Rq) : List Int × List Int × List Rs := if runOk ms ws hs who rs = true then runReq ms who ws hs rs else ([], [], [])
theorem runOk_parts {ms : List MR} {ws hs : List Int} {who : Int} {rs : List Rq} : runOk ms ws hs who rs = true ↔ mapOk ms = true ∧ atmOk ws hs = true ∧ inB who 0 2 = true ∧ rs.length ≤ 12 ∧ rs.all reqOk = true := by
  simp [runOk, and_assoc]
/-- One list behind the other. -/
theorem run_law {ms : List MR} {ws hs : List Int} {who : Int} {rs : List Rq} (h : runOk ms ws hs who rs = true) (k : Nat) :
    atmRun ms (atmRun ms ws hs who (rs.take k)).1 (atmRun ms ws hs who (rs.take k)).2.1 who (rs.drop k) = ((atmRun ms ws hs who rs).1, (atmRun ms ws hs who rs).2.1, (atmRun ms (atmRun ms ws hs who (rs.take k)).1 (atmRun ms ws hs who (rs.take k)).2.1 who (rs.drop k)).2.2) ∧
      (atmRun ms ws hs who (rs.take k)).2.2 ++ (atmRun ms (atmRun ms ws hs who (rs.take k)).1 (atmRun ms ws hs who (rs.take k)).2.1 who (rs.drop k)).2.2 = (atmRun ms ws hs who rs).2.2 ∧ (atmRun ms ws hs who rs).2.2.length = rs.length ∧ (atmRun ms ws hs who rs).2.1.length = 6 := by
  obtain ⟨h1, h2, h3, h4, h5⟩ := runOk_parts.1 h
  have ha : (rs.take k).all reqOk = true := by rw [List.all_eq_true] at *; exact fun x hx => h5 x (List.mem_of_mem_take hx)
  have hb : (rs.drop k).all reqOk = true := by rw [List.all_eq_true] at *; exact fun x hx => h5 x (List.mem_of_mem_drop hx)
  have k1 : runOk ms ws hs who (rs.take k) = true := runOk_parts.2 ⟨h1, h2, h3, by simp; omega, ha⟩
  have e1 : atmRun ms ws hs who (rs.take k) = runReq ms who ws hs (rs.take k) := if_pos k1
  have k2 : runOk ms (runReq ms who ws hs (rs.take k)).1 (runReq ms who ws hs (rs.take k)).2.1 who (rs.drop k) = true := runOk_parts.2 ⟨h1, run_ok h3 _ _ _ h2 ha, h3, by simp; omega, hb⟩
  have e2 : atmRun ms ws hs who rs = runReq ms who ws hs rs := if_pos h
  rw [e1, e2]
  have e3 : atmRun ms (runReq ms who ws hs (rs.take k)).1 (runReq ms who ws hs (rs.take k)).2.1 who (rs.drop k) = runReq ms who (runReq ms who ws hs (rs.take k)).1 (runReq ms who ws hs (rs.take k)).2.1 (rs.drop k) := if_pos k2
  rw [e3]
  have := run_app ms who (rs.take k) (rs.drop k) ws hs
  rw [List.take_append_drop] at this
  refine ⟨by rw [this], by rw [this], run_len .., ?_⟩
  exact (atmOk_parts (run_ok h3 rs _ _ h2 h5)).2.1

end Go.Proofs.Yteamebdehembgaa
