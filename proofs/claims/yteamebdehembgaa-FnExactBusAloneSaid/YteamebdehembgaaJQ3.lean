/-
  A bus' box; a slice of slices made; rows of what is asked, as they are read.
-/
import Derived.Test.YteamebdehembgaaJQ1
import Derived.Test.YteamebdehembgaaJAdr
import Derived.Test.YteamebdehembgaaKQ6
set_option linter.unusedVariables false
set_option linter.unusedSimpArgs false
namespace Go.Proofs.Yteamebdehembgaa
open Go.RowKit

theorem all_false_at {α : Type} {p : α → Bool} {xs : List α} {k : Nat} {d : α} (hk : k < xs.length) (h : p (xs.getD k d) = false) : xs.all p = false := by
  rw [List.all_eq_false]; exact ⟨xs.getD k d, getD_mem hk, by rw [h]; decide⟩
theorem all_true_of {α : Type} {p : α → Bool} {xs : List α} {d : α} (h : ∀ j, j < xs.length → p (xs.getD j d) = true) : xs.all p = true := by
  rw [List.all_eq_true]; intro x hx
  obtain ⟨i, hi, rfl⟩ := List.mem_iff_getElem.1 hx
  have := h i hi; simpa [List.getD, hi] using this

set_option maxRecDepth 4000 in
set_option maxHeartbeats 4000000 in
theorem l4Prog_any (u : Value) (p : List Rq) (B : Nat) (w : World) (hu : Reqs w B u p) (hB : B ≤ w.heap.size) :
    Calls Try.prog 63 #[u] w fun e w' => e = .returned (.bool (p.all reqOk)) ∧ Below w.heap.size w w' := by
  obtain ⟨ao, cap, rfl, hlc, hcap, hln, hni, hr⟩ := hu.opened
  clear hu
  go_enter Try.func63, Try.ntmps63
  go_wp2_with fail
  go_loopw [3] (fun i wr => ∃ k : Nat, k ≤ p.length ∧ i = .int .i64 k ∧ Below w.heap.size w wr ∧ ∀ j, j < k → reqOk (p.getD j default) = true) (fun i _ => p.length - (intOf i).toNat)
  case atStart => exact ⟨0, Nat.zero_le _, rfl, Below.refl _ _, by simp⟩
  case round =>
    obtain ⟨k, hk, rfl, hbl, hno⟩ := hrel
    have HN := hid hno; clear hno
    by_cases hlt : k < p.length
    · obtain ⟨b, off, rfl, hb, hc⟩ := hr (by omega)
      obtain ⟨da, dc, la, lc, hu, c0, c1, c2, c3, c4, c5, c6⟩ := hc k hlt
      obtain ⟨x, hx⟩ : ∃ x, x = p.getD k default := ⟨_, rfl⟩
      rw [← hx] at c0 c1 c2 c3 c4 c5 c6 hu
      rw [← hbl.cell (p := ⟨b, _, none⟩) (Nat.lt_of_lt_of_le hb hB)] at c0 c1 c2 c3 c4 c5 c6
      have HX := hid hx; have HU := hid (hu.below (hbl.mono hB)); clear hx hc hr hu
      have HBL := hid hbl; clear hbl
      go_wp2_with fail
      refine (specReqOk_any _ x B wr HU.out (Nat.le_trans hB HBL.out.size)).mono ?_
      rintro e w' ⟨rfl, hb'⟩
      have HB := hid (HBL.out.trans (hb'.mono HBL.out.size))
      clear hb'
      rcases hp : reqOk x with _ | _
      · have HQ := hid (all_false_at (d := default) hlt (show reqOk (p.getD k default) = false by rw [← HX.out]; exact hp))
        go_wp2_with fail
        go_ret
        exact ⟨by rw [HQ.out]; rfl, HB.out⟩
      · have HQ := hid (all_step HN.out (show reqOk (p.getD k default) = true by rw [← HX.out]; exact hp))
        go_wp2_with fail
        go_roundw
        case rel => exact ⟨k + 1, by omega, by go_num, HB.out, HQ.out⟩
        case measure => simp [intOf]; omega
    · have HF2 := hid (all_true_of (p := reqOk) (d := default) (xs := p) (fun j hj => HN.out j (by omega)))
      go_wp2_with fail
      go_ret
      exact ⟨by rw [HF2.out]; rfl, hbl⟩

set_option maxRecDepth 4000 in
set_option maxHeartbeats 8000000 in
theorem specBusOk_any (v : Value) (ms : List MR) (lat : List Int) (pss : List (List Rq)) (B : Nat) (w : World) (h : BusI w B v ms lat pss) (hB : B ≤ w.heap.size) :
    Calls Try.prog 12 #[v] w fun e w' => e = .returned (.bool (busOk ms lat pss)) ∧ Below w.heap.size w w' := by
  obtain ⟨mv, lv, pv, rfl, hm, hl, hp⟩ := h
  have HM := hid hm; have HL := hid hl; have HP := hid hp
  obtain ⟨ma, mc, rfl, _⟩ := hm.opened
  obtain ⟨la, lc, rfl, _⟩ := hl.opened
  obtain ⟨pa, pc, rfl, hpc, _, _, _, hr⟩ := hp.opened
  have HR := hid hr
  clear hm hl hp hr
  have HS := hid (fun T => show Bx (w.alloc (.cells #[.slice ma ms.length mc, .slice la lat.length lc, .slice pa pss.length pc] T)) w.heap.size [.slice ma ms.length mc, .slice la lat.length lc, .slice pa pss.length pc] from Bx.new w #[.slice ma ms.length mc, .slice la lat.length lc, .slice pa pss.length pc] T (by simp))
  have HB := hid (bx1 w)
  rcases busOk_cases ms lat pss with ⟨hy, h1⟩ | ⟨hy, h1, h2⟩ | ⟨hy, h1, h2, h3⟩ | ⟨hy, h1, h2, h3, h4⟩ | ⟨y, hy, h5, h1, h2, h3, h4⟩
  case inr.inr.inr.inr =>
    rw [hy]
    have HL2 := hid h3
    have q2 : ((lat.length : Int) != 4) = false := by simp; omega
    have q4 : ((pss.length : Int) != 3) = false := by simp; omega
    have H1 := hid h1
    have H5 := hid h5; have H4 := hid h4
    clear h1 h2 h3 h5 hy
    rw [h4] at hpc HS HR ⊢
    clear h4 q4
    go_enter Try.func12, Try.ntmps12
    go_wp2_with (first
      | (go_at_call 61; refine (specMapOk_any _ ms B _ (HM.out.below ((HB.out _).mono hB)) (Nat.le_trans hB (HB.out _).size)).mono ?_; rw [H1.out]; rintro e w1 ⟨rfl, hb⟩; have HS1 := hid ((HS.out _).below hb (by simp)); obtain ⟨⟨c0, c1, c2⟩, _⟩ := HS1.out.three; have HB1 := hid ((HB.out _).trans (hb.mono (by simp))); have hz1 : w.heap.size < w1.heap.size := HS1.out.lt; clear hb)
      | (go_at_call 62; refine (l3All_any _ lat 0 3 B _ (HL.out.below (HB1.out.mono hB))).mono ?_; rw [HL2.out]; rintro e w2 ⟨rfl, hw⟩; subst hw))
    go_loopw [3] (fun i wr => ∃ k : Nat, k ≤ 3 ∧ i = .int .i64 k ∧ Below w.heap.size w wr ∧ Bx wr w.heap.size [.slice ma ms.length mc, .slice la lat.length lc, .slice pa 3 pc] ∧ ∀ j, j < k → progOk (pss.getD j []) = true) (fun i _ => 3 - (intOf i).toNat)
    case atStart => exact ⟨0, Nat.zero_le _, rfl, HB1.out, HS1.out, by simp⟩
    case round =>
      clear c0 c1 c2 hz1
      obtain ⟨k, hk, rfl, hbl, hbx, hno⟩ := hrel
      have HN := hid hno; have HBL := hid hbl; have HBX := hid hbx; clear hno hbl hbx
      by_cases hlt : k < 3
      · obtain ⟨b, off, rfl, hb, hc⟩ := HR.out (by omega)
        obtain ⟨da, dc, hu, c0⟩ := hc k hlt
        obtain ⟨x, hx⟩ : ∃ x, x = pss.getD k [] := ⟨_, rfl⟩
        rw [← hx] at c0 hu
        rw [← HBL.out.cell (p := ⟨b, _, none⟩) (Nat.lt_of_lt_of_le hb hB)] at c0
        have HX := hid hx; have HU := hid (hu.below (HBL.out.mono hB)); clear hx hc hu
        obtain ⟨⟨s0, s1, s2⟩, _⟩ := HBX.out.three
        have hd := hid (show progOk x = (decide (x.length ≤ 12) && x.all reqOk) from rfl)
        by_cases h12 : (12 : Int) < (x.length : Int)
        · have hxf : progOk x = false := by rw [hd.out, decide_eq_false (by omega)]; rfl
          have HQ := hid (all_false_at (d := []) (show k < pss.length by rw [H4.out]; exact hlt) (show progOk (pss.getD k []) = false by rw [← HX.out]; exact hxf))
          clear hxf
          go_wp2_with fail
          go_ret
          exact ⟨by rw [← H5.out, HQ.out]; rfl, HBL.out⟩
        · have hxf : progOk x = x.all reqOk := by rw [hd.out, decide_eq_true (by omega)]; rfl
          have h12' : decide ((12 : Int) < (x.length : Int)) = false := decide_eq_false h12
          rcases hq : x.all reqOk with _ | _
          · have HQ := hid (all_false_at (d := []) (show k < pss.length by rw [H4.out]; exact hlt) (show progOk (pss.getD k []) = false by rw [← HX.out, hxf]; exact hq))
            have HE := hid hq
            clear hxf hq
            go_wp2_with (first
              | (go_at_call 63; refine (l4Prog_any _ x B _ HU.out (Nat.le_trans hB HBL.out.size)).mono ?_; rw [HE.out]; rintro e w3 ⟨rfl, hb'⟩; have HB3 := hid (HBL.out.trans (hb'.mono HBL.out.size)); clear hb'))
            go_ret
            exact ⟨by rw [← H5.out, HQ.out]; rfl, HB3.out⟩
          · have HQ := hid (all_step HN.out (show progOk (pss.getD k []) = true by rw [← HX.out, hxf]; exact hq))
            have HE := hid hq
            clear hxf hq
            go_wp2_with (first
              | (go_at_call 63; refine (l4Prog_any _ x B _ HU.out (Nat.le_trans hB HBL.out.size)).mono ?_; rw [HE.out]; rintro e w3 ⟨rfl, hb'⟩; have HB3 := hid (HBL.out.trans (hb'.mono HBL.out.size)); have HX3 := hid (HBX.out.below hb' HBX.out.lt); clear hb'))
            go_roundw
            case rel => exact ⟨k + 1, by omega, by go_num, HB3.out, HX3.out, HQ.out⟩
            case measure => simp [intOf]; omega
      · have HF2 := hid (all_true_of (p := progOk) (d := []) (xs := pss) (fun j hj => HN.out j (by rw [H4.out] at hj; omega)))
        go_wp2_with fail
        go_ret
        exact ⟨by rw [← H5.out, HF2.out]; rfl, HBL.out⟩
  case inl =>
    rw [hy]
    have H1 := hid h1
    clear h1 hy
    go_enter Try.func12, Try.ntmps12
    go_wp2_with (first
      | (go_at_call 61; refine (specMapOk_any _ ms B _ (HM.out.below ((HB.out _).mono hB)) (Nat.le_trans hB (HB.out _).size)).mono ?_; rw [H1.out]; rintro e w1 ⟨rfl, hb⟩; have HS1 := hid ((HS.out _).below hb (by simp)); obtain ⟨⟨c0, c1, c2⟩, _⟩ := HS1.out.three; have HB1 := hid ((HB.out _).trans (hb.mono (by simp))); have hz1 : w.heap.size < w1.heap.size := HS1.out.lt; clear hb))
    go_ret
    exact ⟨rfl, HB1.out⟩
  case inr.inl =>
    rw [hy]
    have H1 := hid h1
    have q2 : ((lat.length : Int) != 4) = true := by simp; omega
    clear h1 h2 hy
    go_enter Try.func12, Try.ntmps12
    go_wp2_with (first
      | (go_at_call 61; refine (specMapOk_any _ ms B _ (HM.out.below ((HB.out _).mono hB)) (Nat.le_trans hB (HB.out _).size)).mono ?_; rw [H1.out]; rintro e w1 ⟨rfl, hb⟩; have HS1 := hid ((HS.out _).below hb (by simp)); obtain ⟨⟨c0, c1, c2⟩, _⟩ := HS1.out.three; have HB1 := hid ((HB.out _).trans (hb.mono (by simp))); have hz1 : w.heap.size < w1.heap.size := HS1.out.lt; clear hb))
    go_ret
    exact ⟨rfl, HB1.out⟩
  case inr.inr.inl =>
    rw [hy]
    have H1 := hid h1
    have HL2 := hid h3
    have q2 : ((lat.length : Int) != 4) = false := by simp; omega
    clear h1 h2 h3 hy
    go_enter Try.func12, Try.ntmps12
    go_wp2_with (first
      | (go_at_call 61; refine (specMapOk_any _ ms B _ (HM.out.below ((HB.out _).mono hB)) (Nat.le_trans hB (HB.out _).size)).mono ?_; rw [H1.out]; rintro e w1 ⟨rfl, hb⟩; have HS1 := hid ((HS.out _).below hb (by simp)); obtain ⟨⟨c0, c1, c2⟩, _⟩ := HS1.out.three; have HB1 := hid ((HB.out _).trans (hb.mono (by simp))); have hz1 : w.heap.size < w1.heap.size := HS1.out.lt; clear hb)
      | (go_at_call 62; refine (l3All_any _ lat 0 3 B _ (HL.out.below (HB1.out.mono hB))).mono ?_; rw [HL2.out]; rintro e w2 ⟨rfl, hw⟩; subst hw))
    go_ret
    exact ⟨rfl, HB1.out⟩
  case inr.inr.inr.inl =>
    rw [hy]
    have H1 := hid h1
    have HL2 := hid h3
    have q2 : ((lat.length : Int) != 4) = false := by simp; omega
    have q4 : ((pss.length : Int) != 3) = true := by simp; omega
    clear h1 h2 h3 h4 hy
    go_enter Try.func12, Try.ntmps12
    go_wp2_with (first
      | (go_at_call 61; refine (specMapOk_any _ ms B _ (HM.out.below ((HB.out _).mono hB)) (Nat.le_trans hB (HB.out _).size)).mono ?_; rw [H1.out]; rintro e w1 ⟨rfl, hb⟩; have HS1 := hid ((HS.out _).below hb (by simp)); obtain ⟨⟨c0, c1, c2⟩, _⟩ := HS1.out.three; have HB1 := hid ((HB.out _).trans (hb.mono (by simp))); have hz1 : w.heap.size < w1.heap.size := HS1.out.lt; clear hb)
      | (go_at_call 62; refine (l3All_any _ lat 0 3 B _ (HL.out.below (HB1.out.mono hB))).mono ?_; rw [HL2.out]; rintro e w2 ⟨rfl, hw⟩; subst hw))
    go_ret
    exact ⟨rfl, HB1.out⟩

end Go.Proofs.Yteamebdehembgaa

namespace Go.Proofs.Yteamebdehembgaa
open Go.RowKit

theorem elem_MapRange : Elem 23 101 4 32 := elem_of Try.underlying23 (z := (.agg #[.int .i64 0, .int .i64 0, .int .i64 0, .bool false])) (by kernel_rfl) rfl (by omega)

set_option maxHeartbeats 1000000 in
theorem sClone_MapRange {α : Type} (f : α → List Value) (hf : ∀ x, (f x).length = 4) (h1 : ∀ x, ∀ u ∈ f x, u.oneCell' = true) (v : Value) (ys : List α) (B : Nat) (w : World) (ha : Arr w B 4 v (ys.map f)) (hlen : ys.length * 32 ≤ 140737488355328) :
    Calls Try.prog 160 #[v] w (CloneP f 101 4 ys w) := by
  have ha0 := hid ha
  obtain ⟨ao, cap, rfl, g1, g2, g0, g9, g3⟩ := ha
  simp only [List.length_map] at g1 g2 g0 ⊢
  clear g3
  cases ao with
  | none =>
    obtain rfl := g9 rfl
    have hy : ys = [] := by
      rcases ys with _ | ⟨y, ys⟩
      · rfl
      · simp at g1
    subst hy
    have he := fun w => Lib.run_eql_slice_nil (P := Try.prog) w 23 101 none 0 0 0 0 Try.underlying23
    go_enter Try.func160, Try.ntmps160
    go_wp2_with fail
    go_ret
    exact ⟨_, rfl, Owns.zero, Below.refl _ _⟩
  | some ad =>
    have he := fun w => Lib.run_eql_slice_nil (P := Try.prog) w 23 101 (some ad) ys.length cap 0 0 Try.underlying23
    clear g9
    go_enter Try.func160, Try.ntmps160
    go_wp2_with (at_builtin; go_must (refine wpList_cat elem_MapRange f hf h1 _ rfl _ _ rfl w.heap.size _ [] (by rfl) (Owns.lit (Nat.le_refl _)) _ ys (min B w.heap.size) (by rfl) (by have := (ha0.out).fit (by omega) (by intro r hr; obtain ⟨y, _, rfl⟩ := List.mem_map.1 hr; exact hf y); simp only [List.length_map] at this; exact this.below ((Below.refl _ _).alloc (Nat.min_le_right _ _) _)) (by simpa using hlen) (by simp; omega) (by simp) ?_); intro v' w1 hown1 hb1 _)
    go_ret
    exact ⟨v', rfl, by simpa using hown1, ((Below.refl _ _).alloc (Nat.le_refl _) _).trans hb1⟩

set_option maxHeartbeats 1000000 in
theorem sClip_MapRange (a : Option Addr) (n c : Nat) (w : World) (hc : n ≤ c) (hm : c ≤ 9223372036854775807) : Calls Try.prog 159 #[.slice a n c] w fun e w' => e = .returned (.slice a n n) ∧ w = w' := by
  go_enter Try.func159, Try.ntmps159
  go_wp2_with fail
  go_ret
  exact ⟨rfl, rfl⟩

set_option maxHeartbeats 1000000 in
theorem clone_MapRange {α : Type} (f : α → List Value) (hf : ∀ x, (f x).length = 4) (h1 : ∀ x, ∀ u ∈ f x, u.oneCell' = true) (v : Value) (ys : List α) (B : Nat) (w : World) (ha : Arr w B 4 v (ys.map f)) (hlen : ys.length * 32 ≤ 140737488355328) :
    Calls Try.prog 118 #[v] w (CloneP f 101 4 ys w) := by
  go_enter Try.func118, Try.ntmps118
  go_wp2_with fail
  refine (sClone_MapRange f hf h1 v ys B w ha hlen).mono ?_
  rintro e w1 ⟨u, rfl, hown, hb⟩
  obtain ⟨a, c, rfl, hc1, hc2⟩ := hown.shape
  go_wp2_with fail
  refine (sClip_MapRange a ys.length c _ hc1 hc2).mono ?_
  rintro e w2 ⟨rfl, rfl⟩
  go_wp2_with fail
  go_ret
  exact ⟨_, rfl, hown.clip, hb⟩

end Go.Proofs.Yteamebdehembgaa

namespace Go.Proofs.Yteamebdehembgaa
open Go.RowKit

def row1 (u : Value) : List Value := [u]
theorem row1_len (u : Value) : (row1 u).length = 1 := rfl
theorem infoPQ : (Try.prog.info? 34).map (fun i => (i.zero, i.size, i.bytes)) = some (some (.slice none 0 0), 1, 24) := by kernel_rfl

def BoxB (w : World) (s : Nat) (a b p : Value) : Prop := w.heap[s]? = some (.cells #[a, b, p] 27 (0, 0))
theorem BoxB.lt {w : World} {s : Nat} {a b p : Value} (h : BoxB w s a b p) : s < w.heap.size := heap_lt h
theorem BoxB.keep {w w' : World} {s : Nat} {a b p : Value} (h : BoxB w s a b p) (e : w'.heap[s]? = w.heap[s]?) : BoxB w' s a b p := by unfold BoxB at h ⊢; rw [e]; exact h
theorem BoxB.touch {w w' : World} {s x : Nat} {a b p : Value} (h : BoxB w s a b p) (ht : Touch x w w') (hx : s ≠ x) : BoxB w' s a b p := h.keep (ht.block s h.lt hx)
theorem BoxB.below {w w' : World} {s C : Nat} {a b p : Value} (h : BoxB w s a b p) (hb : Below C w w') (hx : s < C) : BoxB w' s a b p := h.keep (hb.block s hx)
theorem BoxB.bx {w : World} {s : Nat} {a b p : Value} (h : BoxB w s a b p) : Bx w s [a, b, p] := by
  unfold BoxB at h
  exact ⟨fun j hj => by simp [World.cell?, h], fun j hj => by simp [World.frozen?, h], by simp⟩
theorem BoxB.put {w : World} {s : Nat} {a b p : Value} (h : BoxB w s a b p) (a' b' p' : Value) : BoxB (((w.setCell ⟨s, 0, none⟩ a').setCell ⟨s, 1, none⟩ b').setCell ⟨s, 2, none⟩ p') s a' b' p' := by
  unfold BoxB at h ⊢; simp [World.setCell, Array.getElem?_modify, h]
theorem BoxB.new (w : World) (a b p : Value) : BoxB (w.alloc (.cells #[a, b, p] 27)) w.heap.size a b p := by
  show (w.heap.push _)[w.heap.size]? = _; simp
theorem touchB (s : Nat) (w : World) (a b p : Value) : Touch s w (((w.setCell ⟨s, 0, none⟩ a).setCell ⟨s, 1, none⟩ b).setCell ⟨s, 2, none⟩ p) := ((Touch.setCell _ _ _ _).trans (Touch.setCell _ _ _ _)).trans (Touch.setCell _ _ _ _)
/-- What is owned lies in no block of another type. -/
theorem Owns.notB {α : Type} {f : α → List Value} {w : World} {base e sz g T : Nat} {v : Value} {xs : List α} {cs : Array Value} (h : Owns w base e sz f v xs) (hg : w.heap[g]? = some (.cells cs T (0, 0))) (hT : T ≠ e) : v.ownBlock ≠ some g := by
  intro hk
  obtain ⟨_, h2⟩ := h
  rcases h2 with ⟨rfl, _⟩ | ⟨g', off, cap, cur, rfl, _, hh, _⟩
  · simp [Value.ownBlock] at hk
  · simp [Value.ownBlock] at hk
    subst hk
    rw [hh] at hg
    simp only [Option.some.injEq, Obj.cells.injEq] at hg
    exact hT hg.2.1.symm
theorem Owns.tchB {α : Type} {w w' : World} {base e sz g : Nat} {f : α → List Value} {v : Value} {xs : List α} (h : Owns w base e sz f v xs) (ht : Touch g w w') (hg : v.ownBlock ≠ some g) : Owns w' base e sz f v xs :=
  OwnR.kept h fun k hk => ht.block k (OwnR.lt h k hk).2 (fun e => hg (by rw [hk, e]))
theorem Owns.boxB {α : Type} {f : α → List Value} {w w' : World} {base e sz g : Nat} {v a b p : Value} {xs : List α} (h : Owns w base e sz f v xs) (hB : BoxB w g a b p) (hT : 27 ≠ e) (ht : Touch g w w') : Owns w' base e sz f v xs := h.tchB ht (h.notB hB hT)
/-- Lists of different types share no block. -/
theorem Owns.apartT {α β : Type} {f : α → List Value} {f2 : β → List Value} {w : World} {base base2 e e2 sz sz2 : Nat} {v u : Value} {xs : List α} {ys : List β} (h : Owns w base e sz f v xs) (h2 : Owns w base2 e2 sz2 f2 u ys) (hT : e ≠ e2) : Apart v u := by
  intro k hk
  obtain ⟨_, h3⟩ := h
  rcases h3 with ⟨rfl, _⟩ | ⟨g', off, cap, cur, rfl, _, hh, _⟩
  · simp [Value.ownBlock] at hk
  · simp [Value.ownBlock] at hk
    subst hk
    exact h2.notB hh hT

theorem opWp_mk {α : Type} {o : Oper} {a : Act} {K : Act → World → Prop} {Q : Exit → Act → World → Prop} {T e sz by_ : Nat} (f : α → List Value) (x : α) (z : Value) (hT : Try.prog.underlying T = some (.slice e)) (hi : (Try.prog.info? e).map (fun i => (i.zero, i.size, i.bytes)) = some (some z, sz, by_))
    (hz : z.cells.size = sz) (hs : 0 < sz) (hf : f x = z.cells.toList) (w : World) (l c : Operand) (hop : o.op = Op.makeSlice T l c) (kl kc : IntKind) (L C : Int) (n : Nat) (hl : a.eval l = .int kl L) (hc : a.eval c = .int kc C) (hL : L = (n : Int)) (hC : C = (n : Int))
    (b2 : by_ * n ≤ 281474976710656) (b3 : n ≤ maxLen)
    (hK : ∀ w', Owns w' w.heap.size e sz f (.slice (some ⟨w.heap.size, 0, none⟩) n n) (List.replicate n x) → Below w.heap.size w w' → K (a.put o.dst (.slice (some ⟨w.heap.size, 0, none⟩) n n)) w') :
    o.wp Try.prog a w K Q := by
  obtain ⟨i, h1, h2, h3, h4⟩ := info_parts hi
  obtain ⟨w', hrun, r1, r2⟩ := run_make_full (P := Try.prog) w w.heap.size T e i z sz hT h1 h2 h3 kl kc n (by rw [h4]; exact b2) b3 (Nat.le_refl _)
  have hr : (madeCells z.cells (n * sz)).toList = (List.replicate n x).flatMap f := by rw [← hz]; exact madeCells_rows f x z.cells (by omega) hf n
  rw [hr] at r1
  have hO : Owns w' w.heap.size e sz f (.slice (some ⟨w.heap.size, 0, none⟩) n n) (List.replicate n x) := by
    unfold Owns; rw [List.length_replicate]; exact OwnR.of_row r1
  subst hL
  subst hC
  unfold Oper.wp
  simp [execOp, hop, hl, hc, hrun, Result.andThen]
  exact hK w' hO ((Below.refl _ _).grown r2 (Nat.le_refl _) (by simp))

abbrev SlV := Option Addr × Nat × Nat
def slv (s : SlV) : Value := .slice s.1 s.2.1 s.2.2
abbrev RqS := Rq × SlV × SlV
def rowS7 (y : RqS) : List Value := rowQ (y.1, slv y.2.1, slv y.2.2)
theorem rowS7_len (y : RqS) : (rowS7 y).length = 7 := rfl
theorem rowS7_one (y : RqS) : ∀ u ∈ rowS7 y, u.oneCell' = true := by
  intro u hu
  simp only [rowS7, rowQ, List.mem_cons, List.not_mem_nil, or_false] at hu
  rcases hu with rfl | rfl | rfl | rfl | rfl | rfl | rfl <;> rfl
theorem list_choose {α : Type} [Inhabited α] (n : Nat) (P : Nat → α → Prop) (h : ∀ j, j < n → ∃ y, P j y) : ∃ ys : List α, ys.length = n ∧ ∀ j, j < n → P j (ys.getD j default) := by
  induction n with
  | zero => exact ⟨[], rfl, fun j hj => absurd hj (by omega)⟩
  | succ n ih =>
    obtain ⟨ys, hl, hp⟩ := ih fun j hj => h j (by omega)
    obtain ⟨y, hy⟩ := h n (by omega)
    refine ⟨ys ++ [y], by simp [hl], fun j hj => ?_⟩
    by_cases e : j < n
    · rw [getD_snoc_lt (by omega)]; exact hp j e
    · obtain rfl : j = n := by omega
      rw [← hl, getD_snoc_eq]; rw [hl]; exact hy
/-- The rows of what is asked. -/
theorem Reqs.rowsS {w : World} {B : Nat} {v : Value} {qs : List Rq} (h : Reqs w B v qs) : ∃ ys : List RqS, ys.length = qs.length ∧ Arr w B 7 v (ys.map rowS7) ∧ ∀ j, j < qs.length → (ys.getD j default).1 = qs.getD j default ∧ Ints w B (slv (ys.getD j default).2.1) (qs.getD j default).data ∧ Ints w B (slv (ys.getD j default).2.2) (qs.getD j default).lanes ∧ I64 (qs.getD j default).id ∧ I64 (qs.getD j default).kind ∧ I64 (qs.getD j default).addr ∧ I64 (qs.getD j default).many := by
  obtain ⟨vs, h1, h2, h3⟩ := h
  have key : ∀ j, j < qs.length → ∃ y : RqS, (vs.getD j undef).cells.toList = rowS7 y ∧ y.1 = qs.getD j default ∧ Ints w B (slv y.2.1) (qs.getD j default).data ∧ Ints w B (slv y.2.2) (qs.getD j default).lanes ∧ I64 (qs.getD j default).id ∧ I64 (qs.getD j default).kind ∧ I64 (qs.getD j default).addr ∧ I64 (qs.getD j default).many := fun j hj => by
    obtain ⟨dv, lv, e, k1, k2, k3⟩ := h3 j hj default
    obtain ⟨da, dc, rfl, _⟩ := k1.opened
    obtain ⟨la, lc, rfl, _⟩ := k2.opened
    exact ⟨(qs.getD j default, (da, _, dc), (la, _, lc)), by rw [e]; rfl, rfl, k1, k2, k3⟩
  obtain ⟨ys, hl, hp⟩ := list_choose qs.length _ key
  refine ⟨ys, hl, ?_, fun j hj => (hp j hj).2⟩
  have e : vs.map (fun u => u.cells.toList) = ys.map rowS7 := by
    apply List.ext_getElem
    · simp [h2, hl]
    · intro i g1 g2
      simp only [List.length_map] at g1 g2
      have := (hp i (by omega)).1
      simp only [List.getElem_map]
      simpa [List.getD, g1, g2] using this
  rw [← e]; exact h1
/-- Rows that are slices are rows. -/
def toV (y : RqS) : RqV := (y.1, slv y.2.1, slv y.2.2)
theorem flat_toV (ys : List RqS) : ys.flatMap rowS7 = (ys.map toV).flatMap rowQ := by rw [List.flatMap_map]; rfl
theorem Owns.toV {w : World} {base e : Nat} {v : Value} {ys : List RqS} (h : Owns w base e 7 rowS7 v ys) : Owns w base e 7 rowQ v (ys.map toV) := by
  unfold Owns at h ⊢
  rw [List.length_map, ← flat_toV]; exact h

end Go.Proofs.Yteamebdehembgaa
