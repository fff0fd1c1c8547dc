/-
  The exact laws' helpers: what each asks, and a bus: the same is the same.
-/
import Derived.Test.YteamebdehembgaaKQ26
import Derived.Test.YteamebdehembgaaJQ12
import Derived.Test.YteamebdehembgaaJQ23
import Derived.Test.YteamebdehembgaaJQ1
import Derived.Test.YteamebdehembgaaJXs
import Derived.Test.YteamebdehembgaaJXt
set_option linter.unusedVariables false
set_option linter.unusedSimpArgs false
namespace Go.Proofs.Yteamebdehembgaa
open Go.RowKit

theorem Reqs.fits {w : World} {B : Nat} {v : Value} {rs : List Rq} (h : Reqs w B v rs) : ∀ q ∈ rs, (∀ y ∈ q.data, I64 y) ∧ (∀ y ∈ q.lanes, I64 y) ∧ I64 q.id ∧ I64 q.kind ∧ I64 q.addr ∧ I64 q.many := by
  obtain ⟨vs, h1, h2, h3⟩ := h
  intro q hq
  obtain ⟨j, hj, rfl⟩ := List.mem_iff_getElem.1 hq
  obtain ⟨dv, lv, _, k1, k2, k3⟩ := h3 j hj default
  have e : rs.getD j default = rs[j] := by simp [List.getD, hj]
  rw [e] at k1 k2 k3
  exact ⟨k1.2, k2.2, k3⟩
theorem BusI.fit {w : World} {B : Nat} {v : Value} {ms : List MR} {lat : List Int} {pss : List (List Rq)} (h : BusI w B v ms lat pss) (ht : tB ms lat pss ≤ 1048576) : BFit ms lat pss := by
  obtain ⟨mv, lv, pv, rfl, hm, hl, hp⟩ := h
  simp only [tB, tP] at ht
  have h20 := Ps20.of (pss := pss) (by omega)
  refine ⟨by omega, hm.2, by omega, hl.2, by omega, fun p hp2 => ⟨(h20 p hp2).1, fun q hq => ⟨(h20 p hp2).2 q hq, ?_⟩⟩⟩
  obtain ⟨us, _, _, h3⟩ := hp
  obtain ⟨j, hj, rfl⟩ := List.mem_iff_getElem.1 hp2
  have := h3 j hj []
  rw [show pss.getD j [] = pss[j] by simp [List.getD, hj]] at this
  exact this.fits q hq
theorem BusI.shapes {w : World} {B : Nat} {a b p : Value} {ms : List MR} {lat : List Int} {pss : List (List Rq)} (h : BusI w B (.agg #[a, b, p]) ms lat pss) : (∃ x y, a = .slice x ms.length y) ∧ (∃ x y, b = .slice x lat.length y) ∧ ∃ x y, p = .slice x pss.length y := by
  obtain ⟨mv, lv, pv, e, hm, hl, hp⟩ := h
  simp only [Value.agg.injEq, Array.mk.injEq, List.cons.injEq, and_true] at e
  obtain ⟨rfl, rfl, rfl⟩ := e
  obtain ⟨ma, mc, rfl, _⟩ := hm.opened
  obtain ⟨la, lc, rfl, _⟩ := hl.opened
  obtain ⟨pa, pc, rfl, _⟩ := hp.opened
  exact ⟨⟨_, _, rfl⟩, ⟨_, _, rfl⟩, _, _, rfl⟩
theorem marks_big {m n : Nat} (h : m + n ≤ 1152921504606846976) : ∀ x ∈ marks m n, I64 x := by
  intro x hx
  simp only [marks, List.mem_map, List.mem_range] at hx
  obtain ⟨j, hj, rfl⟩ := hx
  unfold I64; omega
theorem markG_mem {α : Type} {f : Nat → α → α} {wt : α → Nat} {m : Nat} {xs : List α} {x : α} (d : α) (h : x ∈ markG f wt m xs) : ∃ j, j < xs.length ∧ x = f (m + sumG wt (xs.take j)) (xs.getD j d) ∧ sumG wt (xs.take j) + wt (xs.getD j d) ≤ sumG wt xs := by
  obtain ⟨j, hj, rfl⟩ := List.mem_iff_getElem.1 h
  have hj2 : j < xs.length := by rwa [markG_len] at hj
  refine ⟨j, hj2, ?_, ?_⟩
  · rw [← markG_get f wt m hj2 d]; simp [List.getD, hj]
  · rw [← sumG_snoc wt hj2 d]; exact sumG_take_le ..
theorem BFit.marked {ms : List MR} {lat : List Int} {pss : List (List Rq)} (h : BFit ms lat pss) {m : Nat} (hm : m + wB ms lat pss ≤ 1152921504606846976) : BFit (markM m ms) (marks (m + 4 * ms.length) lat.length) (markPs (m + 4 * ms.length + lat.length) pss) := by
  have hw : wB ms lat pss = 4 * ms.length + lat.length + sumG wP pss := rfl
  refine ⟨?_, fun r hr => ?_, by rw [marks_len]; exact h.l, marks_big (by omega), by rw [markPs_len]; exact h.p, fun p hp => ?_⟩
  · unfold markM; rw [markG_len]; exact h.m
  · obtain ⟨j, hj, rfl, h2⟩ := markG_mem default hr
    have h3 := sum4 ms
    try simp only at h2
    simp only [MR64, mk1M, I64]
    omega
  · obtain ⟨j, hj, rfl, h2⟩ := markG_mem [] hp
    obtain ⟨q1, q2⟩ := h.q _ (getD_mem (d := []) hj)
    refine ⟨by rw [markQ_len]; exact q1, fun q hq => ?_⟩
    obtain ⟨i, hi, rfl, h3⟩ := markG_mem default hq
    obtain ⟨⟨k1, k2⟩, _⟩ := q2 _ (getD_mem (d := default) hi)
    have e2 : wP (pss.getD j []) = sumG wQ (pss.getD j []) := rfl
    have e3 : ∀ r : Rq, wQ r = 5 + r.data.length + r.lanes.length := fun _ => rfl
    rw [e3] at h3
    rw [e2] at h2
    refine ⟨⟨by simp only [mk1Q, marks_len]; exact k1, by simp only [mk1Q, marks_len]; exact k2⟩, ?_, ?_, ?_, ?_, ?_, ?_⟩
    · exact marks_big (by omega)
    · exact marks_big (by omega)
    all_goals (simp only [mk1Q, I64]; omega)
/-- What BusAlone tells. -/
def rB (ms : List MR) (lat : List Int) (pss : List (List Rq)) (who : Int) : List MR × List Int × List (List Rq) := if busOk ms lat pss && inB who 0 2 then (ms, lat, aloneK pss who pss.length) else ([], [], [])
theorem rB_fit {ms : List MR} {lat : List Int} {pss : List (List Rq)} (h : BFit ms lat pss) (who : Int) : BFit (rB ms lat pss who).1 (rB ms lat pss who).2.1 (rB ms lat pss who).2.2 := by
  unfold rB
  split
  · exact h.alone who _
  · exact BFit.nil
theorem sumG_alone (pss : List (List Rq)) (who : Int) (k : Nat) (wt : List Rq → Nat) (h0 : wt [] = 0) : sumG wt (aloneK pss who k) ≤ sumG wt pss := by
  have : ∀ n, n ≤ pss.length → sumG wt ((aloneK pss who k).take n) ≤ sumG wt (pss.take n) := by
    intro n
    induction n with
    | zero => intro _; simp [sumG]
    | succ n ih =>
      intro hn
      rw [sumG_snoc wt (by rw [aloneK_len]; omega) [], sumG_snoc wt (show n < pss.length by omega) [], aloneK_get (by omega)]
      have := ih (by omega)
      split
      · rw [h0]; omega
      · omega
  have := this pss.length (Nat.le_refl _)
  rwa [List.take_length, show pss.length = (aloneK pss who k).length from (aloneK_len ..).symm, List.take_length] at this
theorem rB_w {ms : List MR} {lat : List Int} {pss : List (List Rq)} (who : Int) : wB (rB ms lat pss who).1 (rB ms lat pss who).2.1 (rB ms lat pss who).2.2 ≤ wB ms lat pss := by
  unfold rB
  split
  · have := sumG_alone pss who pss.length wP (by simp [wP, sumG])
    simp only [wB]; omega
  · simp [wB, sumG]
theorem specAlone2 (v : Value) (ms : List MR) (lat : List Int) (pss : List (List Rq)) (who : Int) (B : Nat) (w : World) (h : BusI w B v ms lat pss) (hB : B ≤ w.heap.size) (hf : BFit ms lat pss) :
    Calls Try.prog 11 #[v, .int .i64 who] w fun e w' => ∃ a b p, e = .returned (.agg #[a, b, p]) ∧ BusI w' w'.heap.size (.agg #[a, b, p]) (rB ms lat pss who).1 (rB ms lat pss who).2.1 (rB ms lat pss who).2.2 ∧ Below w.heap.size w w' := by
  refine (specBusAlone_any v ms lat pss who B w h hB hf).mono ?_
  rintro e w' (⟨⟨h1, h2⟩, a, b, p, rfl, h3, h4⟩ | ⟨h1, rfl, h4⟩)
  · have e : rB ms lat pss who = (ms, lat, aloneK pss who pss.length) := by simp [rB, h1, h2]
    rw [e]; exact ⟨_, _, _, rfl, h3, h4⟩
  · have e : rB ms lat pss who = ([], [], []) := by rw [rB, h1]; rfl
    rw [e]; exact ⟨_, _, _, rfl, (BsO.nil w' w'.heap.size).busI BFit.nil, h4⟩
theorem implAlone2 (v : Value) (ms : List MR) (lat : List Int) (pss : List (List Rq)) (who : Int) (B : Nat) (w : World) (h : BusI w B v ms lat pss) (hB : B ≤ w.heap.size) (hf : BFit ms lat pss) :
    Calls Try.prog 9 #[v, .int .i64 who] w fun e w' => ∃ a b p mid, e = .returned (.agg #[a, b, p]) ∧ BsO w' w.heap.size mid w'.heap.size a b p (rB ms lat pss who).1 (rB ms lat pss who).2.1 (rB ms lat pss who).2.2 ∧ Below w.heap.size w w' := by
  refine (implBusAlone_any v ms lat pss who B w h hB hf.m hf.l hf.p (fun p hp => ⟨(hf.q p hp).1, fun q hq => ((hf.q p hp).2 q hq).1⟩)).mono ?_
  rintro e w' (⟨⟨h1, h2⟩, a, b, pb, us, L, rfl, oa, ob, ps, ⟨la, lb⟩, h4⟩ | ⟨h1, rfl, h4⟩)
  · have e : rB ms lat pss who = (ms, lat, aloneK pss who pss.length) := by simp [rB, h1, h2]
    rw [e]
    have hl := aloneK_len pss who pss.length
    have htop := ps.top
    have hle := ps.le0 (aloneK pss who pss.length).length (Nat.le_refl _)
    refine ⟨_, _, _, L 0, rfl, ⟨oa, ob, la, lb, by omega, .inr ⟨pb, us, L, by rw [hl], by rw [hl]; exact ps, ps.pbl, Nat.le_refl _, htop⟩⟩, h4⟩
  · have e : rB ms lat pss who = ([], [], []) := by rw [rB, h1]; rfl
    have hn := BsO.nil w' w.heap.size
    rw [e]
    exact ⟨_, _, _, w.heap.size, rfl, { hn with mh := h4.size, ps := .inl ⟨rfl, rfl⟩ }, h4⟩

end Go.Proofs.Yteamebdehembgaa

namespace Go.Proofs.Yteamebdehembgaa
open Go.RowKit

set_option maxRecDepth 8000 in
set_option maxHeartbeats 8000000 in
theorem eqProgs_same (xs : List (List Rq)) (v u : Value) (B : Nat) (w : World) (hv : Progs w B v xs) (hu : Progs w B u xs) (hB : B ≤ w.heap.size) :
    Calls Try.prog 93 #[v, u] w fun e w' => e = .returned (.bool true) ∧ Below w.heap.size w w' := by
  obtain ⟨ao, cap, rfl, hlc, hcap, hln, hni, hr⟩ := hv.opened
  obtain ⟨bo, cbp, rfl, hlc2, hcap2, hln2, hni2, hr2⟩ := hu.opened
  clear hv hu
  go_enter Try.func93, Try.ntmps93
  go_wp2_with fail
  go_loopw [5] (fun i wr => ∃ k : Nat, k ≤ xs.length ∧ i = .int .i64 k ∧ Below w.heap.size w wr) (fun i _ => xs.length - (intOf i).toNat)
  case atStart => exact ⟨0, Nat.zero_le _, rfl, by first | exact Below.refl _ _ | exact (Below.refl _ _).drew⟩
  case round =>
    obtain ⟨k, hk, rfl, hbl⟩ := hrel
    have hsz := hbl.size
    by_cases hlt : k < xs.length
    · obtain ⟨b, off, rfl, hb, hc⟩ := hr (by omega)
      obtain ⟨b2, off2, rfl, hb2, hc2⟩ := hr2 (by omega)
      obtain ⟨da, dc, ha, c0⟩ := hc k hlt
      obtain ⟨ea, ec, he2, e0⟩ := hc2 k hlt
      obtain ⟨x, hx⟩ : ∃ x, x = xs.getD k [] := ⟨_, rfl⟩
      rw [← hx] at c0 e0 ha he2
      rw [← hbl.cell (p := ⟨b, _, none⟩) (Nat.lt_of_lt_of_le hb hB)] at c0
      rw [← hbl.cell (p := ⟨b2, _, none⟩) (Nat.lt_of_lt_of_le hb2 hB)] at e0
      have HA := hid (fun W (hW : Below B wr W) => (ha.below (hbl.mono hB)).below hW); have HE := hid (fun W (hW : Below B wr W) => (he2.below (hbl.mono hB)).below hW)
      have HBL := hid hbl.drew
      clear hc hr hc2 hr2 hx hbl ha he2
      go_wp2_with fail
      go_region_held3 (fun w' => w'.cell? ⟨b, off + k, none⟩ = some (.slice da x.length dc) ∧ w'.cell? ⟨b2, off2 + k, none⟩ = some (.slice ea x.length ec))
        (first | exact s6 | go_keep)
        (first
          | (go_at_call 49; (with_reducible refine (eqReqs_same x _ _ B _ (HA.out _ (Below.refl _ _).drew) (HE.out _ (Below.refl _ _).drew) (le_drew' (Nat.le_trans hB hsz))).mono ?_); rintro e w2 ⟨rfl, hb3⟩; have s6 : w2.cell? ⟨b, off + k, none⟩ = some (.slice da x.length dc) ∧ w2.cell? ⟨b2, off2 + k, none⟩ = some (.slice ea x.length ec) := ⟨(hb3.cell (p := ⟨b, _, none⟩) (Nat.lt_of_lt_of_le hb (Nat.le_trans hB hsz))).trans c0, (hb3.cell (p := ⟨b2, _, none⟩) (Nat.lt_of_lt_of_le hb2 (Nat.le_trans hB hsz))).trans e0⟩))
      go_wp2_with fail
      go_roundw
      case rel => exact ⟨k + 1, by omega, by go_num, HBL.out.trans (hb3.mono (by simpa using hsz))⟩
      case measure => simp [intOf]; omega
    · go_wp2_with fail
      go_ret
      exact ⟨rfl, hbl⟩

set_option maxRecDepth 8000 in
set_option maxHeartbeats 8000000 in
theorem eqBus_same (v u : Value) (ms : List MR) (lat : List Int) (pss : List (List Rq)) (B : Nat) (w : World) (h : BusI w B v ms lat pss) (h2 : BusI w B u ms lat pss) (hB : B ≤ w.heap.size) :
    Calls Try.prog 23 #[v, u] w fun e w' => e = .returned (.bool true) ∧ Below w.heap.size w w' := by
  obtain ⟨mv, lv, pv, rfl, hm, hl, hp⟩ := h
  obtain ⟨mu, lu, pu, rfl, gm, gl, gp⟩ := h2
  have HM := hid hm; have HL := hid hl; have HP := hid hp; have GM := hid gm; have GL := hid gl; have GP := hid gp; have HB := hid hB
  obtain ⟨ma, mc, rfl, _⟩ := hm.opened
  obtain ⟨la, lc, rfl, _⟩ := hl.opened
  obtain ⟨pa, pc, rfl, _⟩ := hp.opened
  obtain ⟨na, nc, rfl, _⟩ := gm.opened
  obtain ⟨ka, kc, rfl, _⟩ := gl.opened
  obtain ⟨qa, qc, rfl, _⟩ := gp.opened
  clear hm hl hp gm gl gp hB
  obtain ⟨W2, hW2⟩ : ∃ W2, W2 = (w.alloc (.cells #[.slice ma ms.length mc, .slice la lat.length lc, .slice pa pss.length pc] 27)).alloc (.cells #[.slice na ms.length nc, .slice ka lat.length kc, .slice qa pss.length qc] 27) := ⟨_, rfl⟩
  have HB2 := hid (show Below w.heap.size w W2 by rw [hW2]; exact bx2 _ _ _)
  have HS := hid (show Bx W2 w.heap.size [.slice ma ms.length mc, .slice la lat.length lc, .slice pa pss.length pc] by rw [hW2]; exact (Bx.new w #[.slice ma ms.length mc, .slice la lat.length lc, .slice pa pss.length pc] _ (by simp)).below ((Below.refl _ _).alloc (Nat.le_refl _) _) (by simp))
  have HR := hid (show Bx W2 (w.heap.size + 1) [.slice na ms.length nc, .slice ka lat.length kc, .slice qa pss.length qc] by rw [hW2]; have := Bx.new (w.alloc (.cells #[.slice ma ms.length mc, .slice la lat.length lc, .slice pa pss.length pc] 27)) #[.slice na ms.length nc, .slice ka lat.length kc, .slice qa pss.length qc] 27 (by simp); simpa using this)
  have HW2 := hid hW2
  clear hW2
  go_enter Try.func23, Try.ntmps23
  go_wp2_with fail
  rw [show (w.alloc _).alloc _ = W2 from HW2.out.symm]
  refine (eqRanges_same ms _ _ B W2 (HM.out.below (HB2.out.mono HB.out)) (GM.out.below (HB2.out.mono HB.out)) (Nat.le_trans HB.out HB2.out.size)).mono ?_
  rintro e w3 ⟨rfl, hb⟩
  have HS3 := hid (HS.out.below hb HS.out.lt); have HR3 := hid (HR.out.below hb HR.out.lt); have HB3 := hid (HB2.out.trans (hb.mono HB2.out.size))
  clear hb
  obtain ⟨⟨r0, r1, r2⟩, _⟩ := HS3.out.three
  obtain ⟨⟨q0, q1, q2⟩, _⟩ := HR3.out.three
  have hz1 := HR3.out.lt; have hz0 := HS3.out.lt
  go_wp2_with fail
  refine (eqIntS_same _ _ lat B B _ (HL.out.below (HB3.out.mono HB.out)) (GL.out.below (HB3.out.mono HB.out))).mono ?_
  rintro e w4 ⟨rfl, hd⟩
  have HD := hid (hd.below w3.heap.size)
  have HS4 := hid (HS3.out.below HD.out HS3.out.lt); have HR4 := hid (HR3.out.below HD.out HR3.out.lt); have HB4 := hid (HB3.out.trans (HD.out.mono HB3.out.size))
  clear hd r0 r1 r2 q0 q1 q2 hz1 hz0
  obtain ⟨⟨r0, r1, r2⟩, _⟩ := HS4.out.three
  obtain ⟨⟨q0, q1, q2⟩, _⟩ := HR4.out.three
  have hz1 := HR4.out.lt; have hz0 := HS4.out.lt
  go_wp2_with fail
  refine (eqProgs_same pss _ _ B w4 (HP.out.below (HB4.out.mono HB.out)) (GP.out.below (HB4.out.mono HB.out)) (Nat.le_trans HB.out HB4.out.size)).mono ?_
  rintro e w5 ⟨rfl, hb⟩
  have HB5 := hid (HB4.out.trans (hb.mono HB4.out.size))
  clear hb
  go_wp2_with fail
  go_ret
  exact ⟨rfl, HB5.out⟩

end Go.Proofs.Yteamebdehembgaa
