/-
  A law's own bus, as it is read.
-/
import Derived.Test.YteamebdehembgaaKLib
import Derived.Test.YteamebdehembgaaJCr1
import Derived.Test.YteamebdehembgaaJQ1
import Derived.Test.YteamebdehembgaaRows
import Derived.ProofKit
import Derived.SizedLaws
import Derived.Deep.Slices
import Derived.Carry
set_option linter.unusedVariables false
set_option linter.unusedSimpArgs false
namespace Go.Proofs.Yteamebdehembgaa
open Go.ChangeShapes Go.WideShapes Go.ChangeAt Go.RowKit Go.Deep

theorem Try.own : ownKnob Try.prog.godebug = none := by kernel_rfl
theorem Try.laidOut : laidOutB Try.prog = true := by kernel_rfl

theorem trodAll_stays {H : Type} {enc : TypeId × Value → H} {W W' : World} (hb : Below W.heap.size W W') :
    ∀ (ts : List TypeId) (vs : List Value) (ds : List (DataW H)) (p : List MemPlace), (∀ t ∈ ts, Try.prog.readableRec t = true ∧ t < Try.prog.types.size) →
      DataW.TrodAll enc Try.prog W 0 (fun _ => true) true ts vs ds p → (∀ x ∈ p, x.block < W.heap.size) → DataW.TrodAll enc Try.prog W' 0 (fun b => decide (b < W.heap.size)) true ts vs ds p
  | [], vs, ds, p, _, h, _ => by cases vs <;> cases ds <;> simp_all [DataW.TrodAll]
  | t :: ts, vs, ds, p, hr, h, hp => by
    obtain ⟨v, vs', d, ds', p1, p2, rfl, rfl, rfl, h1, h2⟩ := trodAll_cons h
    have hp1 : ∀ x ∈ p1, x.block < W.heap.size := fun x hx => hp x (List.mem_append_left _ hx)
    have hp2 : ∀ x ∈ p2, x.block < W.heap.size := fun x hx => hp x (List.mem_append_right _ hx)
    refine ⟨p1, p2, (Below.trod Try.laidOut (hr t (by simp)).1 (hr t (by simp)).2 h1 hb hp1), (trodAll_stays hb ts vs' ds' p2 (fun t ht => hr t (by simp [ht])) h2 hp2), rfl⟩

theorem trodAll_len {H : Type} {enc : TypeId × Value → H} {W : World} {B : Nat} {sp : Nat → Bool} {hd : Bool} :
    ∀ (ts : List TypeId) (vs : List Value) (ds : List (DataW H)) (p : List MemPlace), DataW.TrodAll enc Try.prog W B sp hd ts vs ds p → ds.length = ts.length
  | [], vs, ds, p, h => by cases vs <;> cases ds <;> simp_all [DataW.TrodAll]
  | t :: ts, vs, ds, p, h => by
    obtain ⟨v, vs', d, ds', p1, p2, rfl, rfl, rfl, h1, h2⟩ := trodAll_cons h
    simp [trodAll_len ts vs' ds' p2 h2]

set_option maxRecDepth 100000 in
theorem law_lifted {os : Os} (started : os.Started) {H : Type} (enc : TypeId × Value → H) (F : FuncId) (fn : Func) (s : ChangeSpec) (hvars : s.vars = []) (noInit : Try.prog.inits.idxOf? F = none) (hfn : Try.prog.funcs[F]? = some fn)
    (witness : ∃ (w : World) (tape : Tape) (i : Input), w.os = os ∧ (w.forCall tape i).Shaped Try.prog ∧ i.vars = [] ∧ Input.okWide Try.prog (w.forCall tape i) .any w.heap.size F i ∧
      s.pre6 enc Try.prog fn [] false (w.forCall tape i).memory i.args ∧ (({} : Assume)).holds Try.prog (lone (Frame.enter Try.prog F i.args .normal) [] (w.forCall tape i)))
    (hres : fn.resultTypes = #[4]) (hro : ∀ t ∈ fn.params.toList, Try.prog.readableRec t = true ∧ t < Try.prog.types.size)
    (hspec : ∀ ds : List (DataW H), ds.length = fn.params.toList.length → (s.fn H (ds ++ [])).results = [.lit (.bool true)] ∧ (s.fn H (ds ++ [])).args = ds ∧ (s.fn H (ds ++ [])).vars = [])
    (contract : ∀ (W : World) (base : Nat) (args : Array Value) (ds : List (DataW H)) (p : List MemPlace), (∀ (j : Nat) t v, fn.params[j]? = some t → args[j]? = some v → Value.okWide Try.prog W .any base t v) →
      DataW.TrodAll enc Try.prog W 0 (fun _ => true) true fn.params.toList args.toList ds p → (∀ x ∈ p, x.block < W.heap.size) → (DataW.weightsEach Try.prog fn.params.toList ds).all (· ≤ reachBytes) = true →
      Calls Try.prog F args W fun e W' => e = .returned (.bool true) ∧ Below W.heap.size W W') :
    ReturnsInHanded {} Try.checked os F .any (s.pre6 enc Try.prog fn [] false) (s.post enc Try.prog fn false true false false) := by
  refine returnsInHanded_of_change_sized (C := Try.checked) Try.own started noInit hfn witness ?_
  intro W base args ds gs before hval hW _ hsz _
  have hW' := hW
  obtain ⟨p, q, hA, hV, rfl, _, _⟩ := hW
  rw [hvars] at hV
  obtain ⟨rfl, rfl⟩ := trodVars_none hV
  have hlen : ds.length = fn.params.toList.length := trodAll_len _ _ _ _ hA
  have hlt : ∀ x ∈ p, x.block < W.heap.size := fun x hx => by simpa using hW'.lt x (by simp [hx])
  obtain ⟨e1, e2, e3⟩ := hspec ds hlen
  have hsz2 : (DataW.weightsEach Try.prog fn.params.toList ds).all (· ≤ reachBytes) = true := by
    have : s.plain.varTypes Try.checked.prog = [] := by simp [ChangeSpec.plain, DataSpec.varTypes, hvars]
    rw [this, List.append_nil, List.append_nil] at hsz
    exact hsz
  refine (contract W base args ds p hval hA hlt hsz2).mono fun e W' ⟨he, hb⟩ => ?_
  subst he
  refine ⟨_, rfl, _, _, _, [], p, [], hW', ?_, ?_, ?_, hb.frame _, fun h => by cases h⟩
  · rw [e1, hres]; exact trodAll_mk1 (shut_bool Try.underlying4 _)
  · rw [e2]; exact trodAll_stays hb _ _ _ _ hro hA hlt
  · rw [e3, hvars]; rfl

theorem addr_spot {w : World} {a : Addr} {v : Value} (h : w.cell? a = some v) : a = ⟨a.block, a.off, none⟩ := by
  obtain ⟨b, o, s⟩ := a
  cases s with
  | none => rfl
  | some n => simp [World.cell?] at h; split at h <;> simp at h

theorem mem_weightsAll {H : Type} {P : Program} {e : TypeId} {x : Nat} : ∀ (D : List (DataW H)) (d : DataW H), d ∈ D → x ∈ d.weights P e → x ∈ DataW.weightsAll P e D
  | y :: r, d, h, hx => by
    rcases List.mem_cons.1 h with rfl | h
    · simp [DataW.weightsAll, hx]
    · simp [DataW.weightsAll, mem_weightsAll r d h hx]

/-- What is read of a value: its blocks are there, and it is within the form's own reach. -/
def Read {H : Type} (enc : TypeId × Value → H) (W : World) (T : TypeId) (cs : List Value) : Prop :=
  ∃ n d q, DataW.trod enc Try.prog W 0 (fun _ => true) true n T cs = some (d, q) ∧ (∀ x ∈ q, x.block < W.heap.size) ∧ ∀ x ∈ d.weights Try.prog T, x ≤ reachBytes

set_option maxRecDepth 100000 in
theorem open_arr {H : Type} {enc : TypeId × Value → H} {W : World} {T e sz by_ : Nat} {v : Value} (hT : Try.prog.underlying T = some (.slice e)) (hc : Try.prog.cellsOf e = sz) (hby : Try.prog.bytesOf e = by_) (h1 : 1 ≤ by_) (hsz : 1 ≤ sz)
    (h : Read enc W T [v]) : ∃ rows : List (List Value), Arr W W.heap.size sz v rows ∧ ∀ r ∈ rows, r.length = sz ∧ Read enc W e r := by
  obtain ⟨n, d, q, ht, hq, hw⟩ := h
  rcases open_slice hT ht with ⟨hv, _⟩ | ⟨a, len, cap, m, k, D, Pl, hv, _, hle, hmax, hm, hx, hel⟩
  · simp at hv; subst hv
    exact ⟨[], ⟨none, 0, rfl, by simp, by simp, by simp, by simp, by simp⟩, by simp⟩
  · simp at hv; subst hv
    simp only [if_true] at hm
    obtain rfl : cap = m := hm.symm
    simp only [Prod.mk.injEq] at hx
    obtain ⟨rfl, rfl⟩ := hx
    rw [hc] at hel hq
    have hel2 : ∀ i, i < len → ∃ cs', W.cells? 0 (a.add (i * sz)) sz = some cs' ∧ DataW.trod enc Try.prog W 0 (fun _ => true) true k e cs' = some (D i, Pl i) := fun i hi => hel i (by omega)
    have hch : ∀ i : Nat, ∃ cs', i < len → W.cells? 0 (a.add (i * sz)) sz = some cs' ∧ DataW.trod enc Try.prog W 0 (fun _ => true) true k e cs' = some (D i, Pl i) := fun i => by
      by_cases hi : i < len
      · obtain ⟨cs', hcs⟩ := hel2 i hi; exact ⟨cs', fun _ => hcs⟩
      · exact ⟨[], fun h => absurd h hi⟩
    have hR : ∃ R : Nat → List Value, ∀ i, i < len → W.cells? 0 (a.add (i * sz)) sz = some (R i) ∧ DataW.trod enc Try.prog W 0 (fun _ => true) true k e (R i) = some (D i, Pl i) := ⟨fun i => (hch i).choose, fun i hi => (hch i).choose_spec hi⟩
    obtain ⟨R, hR⟩ := hR
    have hcap : cap * by_ ≤ reachBytes := by
      have := hw ((((List.range len).map D).length + ((List.range (cap - len)).map fun j => D (len + j)).length) * Try.prog.bytesOf e) (by simp [DataW.weights, hT])
      simp only [List.length_map, List.length_range] at this
      rw [hby] at this
      rw [show len + (cap - len) = cap from by omega] at this; exact this
    have hcl : cap ≤ 140737488351232 := by
      have : cap * 1 ≤ cap * by_ := Nat.mul_le_mul_left _ h1
      unfold reachBytes at hcap; omega
    refine ⟨(List.range len).map R, ⟨some a, cap, by simp, by simpa using hle, by omega, by simp; omega, by simp, fun hn => ?_⟩, ?_⟩
    · simp only [List.length_map, List.length_range] at hn
      obtain ⟨_, hl0, hc0⟩ := World.cells?_some (hR 0 (by omega)).1
      have ha : a = ⟨a.block, a.off, none⟩ := by
        have h0 := hc0 0 (by omega)
        have hlt : 0 < (R 0).length := by omega
        rw [List.getElem?_eq_getElem hlt] at h0
        simp [Addr.add] at h0
        exact addr_spot h0
      have hblt : a.block < W.heap.size := hq (.cell a.block a.off) (List.mem_append_left _ (MemPlace.mem_row.2 ⟨0, by
        have : 1 * 1 ≤ cap * sz := Nat.mul_le_mul (by omega) hsz
        omega, by simp⟩))
      refine ⟨a.block, a.off, by rw [← ha], hblt, fun t ht j hj => ?_⟩
      simp only [List.length_map, List.length_range] at ht
      obtain ⟨_, hl1, hc1⟩ := World.cells?_some (hR t ht).1
      have := hc1 j (by omega)
      simp only [List.getD, List.getElem?_map, List.getElem?_range ht, Option.map_some, Option.getD_some]
      rw [← this]
      clear this
      obtain ⟨ab, ao, sp⟩ := a
      simp only [Addr.mk.injEq, true_and] at ha
      subst ha
      rw [Addr.add_lit, Addr.add_lit]
    · intro r hr
      obtain ⟨i, hi, rfl⟩ := List.mem_map.1 hr
      have hi' := List.mem_range.1 hi
      refine ⟨(World.cells?_some (hR i hi').1).2.1, k, D i, Pl i, (hR i hi').2, fun x hx => hq x (List.mem_append_right _ ?_), fun x hx => hw x ?_⟩
      · exact List.mem_flatMap.2 ⟨i, List.mem_range.2 (by omega), hx⟩
      · simp only [DataW.weights, hT]
        exact List.mem_cons_of_mem _ (List.mem_append_left _ (mem_weightsAll _ (D i) (List.mem_map.2 ⟨i, hi, rfl⟩) hx))

theorem list_of_rows {α : Type} (f : α → List Value) (P : α → Prop) : ∀ rows : List (List Value), (∀ r ∈ rows, ∃ x, r = f x ∧ P x) → ∃ xs : List α, rows = xs.map f ∧ ∀ x ∈ xs, P x
  | [], _ => ⟨[], rfl, by simp⟩
  | r :: rows, h => by
    obtain ⟨x, rfl, hx⟩ := h r (by simp)
    obtain ⟨xs, rfl, hxs⟩ := list_of_rows f P rows (fun r hr => h r (by simp [hr]))
    exact ⟨x :: xs, rfl, by simpa using ⟨hx, hxs⟩⟩

section
variable {H : Type} {enc : TypeId × Value → H} {W : World}
theorem Read.int {cs : List Value} (h : Read enc W 3 cs) : ∃ n, cs = rowI n ∧ I64 n := by
  obtain ⟨n, d, q, ht, _⟩ := h
  obtain ⟨x, rfl, _, hw⟩ := DataW.trod_int Try.underlying3 ht
  simp [Lit.wf, IntKind.min, IntKind.max, IntKind.signed, IntKind.bits] at hw
  exact ⟨x, rfl, by unfold I64; omega⟩
theorem Read.bool {cs : List Value} (h : Read enc W 4 cs) : ∃ b, cs = rowB b := by
  obtain ⟨n, d, q, ht, _⟩ := h
  obtain ⟨x, rfl, _⟩ := DataW.trod_bool Try.underlying4 ht
  exact ⟨x, rfl⟩
theorem Read.byte {cs : List Value} (h : Read enc W 5 cs) : ∃ n, cs = rowU n ∧ n < 256 := by
  obtain ⟨n, d, q, ht, _⟩ := h
  obtain ⟨x, rfl, _, hw⟩ := DataW.trod_int Try.underlying5 ht
  simp [Lit.wf, IntKind.min, IntKind.max, IntKind.signed, IntKind.bits] at hw
  obtain ⟨m, rfl⟩ := Int.eq_ofNat_of_zero_le (show 0 ≤ x by omega)
  exact ⟨m, rfl, by omega⟩
theorem Read.ints {v : Value} (h : Read enc W 24 [v]) : ∃ xs, Ints W W.heap.size v xs := by
  obtain ⟨rows, ha, hr⟩ := open_arr (sz := 1) (by_ := 8) Try.underlying24 (by kernel_rfl) (by kernel_rfl) (by omega) (by omega) h
  obtain ⟨xs, rfl, hx⟩ := list_of_rows rowI I64 rows (fun r h => (hr r h).2.int)
  exact ⟨xs, ha, hx⟩
theorem Read.bytes {v : Value} (h : Read enc W 22 [v]) : ∃ xs, Bytes W W.heap.size v xs := by
  obtain ⟨rows, ha, hr⟩ := open_arr (sz := 1) (by_ := 1) Try.underlying22 (by kernel_rfl) (by kernel_rfl) (by omega) (by omega) h
  obtain ⟨xs, rfl, hx⟩ := list_of_rows rowU (· < 256) rows (fun r h => (hr r h).2.byte)
  exact ⟨xs, ha, hx⟩

/-- One argument of a law, as it is read. -/
theorem read_of {t : TypeId} {v : Value} {d : DataW H} {p : List MemPlace} (h : DataW.Trod enc Try.prog W 0 (fun _ => true) true t v d p) (hp : ∀ x ∈ p, x.block < W.heap.size) (hw : ∀ x ∈ d.weights Try.prog t, x ≤ reachBytes) : Read enc W t v.cells.toList := by
  obtain ⟨n, hn⟩ := h
  exact ⟨n, d, p, hn, hp, hw⟩
end

set_option maxRecDepth 100000 in
/-- A law of one code. -/
theorem code_lifted {os : Os} (started : os.Started) {H : Type} (enc : TypeId × Value → H) (F : FuncId) (fn : Func) (s : ChangeSpec) (hvars : s.vars = []) (noInit : Try.prog.inits.idxOf? F = none) (hfn : Try.prog.funcs[F]? = some fn)
    (witness : ∃ (w : World) (tape : Tape) (i : Input), w.os = os ∧ (w.forCall tape i).Shaped Try.prog ∧ i.vars = [] ∧ Input.okWide Try.prog (w.forCall tape i) .any w.heap.size F i ∧
      s.pre6 enc Try.prog fn [] false (w.forCall tape i).memory i.args ∧ (({} : Assume)).holds Try.prog (lone (Frame.enter Try.prog F i.args .normal) [] (w.forCall tape i)))
    (hpar : fn.params = #[22]) (hres : fn.resultTypes = #[4])
    (hspec : ∀ d : DataW H, (s.fn H [d]).results = [.lit (.bool true)] ∧ (s.fn H [d]).args = [d] ∧ (s.fn H [d]).vars = [])
    (contract : ∀ (v : Value) (bs : List Nat) (B : Nat) (W : World), Bytes W B v bs → B ≤ W.heap.size → Calls Try.prog F #[v] W fun e W' => e = .returned (.bool true) ∧ Below W.heap.size W W') :
    ReturnsInHanded {} Try.checked os F .any (s.pre6 enc Try.prog fn [] false) (s.post enc Try.prog fn false true false false) := by
  refine law_lifted started enc F fn s hvars noInit hfn witness hres ?_ ?_ ?_
  · intro t ht
    rw [hpar] at ht
    simp only [List.mem_singleton] at ht
    subst ht
    exact ⟨by kernel_rfl, of_decide_eq_true (by kernel_rfl)⟩
  · intro ds hl
    rw [hpar] at hl
    match ds, hl with
    | [d1], _ => exact hspec d1
  · intro W base args ds p hval hA hlt hw
    rw [hpar] at hA hval hw
    obtain ⟨v0, d0, rfl, rfl, h0⟩ := trodAll_one hA
    obtain ⟨ao, l, c, rfl⟩ := okWide_slice Try.underlying22 (hval 0 22 v0 rfl rfl)
    have hr := read_of h0 hlt (fun x hx => by
      have := List.all_eq_true.1 hw x (by simp [DataW.weightsEach, hx])
      simpa using this)
    obtain ⟨xs, hb⟩ := hr.bytes
    exact contract _ xs _ W hb (Nat.le_refl _)

end Go.Proofs.Yteamebdehembgaa

namespace Go.Proofs.Yteamebdehembgaa
open Go.ChangeShapes Go.WideShapes Go.ChangeAt Go.RowKit Go.Deep

section
variable {H : Type} {enc : TypeId × Value → H} {W : World}
theorem rowI_eq {n : Int} {c : Value} (h : [c] = rowI n) : c = .int .i64 n := by simpa [rowI] using h
theorem rowB_eq {b : Bool} {c : Value} (h : [c] = rowB b) : c = .bool b := by simpa [rowB] using h
set_option maxRecDepth 100000 in
theorem Read.mr {cs : List Value} (h : Read enc W 135 cs) : ∃ r : MR, cs = rowM r ∧ MR64 r := by
  obtain ⟨n, d, q, ht, hq, hw⟩ := h
  obtain ⟨xs, k, rfl, hx, hcl, hxl, hg⟩ := DataW.trod_struct Try.underlying135 ht
  simp only [Prod.mk.injEq] at hx
  obtain ⟨rfl, rfl⟩ := hx
  have hcl7 : cs.length = 4 := hcl.trans (by kernel_rfl)
  have hc0 : Try.prog.cellsOf 4 = 1 := by kernel_rfl
  have hc1 : Try.prog.cellsOf 3 = 1 := by kernel_rfl
  match cs, hcl7 with
  | [c0, c1, c2, c3], _ =>
  match xs, hxl with
  | [y0, y1, y2, y3], _ =>
    have g0 : DataW.trod enc Try.prog W 0 (fun _ => true) true k 3 [c0] = some y0 := by have := hg 0 _ rfl; simpa [hc0, hc1] using this
    have g1 : DataW.trod enc Try.prog W 0 (fun _ => true) true k 3 [c1] = some y1 := by have := hg 1 _ rfl; simpa [hc0, hc1] using this
    have g2 : DataW.trod enc Try.prog W 0 (fun _ => true) true k 3 [c2] = some y2 := by have := hg 2 _ rfl; simpa [hc0, hc1] using this
    have g3 : DataW.trod enc Try.prog W 0 (fun _ => true) true k 4 [c3] = some y3 := by have := hg 3 _ rfl; simpa [hc0, hc1] using this
    have r0 : Read enc W 3 [c0] := ⟨k, y0.1, y0.2, g0, fun x hx => hq x (by simp [hx]), fun x hx => hw x (by simp [DataW.weights, Try.underlying135, DataW.weightsEach, hx])⟩
    have r1 : Read enc W 3 [c1] := ⟨k, y1.1, y1.2, g1, fun x hx => hq x (by simp [hx]), fun x hx => hw x (by simp [DataW.weights, Try.underlying135, DataW.weightsEach, hx])⟩
    have r2 : Read enc W 3 [c2] := ⟨k, y2.1, y2.2, g2, fun x hx => hq x (by simp [hx]), fun x hx => hw x (by simp [DataW.weights, Try.underlying135, DataW.weightsEach, hx])⟩
    have r3 : Read enc W 4 [c3] := ⟨k, y3.1, y3.2, g3, fun x hx => hq x (by simp [hx]), fun x hx => hw x (by simp [DataW.weights, Try.underlying135, DataW.weightsEach, hx])⟩
    obtain ⟨a, ha, ia⟩ := r0.int
    obtain ⟨b, hb, ib⟩ := r1.int
    obtain ⟨c, hc, ic⟩ := r2.int
    obtain ⟨d, hd⟩ := r3.bool
    exact ⟨⟨a, b, c, d⟩, by rw [rowI_eq ha, rowI_eq hb, rowI_eq hc, rowB_eq hd]; rfl, ia, ib, ic⟩

theorem Read.ranges {v : Value} (h : Read enc W 49 [v]) : ∃ ms, Maps W W.heap.size v ms := by
  obtain ⟨rows, ha, hr⟩ := open_arr (sz := 4) (by_ := 32) Try.underlying49 (by kernel_rfl) (by kernel_rfl) (by omega) (by omega) h
  obtain ⟨xs, rfl, hx⟩ := list_of_rows rowM MR64 rows (fun r h => (hr r h).2.mr)
  exact ⟨xs, ha, hx⟩
set_option maxRecDepth 100000 in
theorem Read.mem {cs : List Value} (h : Read enc W 57 cs) : ∃ v xs, cs = [v] ∧ Ints W W.heap.size v xs := by
  obtain ⟨n, d, q, ht, hq, hw⟩ := h
  obtain ⟨xs, k, rfl, hx, hcl, hxl, hg⟩ := DataW.trod_struct Try.underlying57 ht
  simp only [Prod.mk.injEq] at hx
  obtain ⟨rfl, rfl⟩ := hx
  have hcl7 : cs.length = 1 := hcl.trans (by kernel_rfl)
  have hc0 : Try.prog.cellsOf 24 = 1 := by kernel_rfl
  match cs, hcl7 with
  | [c0], _ =>
  match xs, hxl with
  | [y0], _ =>
    have g0 : DataW.trod enc Try.prog W 0 (fun _ => true) true k 24 [c0] = some y0 := by have := hg 0 _ rfl; simpa [hc0] using this
    have r0 : Read enc W 24 [c0] := ⟨k, y0.1, y0.2, g0, fun x hx => hq x (by simp [hx]), fun x hx => hw x (by simp [DataW.weights, Try.underlying57, DataW.weightsEach, hx])⟩
    obtain ⟨x0, h0⟩ := r0.ints
    exact ⟨_, _, rfl, h0⟩

set_option maxRecDepth 100000 in
theorem Read.atm {cs : List Value} (h : Read enc W 59 cs) : ∃ wv hv ws hs, cs = [wv, hv] ∧ AtmV W W.heap.size (.agg #[wv, hv]) ws hs := by
  obtain ⟨n, d, q, ht, hq, hw⟩ := h
  obtain ⟨xs, k, rfl, hx, hcl, hxl, hg⟩ := DataW.trod_struct Try.underlying59 ht
  simp only [Prod.mk.injEq] at hx
  obtain ⟨rfl, rfl⟩ := hx
  have hcl7 : cs.length = 2 := hcl.trans (by kernel_rfl)
  have hc0 : Try.prog.cellsOf 57 = 1 := by kernel_rfl
  have hc1 : Try.prog.cellsOf 24 = 1 := by kernel_rfl
  match cs, hcl7 with
  | [c0, c1], _ =>
  match xs, hxl with
  | [y0, y1], _ =>
    have g0 : DataW.trod enc Try.prog W 0 (fun _ => true) true k 57 [c0] = some y0 := by have := hg 0 _ rfl; simpa [hc0, hc1] using this
    have g1 : DataW.trod enc Try.prog W 0 (fun _ => true) true k 24 [c1] = some y1 := by have := hg 1 _ rfl; simpa [hc0, hc1] using this
    have r0 : Read enc W 57 [c0] := ⟨k, y0.1, y0.2, g0, fun x hx => hq x (by simp [hx]), fun x hx => hw x (by simp [DataW.weights, Try.underlying59, DataW.weightsEach, hx])⟩
    have r1 : Read enc W 24 [c1] := ⟨k, y1.1, y1.2, g1, fun x hx => hq x (by simp [hx]), fun x hx => hw x (by simp [DataW.weights, Try.underlying59, DataW.weightsEach, hx])⟩
    obtain ⟨v0, x0, e0, h0⟩ := r0.mem
    obtain ⟨x1, h1⟩ := r1.ints
    simp only [List.cons.injEq, and_true] at e0
    subst e0
    exact ⟨_, _, _, _, rfl, _, _, rfl, h0, h1⟩

set_option maxRecDepth 100000 in
theorem Read.req {cs : List Value} (h : Read enc W 61 cs) : ∃ (q : Rq) (dv lv : Value), cs = rowQ (q, dv, lv) ∧ RqD W (· < W.heap.size) (q, dv, lv) := by
  obtain ⟨n, d, q, ht, hq, hw⟩ := h
  obtain ⟨xs, k, rfl, hx, hcl, hxl, hg⟩ := DataW.trod_struct Try.underlying61 ht
  simp only [Prod.mk.injEq] at hx
  obtain ⟨rfl, rfl⟩ := hx
  have hcl7 : cs.length = 7 := hcl.trans (by kernel_rfl)
  have hc0 : Try.prog.cellsOf 24 = 1 := by kernel_rfl
  have hc1 : Try.prog.cellsOf 4 = 1 := by kernel_rfl
  have hc2 : Try.prog.cellsOf 3 = 1 := by kernel_rfl
  match cs, hcl7 with
  | [c0, c1, c2, c3, c4, c5, c6], _ =>
  match xs, hxl with
  | [y0, y1, y2, y3, y4, y5, y6], _ =>
    have g0 : DataW.trod enc Try.prog W 0 (fun _ => true) true k 3 [c0] = some y0 := by have := hg 0 _ rfl; simpa [hc0, hc1, hc2] using this
    have g1 : DataW.trod enc Try.prog W 0 (fun _ => true) true k 3 [c1] = some y1 := by have := hg 1 _ rfl; simpa [hc0, hc1, hc2] using this
    have g2 : DataW.trod enc Try.prog W 0 (fun _ => true) true k 3 [c2] = some y2 := by have := hg 2 _ rfl; simpa [hc0, hc1, hc2] using this
    have g3 : DataW.trod enc Try.prog W 0 (fun _ => true) true k 3 [c3] = some y3 := by have := hg 3 _ rfl; simpa [hc0, hc1, hc2] using this
    have g4 : DataW.trod enc Try.prog W 0 (fun _ => true) true k 4 [c4] = some y4 := by have := hg 4 _ rfl; simpa [hc0, hc1, hc2] using this
    have g5 : DataW.trod enc Try.prog W 0 (fun _ => true) true k 24 [c5] = some y5 := by have := hg 5 _ rfl; simpa [hc0, hc1, hc2] using this
    have g6 : DataW.trod enc Try.prog W 0 (fun _ => true) true k 24 [c6] = some y6 := by have := hg 6 _ rfl; simpa [hc0, hc1, hc2] using this
    have r0 : Read enc W 3 [c0] := ⟨k, y0.1, y0.2, g0, fun x hx => hq x (by simp [hx]), fun x hx => hw x (by simp [DataW.weights, Try.underlying61, DataW.weightsEach, hx])⟩
    have r1 : Read enc W 3 [c1] := ⟨k, y1.1, y1.2, g1, fun x hx => hq x (by simp [hx]), fun x hx => hw x (by simp [DataW.weights, Try.underlying61, DataW.weightsEach, hx])⟩
    have r2 : Read enc W 3 [c2] := ⟨k, y2.1, y2.2, g2, fun x hx => hq x (by simp [hx]), fun x hx => hw x (by simp [DataW.weights, Try.underlying61, DataW.weightsEach, hx])⟩
    have r3 : Read enc W 3 [c3] := ⟨k, y3.1, y3.2, g3, fun x hx => hq x (by simp [hx]), fun x hx => hw x (by simp [DataW.weights, Try.underlying61, DataW.weightsEach, hx])⟩
    have r4 : Read enc W 4 [c4] := ⟨k, y4.1, y4.2, g4, fun x hx => hq x (by simp [hx]), fun x hx => hw x (by simp [DataW.weights, Try.underlying61, DataW.weightsEach, hx])⟩
    have r5 : Read enc W 24 [c5] := ⟨k, y5.1, y5.2, g5, fun x hx => hq x (by simp [hx]), fun x hx => hw x (by simp [DataW.weights, Try.underlying61, DataW.weightsEach, hx])⟩
    have r6 : Read enc W 24 [c6] := ⟨k, y6.1, y6.2, g6, fun x hx => hq x (by simp [hx]), fun x hx => hw x (by simp [DataW.weights, Try.underlying61, DataW.weightsEach, hx])⟩
    obtain ⟨a, ha, ia⟩ := r0.int
    obtain ⟨b, hb, ib⟩ := r1.int
    obtain ⟨c, hc, ic⟩ := r2.int
    obtain ⟨d, hd, id⟩ := r3.int
    obtain ⟨e, he⟩ := r4.bool
    obtain ⟨x5, h5⟩ := r5.ints
    obtain ⟨x6, h6⟩ := r6.ints
    exact ⟨⟨a, b, c, d, e, x5, x6⟩, _, _, by rw [rowI_eq ha, rowI_eq hb, rowI_eq hc, rowI_eq hd, rowB_eq he]; rfl, h5, h6, ia, ib, ic, id⟩

theorem Read.reqs {v : Value} (h : Read enc W 82 [v]) : ∃ rs, Reqs W W.heap.size v rs := by
  obtain ⟨rows, ha, hr⟩ := open_arr (sz := 7) (by_ := 88) Try.underlying82 (by kernel_rfl) (by kernel_rfl) (by omega) (by omega) h
  obtain ⟨ys, rfl, hy⟩ := list_of_rows rowQ (fun y => RqD W (· < W.heap.size) y) rows (fun r h => by
    obtain ⟨q, dv, lv, e, hd⟩ := (hr r h).2.req
    exact ⟨(q, dv, lv), e, hd⟩)
  exact ⟨_, reqs_of (P := (· < W.heap.size)) ha hy (fun b hb => hb)⟩
end

end Go.Proofs.Yteamebdehembgaa

namespace Go.Proofs.Yteamebdehembgaa
open Go.ChangeShapes Go.WideShapes Go.ChangeAt Go.RowKit Go.Deep

section
variable {H : Type} {enc : TypeId × Value → H} {W : World}
theorem Read.progs {v : Value} (h : Read enc W 50 [v]) : ∃ pss, Progs W W.heap.size v pss := by
  obtain ⟨rows, ha, hr⟩ := open_arr (sz := 1) (by_ := 24) Try.underlying50 (by kernel_rfl) (by kernel_rfl) (by omega) (by omega) h
  obtain ⟨ys, rfl, hy⟩ := list_of_rows (fun y : Value × List Rq => [y.1]) (fun y => Reqs W W.heap.size y.1 y.2) rows (fun r h => by
    obtain ⟨h1, h2⟩ := hr r h
    match r, h1 with
    | [u], _ =>
      obtain ⟨rs, hrs⟩ := h2.reqs
      exact ⟨(u, rs), rfl, hrs⟩)
  refine ⟨ys.map (·.2), ys.map (·.1), ?_, by simp, fun k hk d => ?_⟩
  · have e : (ys.map (·.1)).map (fun u => u.cells.toList) = ys.map fun y : Value × List Rq => [y.1] := by
      rw [List.map_map]
      apply List.map_congr_left
      intro y hm
      obtain ⟨ao, cap, e, _⟩ := (hy y hm).opened
      simp only [Function.comp]
      rw [e]; rfl
    rw [e]; exact ha
  · simp only [List.length_map] at hk
    have e1 : (ys.map (·.1)).getD k undef = ys[k].1 := by simp [List.getD, hk]
    have e2 : (ys.map (·.2)).getD k d = ys[k].2 := by simp [List.getD, hk]
    rw [e1, e2]
    exact hy _ (List.getElem_mem hk)
set_option maxRecDepth 100000 in
theorem Read.bus {cs : List Value} (h : Read enc W 52 cs) : ∃ a b p ms lat pss, cs = [a, b, p] ∧ BusI W W.heap.size (.agg #[a, b, p]) ms lat pss := by
  obtain ⟨n, d, q, ht, hq, hw⟩ := h
  obtain ⟨xs, k, rfl, hx, hcl, hxl, hg⟩ := DataW.trod_struct Try.underlying52 ht
  simp only [Prod.mk.injEq] at hx
  obtain ⟨rfl, rfl⟩ := hx
  have hcl7 : cs.length = 3 := hcl.trans (by kernel_rfl)
  have hc0 : Try.prog.cellsOf 49 = 1 := by kernel_rfl
  have hc1 : Try.prog.cellsOf 24 = 1 := by kernel_rfl
  have hc2 : Try.prog.cellsOf 50 = 1 := by kernel_rfl
  match cs, hcl7 with
  | [c0, c1, c2], _ =>
  match xs, hxl with
  | [y0, y1, y2], _ =>
    have g0 : DataW.trod enc Try.prog W 0 (fun _ => true) true k 49 [c0] = some y0 := by have := hg 0 _ rfl; simpa [hc0, hc1, hc2] using this
    have g1 : DataW.trod enc Try.prog W 0 (fun _ => true) true k 24 [c1] = some y1 := by have := hg 1 _ rfl; simpa [hc0, hc1, hc2] using this
    have g2 : DataW.trod enc Try.prog W 0 (fun _ => true) true k 50 [c2] = some y2 := by have := hg 2 _ rfl; simpa [hc0, hc1, hc2] using this
    have r0 : Read enc W 49 [c0] := ⟨k, y0.1, y0.2, g0, fun x hx => hq x (by simp [hx]), fun x hx => hw x (by simp [DataW.weights, Try.underlying52, DataW.weightsEach, hx])⟩
    have r1 : Read enc W 24 [c1] := ⟨k, y1.1, y1.2, g1, fun x hx => hq x (by simp [hx]), fun x hx => hw x (by simp [DataW.weights, Try.underlying52, DataW.weightsEach, hx])⟩
    have r2 : Read enc W 50 [c2] := ⟨k, y2.1, y2.2, g2, fun x hx => hq x (by simp [hx]), fun x hx => hw x (by simp [DataW.weights, Try.underlying52, DataW.weightsEach, hx])⟩
    obtain ⟨ms, h0⟩ := r0.ranges
    obtain ⟨lat, h1⟩ := r1.ints
    obtain ⟨pss, h2⟩ := r2.progs
    exact ⟨_, _, _, _, _, _, rfl, _, _, _, rfl, h0, h1, h2⟩
end

end Go.Proofs.Yteamebdehembgaa
