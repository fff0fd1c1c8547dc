/-
  No cell of these rows narrows 'for every input' (looked for: loops, veiled, ifaces, maps, wideKeys, modest, calm, conditions, laid).
  DERIVED. THE GIVEN ROWS OF THIS SEAT. 6 by the template 'for every input the law returns true; each argument reads behind the call as it read before'; 0 by the template 'total and deterministic' (their statements: YtgkdoehkmbhfiaaGreatTotals.lean).
  GIVEN WITH THE SEED: the statements are not yours to turn. If you find one false, say at which input.
  Laid BY PROGRAM, IN A SANDBOX (cutbox-rows.mjs): the forced cells as the released guide's own fill.sh prints them over the translation 7e1e22f7e42569c1… (all of the seat's roots in one cut). By AI agents, Wed Nov 11 2026. No macro, syntax, notation, axiom, sorry.
-/
import Derived.Test.YtgkdoehkmbhfiaaGreatChecked
import GoSem.Claim
import GoSem.ClaimJoined
import GoSem.ClaimMapViews
import Derived.JoinedTies
import Derived.KernelRfl
namespace Go.Proofs.YtgkdoehkmbhfiaaGreat
/- THE CELL 'sum', in the pinned program and in every row, IS THE sha256 OF THE DUMP (.gsa) THAT YtgkdoehkmbhfiaaGreatProg.lean LOADS. Nothing in Lean hashes anything: it is a label: what it is worth is what the hold of that sum in a sandbox is worth. -/
noncomputable def Tryz.pinned : Pinned := { name := "ytgkdoehkmbhfiaagreat", sum := "7e1e22f7e42569c1754f153b934930a0f1c3ee6785f3e1b6e8341ef438d93952", checked := Tryz.checked }
namespace Rows
def none {H : Type} : Left H := { results := [], args := [] }

/-- 'laws.FnCycFair': WHATEVER THE INPUT: true; the input reads as it did. -/
def fnCycFairSpec : ChangeSpec := { name := "fnCycFair", fn := fun _ => fun
  | [d] => { results := [.lit (.bool true)], args := [d] }
  | _ => none }
def fnCycFairRow : OpenClaim := { program := "ytgkdoehkmbhfiaagreat", sum := "7e1e22f7e42569c1754f153b934930a0f1c3ee6785f3e1b6e8341ef438d93952", func := "loop.example/crossyard/laws.FnCycFair", spec := "fnCycFair", unfollowed := true, recurses := true, plainKeys := false, apart := false }
def FnCycFairSaid : Prop := fnCycFairRow.holds Tryz.pinned (OpenSpec.ofChange fnCycFairSpec)

/-- ITS FALSE NEIGHBOUR: 'it returns false'. Refute it at one input. -/
def fnCycFairWrong : ChangeSpec := { name := "fnCycFair", fn := fun _ => fun
  | [d] => { results := [.lit (.bool false)], args := [d] }
  | _ => none }
def FnCycFairWrongFalsely : Prop := fnCycFairRow.holds Tryz.pinned (OpenSpec.ofChange fnCycFairWrong)

/-- 'laws.FnCycSwap': WHATEVER THE INPUT: true; the input reads as it did. -/
def fnCycSwapSpec : ChangeSpec := { name := "fnCycSwap", fn := fun _ => fun
  | [d] => { results := [.lit (.bool true)], args := [d] }
  | _ => none }
def fnCycSwapRow : OpenClaim := { program := "ytgkdoehkmbhfiaagreat", sum := "7e1e22f7e42569c1754f153b934930a0f1c3ee6785f3e1b6e8341ef438d93952", func := "loop.example/crossyard/laws.FnCycSwap", spec := "fnCycSwap", unfollowed := true, recurses := true, plainKeys := false, apart := false }
def FnCycSwapSaid : Prop := fnCycSwapRow.holds Tryz.pinned (OpenSpec.ofChange fnCycSwapSpec)

/-- ITS FALSE NEIGHBOUR: 'it returns false'. Refute it at one input. -/
def fnCycSwapWrong : ChangeSpec := { name := "fnCycSwap", fn := fun _ => fun
  | [d] => { results := [.lit (.bool false)], args := [d] }
  | _ => none }
def FnCycSwapWrongFalsely : Prop := fnCycSwapRow.holds Tryz.pinned (OpenSpec.ofChange fnCycSwapWrong)

/-- 'laws.FnCycStall': WHATEVER THE INPUT: true; the input reads as it did. -/
def fnCycStallSpec : ChangeSpec := { name := "fnCycStall", fn := fun _ => fun
  | [d] => { results := [.lit (.bool true)], args := [d] }
  | _ => none }
def fnCycStallRow : OpenClaim := { program := "ytgkdoehkmbhfiaagreat", sum := "7e1e22f7e42569c1754f153b934930a0f1c3ee6785f3e1b6e8341ef438d93952", func := "loop.example/crossyard/laws.FnCycStall", spec := "fnCycStall", unfollowed := true, recurses := true, plainKeys := false, apart := false }
def FnCycStallSaid : Prop := fnCycStallRow.holds Tryz.pinned (OpenSpec.ofChange fnCycStallSpec)

/-- ITS FALSE NEIGHBOUR: 'it returns false'. Refute it at one input. -/
def fnCycStallWrong : ChangeSpec := { name := "fnCycStall", fn := fun _ => fun
  | [d] => { results := [.lit (.bool false)], args := [d] }
  | _ => none }
def FnCycStallWrongFalsely : Prop := fnCycStallRow.holds Tryz.pinned (OpenSpec.ofChange fnCycStallWrong)

/-- 'laws.FnCntStore': WHATEVER THE INPUT: true; the input reads as it did. -/
def fnCntStoreSpec : ChangeSpec := { name := "fnCntStore", fn := fun _ => fun
  | [d] => { results := [.lit (.bool true)], args := [d] }
  | _ => none }
def fnCntStoreRow : OpenClaim := { program := "ytgkdoehkmbhfiaagreat", sum := "7e1e22f7e42569c1754f153b934930a0f1c3ee6785f3e1b6e8341ef438d93952", func := "loop.example/crossyard/laws.FnCntStore", spec := "fnCntStore", unfollowed := true, recurses := true, plainKeys := false, apart := false }
def FnCntStoreSaid : Prop := fnCntStoreRow.holds Tryz.pinned (OpenSpec.ofChange fnCntStoreSpec)

/-- ITS FALSE NEIGHBOUR: 'it returns false'. Refute it at one input. -/
def fnCntStoreWrong : ChangeSpec := { name := "fnCntStore", fn := fun _ => fun
  | [d] => { results := [.lit (.bool false)], args := [d] }
  | _ => none }
def FnCntStoreWrongFalsely : Prop := fnCntStoreRow.holds Tryz.pinned (OpenSpec.ofChange fnCntStoreWrong)

/-- 'laws.FnCycNew': WHATEVER THE INPUT: true; the input reads as it did. -/
def fnCycNewSpec : ChangeSpec := { name := "fnCycNew", fn := fun _ => fun
  | [d] => { results := [.lit (.bool true)], args := [d] }
  | _ => none }
def fnCycNewRow : OpenClaim := { program := "ytgkdoehkmbhfiaagreat", sum := "7e1e22f7e42569c1754f153b934930a0f1c3ee6785f3e1b6e8341ef438d93952", func := "loop.example/crossyard/laws.FnCycNew", spec := "fnCycNew", unfollowed := true, recurses := true, plainKeys := false, apart := false }
def FnCycNewSaid : Prop := fnCycNewRow.holds Tryz.pinned (OpenSpec.ofChange fnCycNewSpec)

/-- ITS FALSE NEIGHBOUR: 'it returns false'. Refute it at one input. -/
def fnCycNewWrong : ChangeSpec := { name := "fnCycNew", fn := fun _ => fun
  | [d] => { results := [.lit (.bool false)], args := [d] }
  | _ => none }
def FnCycNewWrongFalsely : Prop := fnCycNewRow.holds Tryz.pinned (OpenSpec.ofChange fnCycNewWrong)

/-- 'laws.FnCycAlone': WHATEVER THE INPUT: true; the input reads as it did. -/
def fnCycAloneSpec : ChangeSpec := { name := "fnCycAlone", fn := fun _ => fun
  | [d] => { results := [.lit (.bool true)], args := [d] }
  | _ => none }
def fnCycAloneRow : OpenClaim := { program := "ytgkdoehkmbhfiaagreat", sum := "7e1e22f7e42569c1754f153b934930a0f1c3ee6785f3e1b6e8341ef438d93952", func := "loop.example/crossyard/laws.FnCycAlone", spec := "fnCycAlone", unfollowed := true, recurses := true, plainKeys := false, apart := false }
def FnCycAloneSaid : Prop := fnCycAloneRow.holds Tryz.pinned (OpenSpec.ofChange fnCycAloneSpec)

/-- ITS FALSE NEIGHBOUR: 'it returns false'. Refute it at one input. -/
def fnCycAloneWrong : ChangeSpec := { name := "fnCycAlone", fn := fun _ => fun
  | [d] => { results := [.lit (.bool false)], args := [d] }
  | _ => none }
def FnCycAloneWrongFalsely : Prop := fnCycAloneRow.holds Tryz.pinned (OpenSpec.ofChange fnCycAloneWrong)

/- THE SECOND FORM. 'bulk': how many values and letters a reading holds, each counted each time it is reached (what is shared counts as often as it is met; a slice's spare places count too). A statement '..UptoSaid' is the law's where the arguments, and the package variables that the reading takes, are together of bulk at most 1048576: NARROWER than '..Said'. Prove '..Said' where nothing that the law and all that it calls make is longer than what came in: it says more and counts as full. Else prove '..UptoSaid'. A law counts once. -/
mutual
def uptoBulk {H : Type} : DataW H → Nat
  | .lit (.string bytes) => bytes.length + 1
  | .lit _ => 1
  | .nil => 1
  | .ptr d => uptoBulk d + 1
  | .slice elems spare => uptoBulkAll elems + uptoBulkAll spare + 1
  | .agg parts => uptoBulkAll parts + 1
  | .iface _ d => uptoBulk d + 1
  | .map entries => uptoBulkEntries entries + 1
  | .held _ => 1
def uptoBulkAll {H : Type} : List (DataW H) → Nat
  | [] => 0
  | d :: r => uptoBulk d + uptoBulkAll r
def uptoBulkEntries {H : Type} : List (Lit × DataW H) → Nat
  | [] => 0
  | x :: r => uptoBulkEntry x + uptoBulkEntries r
def uptoBulkEntry {H : Type} : Lit × DataW H → Nat
  | (.string bytes, d) => bytes.length + uptoBulk d + 1
  | (_, d) => uptoBulk d + 1
 end
def uptoSmall : (H : Type) → List (DataW H) → Bool := fun _ ds => decide (uptoBulkAll ds ≤ 1048576)
def OpenSpec.upto (s : _root_.Go.ChangeSpec) : _root_.Go.OpenSpec := { _root_.Go.OpenSpec.ofChange s with cond := some uptoSmall }

/-- 'laws.FnCycFair', WHERE WHAT IT READS IS OF BULK AT MOST 1048576: true; the input reads as it did. -/
def fnCycFairUptoRow : OpenClaim := { program := "ytgkdoehkmbhfiaagreat", sum := "7e1e22f7e42569c1754f153b934930a0f1c3ee6785f3e1b6e8341ef438d93952", func := "loop.example/crossyard/laws.FnCycFair", spec := "fnCycFair", unfollowed := true, recurses := true, plainKeys := false, apart := false, narrowed := true }
def FnCycFairUptoSaid : Prop := fnCycFairUptoRow.holds Tryz.pinned (OpenSpec.upto fnCycFairSpec)

/-- 'laws.FnCycSwap', WHERE WHAT IT READS IS OF BULK AT MOST 1048576: true; the input reads as it did. -/
def fnCycSwapUptoRow : OpenClaim := { program := "ytgkdoehkmbhfiaagreat", sum := "7e1e22f7e42569c1754f153b934930a0f1c3ee6785f3e1b6e8341ef438d93952", func := "loop.example/crossyard/laws.FnCycSwap", spec := "fnCycSwap", unfollowed := true, recurses := true, plainKeys := false, apart := false, narrowed := true }
def FnCycSwapUptoSaid : Prop := fnCycSwapUptoRow.holds Tryz.pinned (OpenSpec.upto fnCycSwapSpec)

/-- 'laws.FnCycStall', WHERE WHAT IT READS IS OF BULK AT MOST 1048576: true; the input reads as it did. -/
def fnCycStallUptoRow : OpenClaim := { program := "ytgkdoehkmbhfiaagreat", sum := "7e1e22f7e42569c1754f153b934930a0f1c3ee6785f3e1b6e8341ef438d93952", func := "loop.example/crossyard/laws.FnCycStall", spec := "fnCycStall", unfollowed := true, recurses := true, plainKeys := false, apart := false, narrowed := true }
def FnCycStallUptoSaid : Prop := fnCycStallUptoRow.holds Tryz.pinned (OpenSpec.upto fnCycStallSpec)

/-- 'laws.FnCntStore', WHERE WHAT IT READS IS OF BULK AT MOST 1048576: true; the input reads as it did. -/
def fnCntStoreUptoRow : OpenClaim := { program := "ytgkdoehkmbhfiaagreat", sum := "7e1e22f7e42569c1754f153b934930a0f1c3ee6785f3e1b6e8341ef438d93952", func := "loop.example/crossyard/laws.FnCntStore", spec := "fnCntStore", unfollowed := true, recurses := true, plainKeys := false, apart := false, narrowed := true }
def FnCntStoreUptoSaid : Prop := fnCntStoreUptoRow.holds Tryz.pinned (OpenSpec.upto fnCntStoreSpec)

/-- 'laws.FnCycNew', WHERE WHAT IT READS IS OF BULK AT MOST 1048576: true; the input reads as it did. -/
def fnCycNewUptoRow : OpenClaim := { program := "ytgkdoehkmbhfiaagreat", sum := "7e1e22f7e42569c1754f153b934930a0f1c3ee6785f3e1b6e8341ef438d93952", func := "loop.example/crossyard/laws.FnCycNew", spec := "fnCycNew", unfollowed := true, recurses := true, plainKeys := false, apart := false, narrowed := true }
def FnCycNewUptoSaid : Prop := fnCycNewUptoRow.holds Tryz.pinned (OpenSpec.upto fnCycNewSpec)

/-- 'laws.FnCycAlone', WHERE WHAT IT READS IS OF BULK AT MOST 1048576: true; the input reads as it did. -/
def fnCycAloneUptoRow : OpenClaim := { program := "ytgkdoehkmbhfiaagreat", sum := "7e1e22f7e42569c1754f153b934930a0f1c3ee6785f3e1b6e8341ef438d93952", func := "loop.example/crossyard/laws.FnCycAlone", spec := "fnCycAlone", unfollowed := true, recurses := true, plainKeys := false, apart := false, narrowed := true }
def FnCycAloneUptoSaid : Prop := fnCycAloneUptoRow.holds Tryz.pinned (OpenSpec.upto fnCycAloneSpec)

end Rows
end Go.Proofs.YtgkdoehkmbhfiaaGreat
