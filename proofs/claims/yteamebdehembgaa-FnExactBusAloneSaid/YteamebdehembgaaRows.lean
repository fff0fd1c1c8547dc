/-
  No cell of these rows narrows 'for every input' (looked for: loops, veiled, ifaces, maps, wideKeys, modest, calm, conditions, laid).
  DERIVED. THE GIVEN ROWS OF THIS SEAT. 5 by the template 'for every input the law returns true; each argument reads behind the call as it read before'; 0 by the template 'total and deterministic' (their statements: YteamebdehembgaaTotals.lean).
  GIVEN WITH THE SEED: the statements are not yours to turn. If you find one false, say at which input.
  Laid BY PROGRAM, IN A SANDBOX (cutbox-rows.mjs): the forced cells as the released guide's own fill.sh prints them over the translation 2678cbd16cba886d… (all of the seat's roots in one cut). By AI agents, Wed Nov 11 2026. No macro, syntax, notation, axiom, sorry.
-/
import Derived.Test.YteamebdehembgaaChecked
import GoSem.Claim
import GoSem.ClaimJoined
import GoSem.ClaimMapViews
import Derived.JoinedTies
import Derived.KernelRfl
namespace Go.Proofs.Yteamebdehembgaa
/- THE CELL 'sum', in the pinned program and in every row, IS THE sha256 OF THE DUMP (.gsa) THAT YteamebdehembgaaProg.lean LOADS. Nothing in Lean hashes anything: it is a label: what it is worth is what the hold of that sum in a sandbox is worth. -/
noncomputable def Try.pinned : Pinned := { name := "yteamebdehembgaa", sum := "2678cbd16cba886d85666b812ec2087eee5c7ea44fdef5f862df9cb2cf88623f", checked := Try.checked }
namespace Rows
def none {H : Type} : Left H := { results := [], args := [] }

/-- 'laws.FnBusAlone': WHATEVER THE INPUT: true; the input reads as it did. -/
def fnBusAloneSpec : ChangeSpec := { name := "fnBusAlone", fn := fun _ => fun
  | [d] => { results := [.lit (.bool true)], args := [d] }
  | _ => none }
def fnBusAloneRow : OpenClaim := { program := "yteamebdehembgaa", sum := "2678cbd16cba886d85666b812ec2087eee5c7ea44fdef5f862df9cb2cf88623f", func := "loop.example/crossyard/laws.FnBusAlone", spec := "fnBusAlone", unfollowed := true, recurses := true, apart := false }
def FnBusAloneSaid : Prop := fnBusAloneRow.holds Try.pinned (OpenSpec.ofChange fnBusAloneSpec)

/-- ITS FALSE NEIGHBOUR: 'it returns false'. Refute it at one input. -/
def fnBusAloneWrong : ChangeSpec := { name := "fnBusAlone", fn := fun _ => fun
  | [d] => { results := [.lit (.bool false)], args := [d] }
  | _ => none }
def FnBusAloneWrongFalsely : Prop := fnBusAloneRow.holds Try.pinned (OpenSpec.ofChange fnBusAloneWrong)

/-- 'laws.FnExactCycNew': WHATEVER THE INPUT: true; the input reads as it did. -/
def fnExactCycNewSpec : ChangeSpec := { name := "fnExactCycNew", fn := fun _ => fun
  | [] => { results := [.lit (.bool true)], args := [] }
  | _ => none }
def fnExactCycNewRow : OpenClaim := { program := "yteamebdehembgaa", sum := "2678cbd16cba886d85666b812ec2087eee5c7ea44fdef5f862df9cb2cf88623f", func := "loop.example/crossyard/laws.FnExactCycNew", spec := "fnExactCycNew", apart := false }
def FnExactCycNewSaid : Prop := fnExactCycNewRow.holds Try.pinned (OpenSpec.ofChange fnExactCycNewSpec)

/-- ITS FALSE NEIGHBOUR: 'it returns false'. Refute it at one input. -/
def fnExactCycNewWrong : ChangeSpec := { name := "fnExactCycNew", fn := fun _ => fun
  | [] => { results := [.lit (.bool false)], args := [] }
  | _ => none }
def FnExactCycNewWrongFalsely : Prop := fnExactCycNewRow.holds Try.pinned (OpenSpec.ofChange fnExactCycNewWrong)

/-- 'laws.FnExactBusAlone': WHATEVER THE INPUT: true; the input reads as it did. -/
def fnExactBusAloneSpec : ChangeSpec := { name := "fnExactBusAlone", fn := fun _ => fun
  | [d1, d2] => { results := [.lit (.bool true)], args := [d1, d2] }
  | _ => none }
def fnExactBusAloneRow : OpenClaim := { program := "yteamebdehembgaa", sum := "2678cbd16cba886d85666b812ec2087eee5c7ea44fdef5f862df9cb2cf88623f", func := "loop.example/crossyard/laws.FnExactBusAlone", spec := "fnExactBusAlone", unfollowed := true, recurses := true, apart := false }
def FnExactBusAloneSaid : Prop := fnExactBusAloneRow.holds Try.pinned (OpenSpec.ofChange fnExactBusAloneSpec)

/-- ITS FALSE NEIGHBOUR: 'it returns false'. Refute it at one input. -/
def fnExactBusAloneWrong : ChangeSpec := { name := "fnExactBusAlone", fn := fun _ => fun
  | [d1, d2] => { results := [.lit (.bool false)], args := [d1, d2] }
  | _ => none }
def FnExactBusAloneWrongFalsely : Prop := fnExactBusAloneRow.holds Try.pinned (OpenSpec.ofChange fnExactBusAloneWrong)

/-- 'laws.FnExactAtmDo': WHATEVER THE INPUT: true; the input reads as it did. -/
def fnExactAtmDoSpec : ChangeSpec := { name := "fnExactAtmDo", fn := fun _ => fun
  | [d1, d2, d3, d4] => { results := [.lit (.bool true)], args := [d1, d2, d3, d4] }
  | _ => none }
def fnExactAtmDoRow : OpenClaim := { program := "yteamebdehembgaa", sum := "2678cbd16cba886d85666b812ec2087eee5c7ea44fdef5f862df9cb2cf88623f", func := "loop.example/crossyard/laws.FnExactAtmDo", spec := "fnExactAtmDo", unfollowed := true, recurses := true, apart := false }
def FnExactAtmDoSaid : Prop := fnExactAtmDoRow.holds Try.pinned (OpenSpec.ofChange fnExactAtmDoSpec)

/-- ITS FALSE NEIGHBOUR: 'it returns false'. Refute it at one input. -/
def fnExactAtmDoWrong : ChangeSpec := { name := "fnExactAtmDo", fn := fun _ => fun
  | [d1, d2, d3, d4] => { results := [.lit (.bool false)], args := [d1, d2, d3, d4] }
  | _ => none }
def FnExactAtmDoWrongFalsely : Prop := fnExactAtmDoRow.holds Try.pinned (OpenSpec.ofChange fnExactAtmDoWrong)

/-- 'laws.FnExactAtmRun': WHATEVER THE INPUT: true; the input reads as it did. -/
def fnExactAtmRunSpec : ChangeSpec := { name := "fnExactAtmRun", fn := fun _ => fun
  | [d1, d2, d3, d4] => { results := [.lit (.bool true)], args := [d1, d2, d3, d4] }
  | _ => none }
def fnExactAtmRunRow : OpenClaim := { program := "yteamebdehembgaa", sum := "2678cbd16cba886d85666b812ec2087eee5c7ea44fdef5f862df9cb2cf88623f", func := "loop.example/crossyard/laws.FnExactAtmRun", spec := "fnExactAtmRun", unfollowed := true, recurses := true, apart := false }
def FnExactAtmRunSaid : Prop := fnExactAtmRunRow.holds Try.pinned (OpenSpec.ofChange fnExactAtmRunSpec)

/-- ITS FALSE NEIGHBOUR: 'it returns false'. Refute it at one input. -/
def fnExactAtmRunWrong : ChangeSpec := { name := "fnExactAtmRun", fn := fun _ => fun
  | [d1, d2, d3, d4] => { results := [.lit (.bool false)], args := [d1, d2, d3, d4] }
  | _ => none }
def FnExactAtmRunWrongFalsely : Prop := fnExactAtmRunRow.holds Try.pinned (OpenSpec.ofChange fnExactAtmRunWrong)

/- THE SECOND FORM. 'bulk': how many values and letters a reading holds, each counted each time it is reached (what is shared counts as often as it is met; a slice's spare places count too). A statement '..UptoSaid' is the law's where the arguments, and the package variables that the reading takes, are together of bulk at most 1048576: NARROWER than '..Said'. Prove '..Said' where nothing that the law and all that it calls make is longer than what came in: it says more and counts as full. Else prove '..UptoSaid'. A law counts once. -/
mutual
def uptoBulk {H : Type} : DataW H → Nat
  | .lit (.string bytes) => bytes.length + 1
  | .lit _ => 1
  | .nil => 1
  | .ptr d => uptoBulk d + 1
  | .slice elems spare => uptoBulkAll elems + uptoBulkAll spare + 1
  | .agg parts => uptoBulkAll parts + 1
  | .iface _ d => uptoBulk d + 1
  | .map entries => uptoBulkEntries entries + 1
  | .held _ => 1
def uptoBulkAll {H : Type} : List (DataW H) → Nat
  | [] => 0
  | d :: r => uptoBulk d + uptoBulkAll r
def uptoBulkEntries {H : Type} : List (Lit × DataW H) → Nat
  | [] => 0
  | x :: r => uptoBulkEntry x + uptoBulkEntries r
def uptoBulkEntry {H : Type} : Lit × DataW H → Nat
  | (.string bytes, d) => bytes.length + uptoBulk d + 1
  | (_, d) => uptoBulk d + 1
 end
def uptoSmall : (H : Type) → List (DataW H) → Bool := fun _ ds => decide (uptoBulkAll ds ≤ 1048576)
def OpenSpec.upto (s : _root_.Go.ChangeSpec) : _root_.Go.OpenSpec := { _root_.Go.OpenSpec.ofChange s with cond := some uptoSmall }

/-- 'laws.FnBusAlone', WHERE WHAT IT READS IS OF BULK AT MOST 1048576: true; the input reads as it did. -/
def fnBusAloneUptoRow : OpenClaim := { program := "yteamebdehembgaa", sum := "2678cbd16cba886d85666b812ec2087eee5c7ea44fdef5f862df9cb2cf88623f", func := "loop.example/crossyard/laws.FnBusAlone", spec := "fnBusAlone", unfollowed := true, recurses := true, apart := false, narrowed := true }
def FnBusAloneUptoSaid : Prop := fnBusAloneUptoRow.holds Try.pinned (OpenSpec.upto fnBusAloneSpec)

/-- 'laws.FnExactCycNew', WHERE WHAT IT READS IS OF BULK AT MOST 1048576: true; the input reads as it did. -/
def fnExactCycNewUptoRow : OpenClaim := { program := "yteamebdehembgaa", sum := "2678cbd16cba886d85666b812ec2087eee5c7ea44fdef5f862df9cb2cf88623f", func := "loop.example/crossyard/laws.FnExactCycNew", spec := "fnExactCycNew", apart := false, narrowed := true }
def FnExactCycNewUptoSaid : Prop := fnExactCycNewUptoRow.holds Try.pinned (OpenSpec.upto fnExactCycNewSpec)

/-- 'laws.FnExactBusAlone', WHERE WHAT IT READS IS OF BULK AT MOST 1048576: true; the input reads as it did. -/
def fnExactBusAloneUptoRow : OpenClaim := { program := "yteamebdehembgaa", sum := "2678cbd16cba886d85666b812ec2087eee5c7ea44fdef5f862df9cb2cf88623f", func := "loop.example/crossyard/laws.FnExactBusAlone", spec := "fnExactBusAlone", unfollowed := true, recurses := true, apart := false, narrowed := true }
def FnExactBusAloneUptoSaid : Prop := fnExactBusAloneUptoRow.holds Try.pinned (OpenSpec.upto fnExactBusAloneSpec)

/-- 'laws.FnExactAtmDo', WHERE WHAT IT READS IS OF BULK AT MOST 1048576: true; the input reads as it did. -/
def fnExactAtmDoUptoRow : OpenClaim := { program := "yteamebdehembgaa", sum := "2678cbd16cba886d85666b812ec2087eee5c7ea44fdef5f862df9cb2cf88623f", func := "loop.example/crossyard/laws.FnExactAtmDo", spec := "fnExactAtmDo", unfollowed := true, recurses := true, apart := false, narrowed := true }
def FnExactAtmDoUptoSaid : Prop := fnExactAtmDoUptoRow.holds Try.pinned (OpenSpec.upto fnExactAtmDoSpec)

/-- 'laws.FnExactAtmRun', WHERE WHAT IT READS IS OF BULK AT MOST 1048576: true; the input reads as it did. -/
def fnExactAtmRunUptoRow : OpenClaim := { program := "yteamebdehembgaa", sum := "2678cbd16cba886d85666b812ec2087eee5c7ea44fdef5f862df9cb2cf88623f", func := "loop.example/crossyard/laws.FnExactAtmRun", spec := "fnExactAtmRun", unfollowed := true, recurses := true, apart := false, narrowed := true }
def FnExactAtmRunUptoSaid : Prop := fnExactAtmRunUptoRow.holds Try.pinned (OpenSpec.upto fnExactAtmRunSpec)

end Rows
end Go.Proofs.Yteamebdehembgaa
