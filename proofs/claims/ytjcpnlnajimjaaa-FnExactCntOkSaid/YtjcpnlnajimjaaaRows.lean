/-
  No cell of these rows narrows 'for every input' (looked for: loops, veiled, ifaces, maps, wideKeys, modest, calm, conditions, laid).
  DERIVED. THE GIVEN ROWS OF THIS SEAT. 4 by the template 'for every input the law returns true; each argument reads behind the call as it read before'; 0 by the template 'total and deterministic' (their statements: YtjcpnlnajimjaaaTotals.lean).
  GIVEN WITH THE SEED: the statements are not yours to turn. If you find one false, say at which input.
  Laid BY PROGRAM, IN A SANDBOX (cutbox-rows.mjs): the forced cells as the released guide's own fill.sh prints them over the translation a6e6b9412018e2c7… (all of the seat's roots in one cut). By AI agents, Wed Nov 11 2026. No macro, syntax, notation, axiom, sorry.
-/
import Derived.Test.YtjcpnlnajimjaaaChecked
import GoSem.Claim
import GoSem.ClaimJoined
import GoSem.ClaimMapViews
import Derived.JoinedTies
import Derived.KernelRfl
namespace Go.Proofs.Ytjcpnlnajimjaaa
/- THE CELL 'sum', in the pinned program and in every row, IS THE sha256 OF THE DUMP (.gsa) THAT YtjcpnlnajimjaaaProg.lean LOADS. Nothing in Lean hashes anything: it is a label: what it is worth is what the hold of that sum in a sandbox is worth. -/
noncomputable def Try.pinned : Pinned := { name := "ytjcpnlnajimjaaa", sum := "a6e6b9412018e2c7ff8b0f983398a6f6586117965456df8e88040d3c7a6a4b01", checked := Try.checked }
namespace Rows
def none {H : Type} : Left H := { results := [], args := [] }

/-- 'laws.FnExactArbNext': WHATEVER THE INPUT: true; the input reads as it did. -/
def fnExactArbNextSpec : ChangeSpec := { name := "fnExactArbNext", fn := fun _ => fun
  | [d1, d2] => { results := [.lit (.bool true)], args := [d1, d2] }
  | _ => none }
def fnExactArbNextRow : OpenClaim := { program := "ytjcpnlnajimjaaa", sum := "a6e6b9412018e2c7ff8b0f983398a6f6586117965456df8e88040d3c7a6a4b01", func := "loop.example/crossyard/laws.FnExactArbNext", spec := "fnExactArbNext", apart := false }
def FnExactArbNextSaid : Prop := fnExactArbNextRow.holds Try.pinned (OpenSpec.ofChange fnExactArbNextSpec)

/-- ITS FALSE NEIGHBOUR: 'it returns false'. Refute it at one input. -/
def fnExactArbNextWrong : ChangeSpec := { name := "fnExactArbNext", fn := fun _ => fun
  | [d1, d2] => { results := [.lit (.bool false)], args := [d1, d2] }
  | _ => none }
def FnExactArbNextWrongFalsely : Prop := fnExactArbNextRow.holds Try.pinned (OpenSpec.ofChange fnExactArbNextWrong)

/-- 'laws.FnArbNext': WHATEVER THE INPUT: true; the input reads as it did. -/
def fnArbNextSpec : ChangeSpec := { name := "fnArbNext", fn := fun _ => fun
  | [d] => { results := [.lit (.bool true)], args := [d] }
  | _ => none }
def fnArbNextRow : OpenClaim := { program := "ytjcpnlnajimjaaa", sum := "a6e6b9412018e2c7ff8b0f983398a6f6586117965456df8e88040d3c7a6a4b01", func := "loop.example/crossyard/laws.FnArbNext", spec := "fnArbNext", apart := false }
def FnArbNextSaid : Prop := fnArbNextRow.holds Try.pinned (OpenSpec.ofChange fnArbNextSpec)

/-- ITS FALSE NEIGHBOUR: 'it returns false'. Refute it at one input. -/
def fnArbNextWrong : ChangeSpec := { name := "fnArbNext", fn := fun _ => fun
  | [d] => { results := [.lit (.bool false)], args := [d] }
  | _ => none }
def FnArbNextWrongFalsely : Prop := fnArbNextRow.holds Try.pinned (OpenSpec.ofChange fnArbNextWrong)

/-- 'laws.FnExactCntNew': WHATEVER THE INPUT: true; the input reads as it did. -/
def fnExactCntNewSpec : ChangeSpec := { name := "fnExactCntNew", fn := fun _ => fun
  | [] => { results := [.lit (.bool true)], args := [] }
  | _ => none }
def fnExactCntNewRow : OpenClaim := { program := "ytjcpnlnajimjaaa", sum := "a6e6b9412018e2c7ff8b0f983398a6f6586117965456df8e88040d3c7a6a4b01", func := "loop.example/crossyard/laws.FnExactCntNew", spec := "fnExactCntNew", unfollowed := true, recurses := true, apart := false }
def FnExactCntNewSaid : Prop := fnExactCntNewRow.holds Try.pinned (OpenSpec.ofChange fnExactCntNewSpec)

/-- ITS FALSE NEIGHBOUR: 'it returns false'. Refute it at one input. -/
def fnExactCntNewWrong : ChangeSpec := { name := "fnExactCntNew", fn := fun _ => fun
  | [] => { results := [.lit (.bool false)], args := [] }
  | _ => none }
def FnExactCntNewWrongFalsely : Prop := fnExactCntNewRow.holds Try.pinned (OpenSpec.ofChange fnExactCntNewWrong)

/-- 'laws.FnExactCntOk': WHATEVER THE INPUT: true; the input reads as it did. -/
def fnExactCntOkSpec : ChangeSpec := { name := "fnExactCntOk", fn := fun _ => fun
  | [d] => { results := [.lit (.bool true)], args := [d] }
  | _ => none }
def fnExactCntOkRow : OpenClaim := { program := "ytjcpnlnajimjaaa", sum := "a6e6b9412018e2c7ff8b0f983398a6f6586117965456df8e88040d3c7a6a4b01", func := "loop.example/crossyard/laws.FnExactCntOk", spec := "fnExactCntOk", unfollowed := true, recurses := true, apart := false }
def FnExactCntOkSaid : Prop := fnExactCntOkRow.holds Try.pinned (OpenSpec.ofChange fnExactCntOkSpec)

/-- ITS FALSE NEIGHBOUR: 'it returns false'. Refute it at one input. -/
def fnExactCntOkWrong : ChangeSpec := { name := "fnExactCntOk", fn := fun _ => fun
  | [d] => { results := [.lit (.bool false)], args := [d] }
  | _ => none }
def FnExactCntOkWrongFalsely : Prop := fnExactCntOkRow.holds Try.pinned (OpenSpec.ofChange fnExactCntOkWrong)

/- THE SECOND FORM. 'bulk': how many values and letters a reading holds, each counted each time it is reached (what is shared counts as often as it is met; a slice's spare places count too). A statement '..UptoSaid' is the law's where the arguments, and the package variables that the reading takes, are together of bulk at most 1048576: NARROWER than '..Said'. Prove '..Said' where nothing that the law and all that it calls make is longer than what came in: it says more and counts as full. Else prove '..UptoSaid'. A law counts once. -/
mutual
def uptoBulk {H : Type} : DataW H → Nat
  | .lit (.string bytes) => bytes.length + 1
  | .lit _ => 1
  | .nil => 1
  | .ptr d => uptoBulk d + 1
  | .slice elems spare => uptoBulkAll elems + uptoBulkAll spare + 1
  | .agg parts => uptoBulkAll parts + 1
  | .iface _ d => uptoBulk d + 1
  | .map entries => uptoBulkEntries entries + 1
  | .held _ => 1
def uptoBulkAll {H : Type} : List (DataW H) → Nat
  | [] => 0
  | d :: r => uptoBulk d + uptoBulkAll r
def uptoBulkEntries {H : Type} : List (Lit × DataW H) → Nat
  | [] => 0
  | x :: r => uptoBulkEntry x + uptoBulkEntries r
def uptoBulkEntry {H : Type} : Lit × DataW H → Nat
  | (.string bytes, d) => bytes.length + uptoBulk d + 1
  | (_, d) => uptoBulk d + 1
 end
def uptoSmall : (H : Type) → List (DataW H) → Bool := fun _ ds => decide (uptoBulkAll ds ≤ 1048576)
def OpenSpec.upto (s : _root_.Go.ChangeSpec) : _root_.Go.OpenSpec := { _root_.Go.OpenSpec.ofChange s with cond := some uptoSmall }

/-- 'laws.FnExactArbNext', WHERE WHAT IT READS IS OF BULK AT MOST 1048576: true; the input reads as it did. -/
def fnExactArbNextUptoRow : OpenClaim := { program := "ytjcpnlnajimjaaa", sum := "a6e6b9412018e2c7ff8b0f983398a6f6586117965456df8e88040d3c7a6a4b01", func := "loop.example/crossyard/laws.FnExactArbNext", spec := "fnExactArbNext", apart := false, narrowed := true }
def FnExactArbNextUptoSaid : Prop := fnExactArbNextUptoRow.holds Try.pinned (OpenSpec.upto fnExactArbNextSpec)

/-- 'laws.FnArbNext', WHERE WHAT IT READS IS OF BULK AT MOST 1048576: true; the input reads as it did. -/
def fnArbNextUptoRow : OpenClaim := { program := "ytjcpnlnajimjaaa", sum := "a6e6b9412018e2c7ff8b0f983398a6f6586117965456df8e88040d3c7a6a4b01", func := "loop.example/crossyard/laws.FnArbNext", spec := "fnArbNext", apart := false, narrowed := true }
def FnArbNextUptoSaid : Prop := fnArbNextUptoRow.holds Try.pinned (OpenSpec.upto fnArbNextSpec)

/-- 'laws.FnExactCntNew', WHERE WHAT IT READS IS OF BULK AT MOST 1048576: true; the input reads as it did. -/
def fnExactCntNewUptoRow : OpenClaim := { program := "ytjcpnlnajimjaaa", sum := "a6e6b9412018e2c7ff8b0f983398a6f6586117965456df8e88040d3c7a6a4b01", func := "loop.example/crossyard/laws.FnExactCntNew", spec := "fnExactCntNew", unfollowed := true, recurses := true, apart := false, narrowed := true }
def FnExactCntNewUptoSaid : Prop := fnExactCntNewUptoRow.holds Try.pinned (OpenSpec.upto fnExactCntNewSpec)

/-- 'laws.FnExactCntOk', WHERE WHAT IT READS IS OF BULK AT MOST 1048576: true; the input reads as it did. -/
def fnExactCntOkUptoRow : OpenClaim := { program := "ytjcpnlnajimjaaa", sum := "a6e6b9412018e2c7ff8b0f983398a6f6586117965456df8e88040d3c7a6a4b01", func := "loop.example/crossyard/laws.FnExactCntOk", spec := "fnExactCntOk", unfollowed := true, recurses := true, apart := false, narrowed := true }
def FnExactCntOkUptoSaid : Prop := fnExactCntOkUptoRow.holds Try.pinned (OpenSpec.upto fnExactCntOkSpec)

end Rows
end Go.Proofs.Ytjcpnlnajimjaaa
