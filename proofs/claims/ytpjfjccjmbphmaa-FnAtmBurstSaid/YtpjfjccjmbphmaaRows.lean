/-
  No cell of these rows narrows 'for every input' (looked for: loops, veiled, ifaces, maps, wideKeys, modest, calm, conditions, laid).
  DERIVED. THE GIVEN ROWS OF THIS SEAT. 12 by the template 'for every input the law returns true; each argument reads behind the call as it read before'; 0 by the template 'total and deterministic' (their statements: YtpjfjccjmbphmaaTotals.lean).
  GIVEN WITH THE SEED: the statements are not yours to turn. If you find one false, say at which input.
  Laid BY PROGRAM, IN A SANDBOX (cutbox-rows.mjs): the forced cells as the released guide's own fill.sh prints them over the translation cf63c2405d08b90a… (all of the seat's roots in one cut). By AI agents, Wed Nov 11 2026. No macro, syntax, notation, axiom, sorry.
-/
import Derived.Test.YtpjfjccjmbphmaaChecked
import GoSem.Claim
import GoSem.ClaimJoined
import GoSem.ClaimMapViews
import Derived.JoinedTies
import Derived.KernelRfl
namespace Go.Proofs.Ytpjfjccjmbphmaa
/- THE CELL 'sum', in the pinned program and in every row, IS THE sha256 OF THE DUMP (.gsa) THAT YtpjfjccjmbphmaaProg.lean LOADS. Nothing in Lean hashes anything: it is a label: what it is worth is what the hold of that sum in a sandbox is worth. -/
noncomputable def Try.pinned : Pinned := { name := "ytpjfjccjmbphmaa", sum := "cf63c2405d08b90af9f50ddff12549cfb8b12adc666aacc4afa1b86a74e45c42", checked := Try.checked }
namespace Rows
def none {H : Type} : Left H := { results := [], args := [] }

/-- 'laws.FnAtmOther': WHATEVER THE INPUT: true; the input reads as it did. -/
def fnAtmOtherSpec : ChangeSpec := { name := "fnAtmOther", fn := fun _ => fun
  | [d] => { results := [.lit (.bool true)], args := [d] }
  | _ => none }
def fnAtmOtherRow : OpenClaim := { program := "ytpjfjccjmbphmaa", sum := "cf63c2405d08b90af9f50ddff12549cfb8b12adc666aacc4afa1b86a74e45c42", func := "loop.example/crossyard/laws.FnAtmOther", spec := "fnAtmOther", unfollowed := true, recurses := true, apart := false }
def FnAtmOtherSaid : Prop := fnAtmOtherRow.holds Try.pinned (OpenSpec.ofChange fnAtmOtherSpec)

/-- ITS FALSE NEIGHBOUR: 'it returns false'. Refute it at one input. -/
def fnAtmOtherWrong : ChangeSpec := { name := "fnAtmOther", fn := fun _ => fun
  | [d] => { results := [.lit (.bool false)], args := [d] }
  | _ => none }
def FnAtmOtherWrongFalsely : Prop := fnAtmOtherRow.holds Try.pinned (OpenSpec.ofChange fnAtmOtherWrong)

/-- 'laws.FnAtmTry': WHATEVER THE INPUT: true; the input reads as it did. -/
def fnAtmTrySpec : ChangeSpec := { name := "fnAtmTry", fn := fun _ => fun
  | [d1, d2] => { results := [.lit (.bool true)], args := [d1, d2] }
  | _ => none }
def fnAtmTryRow : OpenClaim := { program := "ytpjfjccjmbphmaa", sum := "cf63c2405d08b90af9f50ddff12549cfb8b12adc666aacc4afa1b86a74e45c42", func := "loop.example/crossyard/laws.FnAtmTry", spec := "fnAtmTry", unfollowed := true, recurses := true, apart := false }
def FnAtmTrySaid : Prop := fnAtmTryRow.holds Try.pinned (OpenSpec.ofChange fnAtmTrySpec)

/-- ITS FALSE NEIGHBOUR: 'it returns false'. Refute it at one input. -/
def fnAtmTryWrong : ChangeSpec := { name := "fnAtmTry", fn := fun _ => fun
  | [d1, d2] => { results := [.lit (.bool false)], args := [d1, d2] }
  | _ => none }
def FnAtmTryWrongFalsely : Prop := fnAtmTryRow.holds Try.pinned (OpenSpec.ofChange fnAtmTryWrong)

/-- 'laws.FnAtmWrap': WHATEVER THE INPUT: true; the input reads as it did. -/
def fnAtmWrapSpec : ChangeSpec := { name := "fnAtmWrap", fn := fun _ => fun
  | [d] => { results := [.lit (.bool true)], args := [d] }
  | _ => none }
def fnAtmWrapRow : OpenClaim := { program := "ytpjfjccjmbphmaa", sum := "cf63c2405d08b90af9f50ddff12549cfb8b12adc666aacc4afa1b86a74e45c42", func := "loop.example/crossyard/laws.FnAtmWrap", spec := "fnAtmWrap", unfollowed := true, recurses := true, apart := false }
def FnAtmWrapSaid : Prop := fnAtmWrapRow.holds Try.pinned (OpenSpec.ofChange fnAtmWrapSpec)

/-- ITS FALSE NEIGHBOUR: 'it returns false'. Refute it at one input. -/
def fnAtmWrapWrong : ChangeSpec := { name := "fnAtmWrap", fn := fun _ => fun
  | [d] => { results := [.lit (.bool false)], args := [d] }
  | _ => none }
def FnAtmWrapWrongFalsely : Prop := fnAtmWrapRow.holds Try.pinned (OpenSpec.ofChange fnAtmWrapWrong)

/-- 'laws.FnAtmTwice': WHATEVER THE INPUT: true; the input reads as it did. -/
def fnAtmTwiceSpec : ChangeSpec := { name := "fnAtmTwice", fn := fun _ => fun
  | [d] => { results := [.lit (.bool true)], args := [d] }
  | _ => none }
def fnAtmTwiceRow : OpenClaim := { program := "ytpjfjccjmbphmaa", sum := "cf63c2405d08b90af9f50ddff12549cfb8b12adc666aacc4afa1b86a74e45c42", func := "loop.example/crossyard/laws.FnAtmTwice", spec := "fnAtmTwice", unfollowed := true, recurses := true, apart := false }
def FnAtmTwiceSaid : Prop := fnAtmTwiceRow.holds Try.pinned (OpenSpec.ofChange fnAtmTwiceSpec)

/-- ITS FALSE NEIGHBOUR: 'it returns false'. Refute it at one input. -/
def fnAtmTwiceWrong : ChangeSpec := { name := "fnAtmTwice", fn := fun _ => fun
  | [d] => { results := [.lit (.bool false)], args := [d] }
  | _ => none }
def FnAtmTwiceWrongFalsely : Prop := fnAtmTwiceRow.holds Try.pinned (OpenSpec.ofChange fnAtmTwiceWrong)

/-- 'laws.FnAtmWho': WHATEVER THE INPUT: true; the input reads as it did. -/
def fnAtmWhoSpec : ChangeSpec := { name := "fnAtmWho", fn := fun _ => fun
  | [d] => { results := [.lit (.bool true)], args := [d] }
  | _ => none }
def fnAtmWhoRow : OpenClaim := { program := "ytpjfjccjmbphmaa", sum := "cf63c2405d08b90af9f50ddff12549cfb8b12adc666aacc4afa1b86a74e45c42", func := "loop.example/crossyard/laws.FnAtmWho", spec := "fnAtmWho", unfollowed := true, recurses := true, apart := false }
def FnAtmWhoSaid : Prop := fnAtmWhoRow.holds Try.pinned (OpenSpec.ofChange fnAtmWhoSpec)

/-- ITS FALSE NEIGHBOUR: 'it returns false'. Refute it at one input. -/
def fnAtmWhoWrong : ChangeSpec := { name := "fnAtmWho", fn := fun _ => fun
  | [d] => { results := [.lit (.bool false)], args := [d] }
  | _ => none }
def FnAtmWhoWrongFalsely : Prop := fnAtmWhoRow.holds Try.pinned (OpenSpec.ofChange fnAtmWhoWrong)

/-- 'laws.FnAtmHold': WHATEVER THE INPUT: true; the input reads as it did. -/
def fnAtmHoldSpec : ChangeSpec := { name := "fnAtmHold", fn := fun _ => fun
  | [d] => { results := [.lit (.bool true)], args := [d] }
  | _ => none }
def fnAtmHoldRow : OpenClaim := { program := "ytpjfjccjmbphmaa", sum := "cf63c2405d08b90af9f50ddff12549cfb8b12adc666aacc4afa1b86a74e45c42", func := "loop.example/crossyard/laws.FnAtmHold", spec := "fnAtmHold", unfollowed := true, recurses := true, apart := false }
def FnAtmHoldSaid : Prop := fnAtmHoldRow.holds Try.pinned (OpenSpec.ofChange fnAtmHoldSpec)

/-- ITS FALSE NEIGHBOUR: 'it returns false'. Refute it at one input. -/
def fnAtmHoldWrong : ChangeSpec := { name := "fnAtmHold", fn := fun _ => fun
  | [d] => { results := [.lit (.bool false)], args := [d] }
  | _ => none }
def FnAtmHoldWrongFalsely : Prop := fnAtmHoldRow.holds Try.pinned (OpenSpec.ofChange fnAtmHoldWrong)

/-- 'laws.FnAtmRead': WHATEVER THE INPUT: true; the input reads as it did. -/
def fnAtmReadSpec : ChangeSpec := { name := "fnAtmRead", fn := fun _ => fun
  | [d] => { results := [.lit (.bool true)], args := [d] }
  | _ => none }
def fnAtmReadRow : OpenClaim := { program := "ytpjfjccjmbphmaa", sum := "cf63c2405d08b90af9f50ddff12549cfb8b12adc666aacc4afa1b86a74e45c42", func := "loop.example/crossyard/laws.FnAtmRead", spec := "fnAtmRead", unfollowed := true, recurses := true, apart := false }
def FnAtmReadSaid : Prop := fnAtmReadRow.holds Try.pinned (OpenSpec.ofChange fnAtmReadSpec)

/-- ITS FALSE NEIGHBOUR: 'it returns false'. Refute it at one input. -/
def fnAtmReadWrong : ChangeSpec := { name := "fnAtmRead", fn := fun _ => fun
  | [d] => { results := [.lit (.bool false)], args := [d] }
  | _ => none }
def FnAtmReadWrongFalsely : Prop := fnAtmReadRow.holds Try.pinned (OpenSpec.ofChange fnAtmReadWrong)

/-- 'laws.FnAtmBurst': WHATEVER THE INPUT: true; the input reads as it did. -/
def fnAtmBurstSpec : ChangeSpec := { name := "fnAtmBurst", fn := fun _ => fun
  | [d] => { results := [.lit (.bool true)], args := [d] }
  | _ => none }
def fnAtmBurstRow : OpenClaim := { program := "ytpjfjccjmbphmaa", sum := "cf63c2405d08b90af9f50ddff12549cfb8b12adc666aacc4afa1b86a74e45c42", func := "loop.example/crossyard/laws.FnAtmBurst", spec := "fnAtmBurst", unfollowed := true, recurses := true, apart := false }
def FnAtmBurstSaid : Prop := fnAtmBurstRow.holds Try.pinned (OpenSpec.ofChange fnAtmBurstSpec)

/-- ITS FALSE NEIGHBOUR: 'it returns false'. Refute it at one input. -/
def fnAtmBurstWrong : ChangeSpec := { name := "fnAtmBurst", fn := fun _ => fun
  | [d] => { results := [.lit (.bool false)], args := [d] }
  | _ => none }
def FnAtmBurstWrongFalsely : Prop := fnAtmBurstRow.holds Try.pinned (OpenSpec.ofChange fnAtmBurstWrong)

/-- 'laws.FnAtmSwap': WHATEVER THE INPUT: true; the input reads as it did. -/
def fnAtmSwapSpec : ChangeSpec := { name := "fnAtmSwap", fn := fun _ => fun
  | [d1, d2] => { results := [.lit (.bool true)], args := [d1, d2] }
  | _ => none }
def fnAtmSwapRow : OpenClaim := { program := "ytpjfjccjmbphmaa", sum := "cf63c2405d08b90af9f50ddff12549cfb8b12adc666aacc4afa1b86a74e45c42", func := "loop.example/crossyard/laws.FnAtmSwap", spec := "fnAtmSwap", unfollowed := true, recurses := true, apart := false }
def FnAtmSwapSaid : Prop := fnAtmSwapRow.holds Try.pinned (OpenSpec.ofChange fnAtmSwapSpec)

/-- ITS FALSE NEIGHBOUR: 'it returns false'. Refute it at one input. -/
def fnAtmSwapWrong : ChangeSpec := { name := "fnAtmSwap", fn := fun _ => fun
  | [d1, d2] => { results := [.lit (.bool false)], args := [d1, d2] }
  | _ => none }
def FnAtmSwapWrongFalsely : Prop := fnAtmSwapRow.holds Try.pinned (OpenSpec.ofChange fnAtmSwapWrong)

/-- 'laws.FnAtmDo': WHATEVER THE INPUT: true; the input reads as it did. -/
def fnAtmDoSpec : ChangeSpec := { name := "fnAtmDo", fn := fun _ => fun
  | [d] => { results := [.lit (.bool true)], args := [d] }
  | _ => none }
def fnAtmDoRow : OpenClaim := { program := "ytpjfjccjmbphmaa", sum := "cf63c2405d08b90af9f50ddff12549cfb8b12adc666aacc4afa1b86a74e45c42", func := "loop.example/crossyard/laws.FnAtmDo", spec := "fnAtmDo", unfollowed := true, recurses := true, apart := false }
def FnAtmDoSaid : Prop := fnAtmDoRow.holds Try.pinned (OpenSpec.ofChange fnAtmDoSpec)

/-- ITS FALSE NEIGHBOUR: 'it returns false'. Refute it at one input. -/
def fnAtmDoWrong : ChangeSpec := { name := "fnAtmDo", fn := fun _ => fun
  | [d] => { results := [.lit (.bool false)], args := [d] }
  | _ => none }
def FnAtmDoWrongFalsely : Prop := fnAtmDoRow.holds Try.pinned (OpenSpec.ofChange fnAtmDoWrong)

/-- 'laws.FnAtmCode': WHATEVER THE INPUT: true; the input reads as it did. -/
def fnAtmCodeSpec : ChangeSpec := { name := "fnAtmCode", fn := fun _ => fun
  | [d] => { results := [.lit (.bool true)], args := [d] }
  | _ => none }
def fnAtmCodeRow : OpenClaim := { program := "ytpjfjccjmbphmaa", sum := "cf63c2405d08b90af9f50ddff12549cfb8b12adc666aacc4afa1b86a74e45c42", func := "loop.example/crossyard/laws.FnAtmCode", spec := "fnAtmCode", unfollowed := true, recurses := true, apart := false }
def FnAtmCodeSaid : Prop := fnAtmCodeRow.holds Try.pinned (OpenSpec.ofChange fnAtmCodeSpec)

/-- ITS FALSE NEIGHBOUR: 'it returns false'. Refute it at one input. -/
def fnAtmCodeWrong : ChangeSpec := { name := "fnAtmCode", fn := fun _ => fun
  | [d] => { results := [.lit (.bool false)], args := [d] }
  | _ => none }
def FnAtmCodeWrongFalsely : Prop := fnAtmCodeRow.holds Try.pinned (OpenSpec.ofChange fnAtmCodeWrong)

/-- 'laws.FnAtmRun': WHATEVER THE INPUT: true; the input reads as it did. -/
def fnAtmRunSpec : ChangeSpec := { name := "fnAtmRun", fn := fun _ => fun
  | [d] => { results := [.lit (.bool true)], args := [d] }
  | _ => none }
def fnAtmRunRow : OpenClaim := { program := "ytpjfjccjmbphmaa", sum := "cf63c2405d08b90af9f50ddff12549cfb8b12adc666aacc4afa1b86a74e45c42", func := "loop.example/crossyard/laws.FnAtmRun", spec := "fnAtmRun", unfollowed := true, recurses := true, apart := false }
def FnAtmRunSaid : Prop := fnAtmRunRow.holds Try.pinned (OpenSpec.ofChange fnAtmRunSpec)

/-- ITS FALSE NEIGHBOUR: 'it returns false'. Refute it at one input. -/
def fnAtmRunWrong : ChangeSpec := { name := "fnAtmRun", fn := fun _ => fun
  | [d] => { results := [.lit (.bool false)], args := [d] }
  | _ => none }
def FnAtmRunWrongFalsely : Prop := fnAtmRunRow.holds Try.pinned (OpenSpec.ofChange fnAtmRunWrong)

/- THE SECOND FORM. 'bulk': how many values and letters a reading holds, each counted each time it is reached (what is shared counts as often as it is met; a slice's spare places count too). A statement '..UptoSaid' is the law's where the arguments, and the package variables that the reading takes, are together of bulk at most 1048576: NARROWER than '..Said'. Prove '..Said' where nothing that the law and all that it calls make is longer than what came in: it says more and counts as full. Else prove '..UptoSaid'. A law counts once. -/
mutual
def uptoBulk {H : Type} : DataW H → Nat
  | .lit (.string bytes) => bytes.length + 1
  | .lit _ => 1
  | .nil => 1
  | .ptr d => uptoBulk d + 1
  | .slice elems spare => uptoBulkAll elems + uptoBulkAll spare + 1
  | .agg parts => uptoBulkAll parts + 1
  | .iface _ d => uptoBulk d + 1
  | .map entries => uptoBulkEntries entries + 1
  | .held _ => 1
def uptoBulkAll {H : Type} : List (DataW H) → Nat
  | [] => 0
  | d :: r => uptoBulk d + uptoBulkAll r
def uptoBulkEntries {H : Type} : List (Lit × DataW H) → Nat
  | [] => 0
  | x :: r => uptoBulkEntry x + uptoBulkEntries r
def uptoBulkEntry {H : Type} : Lit × DataW H → Nat
  | (.string bytes, d) => bytes.length + uptoBulk d + 1
  | (_, d) => uptoBulk d + 1
 end
def uptoSmall : (H : Type) → List (DataW H) → Bool := fun _ ds => decide (uptoBulkAll ds ≤ 1048576)
def OpenSpec.upto (s : _root_.Go.ChangeSpec) : _root_.Go.OpenSpec := { _root_.Go.OpenSpec.ofChange s with cond := some uptoSmall }

/-- 'laws.FnAtmOther', WHERE WHAT IT READS IS OF BULK AT MOST 1048576: true; the input reads as it did. -/
def fnAtmOtherUptoRow : OpenClaim := { program := "ytpjfjccjmbphmaa", sum := "cf63c2405d08b90af9f50ddff12549cfb8b12adc666aacc4afa1b86a74e45c42", func := "loop.example/crossyard/laws.FnAtmOther", spec := "fnAtmOther", unfollowed := true, recurses := true, apart := false, narrowed := true }
def FnAtmOtherUptoSaid : Prop := fnAtmOtherUptoRow.holds Try.pinned (OpenSpec.upto fnAtmOtherSpec)

/-- 'laws.FnAtmTry', WHERE WHAT IT READS IS OF BULK AT MOST 1048576: true; the input reads as it did. -/
def fnAtmTryUptoRow : OpenClaim := { program := "ytpjfjccjmbphmaa", sum := "cf63c2405d08b90af9f50ddff12549cfb8b12adc666aacc4afa1b86a74e45c42", func := "loop.example/crossyard/laws.FnAtmTry", spec := "fnAtmTry", unfollowed := true, recurses := true, apart := false, narrowed := true }
def FnAtmTryUptoSaid : Prop := fnAtmTryUptoRow.holds Try.pinned (OpenSpec.upto fnAtmTrySpec)

/-- 'laws.FnAtmWrap', WHERE WHAT IT READS IS OF BULK AT MOST 1048576: true; the input reads as it did. -/
def fnAtmWrapUptoRow : OpenClaim := { program := "ytpjfjccjmbphmaa", sum := "cf63c2405d08b90af9f50ddff12549cfb8b12adc666aacc4afa1b86a74e45c42", func := "loop.example/crossyard/laws.FnAtmWrap", spec := "fnAtmWrap", unfollowed := true, recurses := true, apart := false, narrowed := true }
def FnAtmWrapUptoSaid : Prop := fnAtmWrapUptoRow.holds Try.pinned (OpenSpec.upto fnAtmWrapSpec)

/-- 'laws.FnAtmTwice', WHERE WHAT IT READS IS OF BULK AT MOST 1048576: true; the input reads as it did. -/
def fnAtmTwiceUptoRow : OpenClaim := { program := "ytpjfjccjmbphmaa", sum := "cf63c2405d08b90af9f50ddff12549cfb8b12adc666aacc4afa1b86a74e45c42", func := "loop.example/crossyard/laws.FnAtmTwice", spec := "fnAtmTwice", unfollowed := true, recurses := true, apart := false, narrowed := true }
def FnAtmTwiceUptoSaid : Prop := fnAtmTwiceUptoRow.holds Try.pinned (OpenSpec.upto fnAtmTwiceSpec)

/-- 'laws.FnAtmWho', WHERE WHAT IT READS IS OF BULK AT MOST 1048576: true; the input reads as it did. -/
def fnAtmWhoUptoRow : OpenClaim := { program := "ytpjfjccjmbphmaa", sum := "cf63c2405d08b90af9f50ddff12549cfb8b12adc666aacc4afa1b86a74e45c42", func := "loop.example/crossyard/laws.FnAtmWho", spec := "fnAtmWho", unfollowed := true, recurses := true, apart := false, narrowed := true }
def FnAtmWhoUptoSaid : Prop := fnAtmWhoUptoRow.holds Try.pinned (OpenSpec.upto fnAtmWhoSpec)

/-- 'laws.FnAtmHold', WHERE WHAT IT READS IS OF BULK AT MOST 1048576: true; the input reads as it did. -/
def fnAtmHoldUptoRow : OpenClaim := { program := "ytpjfjccjmbphmaa", sum := "cf63c2405d08b90af9f50ddff12549cfb8b12adc666aacc4afa1b86a74e45c42", func := "loop.example/crossyard/laws.FnAtmHold", spec := "fnAtmHold", unfollowed := true, recurses := true, apart := false, narrowed := true }
def FnAtmHoldUptoSaid : Prop := fnAtmHoldUptoRow.holds Try.pinned (OpenSpec.upto fnAtmHoldSpec)

/-- 'laws.FnAtmRead', WHERE WHAT IT READS IS OF BULK AT MOST 1048576: true; the input reads as it did. -/
def fnAtmReadUptoRow : OpenClaim := { program := "ytpjfjccjmbphmaa", sum := "cf63c2405d08b90af9f50ddff12549cfb8b12adc666aacc4afa1b86a74e45c42", func := "loop.example/crossyard/laws.FnAtmRead", spec := "fnAtmRead", unfollowed := true, recurses := true, apart := false, narrowed := true }
def FnAtmReadUptoSaid : Prop := fnAtmReadUptoRow.holds Try.pinned (OpenSpec.upto fnAtmReadSpec)

/-- 'laws.FnAtmBurst', WHERE WHAT IT READS IS OF BULK AT MOST 1048576: true; the input reads as it did. -/
def fnAtmBurstUptoRow : OpenClaim := { program := "ytpjfjccjmbphmaa", sum := "cf63c2405d08b90af9f50ddff12549cfb8b12adc666aacc4afa1b86a74e45c42", func := "loop.example/crossyard/laws.FnAtmBurst", spec := "fnAtmBurst", unfollowed := true, recurses := true, apart := false, narrowed := true }
def FnAtmBurstUptoSaid : Prop := fnAtmBurstUptoRow.holds Try.pinned (OpenSpec.upto fnAtmBurstSpec)

/-- 'laws.FnAtmSwap', WHERE WHAT IT READS IS OF BULK AT MOST 1048576: true; the input reads as it did. -/
def fnAtmSwapUptoRow : OpenClaim := { program := "ytpjfjccjmbphmaa", sum := "cf63c2405d08b90af9f50ddff12549cfb8b12adc666aacc4afa1b86a74e45c42", func := "loop.example/crossyard/laws.FnAtmSwap", spec := "fnAtmSwap", unfollowed := true, recurses := true, apart := false, narrowed := true }
def FnAtmSwapUptoSaid : Prop := fnAtmSwapUptoRow.holds Try.pinned (OpenSpec.upto fnAtmSwapSpec)

/-- 'laws.FnAtmDo', WHERE WHAT IT READS IS OF BULK AT MOST 1048576: true; the input reads as it did. -/
def fnAtmDoUptoRow : OpenClaim := { program := "ytpjfjccjmbphmaa", sum := "cf63c2405d08b90af9f50ddff12549cfb8b12adc666aacc4afa1b86a74e45c42", func := "loop.example/crossyard/laws.FnAtmDo", spec := "fnAtmDo", unfollowed := true, recurses := true, apart := false, narrowed := true }
def FnAtmDoUptoSaid : Prop := fnAtmDoUptoRow.holds Try.pinned (OpenSpec.upto fnAtmDoSpec)

/-- 'laws.FnAtmCode', WHERE WHAT IT READS IS OF BULK AT MOST 1048576: true; the input reads as it did. -/
def fnAtmCodeUptoRow : OpenClaim := { program := "ytpjfjccjmbphmaa", sum := "cf63c2405d08b90af9f50ddff12549cfb8b12adc666aacc4afa1b86a74e45c42", func := "loop.example/crossyard/laws.FnAtmCode", spec := "fnAtmCode", unfollowed := true, recurses := true, apart := false, narrowed := true }
def FnAtmCodeUptoSaid : Prop := fnAtmCodeUptoRow.holds Try.pinned (OpenSpec.upto fnAtmCodeSpec)

/-- 'laws.FnAtmRun', WHERE WHAT IT READS IS OF BULK AT MOST 1048576: true; the input reads as it did. -/
def fnAtmRunUptoRow : OpenClaim := { program := "ytpjfjccjmbphmaa", sum := "cf63c2405d08b90af9f50ddff12549cfb8b12adc666aacc4afa1b86a74e45c42", func := "loop.example/crossyard/laws.FnAtmRun", spec := "fnAtmRun", unfollowed := true, recurses := true, apart := false, narrowed := true }
def FnAtmRunUptoSaid : Prop := fnAtmRunUptoRow.holds Try.pinned (OpenSpec.upto fnAtmRunSpec)

end Rows
end Go.Proofs.Ytpjfjccjmbphmaa
