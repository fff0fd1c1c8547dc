/-
  No cell of these rows narrows 'for every input' (looked for: loops, veiled, ifaces, maps, wideKeys, modest, calm, conditions, laid).
  DERIVED. THE GIVEN ROWS OF THIS SEAT. 12 by the template 'for every input the law returns true; each argument reads behind the call as it read before'; 0 by the template 'total and deterministic' (their statements: YtenjbhbcacocjaaGreatTotals.lean).
  GIVEN WITH THE SEED: the statements are not yours to turn. If you find one false, say at which input.
  Laid BY PROGRAM, IN A SANDBOX (cutbox-rows.mjs): the forced cells as the released guide's own fill.sh prints them over the translation b2949acb4a0e12e8… (all of the seat's roots in one cut). By AI agents, Wed Nov 11 2026. No macro, syntax, notation, axiom, sorry.
-/
import Derived.Test.YtenjbhbcacocjaaGreatChecked
import GoSem.Claim
import GoSem.ClaimJoined
import GoSem.ClaimMapViews
import Derived.JoinedTies
import Derived.KernelRfl
namespace Go.Proofs.YtenjbhbcacocjaaGreat
/- THE CELL 'sum', in the pinned program and in every row, IS THE sha256 OF THE DUMP (.gsa) THAT YtenjbhbcacocjaaGreatProg.lean LOADS. Nothing in Lean hashes anything: it is a label: what it is worth is what the hold of that sum in a sandbox is worth. -/
noncomputable def Tryz.pinned : Pinned := { name := "ytenjbhbcacocjaagreat", sum := "b2949acb4a0e12e8e442e91a8d223e70437fc98ef52609b424ac27d3f055c304", checked := Tryz.checked }
namespace Rows
def none {H : Type} : Left H := { results := [], args := [] }

/-- 'laws.FnCycGrows': WHATEVER THE INPUT: true; the input reads as it did. -/
def fnCycGrowsSpec : ChangeSpec := { name := "fnCycGrows", fn := fun _ => fun
  | [d] => { results := [.lit (.bool true)], args := [d] }
  | _ => none }
def fnCycGrowsRow : OpenClaim := { program := "ytenjbhbcacocjaagreat", sum := "b2949acb4a0e12e8e442e91a8d223e70437fc98ef52609b424ac27d3f055c304", func := "loop.example/crossyard/laws.FnCycGrows", spec := "fnCycGrows", unfollowed := true, recurses := true, plainKeys := false, apart := false }
def FnCycGrowsSaid : Prop := fnCycGrowsRow.holds Tryz.pinned (OpenSpec.ofChange fnCycGrowsSpec)

/-- ITS FALSE NEIGHBOUR: 'it returns false'. Refute it at one input. -/
def fnCycGrowsWrong : ChangeSpec := { name := "fnCycGrows", fn := fun _ => fun
  | [d] => { results := [.lit (.bool false)], args := [d] }
  | _ => none }
def FnCycGrowsWrongFalsely : Prop := fnCycGrowsRow.holds Tryz.pinned (OpenSpec.ofChange fnCycGrowsWrong)

/-- 'laws.FnCycOne': WHATEVER THE INPUT: true; the input reads as it did. -/
def fnCycOneSpec : ChangeSpec := { name := "fnCycOne", fn := fun _ => fun
  | [d] => { results := [.lit (.bool true)], args := [d] }
  | _ => none }
def fnCycOneRow : OpenClaim := { program := "ytenjbhbcacocjaagreat", sum := "b2949acb4a0e12e8e442e91a8d223e70437fc98ef52609b424ac27d3f055c304", func := "loop.example/crossyard/laws.FnCycOne", spec := "fnCycOne", unfollowed := true, recurses := true, plainKeys := false, apart := false }
def FnCycOneSaid : Prop := fnCycOneRow.holds Tryz.pinned (OpenSpec.ofChange fnCycOneSpec)

/-- ITS FALSE NEIGHBOUR: 'it returns false'. Refute it at one input. -/
def fnCycOneWrong : ChangeSpec := { name := "fnCycOne", fn := fun _ => fun
  | [d] => { results := [.lit (.bool false)], args := [d] }
  | _ => none }
def FnCycOneWrongFalsely : Prop := fnCycOneRow.holds Tryz.pinned (OpenSpec.ofChange fnCycOneWrong)

/-- 'laws.FnCycMore': WHATEVER THE INPUT: true; the input reads as it did. -/
def fnCycMoreSpec : ChangeSpec := { name := "fnCycMore", fn := fun _ => fun
  | [d] => { results := [.lit (.bool true)], args := [d] }
  | _ => none }
def fnCycMoreRow : OpenClaim := { program := "ytenjbhbcacocjaagreat", sum := "b2949acb4a0e12e8e442e91a8d223e70437fc98ef52609b424ac27d3f055c304", func := "loop.example/crossyard/laws.FnCycMore", spec := "fnCycMore", unfollowed := true, recurses := true, plainKeys := false, apart := false }
def FnCycMoreSaid : Prop := fnCycMoreRow.holds Tryz.pinned (OpenSpec.ofChange fnCycMoreSpec)

/-- ITS FALSE NEIGHBOUR: 'it returns false'. Refute it at one input. -/
def fnCycMoreWrong : ChangeSpec := { name := "fnCycMore", fn := fun _ => fun
  | [d] => { results := [.lit (.bool false)], args := [d] }
  | _ => none }
def FnCycMoreWrongFalsely : Prop := fnCycMoreRow.holds Tryz.pinned (OpenSpec.ofChange fnCycMoreWrong)

/-- 'laws.FnCycNobody': WHATEVER THE INPUT: true; the input reads as it did. -/
def fnCycNobodySpec : ChangeSpec := { name := "fnCycNobody", fn := fun _ => fun
  | [d] => { results := [.lit (.bool true)], args := [d] }
  | _ => none }
def fnCycNobodyRow : OpenClaim := { program := "ytenjbhbcacocjaagreat", sum := "b2949acb4a0e12e8e442e91a8d223e70437fc98ef52609b424ac27d3f055c304", func := "loop.example/crossyard/laws.FnCycNobody", spec := "fnCycNobody", unfollowed := true, recurses := true, plainKeys := false, apart := false }
def FnCycNobodySaid : Prop := fnCycNobodyRow.holds Tryz.pinned (OpenSpec.ofChange fnCycNobodySpec)

/-- ITS FALSE NEIGHBOUR: 'it returns false'. Refute it at one input. -/
def fnCycNobodyWrong : ChangeSpec := { name := "fnCycNobody", fn := fun _ => fun
  | [d] => { results := [.lit (.bool false)], args := [d] }
  | _ => none }
def FnCycNobodyWrongFalsely : Prop := fnCycNobodyRow.holds Tryz.pinned (OpenSpec.ofChange fnCycNobodyWrong)

/-- 'laws.FnCntPart': WHATEVER THE INPUT: true; the input reads as it did. -/
def fnCntPartSpec : ChangeSpec := { name := "fnCntPart", fn := fun _ => fun
  | [d] => { results := [.lit (.bool true)], args := [d] }
  | _ => none }
def fnCntPartRow : OpenClaim := { program := "ytenjbhbcacocjaagreat", sum := "b2949acb4a0e12e8e442e91a8d223e70437fc98ef52609b424ac27d3f055c304", func := "loop.example/crossyard/laws.FnCntPart", spec := "fnCntPart", unfollowed := true, recurses := true, plainKeys := false, apart := false }
def FnCntPartSaid : Prop := fnCntPartRow.holds Tryz.pinned (OpenSpec.ofChange fnCntPartSpec)

/-- ITS FALSE NEIGHBOUR: 'it returns false'. Refute it at one input. -/
def fnCntPartWrong : ChangeSpec := { name := "fnCntPart", fn := fun _ => fun
  | [d] => { results := [.lit (.bool false)], args := [d] }
  | _ => none }
def FnCntPartWrongFalsely : Prop := fnCntPartRow.holds Tryz.pinned (OpenSpec.ofChange fnCntPartWrong)

/-- 'laws.FnCntRun': WHATEVER THE INPUT: true; the input reads as it did. -/
def fnCntRunSpec : ChangeSpec := { name := "fnCntRun", fn := fun _ => fun
  | [d] => { results := [.lit (.bool true)], args := [d] }
  | _ => none }
def fnCntRunRow : OpenClaim := { program := "ytenjbhbcacocjaagreat", sum := "b2949acb4a0e12e8e442e91a8d223e70437fc98ef52609b424ac27d3f055c304", func := "loop.example/crossyard/laws.FnCntRun", spec := "fnCntRun", unfollowed := true, recurses := true, plainKeys := false, apart := false }
def FnCntRunSaid : Prop := fnCntRunRow.holds Tryz.pinned (OpenSpec.ofChange fnCntRunSpec)

/-- ITS FALSE NEIGHBOUR: 'it returns false'. Refute it at one input. -/
def fnCntRunWrong : ChangeSpec := { name := "fnCntRun", fn := fun _ => fun
  | [d] => { results := [.lit (.bool false)], args := [d] }
  | _ => none }
def FnCntRunWrongFalsely : Prop := fnCntRunRow.holds Tryz.pinned (OpenSpec.ofChange fnCntRunWrong)

/-- 'laws.FnCycOnce': WHATEVER THE INPUT: true; the input reads as it did. -/
def fnCycOnceSpec : ChangeSpec := { name := "fnCycOnce", fn := fun _ => fun
  | [d] => { results := [.lit (.bool true)], args := [d] }
  | _ => none }
def fnCycOnceRow : OpenClaim := { program := "ytenjbhbcacocjaagreat", sum := "b2949acb4a0e12e8e442e91a8d223e70437fc98ef52609b424ac27d3f055c304", func := "loop.example/crossyard/laws.FnCycOnce", spec := "fnCycOnce", unfollowed := true, recurses := true, plainKeys := false, apart := false }
def FnCycOnceSaid : Prop := fnCycOnceRow.holds Tryz.pinned (OpenSpec.ofChange fnCycOnceSpec)

/-- ITS FALSE NEIGHBOUR: 'it returns false'. Refute it at one input. -/
def fnCycOnceWrong : ChangeSpec := { name := "fnCycOnce", fn := fun _ => fun
  | [d] => { results := [.lit (.bool false)], args := [d] }
  | _ => none }
def FnCycOnceWrongFalsely : Prop := fnCycOnceRow.holds Tryz.pinned (OpenSpec.ofChange fnCycOnceWrong)

/-- 'laws.FnCycDelay': WHATEVER THE INPUT: true; the input reads as it did. -/
def fnCycDelaySpec : ChangeSpec := { name := "fnCycDelay", fn := fun _ => fun
  | [d] => { results := [.lit (.bool true)], args := [d] }
  | _ => none }
def fnCycDelayRow : OpenClaim := { program := "ytenjbhbcacocjaagreat", sum := "b2949acb4a0e12e8e442e91a8d223e70437fc98ef52609b424ac27d3f055c304", func := "loop.example/crossyard/laws.FnCycDelay", spec := "fnCycDelay", unfollowed := true, recurses := true, plainKeys := false, apart := false }
def FnCycDelaySaid : Prop := fnCycDelayRow.holds Tryz.pinned (OpenSpec.ofChange fnCycDelaySpec)

/-- ITS FALSE NEIGHBOUR: 'it returns false'. Refute it at one input. -/
def fnCycDelayWrong : ChangeSpec := { name := "fnCycDelay", fn := fun _ => fun
  | [d] => { results := [.lit (.bool false)], args := [d] }
  | _ => none }
def FnCycDelayWrongFalsely : Prop := fnCycDelayRow.holds Tryz.pinned (OpenSpec.ofChange fnCycDelayWrong)

/-- 'laws.FnCycLine': WHATEVER THE INPUT: true; the input reads as it did. -/
def fnCycLineSpec : ChangeSpec := { name := "fnCycLine", fn := fun _ => fun
  | [d] => { results := [.lit (.bool true)], args := [d] }
  | _ => none }
def fnCycLineRow : OpenClaim := { program := "ytenjbhbcacocjaagreat", sum := "b2949acb4a0e12e8e442e91a8d223e70437fc98ef52609b424ac27d3f055c304", func := "loop.example/crossyard/laws.FnCycLine", spec := "fnCycLine", unfollowed := true, recurses := true, plainKeys := false, apart := false }
def FnCycLineSaid : Prop := fnCycLineRow.holds Tryz.pinned (OpenSpec.ofChange fnCycLineSpec)

/-- ITS FALSE NEIGHBOUR: 'it returns false'. Refute it at one input. -/
def fnCycLineWrong : ChangeSpec := { name := "fnCycLine", fn := fun _ => fun
  | [d] => { results := [.lit (.bool false)], args := [d] }
  | _ => none }
def FnCycLineWrongFalsely : Prop := fnCycLineRow.holds Tryz.pinned (OpenSpec.ofChange fnCycLineWrong)

/-- 'laws.FnCycFair': WHATEVER THE INPUT: true; the input reads as it did. -/
def fnCycFairSpec : ChangeSpec := { name := "fnCycFair", fn := fun _ => fun
  | [d] => { results := [.lit (.bool true)], args := [d] }
  | _ => none }
def fnCycFairRow : OpenClaim := { program := "ytenjbhbcacocjaagreat", sum := "b2949acb4a0e12e8e442e91a8d223e70437fc98ef52609b424ac27d3f055c304", func := "loop.example/crossyard/laws.FnCycFair", spec := "fnCycFair", unfollowed := true, recurses := true, plainKeys := false, apart := false }
def FnCycFairSaid : Prop := fnCycFairRow.holds Tryz.pinned (OpenSpec.ofChange fnCycFairSpec)

/-- ITS FALSE NEIGHBOUR: 'it returns false'. Refute it at one input. -/
def fnCycFairWrong : ChangeSpec := { name := "fnCycFair", fn := fun _ => fun
  | [d] => { results := [.lit (.bool false)], args := [d] }
  | _ => none }
def FnCycFairWrongFalsely : Prop := fnCycFairRow.holds Tryz.pinned (OpenSpec.ofChange fnCycFairWrong)

/-- 'laws.FnCycSlow': WHATEVER THE INPUT: true; the input reads as it did. -/
def fnCycSlowSpec : ChangeSpec := { name := "fnCycSlow", fn := fun _ => fun
  | [d] => { results := [.lit (.bool true)], args := [d] }
  | _ => none }
def fnCycSlowRow : OpenClaim := { program := "ytenjbhbcacocjaagreat", sum := "b2949acb4a0e12e8e442e91a8d223e70437fc98ef52609b424ac27d3f055c304", func := "loop.example/crossyard/laws.FnCycSlow", spec := "fnCycSlow", unfollowed := true, recurses := true, plainKeys := false, apart := false }
def FnCycSlowSaid : Prop := fnCycSlowRow.holds Tryz.pinned (OpenSpec.ofChange fnCycSlowSpec)

/-- ITS FALSE NEIGHBOUR: 'it returns false'. Refute it at one input. -/
def fnCycSlowWrong : ChangeSpec := { name := "fnCycSlow", fn := fun _ => fun
  | [d] => { results := [.lit (.bool false)], args := [d] }
  | _ => none }
def FnCycSlowWrongFalsely : Prop := fnCycSlowRow.holds Tryz.pinned (OpenSpec.ofChange fnCycSlowWrong)

/-- 'laws.FnCycSwap': WHATEVER THE INPUT: true; the input reads as it did. -/
def fnCycSwapSpec : ChangeSpec := { name := "fnCycSwap", fn := fun _ => fun
  | [d] => { results := [.lit (.bool true)], args := [d] }
  | _ => none }
def fnCycSwapRow : OpenClaim := { program := "ytenjbhbcacocjaagreat", sum := "b2949acb4a0e12e8e442e91a8d223e70437fc98ef52609b424ac27d3f055c304", func := "loop.example/crossyard/laws.FnCycSwap", spec := "fnCycSwap", unfollowed := true, recurses := true, plainKeys := false, apart := false }
def FnCycSwapSaid : Prop := fnCycSwapRow.holds Tryz.pinned (OpenSpec.ofChange fnCycSwapSpec)

/-- ITS FALSE NEIGHBOUR: 'it returns false'. Refute it at one input. -/
def fnCycSwapWrong : ChangeSpec := { name := "fnCycSwap", fn := fun _ => fun
  | [d] => { results := [.lit (.bool false)], args := [d] }
  | _ => none }
def FnCycSwapWrongFalsely : Prop := fnCycSwapRow.holds Tryz.pinned (OpenSpec.ofChange fnCycSwapWrong)

/- THE SECOND FORM. 'bulk': how many values and letters a reading holds, each counted each time it is reached (what is shared counts as often as it is met; a slice's spare places count too). A statement '..UptoSaid' is the law's where the arguments, and the package variables that the reading takes, are together of bulk at most 1048576: NARROWER than '..Said'. Prove '..Said' where nothing that the law and all that it calls make is longer than what came in: it says more and counts as full. Else prove '..UptoSaid'. A law counts once. -/
mutual
def uptoBulk {H : Type} : DataW H → Nat
  | .lit (.string bytes) => bytes.length + 1
  | .lit _ => 1
  | .nil => 1
  | .ptr d => uptoBulk d + 1
  | .slice elems spare => uptoBulkAll elems + uptoBulkAll spare + 1
  | .agg parts => uptoBulkAll parts + 1
  | .iface _ d => uptoBulk d + 1
  | .map entries => uptoBulkEntries entries + 1
  | .held _ => 1
def uptoBulkAll {H : Type} : List (DataW H) → Nat
  | [] => 0
  | d :: r => uptoBulk d + uptoBulkAll r
def uptoBulkEntries {H : Type} : List (Lit × DataW H) → Nat
  | [] => 0
  | x :: r => uptoBulkEntry x + uptoBulkEntries r
def uptoBulkEntry {H : Type} : Lit × DataW H → Nat
  | (.string bytes, d) => bytes.length + uptoBulk d + 1
  | (_, d) => uptoBulk d + 1
 end
def uptoSmall : (H : Type) → List (DataW H) → Bool := fun _ ds => decide (uptoBulkAll ds ≤ 1048576)
def OpenSpec.upto (s : _root_.Go.ChangeSpec) : _root_.Go.OpenSpec := { _root_.Go.OpenSpec.ofChange s with cond := some uptoSmall }

/-- 'laws.FnCycGrows', WHERE WHAT IT READS IS OF BULK AT MOST 1048576: true; the input reads as it did. -/
def fnCycGrowsUptoRow : OpenClaim := { program := "ytenjbhbcacocjaagreat", sum := "b2949acb4a0e12e8e442e91a8d223e70437fc98ef52609b424ac27d3f055c304", func := "loop.example/crossyard/laws.FnCycGrows", spec := "fnCycGrows", unfollowed := true, recurses := true, plainKeys := false, apart := false, narrowed := true }
def FnCycGrowsUptoSaid : Prop := fnCycGrowsUptoRow.holds Tryz.pinned (OpenSpec.upto fnCycGrowsSpec)

/-- 'laws.FnCycOne', WHERE WHAT IT READS IS OF BULK AT MOST 1048576: true; the input reads as it did. -/
def fnCycOneUptoRow : OpenClaim := { program := "ytenjbhbcacocjaagreat", sum := "b2949acb4a0e12e8e442e91a8d223e70437fc98ef52609b424ac27d3f055c304", func := "loop.example/crossyard/laws.FnCycOne", spec := "fnCycOne", unfollowed := true, recurses := true, plainKeys := false, apart := false, narrowed := true }
def FnCycOneUptoSaid : Prop := fnCycOneUptoRow.holds Tryz.pinned (OpenSpec.upto fnCycOneSpec)

/-- 'laws.FnCycMore', WHERE WHAT IT READS IS OF BULK AT MOST 1048576: true; the input reads as it did. -/
def fnCycMoreUptoRow : OpenClaim := { program := "ytenjbhbcacocjaagreat", sum := "b2949acb4a0e12e8e442e91a8d223e70437fc98ef52609b424ac27d3f055c304", func := "loop.example/crossyard/laws.FnCycMore", spec := "fnCycMore", unfollowed := true, recurses := true, plainKeys := false, apart := false, narrowed := true }
def FnCycMoreUptoSaid : Prop := fnCycMoreUptoRow.holds Tryz.pinned (OpenSpec.upto fnCycMoreSpec)

/-- 'laws.FnCycNobody', WHERE WHAT IT READS IS OF BULK AT MOST 1048576: true; the input reads as it did. -/
def fnCycNobodyUptoRow : OpenClaim := { program := "ytenjbhbcacocjaagreat", sum := "b2949acb4a0e12e8e442e91a8d223e70437fc98ef52609b424ac27d3f055c304", func := "loop.example/crossyard/laws.FnCycNobody", spec := "fnCycNobody", unfollowed := true, recurses := true, plainKeys := false, apart := false, narrowed := true }
def FnCycNobodyUptoSaid : Prop := fnCycNobodyUptoRow.holds Tryz.pinned (OpenSpec.upto fnCycNobodySpec)

/-- 'laws.FnCntPart', WHERE WHAT IT READS IS OF BULK AT MOST 1048576: true; the input reads as it did. -/
def fnCntPartUptoRow : OpenClaim := { program := "ytenjbhbcacocjaagreat", sum := "b2949acb4a0e12e8e442e91a8d223e70437fc98ef52609b424ac27d3f055c304", func := "loop.example/crossyard/laws.FnCntPart", spec := "fnCntPart", unfollowed := true, recurses := true, plainKeys := false, apart := false, narrowed := true }
def FnCntPartUptoSaid : Prop := fnCntPartUptoRow.holds Tryz.pinned (OpenSpec.upto fnCntPartSpec)

/-- 'laws.FnCntRun', WHERE WHAT IT READS IS OF BULK AT MOST 1048576: true; the input reads as it did. -/
def fnCntRunUptoRow : OpenClaim := { program := "ytenjbhbcacocjaagreat", sum := "b2949acb4a0e12e8e442e91a8d223e70437fc98ef52609b424ac27d3f055c304", func := "loop.example/crossyard/laws.FnCntRun", spec := "fnCntRun", unfollowed := true, recurses := true, plainKeys := false, apart := false, narrowed := true }
def FnCntRunUptoSaid : Prop := fnCntRunUptoRow.holds Tryz.pinned (OpenSpec.upto fnCntRunSpec)

/-- 'laws.FnCycOnce', WHERE WHAT IT READS IS OF BULK AT MOST 1048576: true; the input reads as it did. -/
def fnCycOnceUptoRow : OpenClaim := { program := "ytenjbhbcacocjaagreat", sum := "b2949acb4a0e12e8e442e91a8d223e70437fc98ef52609b424ac27d3f055c304", func := "loop.example/crossyard/laws.FnCycOnce", spec := "fnCycOnce", unfollowed := true, recurses := true, plainKeys := false, apart := false, narrowed := true }
def FnCycOnceUptoSaid : Prop := fnCycOnceUptoRow.holds Tryz.pinned (OpenSpec.upto fnCycOnceSpec)

/-- 'laws.FnCycDelay', WHERE WHAT IT READS IS OF BULK AT MOST 1048576: true; the input reads as it did. -/
def fnCycDelayUptoRow : OpenClaim := { program := "ytenjbhbcacocjaagreat", sum := "b2949acb4a0e12e8e442e91a8d223e70437fc98ef52609b424ac27d3f055c304", func := "loop.example/crossyard/laws.FnCycDelay", spec := "fnCycDelay", unfollowed := true, recurses := true, plainKeys := false, apart := false, narrowed := true }
def FnCycDelayUptoSaid : Prop := fnCycDelayUptoRow.holds Tryz.pinned (OpenSpec.upto fnCycDelaySpec)

/-- 'laws.FnCycLine', WHERE WHAT IT READS IS OF BULK AT MOST 1048576: true; the input reads as it did. -/
def fnCycLineUptoRow : OpenClaim := { program := "ytenjbhbcacocjaagreat", sum := "b2949acb4a0e12e8e442e91a8d223e70437fc98ef52609b424ac27d3f055c304", func := "loop.example/crossyard/laws.FnCycLine", spec := "fnCycLine", unfollowed := true, recurses := true, plainKeys := false, apart := false, narrowed := true }
def FnCycLineUptoSaid : Prop := fnCycLineUptoRow.holds Tryz.pinned (OpenSpec.upto fnCycLineSpec)

/-- 'laws.FnCycFair', WHERE WHAT IT READS IS OF BULK AT MOST 1048576: true; the input reads as it did. -/
def fnCycFairUptoRow : OpenClaim := { program := "ytenjbhbcacocjaagreat", sum := "b2949acb4a0e12e8e442e91a8d223e70437fc98ef52609b424ac27d3f055c304", func := "loop.example/crossyard/laws.FnCycFair", spec := "fnCycFair", unfollowed := true, recurses := true, plainKeys := false, apart := false, narrowed := true }
def FnCycFairUptoSaid : Prop := fnCycFairUptoRow.holds Tryz.pinned (OpenSpec.upto fnCycFairSpec)

/-- 'laws.FnCycSlow', WHERE WHAT IT READS IS OF BULK AT MOST 1048576: true; the input reads as it did. -/
def fnCycSlowUptoRow : OpenClaim := { program := "ytenjbhbcacocjaagreat", sum := "b2949acb4a0e12e8e442e91a8d223e70437fc98ef52609b424ac27d3f055c304", func := "loop.example/crossyard/laws.FnCycSlow", spec := "fnCycSlow", unfollowed := true, recurses := true, plainKeys := false, apart := false, narrowed := true }
def FnCycSlowUptoSaid : Prop := fnCycSlowUptoRow.holds Tryz.pinned (OpenSpec.upto fnCycSlowSpec)

/-- 'laws.FnCycSwap', WHERE WHAT IT READS IS OF BULK AT MOST 1048576: true; the input reads as it did. -/
def fnCycSwapUptoRow : OpenClaim := { program := "ytenjbhbcacocjaagreat", sum := "b2949acb4a0e12e8e442e91a8d223e70437fc98ef52609b424ac27d3f055c304", func := "loop.example/crossyard/laws.FnCycSwap", spec := "fnCycSwap", unfollowed := true, recurses := true, plainKeys := false, apart := false, narrowed := true }
def FnCycSwapUptoSaid : Prop := fnCycSwapUptoRow.holds Tryz.pinned (OpenSpec.upto fnCycSwapSpec)

end Rows
end Go.Proofs.YtenjbhbcacocjaaGreat
