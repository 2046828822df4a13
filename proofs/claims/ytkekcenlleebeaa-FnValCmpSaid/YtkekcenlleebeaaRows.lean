/-
  No cell of these rows narrows 'for every input' (looked for: loops, veiled, ifaces, maps, wideKeys, modest, calm, conditions, laid).
  DERIVED. THE GIVEN ROWS OF THIS SEAT. 12 by the template 'for every input the law returns true; each argument reads behind the call as it read before'; 0 by the template 'total and deterministic' (their statements: YtkekcenlleebeaaTotals.lean).
  GIVEN WITH THE SEED: the statements are not yours to turn. If you find one false, say at which input.
  Laid BY PROGRAM, IN A SANDBOX (cutbox-rows.mjs): the forced cells as the released guide's own fill.sh prints them over the translation f4cc3674ba5c18d9… (all of the seat's roots in one cut). By AI agents, Wed Nov 11 2026. No macro, syntax, notation, axiom, sorry.
-/
import Derived.Test.YtkekcenlleebeaaChecked
import GoSem.Claim
import GoSem.ClaimJoined
import GoSem.ClaimMapViews
import Derived.JoinedTies
import Derived.KernelRfl
namespace Go.Proofs.Ytkekcenlleebeaa
/- THE CELL 'sum', in the pinned program and in every row, IS THE sha256 OF THE DUMP (.gsa) THAT YtkekcenlleebeaaProg.lean LOADS. Nothing in Lean hashes anything: it is a label: what it is worth is what the hold of that sum in a sandbox is worth. -/
noncomputable def Try.pinned : Pinned := { name := "ytkekcenlleebeaa", sum := "f4cc3674ba5c18d974d44db7db30d701f35939ecda6879fadef3657217c04441", checked := Try.checked }
namespace Rows
def none {H : Type} : Left H := { results := [], args := [] }

/-- 'laws.FnValMake': WHATEVER THE INPUT: true; the input reads as it did. -/
def fnValMakeSpec : ChangeSpec := { name := "fnValMake", fn := fun _ => fun
  | [d] => { results := [.lit (.bool true)], args := [d] }
  | _ => none }
def fnValMakeRow : OpenClaim := { program := "ytkekcenlleebeaa", sum := "f4cc3674ba5c18d974d44db7db30d701f35939ecda6879fadef3657217c04441", func := "loop.example/sedge/laws.FnValMake", spec := "fnValMake", apart := false }
def FnValMakeSaid : Prop := fnValMakeRow.holds Try.pinned (OpenSpec.ofChange fnValMakeSpec)

/-- ITS FALSE NEIGHBOUR: 'it returns false'. Refute it at one input. -/
def fnValMakeWrong : ChangeSpec := { name := "fnValMake", fn := fun _ => fun
  | [d] => { results := [.lit (.bool false)], args := [d] }
  | _ => none }
def FnValMakeWrongFalsely : Prop := fnValMakeRow.holds Try.pinned (OpenSpec.ofChange fnValMakeWrong)

/-- 'laws.FnGapsClose': WHATEVER THE INPUT: true; the input reads as it did. -/
def fnGapsCloseSpec : ChangeSpec := { name := "fnGapsClose", fn := fun _ => fun
  | [d] => { results := [.lit (.bool true)], args := [d] }
  | _ => none }
def fnGapsCloseRow : OpenClaim := { program := "ytkekcenlleebeaa", sum := "f4cc3674ba5c18d974d44db7db30d701f35939ecda6879fadef3657217c04441", func := "loop.example/sedge/laws.FnGapsClose", spec := "fnGapsClose", apart := false }
def FnGapsCloseSaid : Prop := fnGapsCloseRow.holds Try.pinned (OpenSpec.ofChange fnGapsCloseSpec)

/-- ITS FALSE NEIGHBOUR: 'it returns false'. Refute it at one input. -/
def fnGapsCloseWrong : ChangeSpec := { name := "fnGapsClose", fn := fun _ => fun
  | [d] => { results := [.lit (.bool false)], args := [d] }
  | _ => none }
def FnGapsCloseWrongFalsely : Prop := fnGapsCloseRow.holds Try.pinned (OpenSpec.ofChange fnGapsCloseWrong)

/-- 'laws.FnGapsBack': WHATEVER THE INPUT: true; the input reads as it did. -/
def fnGapsBackSpec : ChangeSpec := { name := "fnGapsBack", fn := fun _ => fun
  | [d] => { results := [.lit (.bool true)], args := [d] }
  | _ => none }
def fnGapsBackRow : OpenClaim := { program := "ytkekcenlleebeaa", sum := "f4cc3674ba5c18d974d44db7db30d701f35939ecda6879fadef3657217c04441", func := "loop.example/sedge/laws.FnGapsBack", spec := "fnGapsBack", apart := false }
def FnGapsBackSaid : Prop := fnGapsBackRow.holds Try.pinned (OpenSpec.ofChange fnGapsBackSpec)

/-- ITS FALSE NEIGHBOUR: 'it returns false'. Refute it at one input. -/
def fnGapsBackWrong : ChangeSpec := { name := "fnGapsBack", fn := fun _ => fun
  | [d] => { results := [.lit (.bool false)], args := [d] }
  | _ => none }
def FnGapsBackWrongFalsely : Prop := fnGapsBackRow.holds Try.pinned (OpenSpec.ofChange fnGapsBackWrong)

/-- 'laws.FnGapsJoin': WHATEVER THE INPUT: true; the input reads as it did. -/
def fnGapsJoinSpec : ChangeSpec := { name := "fnGapsJoin", fn := fun _ => fun
  | [d] => { results := [.lit (.bool true)], args := [d] }
  | _ => none }
def fnGapsJoinRow : OpenClaim := { program := "ytkekcenlleebeaa", sum := "f4cc3674ba5c18d974d44db7db30d701f35939ecda6879fadef3657217c04441", func := "loop.example/sedge/laws.FnGapsJoin", spec := "fnGapsJoin", apart := false }
def FnGapsJoinSaid : Prop := fnGapsJoinRow.holds Try.pinned (OpenSpec.ofChange fnGapsJoinSpec)

/-- ITS FALSE NEIGHBOUR: 'it returns false'. Refute it at one input. -/
def fnGapsJoinWrong : ChangeSpec := { name := "fnGapsJoin", fn := fun _ => fun
  | [d] => { results := [.lit (.bool false)], args := [d] }
  | _ => none }
def FnGapsJoinWrongFalsely : Prop := fnGapsJoinRow.holds Try.pinned (OpenSpec.ofChange fnGapsJoinWrong)

/-- 'laws.FnRangeCmp': WHATEVER THE INPUT: true; the input reads as it did. -/
def fnRangeCmpSpec : ChangeSpec := { name := "fnRangeCmp", fn := fun _ => fun
  | [d] => { results := [.lit (.bool true)], args := [d] }
  | _ => none }
def fnRangeCmpRow : OpenClaim := { program := "ytkekcenlleebeaa", sum := "f4cc3674ba5c18d974d44db7db30d701f35939ecda6879fadef3657217c04441", func := "loop.example/sedge/laws.FnRangeCmp", spec := "fnRangeCmp", recurses := true, apart := false }
def FnRangeCmpSaid : Prop := fnRangeCmpRow.holds Try.pinned (OpenSpec.ofChange fnRangeCmpSpec)

/-- ITS FALSE NEIGHBOUR: 'it returns false'. Refute it at one input. -/
def fnRangeCmpWrong : ChangeSpec := { name := "fnRangeCmp", fn := fun _ => fun
  | [d] => { results := [.lit (.bool false)], args := [d] }
  | _ => none }
def FnRangeCmpWrongFalsely : Prop := fnRangeCmpRow.holds Try.pinned (OpenSpec.ofChange fnRangeCmpWrong)

/-- 'laws.FnGapsDo': WHATEVER THE INPUT: true; the input reads as it did. -/
def fnGapsDoSpec : ChangeSpec := { name := "fnGapsDo", fn := fun _ => fun
  | [d] => { results := [.lit (.bool true)], args := [d] }
  | _ => none }
def fnGapsDoRow : OpenClaim := { program := "ytkekcenlleebeaa", sum := "f4cc3674ba5c18d974d44db7db30d701f35939ecda6879fadef3657217c04441", func := "loop.example/sedge/laws.FnGapsDo", spec := "fnGapsDo", apart := false }
def FnGapsDoSaid : Prop := fnGapsDoRow.holds Try.pinned (OpenSpec.ofChange fnGapsDoSpec)

/-- ITS FALSE NEIGHBOUR: 'it returns false'. Refute it at one input. -/
def fnGapsDoWrong : ChangeSpec := { name := "fnGapsDo", fn := fun _ => fun
  | [d] => { results := [.lit (.bool false)], args := [d] }
  | _ => none }
def FnGapsDoWrongFalsely : Prop := fnGapsDoRow.holds Try.pinned (OpenSpec.ofChange fnGapsDoWrong)

/-- 'laws.FnExactAbsOk': WHATEVER THE INPUT: true; the input reads as it did. -/
def fnExactAbsOkSpec : ChangeSpec := { name := "fnExactAbsOk", fn := fun _ => fun
  | [d] => { results := [.lit (.bool true)], args := [d] }
  | _ => none }
def fnExactAbsOkRow : OpenClaim := { program := "ytkekcenlleebeaa", sum := "f4cc3674ba5c18d974d44db7db30d701f35939ecda6879fadef3657217c04441", func := "loop.example/sedge/laws.FnExactAbsOk", spec := "fnExactAbsOk", apart := false }
def FnExactAbsOkSaid : Prop := fnExactAbsOkRow.holds Try.pinned (OpenSpec.ofChange fnExactAbsOkSpec)

/-- ITS FALSE NEIGHBOUR: 'it returns false'. Refute it at one input. -/
def fnExactAbsOkWrong : ChangeSpec := { name := "fnExactAbsOk", fn := fun _ => fun
  | [d] => { results := [.lit (.bool false)], args := [d] }
  | _ => none }
def FnExactAbsOkWrongFalsely : Prop := fnExactAbsOkRow.holds Try.pinned (OpenSpec.ofChange fnExactAbsOkWrong)

/-- 'laws.FnRestDo': WHATEVER THE INPUT: true; the input reads as it did. -/
def fnRestDoSpec : ChangeSpec := { name := "fnRestDo", fn := fun _ => fun
  | [d] => { results := [.lit (.bool true)], args := [d] }
  | _ => none }
def fnRestDoRow : OpenClaim := { program := "ytkekcenlleebeaa", sum := "f4cc3674ba5c18d974d44db7db30d701f35939ecda6879fadef3657217c04441", func := "loop.example/sedge/laws.FnRestDo", spec := "fnRestDo", apart := false }
def FnRestDoSaid : Prop := fnRestDoRow.holds Try.pinned (OpenSpec.ofChange fnRestDoSpec)

/-- ITS FALSE NEIGHBOUR: 'it returns false'. Refute it at one input. -/
def fnRestDoWrong : ChangeSpec := { name := "fnRestDo", fn := fun _ => fun
  | [d] => { results := [.lit (.bool false)], args := [d] }
  | _ => none }
def FnRestDoWrongFalsely : Prop := fnRestDoRow.holds Try.pinned (OpenSpec.ofChange fnRestDoWrong)

/-- 'laws.FnExactAbsIn': WHATEVER THE INPUT: true; the input reads as it did. -/
def fnExactAbsInSpec : ChangeSpec := { name := "fnExactAbsIn", fn := fun _ => fun
  | [d1, d2] => { results := [.lit (.bool true)], args := [d1, d2] }
  | _ => none }
def fnExactAbsInRow : OpenClaim := { program := "ytkekcenlleebeaa", sum := "f4cc3674ba5c18d974d44db7db30d701f35939ecda6879fadef3657217c04441", func := "loop.example/sedge/laws.FnExactAbsIn", spec := "fnExactAbsIn", apart := false }
def FnExactAbsInSaid : Prop := fnExactAbsInRow.holds Try.pinned (OpenSpec.ofChange fnExactAbsInSpec)

/-- ITS FALSE NEIGHBOUR: 'it returns false'. Refute it at one input. -/
def fnExactAbsInWrong : ChangeSpec := { name := "fnExactAbsIn", fn := fun _ => fun
  | [d1, d2] => { results := [.lit (.bool false)], args := [d1, d2] }
  | _ => none }
def FnExactAbsInWrongFalsely : Prop := fnExactAbsInRow.holds Try.pinned (OpenSpec.ofChange fnExactAbsInWrong)

/-- 'laws.FnRangeDo': WHATEVER THE INPUT: true; the input reads as it did. -/
def fnRangeDoSpec : ChangeSpec := { name := "fnRangeDo", fn := fun _ => fun
  | [d] => { results := [.lit (.bool true)], args := [d] }
  | _ => none }
def fnRangeDoRow : OpenClaim := { program := "ytkekcenlleebeaa", sum := "f4cc3674ba5c18d974d44db7db30d701f35939ecda6879fadef3657217c04441", func := "loop.example/sedge/laws.FnRangeDo", spec := "fnRangeDo", apart := false }
def FnRangeDoSaid : Prop := fnRangeDoRow.holds Try.pinned (OpenSpec.ofChange fnRangeDoSpec)

/-- ITS FALSE NEIGHBOUR: 'it returns false'. Refute it at one input. -/
def fnRangeDoWrong : ChangeSpec := { name := "fnRangeDo", fn := fun _ => fun
  | [d] => { results := [.lit (.bool false)], args := [d] }
  | _ => none }
def FnRangeDoWrongFalsely : Prop := fnRangeDoRow.holds Try.pinned (OpenSpec.ofChange fnRangeDoWrong)

/-- 'laws.FnValCmp': WHATEVER THE INPUT: true; the input reads as it did. -/
def fnValCmpSpec : ChangeSpec := { name := "fnValCmp", fn := fun _ => fun
  | [d] => { results := [.lit (.bool true)], args := [d] }
  | _ => none }
def fnValCmpRow : OpenClaim := { program := "ytkekcenlleebeaa", sum := "f4cc3674ba5c18d974d44db7db30d701f35939ecda6879fadef3657217c04441", func := "loop.example/sedge/laws.FnValCmp", spec := "fnValCmp", recurses := true, apart := false }
def FnValCmpSaid : Prop := fnValCmpRow.holds Try.pinned (OpenSpec.ofChange fnValCmpSpec)

/-- ITS FALSE NEIGHBOUR: 'it returns false'. Refute it at one input. -/
def fnValCmpWrong : ChangeSpec := { name := "fnValCmp", fn := fun _ => fun
  | [d] => { results := [.lit (.bool false)], args := [d] }
  | _ => none }
def FnValCmpWrongFalsely : Prop := fnValCmpRow.holds Try.pinned (OpenSpec.ofChange fnValCmpWrong)

/-- 'laws.FnValLattice': WHATEVER THE INPUT: true; the input reads as it did. -/
def fnValLatticeSpec : ChangeSpec := { name := "fnValLattice", fn := fun _ => fun
  | [d] => { results := [.lit (.bool true)], args := [d] }
  | _ => none }
def fnValLatticeRow : OpenClaim := { program := "ytkekcenlleebeaa", sum := "f4cc3674ba5c18d974d44db7db30d701f35939ecda6879fadef3657217c04441", func := "loop.example/sedge/laws.FnValLattice", spec := "fnValLattice", recurses := true, apart := false }
def FnValLatticeSaid : Prop := fnValLatticeRow.holds Try.pinned (OpenSpec.ofChange fnValLatticeSpec)

/-- ITS FALSE NEIGHBOUR: 'it returns false'. Refute it at one input. -/
def fnValLatticeWrong : ChangeSpec := { name := "fnValLattice", fn := fun _ => fun
  | [d] => { results := [.lit (.bool false)], args := [d] }
  | _ => none }
def FnValLatticeWrongFalsely : Prop := fnValLatticeRow.holds Try.pinned (OpenSpec.ofChange fnValLatticeWrong)

/- THE SECOND FORM. 'bulk': how many values and letters a reading holds, each counted each time it is reached (what is shared counts as often as it is met; a slice's spare places count too). A statement '..UptoSaid' is the law's where the arguments, and the package variables that the reading takes, are together of bulk at most 1048576: NARROWER than '..Said'. Prove '..Said' where nothing that the law and all that it calls make is longer than what came in: it says more and counts as full. Else prove '..UptoSaid'. A law counts once. -/
mutual
def uptoBulk {H : Type} : DataW H → Nat
  | .lit (.string bytes) => bytes.length + 1
  | .lit _ => 1
  | .nil => 1
  | .ptr d => uptoBulk d + 1
  | .slice elems spare => uptoBulkAll elems + uptoBulkAll spare + 1
  | .agg parts => uptoBulkAll parts + 1
  | .iface _ d => uptoBulk d + 1
  | .map entries => uptoBulkEntries entries + 1
  | .held _ => 1
def uptoBulkAll {H : Type} : List (DataW H) → Nat
  | [] => 0
  | d :: r => uptoBulk d + uptoBulkAll r
def uptoBulkEntries {H : Type} : List (Lit × DataW H) → Nat
  | [] => 0
  | x :: r => uptoBulkEntry x + uptoBulkEntries r
def uptoBulkEntry {H : Type} : Lit × DataW H → Nat
  | (.string bytes, d) => bytes.length + uptoBulk d + 1
  | (_, d) => uptoBulk d + 1
 end
def uptoSmall : (H : Type) → List (DataW H) → Bool := fun _ ds => decide (uptoBulkAll ds ≤ 1048576)
def OpenSpec.upto (s : _root_.Go.ChangeSpec) : _root_.Go.OpenSpec := { _root_.Go.OpenSpec.ofChange s with cond := some uptoSmall }

/-- 'laws.FnValMake', WHERE WHAT IT READS IS OF BULK AT MOST 1048576: true; the input reads as it did. -/
def fnValMakeUptoRow : OpenClaim := { program := "ytkekcenlleebeaa", sum := "f4cc3674ba5c18d974d44db7db30d701f35939ecda6879fadef3657217c04441", func := "loop.example/sedge/laws.FnValMake", spec := "fnValMake", apart := false, narrowed := true }
def FnValMakeUptoSaid : Prop := fnValMakeUptoRow.holds Try.pinned (OpenSpec.upto fnValMakeSpec)

/-- 'laws.FnGapsClose', WHERE WHAT IT READS IS OF BULK AT MOST 1048576: true; the input reads as it did. -/
def fnGapsCloseUptoRow : OpenClaim := { program := "ytkekcenlleebeaa", sum := "f4cc3674ba5c18d974d44db7db30d701f35939ecda6879fadef3657217c04441", func := "loop.example/sedge/laws.FnGapsClose", spec := "fnGapsClose", apart := false, narrowed := true }
def FnGapsCloseUptoSaid : Prop := fnGapsCloseUptoRow.holds Try.pinned (OpenSpec.upto fnGapsCloseSpec)

/-- 'laws.FnGapsBack', WHERE WHAT IT READS IS OF BULK AT MOST 1048576: true; the input reads as it did. -/
def fnGapsBackUptoRow : OpenClaim := { program := "ytkekcenlleebeaa", sum := "f4cc3674ba5c18d974d44db7db30d701f35939ecda6879fadef3657217c04441", func := "loop.example/sedge/laws.FnGapsBack", spec := "fnGapsBack", apart := false, narrowed := true }
def FnGapsBackUptoSaid : Prop := fnGapsBackUptoRow.holds Try.pinned (OpenSpec.upto fnGapsBackSpec)

/-- 'laws.FnGapsJoin', WHERE WHAT IT READS IS OF BULK AT MOST 1048576: true; the input reads as it did. -/
def fnGapsJoinUptoRow : OpenClaim := { program := "ytkekcenlleebeaa", sum := "f4cc3674ba5c18d974d44db7db30d701f35939ecda6879fadef3657217c04441", func := "loop.example/sedge/laws.FnGapsJoin", spec := "fnGapsJoin", apart := false, narrowed := true }
def FnGapsJoinUptoSaid : Prop := fnGapsJoinUptoRow.holds Try.pinned (OpenSpec.upto fnGapsJoinSpec)

/-- 'laws.FnRangeCmp', WHERE WHAT IT READS IS OF BULK AT MOST 1048576: true; the input reads as it did. -/
def fnRangeCmpUptoRow : OpenClaim := { program := "ytkekcenlleebeaa", sum := "f4cc3674ba5c18d974d44db7db30d701f35939ecda6879fadef3657217c04441", func := "loop.example/sedge/laws.FnRangeCmp", spec := "fnRangeCmp", recurses := true, apart := false, narrowed := true }
def FnRangeCmpUptoSaid : Prop := fnRangeCmpUptoRow.holds Try.pinned (OpenSpec.upto fnRangeCmpSpec)

/-- 'laws.FnGapsDo', WHERE WHAT IT READS IS OF BULK AT MOST 1048576: true; the input reads as it did. -/
def fnGapsDoUptoRow : OpenClaim := { program := "ytkekcenlleebeaa", sum := "f4cc3674ba5c18d974d44db7db30d701f35939ecda6879fadef3657217c04441", func := "loop.example/sedge/laws.FnGapsDo", spec := "fnGapsDo", apart := false, narrowed := true }
def FnGapsDoUptoSaid : Prop := fnGapsDoUptoRow.holds Try.pinned (OpenSpec.upto fnGapsDoSpec)

/-- 'laws.FnExactAbsOk', WHERE WHAT IT READS IS OF BULK AT MOST 1048576: true; the input reads as it did. -/
def fnExactAbsOkUptoRow : OpenClaim := { program := "ytkekcenlleebeaa", sum := "f4cc3674ba5c18d974d44db7db30d701f35939ecda6879fadef3657217c04441", func := "loop.example/sedge/laws.FnExactAbsOk", spec := "fnExactAbsOk", apart := false, narrowed := true }
def FnExactAbsOkUptoSaid : Prop := fnExactAbsOkUptoRow.holds Try.pinned (OpenSpec.upto fnExactAbsOkSpec)

/-- 'laws.FnRestDo', WHERE WHAT IT READS IS OF BULK AT MOST 1048576: true; the input reads as it did. -/
def fnRestDoUptoRow : OpenClaim := { program := "ytkekcenlleebeaa", sum := "f4cc3674ba5c18d974d44db7db30d701f35939ecda6879fadef3657217c04441", func := "loop.example/sedge/laws.FnRestDo", spec := "fnRestDo", apart := false, narrowed := true }
def FnRestDoUptoSaid : Prop := fnRestDoUptoRow.holds Try.pinned (OpenSpec.upto fnRestDoSpec)

/-- 'laws.FnExactAbsIn', WHERE WHAT IT READS IS OF BULK AT MOST 1048576: true; the input reads as it did. -/
def fnExactAbsInUptoRow : OpenClaim := { program := "ytkekcenlleebeaa", sum := "f4cc3674ba5c18d974d44db7db30d701f35939ecda6879fadef3657217c04441", func := "loop.example/sedge/laws.FnExactAbsIn", spec := "fnExactAbsIn", apart := false, narrowed := true }
def FnExactAbsInUptoSaid : Prop := fnExactAbsInUptoRow.holds Try.pinned (OpenSpec.upto fnExactAbsInSpec)

/-- 'laws.FnRangeDo', WHERE WHAT IT READS IS OF BULK AT MOST 1048576: true; the input reads as it did. -/
def fnRangeDoUptoRow : OpenClaim := { program := "ytkekcenlleebeaa", sum := "f4cc3674ba5c18d974d44db7db30d701f35939ecda6879fadef3657217c04441", func := "loop.example/sedge/laws.FnRangeDo", spec := "fnRangeDo", apart := false, narrowed := true }
def FnRangeDoUptoSaid : Prop := fnRangeDoUptoRow.holds Try.pinned (OpenSpec.upto fnRangeDoSpec)

/-- 'laws.FnValCmp', WHERE WHAT IT READS IS OF BULK AT MOST 1048576: true; the input reads as it did. -/
def fnValCmpUptoRow : OpenClaim := { program := "ytkekcenlleebeaa", sum := "f4cc3674ba5c18d974d44db7db30d701f35939ecda6879fadef3657217c04441", func := "loop.example/sedge/laws.FnValCmp", spec := "fnValCmp", recurses := true, apart := false, narrowed := true }
def FnValCmpUptoSaid : Prop := fnValCmpUptoRow.holds Try.pinned (OpenSpec.upto fnValCmpSpec)

/-- 'laws.FnValLattice', WHERE WHAT IT READS IS OF BULK AT MOST 1048576: true; the input reads as it did. -/
def fnValLatticeUptoRow : OpenClaim := { program := "ytkekcenlleebeaa", sum := "f4cc3674ba5c18d974d44db7db30d701f35939ecda6879fadef3657217c04441", func := "loop.example/sedge/laws.FnValLattice", spec := "fnValLattice", recurses := true, apart := false, narrowed := true }
def FnValLatticeUptoSaid : Prop := fnValLatticeUptoRow.holds Try.pinned (OpenSpec.upto fnValLatticeSpec)

end Rows
end Go.Proofs.Ytkekcenlleebeaa
