/-
  No cell of these rows narrows 'for every input' (looked for: loops, veiled, ifaces, maps, wideKeys, modest, calm, conditions, laid).
  DERIVED. THE GIVEN ROWS OF THIS SEAT. 11 by the template 'for every input the law returns true; each argument reads behind the call as it read before'; 0 by the template 'total and deterministic' (their statements: YtmdcgkkkfncieaaTotals.lean).
  GIVEN WITH THE SEED: the statements are not yours to turn. If you find one false, say at which input.
  Laid BY PROGRAM, IN A SANDBOX (cutbox-rows.mjs): the forced cells as the released guide's own fill.sh prints them over the translation 403998d3290cd0ef… (all of the seat's roots in one cut). By AI agents, Wed Nov 11 2026. No macro, syntax, notation, axiom, sorry.
-/
import Derived.Test.YtmdcgkkkfncieaaChecked
import GoSem.Claim
import GoSem.ClaimJoined
import GoSem.ClaimMapViews
import Derived.JoinedTies
import Derived.KernelRfl
namespace Go.Proofs.Ytmdcgkkkfncieaa
/- THE CELL 'sum', in the pinned program and in every row, IS THE sha256 OF THE DUMP (.gsa) THAT YtmdcgkkkfncieaaProg.lean LOADS. Nothing in Lean hashes anything: it is a label: what it is worth is what the hold of that sum in a sandbox is worth. -/
noncomputable def Try.pinned : Pinned := { name := "ytmdcgkkkfncieaa", sum := "403998d3290cd0efe1b6472057be863e2c0c1ebadd030ccbeecafbc77a4ed747", checked := Try.checked }
namespace Rows
def none {H : Type} : Left H := { results := [], args := [] }

/-- 'laws.FnExactGapsRange': WHATEVER THE INPUT: true; the input reads as it did. -/
def fnExactGapsRangeSpec : ChangeSpec := { name := "fnExactGapsRange", fn := fun _ => fun
  | [d1, d2] => { results := [.lit (.bool true)], args := [d1, d2] }
  | _ => none }
def fnExactGapsRangeRow : OpenClaim := { program := "ytmdcgkkkfncieaa", sum := "403998d3290cd0efe1b6472057be863e2c0c1ebadd030ccbeecafbc77a4ed747", func := "loop.example/sedge/laws.FnExactGapsRange", spec := "fnExactGapsRange", apart := false }
def FnExactGapsRangeSaid : Prop := fnExactGapsRangeRow.holds Try.pinned (OpenSpec.ofChange fnExactGapsRangeSpec)

/-- ITS FALSE NEIGHBOUR: 'it returns false'. Refute it at one input. -/
def fnExactGapsRangeWrong : ChangeSpec := { name := "fnExactGapsRange", fn := fun _ => fun
  | [d1, d2] => { results := [.lit (.bool false)], args := [d1, d2] }
  | _ => none }
def FnExactGapsRangeWrongFalsely : Prop := fnExactGapsRangeRow.holds Try.pinned (OpenSpec.ofChange fnExactGapsRangeWrong)

/-- 'laws.FnExactGapsWiden': WHATEVER THE INPUT: true; the input reads as it did. -/
def fnExactGapsWidenSpec : ChangeSpec := { name := "fnExactGapsWiden", fn := fun _ => fun
  | [d1, d2] => { results := [.lit (.bool true)], args := [d1, d2] }
  | _ => none }
def fnExactGapsWidenRow : OpenClaim := { program := "ytmdcgkkkfncieaa", sum := "403998d3290cd0efe1b6472057be863e2c0c1ebadd030ccbeecafbc77a4ed747", func := "loop.example/sedge/laws.FnExactGapsWiden", spec := "fnExactGapsWiden", apart := false }
def FnExactGapsWidenSaid : Prop := fnExactGapsWidenRow.holds Try.pinned (OpenSpec.ofChange fnExactGapsWidenSpec)

/-- ITS FALSE NEIGHBOUR: 'it returns false'. Refute it at one input. -/
def fnExactGapsWidenWrong : ChangeSpec := { name := "fnExactGapsWiden", fn := fun _ => fun
  | [d1, d2] => { results := [.lit (.bool false)], args := [d1, d2] }
  | _ => none }
def FnExactGapsWidenWrongFalsely : Prop := fnExactGapsWidenRow.holds Try.pinned (OpenSpec.ofChange fnExactGapsWidenWrong)

/-- 'laws.FnExactGapsJoin': WHATEVER THE INPUT: true; the input reads as it did. -/
def fnExactGapsJoinSpec : ChangeSpec := { name := "fnExactGapsJoin", fn := fun _ => fun
  | [d1, d2] => { results := [.lit (.bool true)], args := [d1, d2] }
  | _ => none }
def fnExactGapsJoinRow : OpenClaim := { program := "ytmdcgkkkfncieaa", sum := "403998d3290cd0efe1b6472057be863e2c0c1ebadd030ccbeecafbc77a4ed747", func := "loop.example/sedge/laws.FnExactGapsJoin", spec := "fnExactGapsJoin", apart := false }
def FnExactGapsJoinSaid : Prop := fnExactGapsJoinRow.holds Try.pinned (OpenSpec.ofChange fnExactGapsJoinSpec)

/-- ITS FALSE NEIGHBOUR: 'it returns false'. Refute it at one input. -/
def fnExactGapsJoinWrong : ChangeSpec := { name := "fnExactGapsJoin", fn := fun _ => fun
  | [d1, d2] => { results := [.lit (.bool false)], args := [d1, d2] }
  | _ => none }
def FnExactGapsJoinWrongFalsely : Prop := fnExactGapsJoinRow.holds Try.pinned (OpenSpec.ofChange fnExactGapsJoinWrong)

/-- 'laws.FnExactGapsCut': WHATEVER THE INPUT: true; the input reads as it did. -/
def fnExactGapsCutSpec : ChangeSpec := { name := "fnExactGapsCut", fn := fun _ => fun
  | [d1, d2, d3, d4] => { results := [.lit (.bool true)], args := [d1, d2, d3, d4] }
  | _ => none }
def fnExactGapsCutRow : OpenClaim := { program := "ytmdcgkkkfncieaa", sum := "403998d3290cd0efe1b6472057be863e2c0c1ebadd030ccbeecafbc77a4ed747", func := "loop.example/sedge/laws.FnExactGapsCut", spec := "fnExactGapsCut", apart := false }
def FnExactGapsCutSaid : Prop := fnExactGapsCutRow.holds Try.pinned (OpenSpec.ofChange fnExactGapsCutSpec)

/-- ITS FALSE NEIGHBOUR: 'it returns false'. Refute it at one input. -/
def fnExactGapsCutWrong : ChangeSpec := { name := "fnExactGapsCut", fn := fun _ => fun
  | [d1, d2, d3, d4] => { results := [.lit (.bool false)], args := [d1, d2, d3, d4] }
  | _ => none }
def FnExactGapsCutWrongFalsely : Prop := fnExactGapsCutRow.holds Try.pinned (OpenSpec.ofChange fnExactGapsCutWrong)

/-- 'laws.FnExactGapsForget': WHATEVER THE INPUT: true; the input reads as it did. -/
def fnExactGapsForgetSpec : ChangeSpec := { name := "fnExactGapsForget", fn := fun _ => fun
  | [d1, d2] => { results := [.lit (.bool true)], args := [d1, d2] }
  | _ => none }
def fnExactGapsForgetRow : OpenClaim := { program := "ytmdcgkkkfncieaa", sum := "403998d3290cd0efe1b6472057be863e2c0c1ebadd030ccbeecafbc77a4ed747", func := "loop.example/sedge/laws.FnExactGapsForget", spec := "fnExactGapsForget", apart := false }
def FnExactGapsForgetSaid : Prop := fnExactGapsForgetRow.holds Try.pinned (OpenSpec.ofChange fnExactGapsForgetSpec)

/-- ITS FALSE NEIGHBOUR: 'it returns false'. Refute it at one input. -/
def fnExactGapsForgetWrong : ChangeSpec := { name := "fnExactGapsForget", fn := fun _ => fun
  | [d1, d2] => { results := [.lit (.bool false)], args := [d1, d2] }
  | _ => none }
def FnExactGapsForgetWrongFalsely : Prop := fnExactGapsForgetRow.holds Try.pinned (OpenSpec.ofChange fnExactGapsForgetWrong)

/-- 'laws.FnExactGapsClose': WHATEVER THE INPUT: true; the input reads as it did. -/
def fnExactGapsCloseSpec : ChangeSpec := { name := "fnExactGapsClose", fn := fun _ => fun
  | [d] => { results := [.lit (.bool true)], args := [d] }
  | _ => none }
def fnExactGapsCloseRow : OpenClaim := { program := "ytmdcgkkkfncieaa", sum := "403998d3290cd0efe1b6472057be863e2c0c1ebadd030ccbeecafbc77a4ed747", func := "loop.example/sedge/laws.FnExactGapsClose", spec := "fnExactGapsClose", apart := false }
def FnExactGapsCloseSaid : Prop := fnExactGapsCloseRow.holds Try.pinned (OpenSpec.ofChange fnExactGapsCloseSpec)

/-- ITS FALSE NEIGHBOUR: 'it returns false'. Refute it at one input. -/
def fnExactGapsCloseWrong : ChangeSpec := { name := "fnExactGapsClose", fn := fun _ => fun
  | [d] => { results := [.lit (.bool false)], args := [d] }
  | _ => none }
def FnExactGapsCloseWrongFalsely : Prop := fnExactGapsCloseRow.holds Try.pinned (OpenSpec.ofChange fnExactGapsCloseWrong)

/-- 'laws.FnExactGapsMove': WHATEVER THE INPUT: true; the input reads as it did. -/
def fnExactGapsMoveSpec : ChangeSpec := { name := "fnExactGapsMove", fn := fun _ => fun
  | [d1, d2, d3, d4] => { results := [.lit (.bool true)], args := [d1, d2, d3, d4] }
  | _ => none }
def fnExactGapsMoveRow : OpenClaim := { program := "ytmdcgkkkfncieaa", sum := "403998d3290cd0efe1b6472057be863e2c0c1ebadd030ccbeecafbc77a4ed747", func := "loop.example/sedge/laws.FnExactGapsMove", spec := "fnExactGapsMove", apart := false }
def FnExactGapsMoveSaid : Prop := fnExactGapsMoveRow.holds Try.pinned (OpenSpec.ofChange fnExactGapsMoveSpec)

/-- ITS FALSE NEIGHBOUR: 'it returns false'. Refute it at one input. -/
def fnExactGapsMoveWrong : ChangeSpec := { name := "fnExactGapsMove", fn := fun _ => fun
  | [d1, d2, d3, d4] => { results := [.lit (.bool false)], args := [d1, d2, d3, d4] }
  | _ => none }
def FnExactGapsMoveWrongFalsely : Prop := fnExactGapsMoveRow.holds Try.pinned (OpenSpec.ofChange fnExactGapsMoveWrong)

/-- 'laws.FnNumRest': WHATEVER THE INPUT: true; the input reads as it did. -/
def fnNumRestSpec : ChangeSpec := { name := "fnNumRest", fn := fun _ => fun
  | [d] => { results := [.lit (.bool true)], args := [d] }
  | _ => none }
def fnNumRestRow : OpenClaim := { program := "ytmdcgkkkfncieaa", sum := "403998d3290cd0efe1b6472057be863e2c0c1ebadd030ccbeecafbc77a4ed747", func := "loop.example/sedge/laws.FnNumRest", spec := "fnNumRest", apart := false }
def FnNumRestSaid : Prop := fnNumRestRow.holds Try.pinned (OpenSpec.ofChange fnNumRestSpec)

/-- ITS FALSE NEIGHBOUR: 'it returns false'. Refute it at one input. -/
def fnNumRestWrong : ChangeSpec := { name := "fnNumRest", fn := fun _ => fun
  | [d] => { results := [.lit (.bool false)], args := [d] }
  | _ => none }
def FnNumRestWrongFalsely : Prop := fnNumRestRow.holds Try.pinned (OpenSpec.ofChange fnNumRestWrong)

/-- 'laws.FnRangeStill': WHATEVER THE INPUT: true; the input reads as it did. -/
def fnRangeStillSpec : ChangeSpec := { name := "fnRangeStill", fn := fun _ => fun
  | [d] => { results := [.lit (.bool true)], args := [d] }
  | _ => none }
def fnRangeStillRow : OpenClaim := { program := "ytmdcgkkkfncieaa", sum := "403998d3290cd0efe1b6472057be863e2c0c1ebadd030ccbeecafbc77a4ed747", func := "loop.example/sedge/laws.FnRangeStill", spec := "fnRangeStill", apart := false }
def FnRangeStillSaid : Prop := fnRangeStillRow.holds Try.pinned (OpenSpec.ofChange fnRangeStillSpec)

/-- ITS FALSE NEIGHBOUR: 'it returns false'. Refute it at one input. -/
def fnRangeStillWrong : ChangeSpec := { name := "fnRangeStill", fn := fun _ => fun
  | [d] => { results := [.lit (.bool false)], args := [d] }
  | _ => none }
def FnRangeStillWrongFalsely : Prop := fnRangeStillRow.holds Try.pinned (OpenSpec.ofChange fnRangeStillWrong)

/-- 'laws.FnRangeLattice': WHATEVER THE INPUT: true; the input reads as it did. -/
def fnRangeLatticeSpec : ChangeSpec := { name := "fnRangeLattice", fn := fun _ => fun
  | [d] => { results := [.lit (.bool true)], args := [d] }
  | _ => none }
def fnRangeLatticeRow : OpenClaim := { program := "ytmdcgkkkfncieaa", sum := "403998d3290cd0efe1b6472057be863e2c0c1ebadd030ccbeecafbc77a4ed747", func := "loop.example/sedge/laws.FnRangeLattice", spec := "fnRangeLattice", apart := false }
def FnRangeLatticeSaid : Prop := fnRangeLatticeRow.holds Try.pinned (OpenSpec.ofChange fnRangeLatticeSpec)

/-- ITS FALSE NEIGHBOUR: 'it returns false'. Refute it at one input. -/
def fnRangeLatticeWrong : ChangeSpec := { name := "fnRangeLattice", fn := fun _ => fun
  | [d] => { results := [.lit (.bool false)], args := [d] }
  | _ => none }
def FnRangeLatticeWrongFalsely : Prop := fnRangeLatticeRow.holds Try.pinned (OpenSpec.ofChange fnRangeLatticeWrong)

/-- 'laws.FnRestLattice': WHATEVER THE INPUT: true; the input reads as it did. -/
def fnRestLatticeSpec : ChangeSpec := { name := "fnRestLattice", fn := fun _ => fun
  | [d] => { results := [.lit (.bool true)], args := [d] }
  | _ => none }
def fnRestLatticeRow : OpenClaim := { program := "ytmdcgkkkfncieaa", sum := "403998d3290cd0efe1b6472057be863e2c0c1ebadd030ccbeecafbc77a4ed747", func := "loop.example/sedge/laws.FnRestLattice", spec := "fnRestLattice", recurses := true, apart := false }
def FnRestLatticeSaid : Prop := fnRestLatticeRow.holds Try.pinned (OpenSpec.ofChange fnRestLatticeSpec)

/-- ITS FALSE NEIGHBOUR: 'it returns false'. Refute it at one input. -/
def fnRestLatticeWrong : ChangeSpec := { name := "fnRestLattice", fn := fun _ => fun
  | [d] => { results := [.lit (.bool false)], args := [d] }
  | _ => none }
def FnRestLatticeWrongFalsely : Prop := fnRestLatticeRow.holds Try.pinned (OpenSpec.ofChange fnRestLatticeWrong)

/- THE SECOND FORM. 'bulk': how many values and letters a reading holds, each counted each time it is reached (what is shared counts as often as it is met; a slice's spare places count too). A statement '..UptoSaid' is the law's where the arguments, and the package variables that the reading takes, are together of bulk at most 1048576: NARROWER than '..Said'. Prove '..Said' where nothing that the law and all that it calls make is longer than what came in: it says more and counts as full. Else prove '..UptoSaid'. A law counts once. -/
mutual
def uptoBulk {H : Type} : DataW H → Nat
  | .lit (.string bytes) => bytes.length + 1
  | .lit _ => 1
  | .nil => 1
  | .ptr d => uptoBulk d + 1
  | .slice elems spare => uptoBulkAll elems + uptoBulkAll spare + 1
  | .agg parts => uptoBulkAll parts + 1
  | .iface _ d => uptoBulk d + 1
  | .map entries => uptoBulkEntries entries + 1
  | .held _ => 1
def uptoBulkAll {H : Type} : List (DataW H) → Nat
  | [] => 0
  | d :: r => uptoBulk d + uptoBulkAll r
def uptoBulkEntries {H : Type} : List (Lit × DataW H) → Nat
  | [] => 0
  | x :: r => uptoBulkEntry x + uptoBulkEntries r
def uptoBulkEntry {H : Type} : Lit × DataW H → Nat
  | (.string bytes, d) => bytes.length + uptoBulk d + 1
  | (_, d) => uptoBulk d + 1
 end
def uptoSmall : (H : Type) → List (DataW H) → Bool := fun _ ds => decide (uptoBulkAll ds ≤ 1048576)
def OpenSpec.upto (s : _root_.Go.ChangeSpec) : _root_.Go.OpenSpec := { _root_.Go.OpenSpec.ofChange s with cond := some uptoSmall }

/-- 'laws.FnExactGapsRange', WHERE WHAT IT READS IS OF BULK AT MOST 1048576: true; the input reads as it did. -/
def fnExactGapsRangeUptoRow : OpenClaim := { program := "ytmdcgkkkfncieaa", sum := "403998d3290cd0efe1b6472057be863e2c0c1ebadd030ccbeecafbc77a4ed747", func := "loop.example/sedge/laws.FnExactGapsRange", spec := "fnExactGapsRange", apart := false, narrowed := true }
def FnExactGapsRangeUptoSaid : Prop := fnExactGapsRangeUptoRow.holds Try.pinned (OpenSpec.upto fnExactGapsRangeSpec)

/-- 'laws.FnExactGapsWiden', WHERE WHAT IT READS IS OF BULK AT MOST 1048576: true; the input reads as it did. -/
def fnExactGapsWidenUptoRow : OpenClaim := { program := "ytmdcgkkkfncieaa", sum := "403998d3290cd0efe1b6472057be863e2c0c1ebadd030ccbeecafbc77a4ed747", func := "loop.example/sedge/laws.FnExactGapsWiden", spec := "fnExactGapsWiden", apart := false, narrowed := true }
def FnExactGapsWidenUptoSaid : Prop := fnExactGapsWidenUptoRow.holds Try.pinned (OpenSpec.upto fnExactGapsWidenSpec)

/-- 'laws.FnExactGapsJoin', WHERE WHAT IT READS IS OF BULK AT MOST 1048576: true; the input reads as it did. -/
def fnExactGapsJoinUptoRow : OpenClaim := { program := "ytmdcgkkkfncieaa", sum := "403998d3290cd0efe1b6472057be863e2c0c1ebadd030ccbeecafbc77a4ed747", func := "loop.example/sedge/laws.FnExactGapsJoin", spec := "fnExactGapsJoin", apart := false, narrowed := true }
def FnExactGapsJoinUptoSaid : Prop := fnExactGapsJoinUptoRow.holds Try.pinned (OpenSpec.upto fnExactGapsJoinSpec)

/-- 'laws.FnExactGapsCut', WHERE WHAT IT READS IS OF BULK AT MOST 1048576: true; the input reads as it did. -/
def fnExactGapsCutUptoRow : OpenClaim := { program := "ytmdcgkkkfncieaa", sum := "403998d3290cd0efe1b6472057be863e2c0c1ebadd030ccbeecafbc77a4ed747", func := "loop.example/sedge/laws.FnExactGapsCut", spec := "fnExactGapsCut", apart := false, narrowed := true }
def FnExactGapsCutUptoSaid : Prop := fnExactGapsCutUptoRow.holds Try.pinned (OpenSpec.upto fnExactGapsCutSpec)

/-- 'laws.FnExactGapsForget', WHERE WHAT IT READS IS OF BULK AT MOST 1048576: true; the input reads as it did. -/
def fnExactGapsForgetUptoRow : OpenClaim := { program := "ytmdcgkkkfncieaa", sum := "403998d3290cd0efe1b6472057be863e2c0c1ebadd030ccbeecafbc77a4ed747", func := "loop.example/sedge/laws.FnExactGapsForget", spec := "fnExactGapsForget", apart := false, narrowed := true }
def FnExactGapsForgetUptoSaid : Prop := fnExactGapsForgetUptoRow.holds Try.pinned (OpenSpec.upto fnExactGapsForgetSpec)

/-- 'laws.FnExactGapsClose', WHERE WHAT IT READS IS OF BULK AT MOST 1048576: true; the input reads as it did. -/
def fnExactGapsCloseUptoRow : OpenClaim := { program := "ytmdcgkkkfncieaa", sum := "403998d3290cd0efe1b6472057be863e2c0c1ebadd030ccbeecafbc77a4ed747", func := "loop.example/sedge/laws.FnExactGapsClose", spec := "fnExactGapsClose", apart := false, narrowed := true }
def FnExactGapsCloseUptoSaid : Prop := fnExactGapsCloseUptoRow.holds Try.pinned (OpenSpec.upto fnExactGapsCloseSpec)

/-- 'laws.FnExactGapsMove', WHERE WHAT IT READS IS OF BULK AT MOST 1048576: true; the input reads as it did. -/
def fnExactGapsMoveUptoRow : OpenClaim := { program := "ytmdcgkkkfncieaa", sum := "403998d3290cd0efe1b6472057be863e2c0c1ebadd030ccbeecafbc77a4ed747", func := "loop.example/sedge/laws.FnExactGapsMove", spec := "fnExactGapsMove", apart := false, narrowed := true }
def FnExactGapsMoveUptoSaid : Prop := fnExactGapsMoveUptoRow.holds Try.pinned (OpenSpec.upto fnExactGapsMoveSpec)

/-- 'laws.FnNumRest', WHERE WHAT IT READS IS OF BULK AT MOST 1048576: true; the input reads as it did. -/
def fnNumRestUptoRow : OpenClaim := { program := "ytmdcgkkkfncieaa", sum := "403998d3290cd0efe1b6472057be863e2c0c1ebadd030ccbeecafbc77a4ed747", func := "loop.example/sedge/laws.FnNumRest", spec := "fnNumRest", apart := false, narrowed := true }
def FnNumRestUptoSaid : Prop := fnNumRestUptoRow.holds Try.pinned (OpenSpec.upto fnNumRestSpec)

/-- 'laws.FnRangeStill', WHERE WHAT IT READS IS OF BULK AT MOST 1048576: true; the input reads as it did. -/
def fnRangeStillUptoRow : OpenClaim := { program := "ytmdcgkkkfncieaa", sum := "403998d3290cd0efe1b6472057be863e2c0c1ebadd030ccbeecafbc77a4ed747", func := "loop.example/sedge/laws.FnRangeStill", spec := "fnRangeStill", apart := false, narrowed := true }
def FnRangeStillUptoSaid : Prop := fnRangeStillUptoRow.holds Try.pinned (OpenSpec.upto fnRangeStillSpec)

/-- 'laws.FnRangeLattice', WHERE WHAT IT READS IS OF BULK AT MOST 1048576: true; the input reads as it did. -/
def fnRangeLatticeUptoRow : OpenClaim := { program := "ytmdcgkkkfncieaa", sum := "403998d3290cd0efe1b6472057be863e2c0c1ebadd030ccbeecafbc77a4ed747", func := "loop.example/sedge/laws.FnRangeLattice", spec := "fnRangeLattice", apart := false, narrowed := true }
def FnRangeLatticeUptoSaid : Prop := fnRangeLatticeUptoRow.holds Try.pinned (OpenSpec.upto fnRangeLatticeSpec)

/-- 'laws.FnRestLattice', WHERE WHAT IT READS IS OF BULK AT MOST 1048576: true; the input reads as it did. -/
def fnRestLatticeUptoRow : OpenClaim := { program := "ytmdcgkkkfncieaa", sum := "403998d3290cd0efe1b6472057be863e2c0c1ebadd030ccbeecafbc77a4ed747", func := "loop.example/sedge/laws.FnRestLattice", spec := "fnRestLattice", recurses := true, apart := false, narrowed := true }
def FnRestLatticeUptoSaid : Prop := fnRestLatticeUptoRow.holds Try.pinned (OpenSpec.upto fnRestLatticeSpec)

end Rows
end Go.Proofs.Ytmdcgkkkfncieaa
