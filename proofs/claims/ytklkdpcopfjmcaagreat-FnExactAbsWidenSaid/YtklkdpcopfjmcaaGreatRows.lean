/-
  No cell of these rows narrows 'for every input' (looked for: loops, veiled, ifaces, maps, wideKeys, modest, calm, conditions, laid).
  DERIVED. THE GIVEN ROWS OF THIS SEAT. 5 by the template 'for every input the law returns true; each argument reads behind the call as it read before'; 0 by the template 'total and deterministic' (their statements: YtklkdpcopfjmcaaGreatTotals.lean).
  GIVEN WITH THE SEED: the statements are not yours to turn. If you find one false, say at which input.
  Laid BY PROGRAM, IN A SANDBOX (cutbox-rows.mjs): the forced cells as the released guide's own fill.sh prints them over the translation 46a805c32b569eea… (all of the seat's roots in one cut). By AI agents, Wed Nov 11 2026. No macro, syntax, notation, axiom, sorry.
-/
import Derived.Test.YtklkdpcopfjmcaaGreatChecked
import GoSem.Claim
import GoSem.ClaimJoined
import GoSem.ClaimMapViews
import Derived.JoinedTies
import Derived.KernelRfl
namespace Go.Proofs.YtklkdpcopfjmcaaGreat
/- THE CELL 'sum', in the pinned program and in every row, IS THE sha256 OF THE DUMP (.gsa) THAT YtklkdpcopfjmcaaGreatProg.lean LOADS. Nothing in Lean hashes anything: it is a label: what it is worth is what the hold of that sum in a sandbox is worth. -/
noncomputable def Tryz.pinned : Pinned := { name := "ytklkdpcopfjmcaagreat", sum := "46a805c32b569eea0d0556ce05eb7f85d2fb5dabf53f52f257e8db4f6c2d2751", checked := Tryz.checked }
namespace Rows
def none {H : Type} : Left H := { results := [], args := [] }

/-- 'laws.FnExactAbsJoin': WHATEVER THE INPUT: true; the input reads as it did. -/
def fnExactAbsJoinSpec : ChangeSpec := { name := "fnExactAbsJoin", fn := fun _ => fun
  | [d1, d2] => { results := [.lit (.bool true)], args := [d1, d2] }
  | _ => none }
def fnExactAbsJoinRow : OpenClaim := { program := "ytklkdpcopfjmcaagreat", sum := "46a805c32b569eea0d0556ce05eb7f85d2fb5dabf53f52f257e8db4f6c2d2751", func := "loop.example/sedge/laws.FnExactAbsJoin", spec := "fnExactAbsJoin", unfollowed := true, recurses := true, apart := false }
def FnExactAbsJoinSaid : Prop := fnExactAbsJoinRow.holds Tryz.pinned (OpenSpec.ofChange fnExactAbsJoinSpec)

/-- ITS FALSE NEIGHBOUR: 'it returns false'. Refute it at one input. -/
def fnExactAbsJoinWrong : ChangeSpec := { name := "fnExactAbsJoin", fn := fun _ => fun
  | [d1, d2] => { results := [.lit (.bool false)], args := [d1, d2] }
  | _ => none }
def FnExactAbsJoinWrongFalsely : Prop := fnExactAbsJoinRow.holds Tryz.pinned (OpenSpec.ofChange fnExactAbsJoinWrong)

/-- 'laws.FnExactAbsWiden': WHATEVER THE INPUT: true; the input reads as it did. -/
def fnExactAbsWidenSpec : ChangeSpec := { name := "fnExactAbsWiden", fn := fun _ => fun
  | [d1, d2, d3] => { results := [.lit (.bool true)], args := [d1, d2, d3] }
  | _ => none }
def fnExactAbsWidenRow : OpenClaim := { program := "ytklkdpcopfjmcaagreat", sum := "46a805c32b569eea0d0556ce05eb7f85d2fb5dabf53f52f257e8db4f6c2d2751", func := "loop.example/sedge/laws.FnExactAbsWiden", spec := "fnExactAbsWiden", unfollowed := true, recurses := true, apart := false }
def FnExactAbsWidenSaid : Prop := fnExactAbsWidenRow.holds Tryz.pinned (OpenSpec.ofChange fnExactAbsWidenSpec)

/-- ITS FALSE NEIGHBOUR: 'it returns false'. Refute it at one input. -/
def fnExactAbsWidenWrong : ChangeSpec := { name := "fnExactAbsWiden", fn := fun _ => fun
  | [d1, d2, d3] => { results := [.lit (.bool false)], args := [d1, d2, d3] }
  | _ => none }
def FnExactAbsWidenWrongFalsely : Prop := fnExactAbsWidenRow.holds Tryz.pinned (OpenSpec.ofChange fnExactAbsWidenWrong)

/-- 'laws.FnAbsJoin': WHATEVER THE INPUT: true; the input reads as it did. -/
def fnAbsJoinSpec : ChangeSpec := { name := "fnAbsJoin", fn := fun _ => fun
  | [d] => { results := [.lit (.bool true)], args := [d] }
  | _ => none }
def fnAbsJoinRow : OpenClaim := { program := "ytklkdpcopfjmcaagreat", sum := "46a805c32b569eea0d0556ce05eb7f85d2fb5dabf53f52f257e8db4f6c2d2751", func := "loop.example/sedge/laws.FnAbsJoin", spec := "fnAbsJoin", unfollowed := true, recurses := true, apart := false }
def FnAbsJoinSaid : Prop := fnAbsJoinRow.holds Tryz.pinned (OpenSpec.ofChange fnAbsJoinSpec)

/-- ITS FALSE NEIGHBOUR: 'it returns false'. Refute it at one input. -/
def fnAbsJoinWrong : ChangeSpec := { name := "fnAbsJoin", fn := fun _ => fun
  | [d] => { results := [.lit (.bool false)], args := [d] }
  | _ => none }
def FnAbsJoinWrongFalsely : Prop := fnAbsJoinRow.holds Tryz.pinned (OpenSpec.ofChange fnAbsJoinWrong)

/-- 'laws.FnAbsTight': WHATEVER THE INPUT: true; the input reads as it did. -/
def fnAbsTightSpec : ChangeSpec := { name := "fnAbsTight", fn := fun _ => fun
  | [d] => { results := [.lit (.bool true)], args := [d] }
  | _ => none }
def fnAbsTightRow : OpenClaim := { program := "ytklkdpcopfjmcaagreat", sum := "46a805c32b569eea0d0556ce05eb7f85d2fb5dabf53f52f257e8db4f6c2d2751", func := "loop.example/sedge/laws.FnAbsTight", spec := "fnAbsTight", recurses := true, apart := false }
def FnAbsTightSaid : Prop := fnAbsTightRow.holds Tryz.pinned (OpenSpec.ofChange fnAbsTightSpec)

/-- ITS FALSE NEIGHBOUR: 'it returns false'. Refute it at one input. -/
def fnAbsTightWrong : ChangeSpec := { name := "fnAbsTight", fn := fun _ => fun
  | [d] => { results := [.lit (.bool false)], args := [d] }
  | _ => none }
def FnAbsTightWrongFalsely : Prop := fnAbsTightRow.holds Tryz.pinned (OpenSpec.ofChange fnAbsTightWrong)

/-- 'laws.FnAbsIn': WHATEVER THE INPUT: true; the input reads as it did. -/
def fnAbsInSpec : ChangeSpec := { name := "fnAbsIn", fn := fun _ => fun
  | [d] => { results := [.lit (.bool true)], args := [d] }
  | _ => none }
def fnAbsInRow : OpenClaim := { program := "ytklkdpcopfjmcaagreat", sum := "46a805c32b569eea0d0556ce05eb7f85d2fb5dabf53f52f257e8db4f6c2d2751", func := "loop.example/sedge/laws.FnAbsIn", spec := "fnAbsIn", apart := false }
def FnAbsInSaid : Prop := fnAbsInRow.holds Tryz.pinned (OpenSpec.ofChange fnAbsInSpec)

/-- ITS FALSE NEIGHBOUR: 'it returns false'. Refute it at one input. -/
def fnAbsInWrong : ChangeSpec := { name := "fnAbsIn", fn := fun _ => fun
  | [d] => { results := [.lit (.bool false)], args := [d] }
  | _ => none }
def FnAbsInWrongFalsely : Prop := fnAbsInRow.holds Tryz.pinned (OpenSpec.ofChange fnAbsInWrong)

/- THE SECOND FORM. 'bulk': how many values and letters a reading holds, each counted each time it is reached (what is shared counts as often as it is met; a slice's spare places count too). A statement '..UptoSaid' is the law's where the arguments, and the package variables that the reading takes, are together of bulk at most 1048576: NARROWER than '..Said'. Prove '..Said' where nothing that the law and all that it calls make is longer than what came in: it says more and counts as full. Else prove '..UptoSaid'. A law counts once. -/
mutual
def uptoBulk {H : Type} : DataW H → Nat
  | .lit (.string bytes) => bytes.length + 1
  | .lit _ => 1
  | .nil => 1
  | .ptr d => uptoBulk d + 1
  | .slice elems spare => uptoBulkAll elems + uptoBulkAll spare + 1
  | .agg parts => uptoBulkAll parts + 1
  | .iface _ d => uptoBulk d + 1
  | .map entries => uptoBulkEntries entries + 1
  | .held _ => 1
def uptoBulkAll {H : Type} : List (DataW H) → Nat
  | [] => 0
  | d :: r => uptoBulk d + uptoBulkAll r
def uptoBulkEntries {H : Type} : List (Lit × DataW H) → Nat
  | [] => 0
  | x :: r => uptoBulkEntry x + uptoBulkEntries r
def uptoBulkEntry {H : Type} : Lit × DataW H → Nat
  | (.string bytes, d) => bytes.length + uptoBulk d + 1
  | (_, d) => uptoBulk d + 1
 end
def uptoSmall : (H : Type) → List (DataW H) → Bool := fun _ ds => decide (uptoBulkAll ds ≤ 1048576)
def OpenSpec.upto (s : _root_.Go.ChangeSpec) : _root_.Go.OpenSpec := { _root_.Go.OpenSpec.ofChange s with cond := some uptoSmall }

/-- 'laws.FnExactAbsJoin', WHERE WHAT IT READS IS OF BULK AT MOST 1048576: true; the input reads as it did. -/
def fnExactAbsJoinUptoRow : OpenClaim := { program := "ytklkdpcopfjmcaagreat", sum := "46a805c32b569eea0d0556ce05eb7f85d2fb5dabf53f52f257e8db4f6c2d2751", func := "loop.example/sedge/laws.FnExactAbsJoin", spec := "fnExactAbsJoin", unfollowed := true, recurses := true, apart := false, narrowed := true }
def FnExactAbsJoinUptoSaid : Prop := fnExactAbsJoinUptoRow.holds Tryz.pinned (OpenSpec.upto fnExactAbsJoinSpec)

/-- 'laws.FnExactAbsWiden', WHERE WHAT IT READS IS OF BULK AT MOST 1048576: true; the input reads as it did. -/
def fnExactAbsWidenUptoRow : OpenClaim := { program := "ytklkdpcopfjmcaagreat", sum := "46a805c32b569eea0d0556ce05eb7f85d2fb5dabf53f52f257e8db4f6c2d2751", func := "loop.example/sedge/laws.FnExactAbsWiden", spec := "fnExactAbsWiden", unfollowed := true, recurses := true, apart := false, narrowed := true }
def FnExactAbsWidenUptoSaid : Prop := fnExactAbsWidenUptoRow.holds Tryz.pinned (OpenSpec.upto fnExactAbsWidenSpec)

/-- 'laws.FnAbsJoin', WHERE WHAT IT READS IS OF BULK AT MOST 1048576: true; the input reads as it did. -/
def fnAbsJoinUptoRow : OpenClaim := { program := "ytklkdpcopfjmcaagreat", sum := "46a805c32b569eea0d0556ce05eb7f85d2fb5dabf53f52f257e8db4f6c2d2751", func := "loop.example/sedge/laws.FnAbsJoin", spec := "fnAbsJoin", unfollowed := true, recurses := true, apart := false, narrowed := true }
def FnAbsJoinUptoSaid : Prop := fnAbsJoinUptoRow.holds Tryz.pinned (OpenSpec.upto fnAbsJoinSpec)

/-- 'laws.FnAbsTight', WHERE WHAT IT READS IS OF BULK AT MOST 1048576: true; the input reads as it did. -/
def fnAbsTightUptoRow : OpenClaim := { program := "ytklkdpcopfjmcaagreat", sum := "46a805c32b569eea0d0556ce05eb7f85d2fb5dabf53f52f257e8db4f6c2d2751", func := "loop.example/sedge/laws.FnAbsTight", spec := "fnAbsTight", recurses := true, apart := false, narrowed := true }
def FnAbsTightUptoSaid : Prop := fnAbsTightUptoRow.holds Tryz.pinned (OpenSpec.upto fnAbsTightSpec)

/-- 'laws.FnAbsIn', WHERE WHAT IT READS IS OF BULK AT MOST 1048576: true; the input reads as it did. -/
def fnAbsInUptoRow : OpenClaim := { program := "ytklkdpcopfjmcaagreat", sum := "46a805c32b569eea0d0556ce05eb7f85d2fb5dabf53f52f257e8db4f6c2d2751", func := "loop.example/sedge/laws.FnAbsIn", spec := "fnAbsIn", apart := false, narrowed := true }
def FnAbsInUptoSaid : Prop := fnAbsInUptoRow.holds Tryz.pinned (OpenSpec.upto fnAbsInSpec)

end Rows
end Go.Proofs.YtklkdpcopfjmcaaGreat
