/-
  No cell of these rows narrows 'for every input' (looked for: loops, veiled, ifaces, maps, wideKeys, modest, calm, conditions, laid).
  DERIVED. THE GIVEN ROWS OF THIS SEAT. 2 by the template 'for every input the law returns true; each argument reads behind the call as it read before'; 0 by the template 'total and deterministic' (their statements: YtklkdpcopfjmcaaTotals.lean).
  GIVEN WITH THE SEED: the statements are not yours to turn. If you find one false, say at which input.
  Laid BY PROGRAM, IN A SANDBOX (cutbox-rows.mjs): the forced cells as the released guide's own fill.sh prints them over the translation f6ca109c6e7013ab… (all of the seat's roots in one cut). By AI agents, Wed Nov 11 2026. No macro, syntax, notation, axiom, sorry.
-/
import Derived.Test.YtklkdpcopfjmcaaChecked
import GoSem.Claim
import GoSem.ClaimJoined
import GoSem.ClaimMapViews
import Derived.JoinedTies
import Derived.KernelRfl
namespace Go.Proofs.Ytklkdpcopfjmcaa
/- THE CELL 'sum', in the pinned program and in every row, IS THE sha256 OF THE DUMP (.gsa) THAT YtklkdpcopfjmcaaProg.lean LOADS. Nothing in Lean hashes anything: it is a label: what it is worth is what the hold of that sum in a sandbox is worth. -/
noncomputable def Try.pinned : Pinned := { name := "ytklkdpcopfjmcaa", sum := "f6ca109c6e7013abd88fa1da3bec3b56b77d67a80fd46d15f1c174c07d4d5727", checked := Try.checked }
namespace Rows
def none {H : Type} : Left H := { results := [], args := [] }

/-- 'laws.FnExactAbsTight': WHATEVER THE INPUT: true; the input reads as it did. -/
def fnExactAbsTightSpec : ChangeSpec := { name := "fnExactAbsTight", fn := fun _ => fun
  | [d] => { results := [.lit (.bool true)], args := [d] }
  | _ => none }
def fnExactAbsTightRow : OpenClaim := { program := "ytklkdpcopfjmcaa", sum := "f6ca109c6e7013abd88fa1da3bec3b56b77d67a80fd46d15f1c174c07d4d5727", func := "loop.example/sedge/laws.FnExactAbsTight", spec := "fnExactAbsTight", recurses := true, apart := false }
def FnExactAbsTightSaid : Prop := fnExactAbsTightRow.holds Try.pinned (OpenSpec.ofChange fnExactAbsTightSpec)

/-- ITS FALSE NEIGHBOUR: 'it returns false'. Refute it at one input. -/
def fnExactAbsTightWrong : ChangeSpec := { name := "fnExactAbsTight", fn := fun _ => fun
  | [d] => { results := [.lit (.bool false)], args := [d] }
  | _ => none }
def FnExactAbsTightWrongFalsely : Prop := fnExactAbsTightRow.holds Try.pinned (OpenSpec.ofChange fnExactAbsTightWrong)

/-- 'laws.FnAbsTurn': WHATEVER THE INPUT: true; the input reads as it did. -/
def fnAbsTurnSpec : ChangeSpec := { name := "fnAbsTurn", fn := fun _ => fun
  | [d] => { results := [.lit (.bool true)], args := [d] }
  | _ => none }
def fnAbsTurnRow : OpenClaim := { program := "ytklkdpcopfjmcaa", sum := "f6ca109c6e7013abd88fa1da3bec3b56b77d67a80fd46d15f1c174c07d4d5727", func := "loop.example/sedge/laws.FnAbsTurn", spec := "fnAbsTurn", unfollowed := true, recurses := true, apart := false }
def FnAbsTurnSaid : Prop := fnAbsTurnRow.holds Try.pinned (OpenSpec.ofChange fnAbsTurnSpec)

/-- ITS FALSE NEIGHBOUR: 'it returns false'. Refute it at one input. -/
def fnAbsTurnWrong : ChangeSpec := { name := "fnAbsTurn", fn := fun _ => fun
  | [d] => { results := [.lit (.bool false)], args := [d] }
  | _ => none }
def FnAbsTurnWrongFalsely : Prop := fnAbsTurnRow.holds Try.pinned (OpenSpec.ofChange fnAbsTurnWrong)

/- THE SECOND FORM. 'bulk': how many values and letters a reading holds, each counted each time it is reached (what is shared counts as often as it is met; a slice's spare places count too). A statement '..UptoSaid' is the law's where the arguments, and the package variables that the reading takes, are together of bulk at most 1048576: NARROWER than '..Said'. Prove '..Said' where nothing that the law and all that it calls make is longer than what came in: it says more and counts as full. Else prove '..UptoSaid'. A law counts once. -/
mutual
def uptoBulk {H : Type} : DataW H → Nat
  | .lit (.string bytes) => bytes.length + 1
  | .lit _ => 1
  | .nil => 1
  | .ptr d => uptoBulk d + 1
  | .slice elems spare => uptoBulkAll elems + uptoBulkAll spare + 1
  | .agg parts => uptoBulkAll parts + 1
  | .iface _ d => uptoBulk d + 1
  | .map entries => uptoBulkEntries entries + 1
  | .held _ => 1
def uptoBulkAll {H : Type} : List (DataW H) → Nat
  | [] => 0
  | d :: r => uptoBulk d + uptoBulkAll r
def uptoBulkEntries {H : Type} : List (Lit × DataW H) → Nat
  | [] => 0
  | x :: r => uptoBulkEntry x + uptoBulkEntries r
def uptoBulkEntry {H : Type} : Lit × DataW H → Nat
  | (.string bytes, d) => bytes.length + uptoBulk d + 1
  | (_, d) => uptoBulk d + 1
 end
def uptoSmall : (H : Type) → List (DataW H) → Bool := fun _ ds => decide (uptoBulkAll ds ≤ 1048576)
def OpenSpec.upto (s : _root_.Go.ChangeSpec) : _root_.Go.OpenSpec := { _root_.Go.OpenSpec.ofChange s with cond := some uptoSmall }

/-- 'laws.FnExactAbsTight', WHERE WHAT IT READS IS OF BULK AT MOST 1048576: true; the input reads as it did. -/
def fnExactAbsTightUptoRow : OpenClaim := { program := "ytklkdpcopfjmcaa", sum := "f6ca109c6e7013abd88fa1da3bec3b56b77d67a80fd46d15f1c174c07d4d5727", func := "loop.example/sedge/laws.FnExactAbsTight", spec := "fnExactAbsTight", recurses := true, apart := false, narrowed := true }
def FnExactAbsTightUptoSaid : Prop := fnExactAbsTightUptoRow.holds Try.pinned (OpenSpec.upto fnExactAbsTightSpec)

/-- 'laws.FnAbsTurn', WHERE WHAT IT READS IS OF BULK AT MOST 1048576: true; the input reads as it did. -/
def fnAbsTurnUptoRow : OpenClaim := { program := "ytklkdpcopfjmcaa", sum := "f6ca109c6e7013abd88fa1da3bec3b56b77d67a80fd46d15f1c174c07d4d5727", func := "loop.example/sedge/laws.FnAbsTurn", spec := "fnAbsTurn", unfollowed := true, recurses := true, apart := false, narrowed := true }
def FnAbsTurnUptoSaid : Prop := fnAbsTurnUptoRow.holds Try.pinned (OpenSpec.upto fnAbsTurnSpec)

end Rows
end Go.Proofs.Ytklkdpcopfjmcaa
