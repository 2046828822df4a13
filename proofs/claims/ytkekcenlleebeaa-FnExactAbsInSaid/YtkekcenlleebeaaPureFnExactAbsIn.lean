/- The program's AbsIn and the reference's tell the same at every argument. Conditions: those in each law. -/
import Derived.Test.YtkekcenlleebeaaLFnExactAbsIn
namespace Go.Proofs.Ytkekcenlleebeaa.Pure
set_option linter.unusedVariables false
set_option linter.unusedSimpArgs false
open Go.RowKit Go.Proofs.Ytkekcenlleebeaa.PFnExactAbsIn Go.Proofs.Ytkekcenlleebeaa.LFnExactAbsIn Go.Proofs.Ytkekcenlleebeaa.Base Go.Proofs.YtkekcenlleebeaaW.PrintWords Go.Proofs.YtkekcenlleebeaaW.PrintLast Go.Proofs.YtkekcenlleebeaaW.PrintMore

theorem FnExactAbsIn (live : Bool) (ints : List S165) (refs : List S167) (cells : List S165) (n : Int) (d : List Int) (live' : Bool) (ints' : List S165) (refs' : List S167) (cells' : List S165) (n' : Int) (d' : List Int)
    (h1 : ints.length ≤ 9223372036854775807) (h2 : refs.length ≤ 9223372036854775807) (h4 : ∀ r ∈ refs, r.f1.length ≤ 9223372036854775807) (h3 : cells.length ≤ 9223372036854775807) (h5 : d.length ≤ 9223372036854775807)
    (h1' : ints'.length ≤ 9223372036854775807) (h2' : refs'.length ≤ 9223372036854775807) (h4' : ∀ r ∈ refs', r.f1.length ≤ 9223372036854775807) (h3' : cells'.length ≤ 9223372036854775807) (h5' : d'.length ≤ 9223372036854775807) :
    ∃ k, laws_FnExactAbsIn.f k live ints refs cells n d live' ints' refs' cells' n' d' = some true := by
  refine ⟨100000000, ?_⟩
  refine Tot.out ?_
  unfold laws_FnExactAbsIn.f
  refine Tot.then (szAbs_tot live ints refs cells n d 1048576 h1 h2 h3 h5 h4 (by omega) (by omega) (by omega)) ?_
  intro t ht
  refine Tot.ite (fun _ => Tot.here rfl) (fun c => ?_)
  obtain ⟨t0, t1, i1, i2, i3, i4, i5⟩ := ht.resolve_left c
  refine Tot.then (szAbs_tot live' ints' refs' cells' n' d' t h1' h2' h3' h5' h4' t0 t1 (by omega)) ?_
  intro t' ht'
  refine Tot.ite (fun _ => Tot.here rfl) (fun c' => ?_)
  obtain ⟨-, -, j1, j2, j3, j4, j5⟩ := ht'.resolve_left c'
  have sm := small_map i1 i2 i3 i5
  have sm' := small_map j1 j2 j3 j5
  rw [toAbs_eq live ints refs cells n d i1 i2 i3 i5 i4 (by omega), toAbs_eq live' ints' refs' cells' n' d' j1 j2 j3 j5 j4 (by omega)]
  simp only [Option.bind_some]
  refine Tot.then (sabsIn_tot sm sm' (by omega)) ?_
  intro b hb
  refine Tot.then (absIn_tot sm sm' (by omega)) ?_
  intro b' hb'
  rw [same_bool hb' hb]
  rw [if_neg (by simp), eqAbs_refl sm i4 (by omega), Option.bind_some, if_pos rfl, eqAbs_refl sm' j4 (by omega)]
  exact Tot.here rfl
end Go.Proofs.Ytkekcenlleebeaa.Pure
