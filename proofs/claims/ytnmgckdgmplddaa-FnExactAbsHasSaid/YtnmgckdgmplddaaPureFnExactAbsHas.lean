/- The program's AbsHas and the reference's tell the same at every argument. Conditions: those in each law. -/
import Derived.Test.YtnmgckdgmplddaaLFnExactAbsHas
namespace Go.Proofs.Ytnmgckdgmplddaa.Pure
set_option linter.unusedVariables false
set_option linter.unusedSimpArgs false
open Go.RowKit Go.Proofs.Ytnmgckdgmplddaa.PFnExactAbsHas Go.Proofs.Ytnmgckdgmplddaa.LFnExactAbsHas Go.Proofs.Ytnmgckdgmplddaa.Base Go.Proofs.YtnmgckdgmplddaaW.PrintWords Go.Proofs.YtnmgckdgmplddaaW.PrintLast Go.Proofs.YtnmgckdgmplddaaW.PrintMore

theorem FnExactAbsHas (live : Bool) (ints : List S81) (refs : List S83) (cells : List S81) (n : Int) (d : List Int) (x : List Int) (y : List S72) (z : List S56)
    (h1 : ints.length ≤ 9223372036854775807) (h2 : refs.length ≤ 9223372036854775807) (h4 : ∀ r ∈ refs, r.f1.length ≤ 9223372036854775807) (h3 : cells.length ≤ 9223372036854775807) (h5 : d.length ≤ 9223372036854775807)
    (h6 : x.length ≤ 9223372036854775807) (h7 : y.length ≤ 9223372036854775807) (h8 : z.length ≤ 9223372036854775807) (h9 : ∀ r ∈ z, r.f0.length ≤ 9223372036854775807) :
    ∃ k, laws_FnExactAbsHas.f k live ints refs cells n d x y z = some true := by
  obtain ⟨k, hk⟩ : ∃ k : Nat, 10000000000000 ≤ k := ⟨_, Nat.le_refl _⟩
  refine ⟨k, ?_⟩
  refine Tot.out ?_
  unfold laws_FnExactAbsHas.f
  refine Tot.ite (fun _ => Tot.here rfl) (fun hx => ?_)
  have sx : x.length ≤ 1048576 := by omega
  refine Tot.then (szAbs_tot live ints refs cells n d 1048576 h1 h2 h3 h5 h4 (by omega) (by omega) (by omega)) ?_
  intro t ht
  refine Tot.ite (fun _ => Tot.here rfl) (fun c => ?_)
  obtain ⟨t0, t1, i1, i2, i3, i4, i5⟩ := ht.resolve_left c
  refine Tot.then (szRefS_tot y t h7 t0 t1) ?_
  intro u hu
  refine Tot.ite (fun _ => Tot.here rfl) (fun cu => ?_)
  obtain ⟨u0, u1, u2⟩ := hu.resolve_left cu
  refine Tot.then (szCellsS_tot z u h8 h9 u0 (by omega) (by omega)) ?_
  intro v hv
  refine Tot.ite (fun _ => Tot.here rfl) (fun cv1 => ?_)
  obtain ⟨v0, v1, v2, v3⟩ := hv.resolve_left cv1
  have sm := small_map i1 i2 i3 i5
  have sh : HSmall x (y.map cf) (z.map cc) := ⟨sx, by simpa using u2, by simpa using v2, cells_map v3⟩
  rw [toAbs_eq live ints refs cells n d i1 i2 i3 i5 i4 (by omega), toIntS_eq x sx (by omega), toRefS_eq y u2 (by omega), toCellsS_eq z v2 v3 (by omega)]
  simp only [Option.bind_some]
  refine Tot.then (sabsHas_tot sm sh hk) ?_
  intro b hb
  refine Tot.then (absHas_tot sm sh hk) ?_
  intro b' hb'
  rw [same_bool hb' hb]
  rw [if_neg (by simp), eqAbs_refl sm i4 (by omega), Option.bind_some, if_pos rfl, eqIntS_refl x sx (by omega), Option.bind_some, if_pos rfl, eqRefS_refl _ sh.2.1 (by omega), Option.bind_some, if_pos rfl, eqCellsS_refl _ sh.2.2.1 sh.2.2.2 (by omega)]
  exact Tot.here rfl
end Go.Proofs.Ytnmgckdgmplddaa.Pure
