/- The statement, out of the pure one and the walk. Conditions: none. -/
import Derived.Test.YtklkdpcopfjmcaaGreatRows
import Derived.Test.YtklkdpcopfjmcaaGreatQFnExactAbsJoinx99V
import Derived.Test.YtklkdpcopfjmcaaGreatPureFnExactAbsJoinV
import Derived.Test.YtklkdpcopfjmcaaGreatOpensV
import Derived.WalkKit
import Derived.ProofKit
import Derived.OpenShut
import Derived.ShutString
import Derived.ChangeOld
import Derived.Below
import Derived.SizedLaws
namespace Go.Proofs.YtklkdpcopfjmcaaGreat.fnExactAbsJoin
open Go.ChangeShapes Go.WideShapes Go.ChangeAt Go.RowKit Go.Proofs.YtklkdpcopfjmcaaGreat.Opens Go.Proofs.YtklkdpcopfjmcaaGreatW.PrintWords Go.Proofs.YtklkdpcopfjmcaaGreat.PFnExactAbsJoin
set_option linter.unusedVariables false
theorem own : ownKnob Tryz.prog.godebug = none := by kernel_rfl
theorem laidOut : laidOutB Tryz.prog = true := by kernel_rfl
set_option maxRecDepth 100000 in
theorem lifted (os : Os) (started : os.Started) (H : Type) (enc : TypeId × Value → H) :
    ReturnsInHanded {} Tryz.checked os 3 .any (Rows.fnExactAbsJoinSpec.pre6 enc Tryz.prog Tryz.f3 Rows.fnExactAbsJoinRow.domain false) (Rows.fnExactAbsJoinSpec.post enc Tryz.prog Tryz.f3 false true false false) := by
  refine returnsInHanded_of_change_sized (C := Tryz.checked) own started (by kernel_rfl) Tryz.func3
    (ChangeSpec.witness6 (enc := enc) (C := Tryz.checked) false ⟨#[], #[.agg #[.bool false, .slice none 0 0, .slice none 0 0, .slice none 0 0, .int .i64 0, .slice none 0 0], .agg #[.bool false, .slice none 0 0, .slice none 0 0, .slice none 0 0, .int .i64 0, .slice none 0 0]], []⟩ 8 (by kernel_rfl) (by kernel_rfl) (by kernel_rfl) (by kernel_rfl)) ?_
  intro W base args ds gs before hval0 hW hcnd hsz0 _
  have hval : ∀ (j : Nat) t v, Tryz.f3.params[j]? = some t → args[j]? = some v → Value.okWide Tryz.prog W .any base t v := hval0
  have hW' := hW
  obtain ⟨p, q, hA0, hV, rfl, hfz, hnd⟩ := hW
  have hA : DataW.TrodAll enc Tryz.prog W 0 (fun _ => true) true Tryz.f3.params.toList args.toList ds p := hA0
  rw [Tryz.params3] at hA hval
  obtain ⟨v0, vs0, d0, ds0, p0, q0, hargs0, rfl, rfl, h0, r0⟩ := trodAll_cons hA
  obtain ⟨v1, vs1, d1, ds1, p1, q1, hargs1, rfl, rfl, h1, r1⟩ := trodAll_cons r0
  obtain ⟨rfl, rfl, rfl⟩ := trodAll_nil r1
  obtain rfl : args = #[v0, v1] := by cases args; simp_all
  obtain ⟨rfl, rfl⟩ := trodVars_none hV
  have o4 := opens_bool (enc := enc) (P := Tryz.prog) (W := W) (base := 0) (sp := fun _ => true) (hd := true) Tryz.underlying4 (by kernel_rfl)
  have o3 := opens_int (enc := enc) (P := Tryz.prog) (W := W) (base := 0) (sp := fun _ => true) (hd := true) Tryz.underlying3 (by kernel_rfl)
  have o116 := opens_struct (enc := enc) (P := Tryz.prog) (W := W) (base := 0) (sp := fun _ => true) (hd := true) (fun x : S116 => (x.f0, x.f1, x.f2, x.f3)) (fun p => ⟨p.1, p.2.1, p.2.2.1, p.2.2.2⟩) (fun _ => rfl) Tryz.underlying116 (by kernel_rfl) (opens_pair rfl o3 (opens_pair rfl o3 (opens_pair rfl o3 (opens_last rfl o3))))
  have o22 := opens_slice (enc := enc) (P := Tryz.prog) (W := W) (base := 0) (sp := fun _ => true) (hd := true) 116 Tryz.underlying22 (by kernel_rfl) o116
  have o24 := opens_slice (enc := enc) (P := Tryz.prog) (W := W) (base := 0) (sp := fun _ => true) (hd := true) 3 Tryz.underlying24 (by kernel_rfl) o3
  have o118 := opens_struct (enc := enc) (P := Tryz.prog) (W := W) (base := 0) (sp := fun _ => true) (hd := true) (fun x : S118 => (x.f0, x.f1, x.f2)) (fun p => ⟨p.1, p.2.1, p.2.2⟩) (fun _ => rfl) Tryz.underlying118 (by kernel_rfl) (opens_pair rfl o4 (opens_pair rfl o24 (opens_last rfl o116)))
  have o23 := opens_slice (enc := enc) (P := Tryz.prog) (W := W) (base := 0) (sp := fun _ => true) (hd := true) 118 Tryz.underlying23 (by kernel_rfl) o118
  have o26 := opens_struct (enc := enc) (P := Tryz.prog) (W := W) (base := 0) (sp := fun _ => true) (hd := true) id id (fun _ => rfl) Tryz.underlying26 (by kernel_rfl) (opens_pair rfl o3 (opens_last rfl o24))
  have o28 := opens_struct (enc := enc) (P := Tryz.prog) (W := W) (base := 0) (sp := fun _ => true) (hd := true) id id (fun _ => rfl) Tryz.underlying28 (by kernel_rfl) (opens_pair rfl o4 (opens_pair rfl o22 (opens_pair rfl o23 (opens_pair rfl o22 (opens_last rfl o26)))))
  have k0 := h0
  have lt0 : ∀ x ∈ p0, x.block < W.heap.size := by obtain ⟨m, hm⟩ := k0; exact DataW.trod_lt m _ _ _ hm
  obtain ⟨cs0, y0, rfl, K0, wf0⟩ := opens_arg o28 Tryz.underlying28 (hval 0 28 v0 rfl rfl) h0
  obtain ⟨x0_0, ⟨x0_1, ⟨x0_2, ⟨x0_3, ⟨x0_4, x0_5⟩⟩⟩⟩⟩ := y0
  obtain ⟨cs0⟩ := cs0
  obtain ⟨w0_0, ⟨⟨s0_1, t0_1⟩, ⟨⟨s0_2, t0_2⟩, ⟨⟨s0_3, t0_3⟩, ⟨w0_4, ⟨s0_5, t0_5⟩⟩⟩⟩⟩⟩ := wf0
  obtain ⟨A0_1, c0_1, A0_2, c0_2, A0_3, c0_3, A0_5, c0_5, rfl, l0_1, g0_1, l0_2, g0_2, l0_3, g0_3, l0_5, g0_5⟩ : ∃ A0_1 c0_1 A0_2 c0_2 A0_3 c0_3 A0_5 c0_5, cs0 = [.bool x0_0, .slice A0_1 x0_1.length c0_1, .slice A0_2 x0_2.length c0_2, .slice A0_3 x0_3.length c0_3, .int .i64 x0_4, .slice A0_5 x0_5.length c0_5] ∧ x0_1.length ≤ c0_1 ∧ Kd.C k116 W A0_1 x0_1.length x0_1 ∧ x0_2.length ≤ c0_2 ∧ Kd.C k118 W A0_2 x0_2.length x0_2 ∧ x0_3.length ≤ c0_3 ∧ Kd.C k116 W A0_3 x0_3.length x0_3 ∧ x0_5.length ≤ c0_5 ∧ Kd.C (Kd.int .i64) W A0_5 x0_5.length x0_5 := by
    obtain ⟨_, _, rfl, rfl, ⟨_, _, rfl, ⟨A0_1, c0_1, rfl, l0_1, g0_1⟩, ⟨_, _, rfl, ⟨A0_2, c0_2, rfl, l0_2, g0_2⟩, ⟨_, _, rfl, ⟨A0_3, c0_3, rfl, l0_3, g0_3⟩, ⟨_, _, rfl, rfl, ⟨A0_5, c0_5, rfl, l0_5, g0_5⟩⟩⟩⟩⟩⟩ := K0
    exact ⟨A0_1, c0_1, A0_2, c0_2, A0_3, c0_3, A0_5, c0_5, rfl, l0_1, g0_1, l0_2, g0_2, l0_3, g0_3, l0_5, g0_5⟩
  have k1 := h1
  have lt1 : ∀ x ∈ p1, x.block < W.heap.size := by obtain ⟨m, hm⟩ := k1; exact DataW.trod_lt m _ _ _ hm
  obtain ⟨cs1, y1, rfl, K1, wf1⟩ := opens_arg o28 Tryz.underlying28 (hval 1 28 v1 rfl rfl) h1
  obtain ⟨x1_0, ⟨x1_1, ⟨x1_2, ⟨x1_3, ⟨x1_4, x1_5⟩⟩⟩⟩⟩ := y1
  obtain ⟨cs1⟩ := cs1
  obtain ⟨w1_0, ⟨⟨s1_1, t1_1⟩, ⟨⟨s1_2, t1_2⟩, ⟨⟨s1_3, t1_3⟩, ⟨w1_4, ⟨s1_5, t1_5⟩⟩⟩⟩⟩⟩ := wf1
  obtain ⟨A1_1, c1_1, A1_2, c1_2, A1_3, c1_3, A1_5, c1_5, rfl, l1_1, g1_1, l1_2, g1_2, l1_3, g1_3, l1_5, g1_5⟩ : ∃ A1_1 c1_1 A1_2 c1_2 A1_3 c1_3 A1_5 c1_5, cs1 = [.bool x1_0, .slice A1_1 x1_1.length c1_1, .slice A1_2 x1_2.length c1_2, .slice A1_3 x1_3.length c1_3, .int .i64 x1_4, .slice A1_5 x1_5.length c1_5] ∧ x1_1.length ≤ c1_1 ∧ Kd.C k116 W A1_1 x1_1.length x1_1 ∧ x1_2.length ≤ c1_2 ∧ Kd.C k118 W A1_2 x1_2.length x1_2 ∧ x1_3.length ≤ c1_3 ∧ Kd.C k116 W A1_3 x1_3.length x1_3 ∧ x1_5.length ≤ c1_5 ∧ Kd.C (Kd.int .i64) W A1_5 x1_5.length x1_5 := by
    obtain ⟨_, _, rfl, rfl, ⟨_, _, rfl, ⟨A1_1, c1_1, rfl, l1_1, g1_1⟩, ⟨_, _, rfl, ⟨A1_2, c1_2, rfl, l1_2, g1_2⟩, ⟨_, _, rfl, ⟨A1_3, c1_3, rfl, l1_3, g1_3⟩, ⟨_, _, rfl, rfl, ⟨A1_5, c1_5, rfl, l1_5, g1_5⟩⟩⟩⟩⟩⟩ := K1
    exact ⟨A1_1, c1_1, A1_2, c1_2, A1_3, c1_3, A1_5, c1_5, rfl, l1_1, g1_1, l1_2, g1_2, l1_3, g1_3, l1_5, g1_5⟩
  clear hA0 hval0 hsz0
  obtain ⟨k, hk⟩ := Pure.FnExactAbsJoin x0_0 x0_1 x0_2 x0_3 x0_4 x0_5 x1_0 x1_1 x1_2 x1_3 x1_4 x1_5 s0_1 s0_2 (fun x hx => (t0_2 x hx).2.1.1) s0_3 s0_5 s1_1 s1_2 (fun x hx => (t1_2 x hx).2.1.1) s1_3 s1_5
  refine (PFnExactAbsJoin.laws_FnExactAbsJoin.calls k x0_0 _ _ x0_1 _ _ x0_2 _ _ x0_3 x0_4 _ _ x0_5 x1_0 _ _ x1_1 _ _ x1_2 _ _ x1_3 x1_4 _ _ x1_5 W g0_1 l0_1 g0_2 l0_2 g0_3 l0_3 g0_5 l0_5 g1_1 l1_1 g1_2 l1_2 g1_3 l1_3 g1_5 l1_5 hk).mono fun e W' ⟨he, bel⟩ => ?_
  subst he
  exact ⟨_, rfl, _, _, _, [], _, [], hW', trodAll_mk1 (shut_bool Tryz.underlying4 _), (trodAll_cons_mk (Below.trod laidOut (by kernel_rfl) (of_decide_eq_true (by kernel_rfl)) k0 bel lt0) (trodAll_cons_mk (Below.trod laidOut (by kernel_rfl) (of_decide_eq_true (by kernel_rfl)) k1 bel lt1) trodAll_mk0)), rfl, bel.frame _, fun h => by cases h⟩
theorem over : Rows.fnExactAbsJoinRow.holds Tryz.pinned (OpenSpec.ofChange Rows.fnExactAbsJoinSpec) :=
  OpenClaim.holds_of_wide 3 Tryz.f3 rfl rfl rfl rfl rfl rfl rfl ⟨rfl, rfl, rfl, rfl, rfl⟩ rfl rfl rfl rfl rfl (by kernel_rfl) Tryz.func3 (by kernel_rfl)
    (of_decide_eq_true (by kernel_rfl)) (by unfold Func.isWrapper; first | (rw [if_pos (by decide +kernel)]; kernel_rfl) | (rw [if_neg (by decide +kernel)]; exact ⟨rfl, rfl⟩))
    (fun os started H enc _ => lifted os started H enc)
theorem proved : Rows.FnExactAbsJoinSaid := over
#print axioms proved
end Go.Proofs.YtklkdpcopfjmcaaGreat.fnExactAbsJoin
namespace Go.Proofs.YtklkdpcopfjmcaaGreat
/-- The row, under a short name, for the claim. -/
theorem fnExactAbsJoin_holds : Rows.FnExactAbsJoinSaid := fnExactAbsJoin.proved
end Go.Proofs.YtklkdpcopfjmcaaGreat
