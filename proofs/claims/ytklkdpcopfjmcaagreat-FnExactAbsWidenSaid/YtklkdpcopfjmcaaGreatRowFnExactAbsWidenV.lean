/- The statement, out of the pure one and the walk. Conditions: none. -/
import Derived.Test.YtklkdpcopfjmcaaGreatRows
import Derived.Test.YtklkdpcopfjmcaaGreatQFnExactAbsWidenx99V
import Derived.Test.YtklkdpcopfjmcaaGreatPureFnExactAbsWidenV
import Derived.Test.YtklkdpcopfjmcaaGreatOpensV
import Derived.WalkKit
import Derived.ProofKit
import Derived.OpenShut
import Derived.ShutString
import Derived.ChangeOld
import Derived.Below
import Derived.SizedLaws
namespace Go.Proofs.YtklkdpcopfjmcaaGreat.fnExactAbsWiden
open Go.ChangeShapes Go.WideShapes Go.ChangeAt Go.RowKit Go.Proofs.YtklkdpcopfjmcaaGreat.ug Go.Proofs.YtklkdpcopfjmcaaGreatW.PrintWords Go.Proofs.YtklkdpcopfjmcaaGreat.PFnExactAbsWiden
set_option linter.unusedVariables false
theorem own : ownKnob Tryz.prog.godebug = none := by kernel_rfl
theorem laidOut : laidOutB Tryz.prog = true := by kernel_rfl
set_option maxRecDepth 100000 in
theorem lifted (os : Os) (started : os.Started) (H : Type) (enc : TypeId × Value → H) :
    ReturnsInHanded {} Tryz.checked os 4 .any (Rows.fnExactAbsWidenSpec.pre6 enc Tryz.prog Tryz.f4 Rows.fnExactAbsWidenRow.domain false) (Rows.fnExactAbsWidenSpec.post enc Tryz.prog Tryz.f4 false true false false) := by
  refine returnsInHanded_of_change_sized (C := Tryz.checked) own started (by kernel_rfl) Tryz.func4
    (ChangeSpec.witness6 (enc := enc) (C := Tryz.checked) false ⟨#[], #[.agg #[.bool false, .slice none 0 0, .slice none 0 0, .slice none 0 0, .int .i64 0, .slice none 0 0], .agg #[.bool false, .slice none 0 0, .slice none 0 0, .slice none 0 0, .int .i64 0, .slice none 0 0], .slice none 0 0], []⟩ 8 (by kernel_rfl) (by kernel_rfl) (by kernel_rfl) (by kernel_rfl)) ?_
  intro W base args ds gs before hval0 hW hcnd hsz0 _
  have hval : ∀ (j : Nat) t v, Tryz.f4.params[j]? = some t → args[j]? = some v → Value.okWide Tryz.prog W .any base t v := hval0
  have hW' := hW
  obtain ⟨p, q, hA0, hV, rfl, hfz, hnd⟩ := hW
  have hA : DataW.TrodAll enc Tryz.prog W 0 (fun _ => true) true Tryz.f4.params.toList args.toList ds p := hA0
  rw [Tryz.params4] at hA hval
  obtain ⟨v0, vs0, d0, ds0, p0, q0, hargs0, rfl, rfl, h0, r0⟩ := trodAll_cons hA
  obtain ⟨v1, vs1, d1, ds1, p1, q1, hargs1, rfl, rfl, h1, r1⟩ := trodAll_cons r0
  obtain ⟨v2, vs2, d2, ds2, p2, q2, hargs2, rfl, rfl, h2, r2⟩ := trodAll_cons r1
  obtain ⟨rfl, rfl, rfl⟩ := trodAll_nil r2
  obtain rfl : args = #[v0, v1, v2] := by cases args; simp_all
  obtain ⟨rfl, rfl⟩ := trodVars_none hV
  have o4 := Bt (enc := enc) (P := Tryz.prog) (W := W) (base := 0) (sp := fun _ => true) (hd := true) Tryz.underlying4 (by kernel_rfl)
  have o3 := CY (enc := enc) (P := Tryz.prog) (W := W) (base := 0) (sp := fun _ => true) (hd := true) Tryz.underlying3 (by kernel_rfl)
  have o116 := rG (enc := enc) (P := Tryz.prog) (W := W) (base := 0) (sp := fun _ => true) (hd := true) (fun x : mF => (x.f0, x.f1, x.f2, x.f3)) (fun p => ⟨p.1, p.2.1, p.2.2.1, p.2.2.2⟩) (fun _ => rfl) Tryz.underlying116 (by kernel_rfl) (oU rfl o3 (oU rfl o3 (oU rfl o3 (tL rfl o3))))
  have o22 := uC (enc := enc) (P := Tryz.prog) (W := W) (base := 0) (sp := fun _ => true) (hd := true) 116 Tryz.underlying22 (by kernel_rfl) o116
  have o24 := uC (enc := enc) (P := Tryz.prog) (W := W) (base := 0) (sp := fun _ => true) (hd := true) 3 Tryz.underlying24 (by kernel_rfl) o3
  have o118 := rG (enc := enc) (P := Tryz.prog) (W := W) (base := 0) (sp := fun _ => true) (hd := true) (fun x : oN => (x.f0, x.f1, x.f2)) (fun p => ⟨p.1, p.2.1, p.2.2⟩) (fun _ => rfl) Tryz.underlying118 (by kernel_rfl) (oU rfl o4 (oU rfl o24 (tL rfl o116)))
  have o23 := uC (enc := enc) (P := Tryz.prog) (W := W) (base := 0) (sp := fun _ => true) (hd := true) 118 Tryz.underlying23 (by kernel_rfl) o118
  have o26 := rG (enc := enc) (P := Tryz.prog) (W := W) (base := 0) (sp := fun _ => true) (hd := true) id id (fun _ => rfl) Tryz.underlying26 (by kernel_rfl) (oU rfl o3 (tL rfl o24))
  have o28 := rG (enc := enc) (P := Tryz.prog) (W := W) (base := 0) (sp := fun _ => true) (hd := true) id id (fun _ => rfl) Tryz.underlying28 (by kernel_rfl) (oU rfl o4 (oU rfl o22 (oU rfl o23 (oU rfl o22 (tL rfl o26)))))
  have k0 := h0
  have lt0 : ∀ x ∈ p0, x.block < W.heap.size := by obtain ⟨m, hm⟩ := k0; exact DataW.trod_lt m _ _ _ hm
  obtain ⟨cs0, y0, rfl, K0, wf0⟩ := yH o28 Tryz.underlying28 (hval 0 28 v0 rfl rfl) h0
  obtain ⟨x0_0, ⟨x0_1, ⟨x0_2, ⟨x0_3, ⟨x0_4, x0_5⟩⟩⟩⟩⟩ := y0
  obtain ⟨cs0⟩ := cs0
  obtain ⟨w0_0, ⟨⟨s0_1, t0_1⟩, ⟨⟨s0_2, t0_2⟩, ⟨⟨s0_3, t0_3⟩, ⟨w0_4, ⟨s0_5, t0_5⟩⟩⟩⟩⟩⟩ := wf0
  obtain ⟨bB, bu, dS, dD, dK, dE, dH, dF, rfl, av, g0_1, ay, g0_2, aK, g0_3, bz, g0_5⟩ : ∃ bB bu dS dD dK dE dH dF, cs0 = [.bool x0_0, .slice bB x0_1.length bu, .slice dS x0_2.length dD, .slice dK x0_3.length dE, .int .i64 x0_4, .slice dH x0_5.length dF] ∧ x0_1.length ≤ bu ∧ Kd.C qd W bB x0_1.length x0_1 ∧ x0_2.length ≤ dD ∧ Kd.C rV W dS x0_2.length x0_2 ∧ x0_3.length ≤ dE ∧ Kd.C qd W dK x0_3.length x0_3 ∧ x0_5.length ≤ dF ∧ Kd.C (Kd.int .i64) W dH x0_5.length x0_5 := by
    obtain ⟨_, _, rfl, rfl, ⟨_, _, rfl, ⟨bB, bu, rfl, av, g0_1⟩, ⟨_, _, rfl, ⟨dS, dD, rfl, ay, g0_2⟩, ⟨_, _, rfl, ⟨dK, dE, rfl, aK, g0_3⟩, ⟨_, _, rfl, rfl, ⟨dH, dF, rfl, bz, g0_5⟩⟩⟩⟩⟩⟩ := K0
    exact ⟨bB, bu, dS, dD, dK, dE, dH, dF, rfl, av, g0_1, ay, g0_2, aK, g0_3, bz, g0_5⟩
  have k1 := h1
  have lt1 : ∀ x ∈ p1, x.block < W.heap.size := by obtain ⟨m, hm⟩ := k1; exact DataW.trod_lt m _ _ _ hm
  obtain ⟨cs1, y1, rfl, K1, wf1⟩ := yH o28 Tryz.underlying28 (hval 1 28 v1 rfl rfl) h1
  obtain ⟨x1_0, ⟨x1_1, ⟨x1_2, ⟨x1_3, ⟨x1_4, x1_5⟩⟩⟩⟩⟩ := y1
  obtain ⟨cs1⟩ := cs1
  obtain ⟨w1_0, ⟨⟨s1_1, t1_1⟩, ⟨⟨s1_2, t1_2⟩, ⟨⟨s1_3, t1_3⟩, ⟨w1_4, ⟨s1_5, t1_5⟩⟩⟩⟩⟩⟩ := wf1
  obtain ⟨eT, eG, iG, gV, ib, gU, gW, gQ, rfl, bn, g1_1, aU, g1_2, cK, g1_3, dm, g1_5⟩ : ∃ eT eG iG gV ib gU gW gQ, cs1 = [.bool x1_0, .slice eT x1_1.length eG, .slice iG x1_2.length gV, .slice ib x1_3.length gU, .int .i64 x1_4, .slice gW x1_5.length gQ] ∧ x1_1.length ≤ eG ∧ Kd.C qd W eT x1_1.length x1_1 ∧ x1_2.length ≤ gV ∧ Kd.C rV W iG x1_2.length x1_2 ∧ x1_3.length ≤ gU ∧ Kd.C qd W ib x1_3.length x1_3 ∧ x1_5.length ≤ gQ ∧ Kd.C (Kd.int .i64) W gW x1_5.length x1_5 := by
    obtain ⟨_, _, rfl, rfl, ⟨_, _, rfl, ⟨eT, eG, rfl, bn, g1_1⟩, ⟨_, _, rfl, ⟨iG, gV, rfl, aU, g1_2⟩, ⟨_, _, rfl, ⟨ib, gU, rfl, cK, g1_3⟩, ⟨_, _, rfl, rfl, ⟨gW, gQ, rfl, dm, g1_5⟩⟩⟩⟩⟩⟩ := K1
    exact ⟨eT, eG, iG, gV, ib, gU, gW, gQ, rfl, bn, g1_1, aU, g1_2, cK, g1_3, dm, g1_5⟩
  have k2 := h2
  have lt2 : ∀ x ∈ p2, x.block < W.heap.size := by obtain ⟨m, hm⟩ := k2; exact DataW.trod_lt m _ _ _ hm
  obtain ⟨x2_0, HY, H8, rfl, Hl, g2_0, s2_0, t2_0⟩ := BG o24 Tryz.underlying24 (hval 2 24 v2 rfl rfl) h2
  clear hA0 hval0 hsz0
  obtain ⟨k, hk⟩ := Pure.FnExactAbsWiden x0_0 x0_1 x0_2 x0_3 x0_4 x0_5 x1_0 x1_1 x1_2 x1_3 x1_4 x1_5 x2_0 s0_1 s0_2 (fun x hx => (t0_2 x hx).2.1.1) s0_3 s0_5 s1_1 s1_2 (fun x hx => (t1_2 x hx).2.1.1) s1_3 s1_5 s2_0
  refine (PFnExactAbsWiden.aJ.calls k x0_0 _ _ x0_1 _ _ x0_2 _ _ x0_3 x0_4 _ _ x0_5 x1_0 _ _ x1_1 _ _ x1_2 _ _ x1_3 x1_4 _ _ x1_5 _ _ x2_0 W g0_1 av g0_2 ay g0_3 aK g0_5 bz g1_1 bn g1_2 aU g1_3 cK g1_5 dm g2_0 Hl hk).mono fun e W' ⟨he, bel⟩ => ?_
  subst he
  exact ⟨_, rfl, _, _, _, [], _, [], hW', trodAll_mk1 (shut_bool Tryz.underlying4 _), (trodAll_cons_mk (Below.trod laidOut (by kernel_rfl) (of_decide_eq_true (by kernel_rfl)) k0 bel lt0) (trodAll_cons_mk (Below.trod laidOut (by kernel_rfl) (of_decide_eq_true (by kernel_rfl)) k1 bel lt1) (trodAll_cons_mk (Below.trod laidOut (by kernel_rfl) (of_decide_eq_true (by kernel_rfl)) k2 bel lt2) trodAll_mk0))), rfl, bel.frame _, fun h => by cases h⟩
theorem over : Rows.fnExactAbsWidenRow.holds Tryz.pinned (OpenSpec.ofChange Rows.fnExactAbsWidenSpec) :=
  OpenClaim.holds_of_wide 4 Tryz.f4 rfl rfl rfl rfl rfl rfl rfl ⟨rfl, rfl, rfl, rfl, rfl⟩ rfl rfl rfl rfl rfl (by kernel_rfl) Tryz.func4 (by kernel_rfl)
    (of_decide_eq_true (by kernel_rfl)) (by unfold Func.isWrapper; first | (rw [if_pos (by decide +kernel)]; kernel_rfl) | (rw [if_neg (by decide +kernel)]; exact ⟨rfl, rfl⟩))
    (fun os started H enc _ => lifted os started H enc)
theorem proved : Rows.FnExactAbsWidenSaid := over
#print axioms proved
end Go.Proofs.YtklkdpcopfjmcaaGreat.fnExactAbsWiden
namespace Go.Proofs.YtklkdpcopfjmcaaGreat
/-- The row, under a short name, for the claim. -/
theorem fnExactAbsWiden_holds : Rows.FnExactAbsWidenSaid := fnExactAbsWiden.proved
end Go.Proofs.YtklkdpcopfjmcaaGreat
