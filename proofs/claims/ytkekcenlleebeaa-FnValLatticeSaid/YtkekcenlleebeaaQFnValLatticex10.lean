/- Functions of the program as plain Lean functions, and that calls of them come to what these tell. Conditions: those in each law. -/
import Derived.Test.YtkekcenlleebeaaSq
import Derived.Test.YtkekcenlleebeaaDFnValLattice
import Derived.Test.YtkekcenlleebeaaQFnValLatticex0
namespace Go.Proofs.Ytkekcenlleebeaa.PFnValLattice
open Go.RowKit Go.Proofs.Ytkekcenlleebeaa.Sq Go.Proofs.YtkekcenlleebeaaW.PrintWords Go.Proofs.YtkekcenlleebeaaW.PrintLast Go.Proofs.YtkekcenlleebeaaW.PrintMore
attribute [local go_sem] max2_int min2_int max_two min_two max_three min_three max_four min_four   -- for this text's walks alone
set_option linter.unusedVariables false
set_option linter.unusedSimpArgs false

/-! ### spec_l10Range: function 180 -/
set_option maxHeartbeats 8000000 in
set_option maxRecDepth 100000 in
theorem spec_l10Range.calls (a0_0 : Int) (a0_1 : Int) (a0_2 : Int) (a0_3 : Int) (r1 : Int) (r2 : Int) (w : World) (h : spec_l10Range.f a0_0 a0_1 a0_2 a0_3 = some (r1, r2)) :
  Calls Try.prog 180 #[.agg #[.int .i64 a0_0, .int .i64 a0_1, .int .i64 a0_2, .int .i64 a0_3]] w fun e w' => e = .returned (.agg #[.int .i64 r1, .int .i64 r2]) ∧ Below w.heap.size w w' := by
 have hu30 := Try.underlying30
 have hu24 := Try.underlying24
 have HB := Aside0.mk (Below.refl w.heap.size w)
 have H := h
 unfold spec_l10Range.f at H
 clear h
 simp only [Option.some.injEq, Prod.mk.injEq] at H
 obtain ⟨rfl, rfl⟩ := H
 go_enter Try.func180, Try.ntmps180
 go_wp2_with (first | ((with_reducible refine gate_dst (N := 1) rfl ?_); refine sqx 1 #[.int .i64 a0_0, .int .i64 a0_1, .int .i64 a0_2, .int .i64 a0_3] 30 ?_; intro gb214 hg w2 hbox hb; have BK214 := Aside0.mk hbox; have GW214 := sqg HB hg; replace HB := sqs HB hb; clear hb hbox hg) | ((with_reducible refine gate_dst (N := 2) rfl ?_); refine sqx 2 #[.int .i64 0, .int .i64 0] 24 ?_; intro gb215 hg w3 hbox hb; have BK215 := Aside0.mk hbox; have GW215 := sqg HB hg; have NB214_215 := sqn BK214 hg; have NB215_214 := sqm BK214 hg; replace BK214 := sqb BK214 hb; replace HB := sqs HB hb; clear hb hbox hg; obtain ⟨_, _⟩ := sqN1 NB214_215; obtain ⟨_, _, _, _, _, _, _, _⟩ := sqc4 BK214; obtain ⟨_, _, _, _⟩ := sqc2 BK215))
 refine bodyPost_ret (results_cell_row rfl _ _ gb215 24 #[.int .i64 a0_0, .int .i64 a0_1] (0, 0) _ rfl (sqP BK215) Try.underlying24 rfl (by kernel_rfl)) rfl ?_
 exact sqe HB

/-! ### spec_l10Rest: function 181 -/
set_option maxHeartbeats 8000000 in
set_option maxRecDepth 100000 in
theorem spec_l10Rest.calls (a0_0 : Int) (a0_1 : Int) (a0_2 : Int) (a0_3 : Int) (r1 : Int) (r2 : Int) (w : World) (h : spec_l10Rest.f a0_0 a0_1 a0_2 a0_3 = some (r1, r2)) :
  Calls Try.prog 181 #[.agg #[.int .i64 a0_0, .int .i64 a0_1, .int .i64 a0_2, .int .i64 a0_3]] w fun e w' => e = .returned (.agg #[.int .i64 r1, .int .i64 r2]) ∧ Below w.heap.size w w' := by
 have hu30 := Try.underlying30
 have hu26 := Try.underlying26
 have HB := Aside0.mk (Below.refl w.heap.size w)
 have H := h
 unfold spec_l10Rest.f at H
 clear h
 simp only [Option.some.injEq, Prod.mk.injEq] at H
 obtain ⟨rfl, rfl⟩ := H
 go_enter Try.func181, Try.ntmps181
 go_wp2_with (first | ((with_reducible refine gate_dst (N := 1) rfl ?_); refine sqx 1 #[.int .i64 a0_0, .int .i64 a0_1, .int .i64 a0_2, .int .i64 a0_3] 30 ?_; intro gb216 hg w2 hbox hb; have BK216 := Aside0.mk hbox; have GW216 := sqg HB hg; replace HB := sqs HB hb; clear hb hbox hg) | ((with_reducible refine gate_dst (N := 2) rfl ?_); refine sqx 2 #[.int .i64 0, .int .i64 0] 26 ?_; intro gb217 hg w3 hbox hb; have BK217 := Aside0.mk hbox; have GW217 := sqg HB hg; have NB216_217 := sqn BK216 hg; have NB217_216 := sqm BK216 hg; replace BK216 := sqb BK216 hb; replace HB := sqs HB hb; clear hb hbox hg; obtain ⟨_, _⟩ := sqN1 NB216_217; obtain ⟨_, _, _, _, _, _, _, _⟩ := sqc4 BK216; obtain ⟨_, _, _, _⟩ := sqc2 BK217))
 refine bodyPost_ret (results_cell_row rfl _ _ gb217 26 #[.int .i64 a0_2, .int .i64 a0_3] (0, 0) _ rfl (sqP BK217) Try.underlying26 rfl (by kernel_rfl)) rfl ?_
 exact sqe HB

end Go.Proofs.Ytkekcenlleebeaa.PFnValLattice
