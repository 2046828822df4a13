/- Functions of the program as plain Lean functions, and that calls of them come to what these tell. Conditions: those in each law. -/
import Derived.Test.YtklkdpcopfjmcaaSqV
import Derived.Test.YtklkdpcopfjmcaaDFnExactAbsTightV
import Derived.Test.YtklkdpcopfjmcaaQFnExactAbsTightx0V
import Derived.Test.YtklkdpcopfjmcaaQFnExactAbsTightx40V
namespace Go.Proofs.Ytklkdpcopfjmcaa.PFnExactAbsTight
open Go.RowKit Go.Proofs.Ytklkdpcopfjmcaa.Sq Go.Proofs.YtklkdpcopfjmcaaW.PrintWords Go.Proofs.YtklkdpcopfjmcaaW.PrintLast Go.Proofs.YtklkdpcopfjmcaaW.PrintMore
attribute [local go_sem] max2_int min2_int max_two min_two max_three min_three max_four min_four   -- for this text's walks alone
set_option linter.unusedVariables false
set_option linter.unusedSimpArgs false

set_option maxHeartbeats 8000000
set_option maxRecDepth 100000
/-! ### laws_heldAbs: function 11 -/
theorem laws_heldAbs.calls (k : Nat) (a0_0 : Bool) (A0_1 : Option Addr) (c0_1 : Nat) (l0_1 : List (S51)) (A0_2 : Option Addr) (c0_2 : Nat) (l0_2 : List (S82)) (A0_3 : Option Addr) (c0_3 : Nat) (l0_3 : List (S51)) (a0_4 : Int) (A0_5 : Option Addr) (c0_5 : Nat) (l0_5 : List Int) (a1 : Int) (r : Int) (w : World) (hr0_1 : Kd.C k51 w A0_1 l0_1.length l0_1) (hc0_1 : l0_1.length ≤ c0_1) (hr0_2 : Kd.C k82 w A0_2 l0_2.length l0_2) (hc0_2 : l0_2.length ≤ c0_2) (hr0_3 : Kd.C k51 w A0_3 l0_3.length l0_3) (hc0_3 : l0_3.length ≤ c0_3) (hr0_5 : Kd.C (Kd.int .i64) w A0_5 l0_5.length l0_5) (hc0_5 : l0_5.length ≤ c0_5) (h : laws_heldAbs.f k a0_0 l0_1 l0_2 l0_3 a0_4 l0_5 a1 = some r) :
  Calls Try.prog 11 #[.agg #[.bool a0_0,.slice A0_1 l0_1.length c0_1,.slice A0_2 l0_2.length c0_2,.slice A0_3 l0_3.length c0_3,.int .i64 a0_4,.slice A0_5 l0_5.length c0_5],.int .i64 a1] w fun e w'=>e = .returned (.int .i64 r)∧Below w.heap.size w w':=by
 have hu34:=Try.underlying34;have hu32:=Try.underlying32;have HR0_1:=Aside0.mk hr0_1;have HC0_1:=Aside0.mk hc0_1;clear hr0_1 hc0_1;have HR0_2:=Aside0.mk hr0_2;have HC0_2:=Aside0.mk hc0_2;clear hr0_2 hc0_2;have HR0_3:=Aside0.mk hr0_3;have HC0_3:=Aside0.mk hc0_3;clear hr0_3 hc0_3;have HR0_5:=Aside0.mk hr0_5;have HC0_5:=Aside0.mk hc0_5;clear hr0_5 hc0_5;have HB:=Aside0.mk (Below.refl w.heap.size w);have H:=h;unfold laws_heldAbs.f at H;clear h;replace H:=sqbi H;obtain ⟨t0,A3,H⟩:=H;(try dsimp only at H);replace H:=sqj H;rcases H with ⟨c4,H⟩ | ⟨c4,H⟩
 ·have z0:=decide_eq_true c4;clear c4;obtain rfl:=Option.some.inj H;go_enter Try.func11,Try.ntmps11;go_wp2_with (first | ((with_reducible refine gd 2 rfl ?_);refine sqX 2 #[.bool a0_0,.slice A0_1 l0_1.length c0_1,.slice A0_2 l0_2.length c0_2,.slice A0_3 l0_3.length c0_3,.int .i64 a0_4,.slice A0_5 l0_5.length c0_5] 34 HB ?_;clear HB;intro gb0 hg w5 hb B0 GW0 HB;clear hb hg;obtain ⟨_,_,_,_,_,_,_,_,_,_,_,_⟩:=sqc6 B0) | ((with_reducible refine gf 46 rfl ?_);refine sqLq rfl (some 8) Try.func46 (laws_heldValS.calls _ _ _ _ _ _ _ (sqC (Kd.C_below HR0_1.out HB.out)) HC0_1.out A3.out) ?_;intro nd))
  go_ret
  exact sqe HB
 have z0:=decide_eq_false c4;clear c4;replace H:=sqbi H;obtain ⟨t1,A7,H⟩:=H;(try dsimp only at H);replace H:=sqj H;rcases H with ⟨c8,H⟩ | ⟨c8,H⟩
 ·have z1:=decide_eq_true c8;clear c8;obtain rfl:=Option.some.inj H;go_enter Try.func11,Try.ntmps11;go_wp2_with (first | ((with_reducible refine gd 2 rfl ?_);refine sqX 2 #[.bool a0_0,.slice A0_1 l0_1.length c0_1,.slice A0_2 l0_2.length c0_2,.slice A0_3 l0_3.length c0_3,.int .i64 a0_4,.slice A0_5 l0_5.length c0_5] 34 HB ?_;clear HB;intro gb0 hg w9 hb B0 GW0 HB;clear hb hg;obtain ⟨_,_,_,_,_,_,_,_,_,_,_,_⟩:=sqc6 B0) | ((with_reducible refine gf 46 rfl ?_);refine sqLq rfl (some 8) Try.func46 (laws_heldValS.calls _ _ _ _ _ _ _ (sqC (Kd.C_below HR0_1.out HB.out)) HC0_1.out A3.out) ?_;intro nd) | ((with_reducible refine gf 47 rfl ?_);refine sqLq rfl (some 14) Try.func47 (laws_heldRefValS.calls _ _ _ _ _ _ _ (sqC (Kd.C_below HR0_2.out (sqB HB))) HC0_2.out A7.out) ?_;intro nd))
  go_ret
  exact sqe HB
 have z1:=decide_eq_false c8;clear c8;replace H:=sqbi H;obtain ⟨t2,A11,H⟩:=H;(try dsimp only at H);replace H:=sqj H;rcases H with ⟨c12,H⟩ | ⟨c12,H⟩
 ·have z2:=decide_eq_true c12;clear c12;obtain rfl:=Option.some.inj H;go_enter Try.func11,Try.ntmps11;go_wp2_with (first | ((with_reducible refine gd 2 rfl ?_);refine sqX 2 #[.bool a0_0,.slice A0_1 l0_1.length c0_1,.slice A0_2 l0_2.length c0_2,.slice A0_3 l0_3.length c0_3,.int .i64 a0_4,.slice A0_5 l0_5.length c0_5] 34 HB ?_;clear HB;intro gb0 hg w13 hb B0 GW0 HB;clear hb hg;obtain ⟨_,_,_,_,_,_,_,_,_,_,_,_⟩:=sqc6 B0) | ((with_reducible refine gf 46 rfl ?_);refine sqLq rfl (some 8) Try.func46 (laws_heldValS.calls _ _ _ _ _ _ _ (sqC (Kd.C_below HR0_1.out HB.out)) HC0_1.out A3.out) ?_;intro nd) | ((with_reducible refine gf 47 rfl ?_);refine sqLq rfl (some 14) Try.func47 (laws_heldRefValS.calls _ _ _ _ _ _ _ (sqC (Kd.C_below HR0_2.out (sqB HB))) HC0_2.out A7.out) ?_;intro nd) | ((with_reducible refine gf 46 rfl ?_);refine sqLq rfl (some 20) Try.func46 (laws_heldValS.calls _ _ _ _ _ _ _ (sqC (Kd.C_below HR0_3.out (sqB HB))) HC0_3.out A11.out) ?_;intro nd))
  go_ret
  exact sqe HB
 have z2:=decide_eq_false c12;clear c12;replace H:=sqbi H;obtain ⟨t3,A15,H⟩:=H;(try dsimp only at H);replace H:=sqj H;rcases H with ⟨c16,H⟩ | ⟨c16,H⟩
 ·have z3:=decide_eq_true c16;clear c16;obtain rfl:=Option.some.inj H;go_enter Try.func11,Try.ntmps11;go_wp2_with (first | ((with_reducible refine gd 2 rfl ?_);refine sqX 2 #[.bool a0_0,.slice A0_1 l0_1.length c0_1,.slice A0_2 l0_2.length c0_2,.slice A0_3 l0_3.length c0_3,.int .i64 a0_4,.slice A0_5 l0_5.length c0_5] 34 HB ?_;clear HB;intro gb0 hg w17 hb B0 GW0 HB;clear hb hg;obtain ⟨_,_,_,_,_,_,_,_,_,_,_,_⟩:=sqc6 B0) | ((with_reducible refine gf 46 rfl ?_);refine sqLq rfl (some 8) Try.func46 (laws_heldValS.calls _ _ _ _ _ _ _ (sqC (Kd.C_below HR0_1.out HB.out)) HC0_1.out A3.out) ?_;intro nd) | ((with_reducible refine gf 47 rfl ?_);refine sqLq rfl (some 14) Try.func47 (laws_heldRefValS.calls _ _ _ _ _ _ _ (sqC (Kd.C_below HR0_2.out (sqB HB))) HC0_2.out A7.out) ?_;intro nd) | ((with_reducible refine gf 46 rfl ?_);refine sqLq rfl (some 20) Try.func46 (laws_heldValS.calls _ _ _ _ _ _ _ (sqC (Kd.C_below HR0_3.out (sqB HB))) HC0_3.out A11.out) ?_;intro nd) | ((with_reducible refine gf 48 rfl ?_);refine sqLb rfl (some 26) Try.func48 (laws_heldGaps.calls _ _ _ _ _ _ _ _ (sqC (Kd.C_below HR0_5.out (sqB HB))) HC0_5.out A15.out) ?_;intro w19 hb;replace B0:=sqb B0 hb;replace HB:=sqs HB hb;(try clear hb)))
  go_ret
  exact sqe HB
 have z3:=decide_eq_false c16;clear c16;obtain rfl:=Option.some.inj H;go_enter Try.func11,Try.ntmps11;go_wp2_with (first | ((with_reducible refine gd 2 rfl ?_);refine sqX 2 #[.bool a0_0,.slice A0_1 l0_1.length c0_1,.slice A0_2 l0_2.length c0_2,.slice A0_3 l0_3.length c0_3,.int .i64 a0_4,.slice A0_5 l0_5.length c0_5] 34 HB ?_;clear HB;intro gb0 hg w20 hb B0 GW0 HB;clear hb hg;obtain ⟨_,_,_,_,_,_,_,_,_,_,_,_⟩:=sqc6 B0) | ((with_reducible refine gf 46 rfl ?_);refine sqLq rfl (some 8) Try.func46 (laws_heldValS.calls _ _ _ _ _ _ _ (sqC (Kd.C_below HR0_1.out HB.out)) HC0_1.out A3.out) ?_;intro nd) | ((with_reducible refine gf 47 rfl ?_);refine sqLq rfl (some 14) Try.func47 (laws_heldRefValS.calls _ _ _ _ _ _ _ (sqC (Kd.C_below HR0_2.out (sqB HB))) HC0_2.out A7.out) ?_;intro nd) | ((with_reducible refine gf 46 rfl ?_);refine sqLq rfl (some 20) Try.func46 (laws_heldValS.calls _ _ _ _ _ _ _ (sqC (Kd.C_below HR0_3.out (sqB HB))) HC0_3.out A11.out) ?_;intro nd) | ((with_reducible refine gf 48 rfl ?_);refine sqLb rfl (some 26) Try.func48 (laws_heldGaps.calls _ _ _ _ _ _ _ _ (sqC (Kd.C_below HR0_5.out (sqB HB))) HC0_5.out A15.out) ?_;intro w22 hb;replace B0:=sqb B0 hb;replace HB:=sqs HB hb;(try clear hb)))
 go_ret
 exact sqe HB

-- NOT PRINTED: function 3 (laws_FnExactAbsTight)

end Go.Proofs.Ytklkdpcopfjmcaa.PFnExactAbsTight
