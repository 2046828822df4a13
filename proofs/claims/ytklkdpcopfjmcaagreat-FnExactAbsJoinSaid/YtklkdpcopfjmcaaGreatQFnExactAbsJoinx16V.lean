/- Functions of the program as plain Lean functions, and that calls of them come to what these tell. Conditions: those in each law. -/
import Derived.Test.YtklkdpcopfjmcaaGreatSqV
import Derived.Test.YtklkdpcopfjmcaaGreatDFnExactAbsJoinV
import Derived.Test.YtklkdpcopfjmcaaGreatQFnExactAbsJoinx0V
import Derived.Test.YtklkdpcopfjmcaaGreatQFnExactAbsJoinx11V
import Derived.Test.YtklkdpcopfjmcaaGreatQFnExactAbsJoinx8V
namespace Go.Proofs.YtklkdpcopfjmcaaGreat.PFnExactAbsJoin
open Go.RowKit Go.Proofs.YtklkdpcopfjmcaaGreat.Sq Go.Proofs.YtklkdpcopfjmcaaGreatW.PrintWords Go.Proofs.YtklkdpcopfjmcaaGreatW.PrintLast Go.Proofs.YtklkdpcopfjmcaaGreatW.PrintMore
attribute [local go_sem] max2_int min2_int max_two min_two max_three min_three max_four min_four   -- for this text's walks alone
set_option linter.unusedVariables false
set_option linter.unusedSimpArgs false

set_option maxHeartbeats 8000000
set_option maxRecDepth 100000
/-! ### spec_l12Like: function 94 -/
theorem spec_l12Like.calls (a0_0 : Bool) (A0_1 : Option Addr) (c0_1 : Nat) (l0_1 : List (S58)) (A0_2 : Option Addr) (c0_2 : Nat) (l0_2 : List (S84)) (A0_3 : Option Addr) (c0_3 : Nat) (l0_3 : List (S58)) (a0_4 : Int) (A0_5 : Option Addr) (c0_5 : Nat) (l0_5 : List Int) (a1_0 : Bool) (A1_1 : Option Addr) (c1_1 : Nat) (l1_1 : List (S58)) (A1_2 : Option Addr) (c1_2 : Nat) (l1_2 : List (S84)) (A1_3 : Option Addr) (c1_3 : Nat) (l1_3 : List (S58)) (a1_4 : Int) (A1_5 : Option Addr) (c1_5 : Nat) (l1_5 : List Int) (r : Bool) (w : World) (hr0_1 : Kd.C k58 w A0_1 l0_1.length l0_1) (hc0_1 : l0_1.length ≤ c0_1) (hr0_2 : Kd.C k84 w A0_2 l0_2.length l0_2) (hc0_2 : l0_2.length ≤ c0_2) (hr0_3 : Kd.C k58 w A0_3 l0_3.length l0_3) (hc0_3 : l0_3.length ≤ c0_3) (hr0_5 : Kd.C (Kd.int .i64) w A0_5 l0_5.length l0_5) (hc0_5 : l0_5.length ≤ c0_5) (hr1_1 : Kd.C k58 w A1_1 l1_1.length l1_1) (hc1_1 : l1_1.length ≤ c1_1) (hr1_2 : Kd.C k84 w A1_2 l1_2.length l1_2) (hc1_2 : l1_2.length ≤ c1_2) (hr1_3 : Kd.C k58 w A1_3 l1_3.length l1_3) (hc1_3 : l1_3.length ≤ c1_3) (hr1_5 : Kd.C (Kd.int .i64) w A1_5 l1_5.length l1_5) (hc1_5 : l1_5.length ≤ c1_5) (h : spec_l12Like.f a0_0 l0_1 l0_2 l0_3 a0_4 l0_5 a1_0 l1_1 l1_2 l1_3 a1_4 l1_5 = some r) :
  Calls Tryz.prog 94 #[.agg #[.bool a0_0,.slice A0_1 l0_1.length c0_1,.slice A0_2 l0_2.length c0_2,.slice A0_3 l0_3.length c0_3,.int .i64 a0_4,.slice A0_5 l0_5.length c0_5],.agg #[.bool a1_0,.slice A1_1 l1_1.length c1_1,.slice A1_2 l1_2.length c1_2,.slice A1_3 l1_3.length c1_3,.int .i64 a1_4,.slice A1_5 l1_5.length c1_5]] w fun e w'=>e = .returned (.bool r)∧Below w.heap.size w w':=by
 have hu34:=Tryz.underlying34;have HR0_1:=Aside0.mk hr0_1;have HC0_1:=Aside0.mk hc0_1;clear hr0_1 hc0_1;have HR0_2:=Aside0.mk hr0_2;have HC0_2:=Aside0.mk hc0_2;clear hr0_2 hc0_2;have HR0_3:=Aside0.mk hr0_3;have HC0_3:=Aside0.mk hc0_3;clear hr0_3 hc0_3;have HR0_5:=Aside0.mk hr0_5;have HC0_5:=Aside0.mk hc0_5;clear hr0_5 hc0_5;have HR1_1:=Aside0.mk hr1_1;have HC1_1:=Aside0.mk hc1_1;clear hr1_1 hc1_1;have HR1_2:=Aside0.mk hr1_2;have HC1_2:=Aside0.mk hc1_2;clear hr1_2 hc1_2;have HR1_3:=Aside0.mk hr1_3;have HC1_3:=Aside0.mk hc1_3;clear hr1_3 hc1_3;have HR1_5:=Aside0.mk hr1_5;have HC1_5:=Aside0.mk hc1_5;clear hr1_5 hc1_5;have HB:=Aside0.mk (Below.refl w.heap.size w);have H:=h;unfold spec_l12Like.f at H;clear h;replace H:=sqi H;rcases H with ⟨c3,H⟩ | ⟨c3,H⟩
 ·have z0 : ((l0_1.length : Int) == (l1_1.length : Int)) = false:=beq_eq_false_iff_ne.mpr c3;have z1 : ((l0_1.length : Int) != (l1_1.length : Int)) = true:=bne_iff_ne.mpr c3
  have z2 : (l0_1.length == l1_1.length) = false:=by first | simpa using c3 | (simp at c3 ⊢;omega)
  obtain rfl:=Option.some.inj H;go_enter Tryz.func94,Tryz.ntmps94;go_wp2_with (first | ((with_reducible refine gd 2 rfl ?_);(try (refine gate_guard (by rfl) ?_;dsimp only));refine sqX 2 #[.bool a0_0,.slice A0_1 l0_1.length c0_1,.slice A0_2 l0_2.length c0_2,.slice A0_3 l0_3.length c0_3,.int .i64 a0_4,.slice A0_5 l0_5.length c0_5] 34 HB ?_;clear HB;intro gb0 hg w15 hb B0 GW0 HB;clear hb hg) | ((with_reducible refine gd 3 rfl ?_);(try (refine gate_guard (by rfl) ?_;dsimp only));refine sqX 3 #[.bool a1_0,.slice A1_1 l1_1.length c1_1,.slice A1_2 l1_2.length c1_2,.slice A1_3 l1_3.length c1_3,.int .i64 a1_4,.slice A1_5 l1_5.length c1_5] 34 HB ?_;clear HB;intro gb1 hg w16 hb B1 GW1 HB;have N0_1:=sqn B0 hg;have N1_0:=sqm B0 hg;replace B0:=sqb B0 hb;clear hb hg;obtain ⟨_,_⟩:=sqN1 N0_1;obtain ⟨_,_,_,_,_,_,_,_,_,_,_,_⟩:=sqc6 B0;obtain ⟨_,_,_,_,_,_,_,_,_,_,_,_⟩:=sqc6 B1))
  go_ret
  exact sqe HB
 have z0 : ((l0_1.length : Int) == (l1_1.length : Int)) = true:=beq_iff_eq.mpr c3;have z1 : ((l0_1.length : Int) != (l1_1.length : Int)) = false:=bne_eq_false_iff_eq.mpr c3
 have z2 : (l0_1.length == l1_1.length) = true:=by first | simpa using c3 | (simp at c3 ⊢;omega)
 clear c3;replace H:=sqj H;rcases H with ⟨c4,H⟩ | ⟨c4,H⟩
 ·have z3 : ((l0_2.length : Int) == (l1_2.length : Int)) = true:=beq_iff_eq.mpr c4;have z4 : ((l0_2.length : Int) != (l1_2.length : Int)) = false:=bne_eq_false_iff_eq.mpr c4
  have z5 : (l0_2.length == l1_2.length) = true:=by first | simpa using c4 | (simp at c4 ⊢;omega)
  clear c4;obtain rfl:=Option.some.inj H;go_enter Tryz.func94,Tryz.ntmps94;go_wp2_with (first | ((with_reducible refine gd 2 rfl ?_);(try (refine gate_guard (by rfl) ?_;dsimp only));refine sqX 2 #[.bool a0_0,.slice A0_1 l0_1.length c0_1,.slice A0_2 l0_2.length c0_2,.slice A0_3 l0_3.length c0_3,.int .i64 a0_4,.slice A0_5 l0_5.length c0_5] 34 HB ?_;clear HB;intro gb0 hg w5 hb B0 GW0 HB;clear hb hg) | ((with_reducible refine gd 3 rfl ?_);(try (refine gate_guard (by rfl) ?_;dsimp only));refine sqX 3 #[.bool a1_0,.slice A1_1 l1_1.length c1_1,.slice A1_2 l1_2.length c1_2,.slice A1_3 l1_3.length c1_3,.int .i64 a1_4,.slice A1_5 l1_5.length c1_5] 34 HB ?_;clear HB;intro gb1 hg w6 hb B1 GW1 HB;have N0_1:=sqn B0 hg;have N1_0:=sqm B0 hg;replace B0:=sqb B0 hb;clear hb hg;obtain ⟨_,_⟩:=sqN1 N0_1;obtain ⟨_,_,_,_,_,_,_,_,_,_,_,_⟩:=sqc6 B0;obtain ⟨_,_,_,_,_,_,_,_,_,_,_,_⟩:=sqc6 B1))
  go_ret
  exact sqe HB
 have z3 : ((l0_2.length : Int) == (l1_2.length : Int)) = false:=beq_eq_false_iff_ne.mpr c4;have z4 : ((l0_2.length : Int) != (l1_2.length : Int)) = true:=bne_iff_ne.mpr c4
 have z5 : (l0_2.length == l1_2.length) = false:=by first | simpa using c4 | (simp at c4 ⊢;omega)
 obtain rfl:=Option.some.inj H;go_enter Tryz.func94,Tryz.ntmps94;go_wp2_with (first | ((with_reducible refine gd 2 rfl ?_);(try (refine gate_guard (by rfl) ?_;dsimp only));refine sqX 2 #[.bool a0_0,.slice A0_1 l0_1.length c0_1,.slice A0_2 l0_2.length c0_2,.slice A0_3 l0_3.length c0_3,.int .i64 a0_4,.slice A0_5 l0_5.length c0_5] 34 HB ?_;clear HB;intro gb0 hg w10 hb B0 GW0 HB;clear hb hg) | ((with_reducible refine gd 3 rfl ?_);(try (refine gate_guard (by rfl) ?_;dsimp only));refine sqX 3 #[.bool a1_0,.slice A1_1 l1_1.length c1_1,.slice A1_2 l1_2.length c1_2,.slice A1_3 l1_3.length c1_3,.int .i64 a1_4,.slice A1_5 l1_5.length c1_5] 34 HB ?_;clear HB;intro gb1 hg w11 hb B1 GW1 HB;have N0_1:=sqn B0 hg;have N1_0:=sqm B0 hg;replace B0:=sqb B0 hb;clear hb hg;obtain ⟨_,_⟩:=sqN1 N0_1;obtain ⟨_,_,_,_,_,_,_,_,_,_,_,_⟩:=sqc6 B0;obtain ⟨_,_,_,_,_,_,_,_,_,_,_,_⟩:=sqc6 B1))
 go_ret
 exact sqe HB

/-! ### spec_l11Two: function 160 -/
theorem spec_l11Two.calls (k : Nat) (a0_0 : Int) (A0_1 : Option Addr) (c0_1 : Nat) (l0_1 : List Int) (a1_0 : Int) (A1_1 : Option Addr) (c1_1 : Nat) (l1_1 : List Int) (r : Bool) (w : World) (hr0_1 : Kd.C (Kd.int .i64) w A0_1 l0_1.length l0_1) (hc0_1 : l0_1.length ≤ c0_1) (hr1_1 : Kd.C (Kd.int .i64) w A1_1 l1_1.length l1_1) (hc1_1 : l1_1.length ≤ c1_1) (h : spec_l11Two.f k a0_0 l0_1 a1_0 l1_1 = some r) :
  Calls Tryz.prog 160 #[.agg #[.int .i64 a0_0,.slice A0_1 l0_1.length c0_1],.agg #[.int .i64 a1_0,.slice A1_1 l1_1.length c1_1]] w fun e w'=>e = .returned (.bool r)∧Below w.heap.size w w':=by
 have hu32:=Tryz.underlying32;have HR0_1:=Aside0.mk hr0_1;have HC0_1:=Aside0.mk hc0_1;clear hr0_1 hc0_1;have HR1_1:=Aside0.mk hr1_1;have HC1_1:=Aside0.mk hc1_1;clear hr1_1 hc1_1;have HB:=Aside0.mk (Below.refl w.heap.size w);have H:=h;unfold spec_l11Two.f at H;clear h;replace H:=sqbi H;obtain ⟨t0,A3,H⟩:=H;(try dsimp only at H);rcases sqI (t0 = true) with c4 | c4
 ·replace c4:=Bool.eq_false_iff.mpr c4;subst c4;rw [sqff] at H;obtain rfl:=Option.some.inj H;go_enter Tryz.func160,Tryz.ntmps160;go_wp2_with (first | ((with_reducible refine gd 2 rfl ?_);refine sqX 2 #[.int .i64 a0_0,.slice A0_1 l0_1.length c0_1] 32 HB ?_;clear HB;intro gb0 hg w23 hb B0 GW0 HB;clear hb hg) | ((with_reducible refine gd 3 rfl ?_);refine sqX 3 #[.int .i64 a1_0,.slice A1_1 l1_1.length c1_1] 32 HB ?_;clear HB;intro gb1 hg w24 hb B1 GW1 HB;have N0_1:=sqn B0 hg;have N1_0:=sqm B0 hg;replace B0:=sqb B0 hb;clear hb hg;obtain ⟨_,_⟩:=sqN1 N0_1;obtain ⟨_,_,_,_⟩:=sqc2 B0) | ((with_reducible refine gf 74 rfl ?_);refine sqLb rfl (some 6) Tryz.func74 (spec_GapsOk.calls _ _ _ _ _ _ _ (sqC (Kd.C_below HR0_1.out HB.out)) HC0_1.out A3.out) ?_;intro w27 hb;refine sqM2 B0 B1 hb ?_;clear B0 B1;intro B0 B1;replace HB:=sqs HB hb;(try clear hb)))
  go_ret
  exact sqe HB
 subst c4;rw [if_pos rfl] at H;replace H:=sqbi H;obtain ⟨t1,A5,H⟩:=H;(try dsimp only at H);rcases sqI (t1 = true) with c6 | c6
 ·replace c6:=Bool.eq_false_iff.mpr c6;subst c6;rw [sqff] at H;obtain rfl:=Option.some.inj H;go_enter Tryz.func160,Tryz.ntmps160;go_wp2_with (first | ((with_reducible refine gd 2 rfl ?_);refine sqX 2 #[.int .i64 a0_0,.slice A0_1 l0_1.length c0_1] 32 HB ?_;clear HB;intro gb0 hg w16 hb B0 GW0 HB;clear hb hg) | ((with_reducible refine gd 3 rfl ?_);refine sqX 3 #[.int .i64 a1_0,.slice A1_1 l1_1.length c1_1] 32 HB ?_;clear HB;intro gb1 hg w17 hb B1 GW1 HB;have N0_1:=sqn B0 hg;have N1_0:=sqm B0 hg;replace B0:=sqb B0 hb;clear hb hg;obtain ⟨_,_⟩:=sqN1 N0_1;obtain ⟨_,_,_,_⟩:=sqc2 B0) | ((with_reducible refine gf 74 rfl ?_);refine sqLb rfl (some 6) Tryz.func74 (spec_GapsOk.calls _ _ _ _ _ _ _ (sqC (Kd.C_below HR0_1.out HB.out)) HC0_1.out A3.out) ?_;intro w20 hb;refine sqM2 B0 B1 hb ?_;clear B0 B1;intro B0 B1;replace HB:=sqs HB hb;(try clear hb);obtain ⟨_,_,_,_⟩:=sqc2 B1) | (go_at_call 74;(with_reducible refine (spec_GapsOk.calls k a1_0 _ _ l1_1 false _ ?side1 ?side2 A5.out).mono ?_);(case side1=>exact sqC (Kd.C_below HR1_1.out HB.out));(case side2=>exact HC1_1.out);rintro e w22 ⟨rfl,hb⟩;refine sqM2 B0 B1 hb ?_;clear B0 B1;intro B0 B1;replace HB:=sqs HB hb;(try clear hb)))
  go_ret
  exact sqe HB
 subst c6;rw [if_pos rfl] at H;obtain rfl:=Option.some.inj H;go_enter Tryz.func160,Tryz.ntmps160;go_wp2_with (first | ((with_reducible refine gd 2 rfl ?_);refine sqX 2 #[.int .i64 a0_0,.slice A0_1 l0_1.length c0_1] 32 HB ?_;clear HB;intro gb0 hg w7 hb B0 GW0 HB;clear hb hg) | ((with_reducible refine gd 3 rfl ?_);refine sqX 3 #[.int .i64 a1_0,.slice A1_1 l1_1.length c1_1] 32 HB ?_;clear HB;intro gb1 hg w8 hb B1 GW1 HB;have N0_1:=sqn B0 hg;have N1_0:=sqm B0 hg;replace B0:=sqb B0 hb;clear hb hg;obtain ⟨_,_⟩:=sqN1 N0_1;obtain ⟨_,_,_,_⟩:=sqc2 B0) | ((with_reducible refine gf 74 rfl ?_);refine sqLb rfl (some 6) Tryz.func74 (spec_GapsOk.calls _ _ _ _ _ _ _ (sqC (Kd.C_below HR0_1.out HB.out)) HC0_1.out A3.out) ?_;intro w11 hb;refine sqM2 B0 B1 hb ?_;clear B0 B1;intro B0 B1;replace HB:=sqs HB hb;(try clear hb);obtain ⟨_,_,_,_⟩:=sqc2 B1) | (go_at_call 74;(with_reducible refine (spec_GapsOk.calls k a1_0 _ _ l1_1 true _ ?side1 ?side2 A5.out).mono ?_);(case side1=>exact sqC (Kd.C_below HR1_1.out HB.out));(case side2=>exact HC1_1.out);rintro e w13 ⟨rfl,hb⟩;refine sqM2 B0 B1 hb ?_;clear B0 B1;intro B0 B1;replace HB:=sqs HB hb;(try clear hb);obtain ⟨_,_,_,_⟩:=sqc2 B0;obtain ⟨_,_,_,_⟩:=sqc2 B1))
 go_ret
 exact sqe HB

/-! ### spec_l8Max: function 161 -/
theorem spec_l8Max.calls (a0 : Int) (a1 : Int) (r : Int) (w : World) (h : spec_l8Max.f a0 a1 = some r) :
  Calls Tryz.prog 161 #[.int .i64 a0,.int .i64 a1] w fun e w'=>e = .returned (.int .i64 r)∧Drawn0 w w':=by
 have H:=h;unfold spec_l8Max.f at H;clear h;replace H:=sqj H;rcases H with ⟨c3,H⟩ | ⟨c3,H⟩
 ·have z0 : decide (a1 < a0) = true:=decide_eq_true c3;clear c3;obtain rfl:=Option.some.inj H;go_enter Tryz.func161,Tryz.ntmps161
  go_wp2
  go_ret
  exact ⟨sqE,sqD⟩
 have z0 : decide (a1 < a0) = false:=decide_eq_false c3;clear c3;obtain rfl:=Option.some.inj H;go_enter Tryz.func161,Tryz.ntmps161
 go_wp2
 go_ret
 exact ⟨sqE,sqD⟩

/-! ### spec_GapsJoin: function 100 -/
def spec_GapsJoin.T7 : Bool × List (List Nat × List Nat):=(true,[([],[]),([0],[0]),([],[]),([2],[2]),([],[]),([3,4],[3,4]),([5],[5]),([],[]),([7],[7]),([],[]),([8,9],[8,9]),([10],[10]),([6,11],[6,11]),([12],[12]),([1,13,12],[1,13]),([0,1,2,3,4,5,6,7,8,9,10,11,12,13,14],[]),([15,14,14,0,1,2,3,4,5,6,7,8,9,10,11,12,13,14],[14,15])])
def spec_GapsJoin.B7 : List Nat:=[0,1,0,4,0,28,60,0,128,0,896,1920,4092,8188,16383,32767,65535]
theorem spec_GapsJoin.tab7 : rtab .any (opsOf Tryz.f100 7) = spec_GapsJoin.T7:=by kernel_rfl
theorem spec_GapsJoin.bits7 : waitsOk spec_GapsJoin.T7.2 spec_GapsJoin.B7 = true:=by kernel_rfl
theorem spec_GapsJoin.calls (k : Nat) (a0_0 : Int) (A0_1 : Option Addr) (c0_1 : Nat) (l0_1 : List Int) (a1_0 : Int) (A1_1 : Option Addr) (c1_1 : Nat) (l1_1 : List Int) (r1 : Int) (r2 : List Int) (w : World) (hr0_1 : Kd.C (Kd.int .i64) w A0_1 l0_1.length l0_1) (hc0_1 : l0_1.length ≤ c0_1) (hr1_1 : Kd.C (Kd.int .i64) w A1_1 l1_1.length l1_1) (hc1_1 : l1_1.length ≤ c1_1) (h : spec_GapsJoin.f k a0_0 l0_1 a1_0 l1_1 = some (r1,r2)) :
  Calls Tryz.prog 100 #[.agg #[.int .i64 a0_0,.slice A0_1 l0_1.length c0_1],.agg #[.int .i64 a1_0,.slice A1_1 l1_1.length c1_1]] w fun e w'=>∃ v1_ : Value,e = .returned (.agg #[.int .i64 r1,v1_])∧Kd.R (Kd.int .i64) 3 w' w.heap.size (fun _=>True) v1_ r2∧Below w.heap.size w w':=by
 have hu32:=Tryz.underlying32;have HR0_1:=Aside0.mk hr0_1;have HC0_1:=Aside0.mk hc0_1;clear hr0_1 hc0_1;have HR1_1:=Aside0.mk hr1_1;have HC1_1:=Aside0.mk hc1_1;clear hr1_1 hc1_1;have HB:=Aside0.mk (Below.refl w.heap.size w);have H:=h;unfold spec_GapsJoin.f at H;clear h;replace H:=sqbi H;obtain ⟨t0,A3,H⟩:=H;(try dsimp only at H);rcases sqI (t0 = true) with c4 | c4
 ·replace c4:=Bool.eq_false_iff.mpr c4;subst c4;rw [sqff] at H;simp only [Option.some.injEq,Prod.mk.injEq] at H;obtain ⟨rfl,rfl⟩:=H;go_enter Tryz.func100,Tryz.ntmps100;go_wp2_with (first | ((with_reducible refine gd 2 rfl ?_);refine sqX 2 #[.int .i64 a0_0,.slice A0_1 l0_1.length c0_1] 32 HB ?_;clear HB;intro gb0 hg w43 hb B0 GW0 HB;clear hb hg) | ((with_reducible refine gd 3 rfl ?_);refine sqX 3 #[.int .i64 a1_0,.slice A1_1 l1_1.length c1_1] 32 HB ?_;clear HB;intro gb1 hg w44 hb B1 GW1 HB;have N0_1:=sqn B0 hg;have N1_0:=sqm B0 hg;replace B0:=sqb B0 hb;clear hb hg) | ((with_reducible refine gd 4 rfl ?_);refine sqX 4 #[.int .i64 0,.slice none 0 0] 32 HB ?_;clear HB;intro gb2 hg w45 hb B2 GW2 HB;have N0_2:=sqn B0 hg;have N2_0:=sqm B0 hg;have N1_2:=sqn B1 hg;have N2_1:=sqm B1 hg;refine sqM2 B0 B1 hb ?_;clear B0 B1;intro B0 B1;clear hb hg;obtain ⟨_,_,_,_⟩:=sqN2 N0_1 N0_2;obtain ⟨_,_,_,_⟩:=sqc2 B0;obtain ⟨_,_⟩:=sqN1 N1_2;obtain ⟨_,_,_,_⟩:=sqc2 B1) | ((with_reducible refine gf 160 rfl ?_);refine sqLb rfl (some 9) Tryz.func160 (spec_l11Two.calls _ _ _ _ _ _ _ _ _ _ _ (sqC (Kd.C_below HR0_1.out HB.out)) HC0_1.out (sqC (Kd.C_below HR1_1.out HB.out)) HC1_1.out A3.out) ?_;intro w51 hb;refine sqM3 B0 B1 B2 hb ?_;clear B0 B1 B2;intro B0 B1 B2;replace HB:=sqs HB hb;(try clear hb);obtain ⟨_,_,_,_⟩:=sqc2 B2));refine sqre #[.int .i64 0,.slice none 0 0] (sqP B2) Tryz.underlying32 ?_;exact ⟨_,sqEw,sqnil,sqB HB⟩
 subst c4;rw [if_pos rfl] at H;have H':=Aside0.mk H;clear H;go_enter Tryz.func100,Tryz.ntmps100;go_wp2_with (first | ((with_reducible refine gd 2 rfl ?_);refine sqX 2 #[.int .i64 a0_0,.slice A0_1 l0_1.length c0_1] 32 HB ?_;clear HB;intro gb0 hg w5 hb B0 GW0 HB;clear hb hg) | ((with_reducible refine gd 3 rfl ?_);refine sqX 3 #[.int .i64 a1_0,.slice A1_1 l1_1.length c1_1] 32 HB ?_;clear HB;intro gb1 hg w6 hb B1 GW1 HB;have N0_1:=sqn B0 hg;have N1_0:=sqm B0 hg;replace B0:=sqb B0 hb;clear hb hg) | ((with_reducible refine gd 4 rfl ?_);refine sqX 4 #[.int .i64 0,.slice none 0 0] 32 HB ?_;clear HB;intro gb2 hg w7 hb B2 GW2 HB;have N0_2:=sqn B0 hg;have N2_0:=sqm B0 hg;have N1_2:=sqn B1 hg;have N2_1:=sqm B1 hg;refine sqM2 B0 B1 hb ?_;clear B0 B1;intro B0 B1;clear hb hg;obtain ⟨_,_,_,_⟩:=sqN2 N0_1 N0_2;obtain ⟨_,_,_,_⟩:=sqc2 B0;obtain ⟨_,_⟩:=sqN1 N1_2;obtain ⟨_,_,_,_⟩:=sqc2 B1) | ((with_reducible refine gf 160 rfl ?_);refine sqLb rfl (some 9) Tryz.func160 (spec_l11Two.calls _ _ _ _ _ _ _ _ _ _ _ (sqC (Kd.C_below HR0_1.out HB.out)) HC0_1.out (sqC (Kd.C_below HR1_1.out HB.out)) HC1_1.out A3.out) ?_;intro w13 hb;refine sqM3 B0 B1 B2 hb ?_;clear B0 B1 B2;intro B0 B1 B2;replace HB:=sqs HB hb;(try clear hb);obtain ⟨_,_,_,_⟩:=sqc2 B0) | ((with_reducible refine gd 5 rfl ?_);refine sqX 5 #[.int .i64 0,.slice none 0 0] 32 HB ?_;clear HB;intro gb3 hg w15 hb B3 GW3 HB;have N0_3:=sqn B0 hg;have N3_0:=sqm B0 hg;have N1_3:=sqn B1 hg;have N3_1:=sqm B1 hg;have N2_3:=sqn B2 hg;have N3_2:=sqm B2 hg;refine sqM3 B0 B1 B2 hb ?_;clear B0 B1 B2;intro B0 B1 B2;clear hb hg;obtain ⟨_,_,_,_,_,_⟩:=sqN3 N3_0 N3_1 N3_2;obtain ⟨_,_,_,_⟩:=sqc2 B3))
 go_loopg [6] k (fun kq v6 w'=>∃ (x0 : Int) (x1 : List Int) (z1 : Value),v6 = .int .i64 x0∧Aside0 (spec_GapsJoin.l0 kq x0 a0_0 l0_1 a1_0 l1_1 a0_0 x1 = some (r1,r2))∧Aside0 (kq ≤ k)∧Aside0 (Kd.R (Kd.int .i64) 3 w' w.heap.size (fun _=>True) z1 x1)∧Aside0 (w'.heap[gb0]? = some (.cells #[.int .i64 a0_0,(.slice A0_1 l0_1.length c0_1)] 32 (0,0)))∧Aside0 (w'.heap[gb1]? = some (.cells #[.int .i64 a1_0,(.slice A1_1 l1_1.length c1_1)] 32 (0,0)))∧Aside0 (w'.heap[gb2]? = some (.cells #[.int .i64 0,(.slice none 0 0)] 32 (0,0)))∧Aside0 (w'.heap[gb3]? = some (.cells #[.int .i64 a0_0,z1] 32 (0,0)))∧Aside0 (Below w.heap.size w w'))
 case atStart=>exact ⟨(0),(([] : List Int)),(.slice none 0 0),sqE,H',⟨Nat.le_refl _⟩,⟨sqnil⟩,⟨sqT B0⟩,⟨sqT B1⟩,⟨sqT B2⟩,⟨sqP B3⟩,sqh HB⟩
 case round =>
  clear H';obtain ⟨x0,x1,z1,rfl,HA,HK1,z0,B0,B1,B2,B3,HB⟩:=hrel;cases gk with
  | zero=>exact absurd HA.out (by simp [spec_GapsJoin.l0])
  | succ k1 =>
   have H:=HA.out;clear HA;simp only [spec_GapsJoin.l0] at H;replace H:=sqi H;rcases H with ⟨c20,H⟩ | ⟨c20,H⟩
   ·have zg:=decide_eq_false c20;clear c20;simp only [Option.some.injEq,Prod.mk.injEq] at H;obtain ⟨rfl,rfl⟩:=H;obtain ⟨_,_,_,_,_,_⟩:=sqN3 N0_1 N0_2 N0_3;obtain ⟨_,_,_,_⟩:=sqc2 B0;obtain ⟨_,_,_,_⟩:=sqN2 N3_1 N3_2;obtain ⟨_,_,_,_⟩:=sqc2 B3;obtain ⟨_,_⟩:=sqN1 N2_1;obtain ⟨_,_,_,_⟩:=sqc2 B2;obtain ⟨zh,zi,zj⟩:=Kd.R_slice z0.out;subst zj
    go_wp2
    refine sqre #[.int .i64 a0_0,.slice zh x1.length zi] (sqP B2) Tryz.underlying32 ?_;exact ⟨_,sqEw,sqF1Rf (sqtyR z0 B2) (fun _ hk=>trivial),sqB HB⟩
   have zg:=decide_eq_true c20;clear c20;replace H:=sqi H;rcases H with ⟨c21,H⟩ | ⟨c21,H⟩
   ·cases H
   have zp:=decide_eq_true c21;clear c21;replace H:=sqi H;rcases H with ⟨c22,H⟩ | ⟨c22,H⟩
   ·cases H
   have zq:=decide_eq_true c22;clear c22;replace H:=sqbi H;obtain ⟨t1,A23,H⟩:=H;(try dsimp only at H);replace H:=sqi H;rcases H with ⟨c24,H⟩ | ⟨c24,H⟩
   ·cases H
   have LMc24:=Aside0.mk c24;clear c24;obtain ⟨z7,z2⟩ : ∃ y_ : List Int,y_ = (x1 ++ [t1]):=⟨_,rfl⟩
   replace H : (spec_GapsJoin.l0 k1 (wrap64 (x0 + 1)) a0_0 l0_1 a1_0 l1_1 a0_0 z7) = some (r1,r2):=by first | (rw [z2];with_reducible exact H) | (have H2_:=(Option.bind_some _ _).symm.trans H;rw [z2];with_reducible exact H2_) | (have H2_:=(Option.bind_some _ _).symm.trans H;with_reducible exact H2_) | with_reducible exact H | (rw [z2];exact H) | exact H
   have zk:=Aside0.mk z2;clear z2;have H':=Aside0.mk H;clear H;obtain ⟨_,_,_,_,_,_⟩:=sqN3 N0_1 N0_2 N0_3;obtain ⟨_,_,_,_⟩:=sqc2 B0
   try go_wp2
   replace z0:=sqdrR z0;replace B0:=sqdr B0;replace B1:=sqdr B1;replace B2:=sqdr B2;replace B3:=sqdr B3;replace HB:=sqdB HB;have z8 : 0 ≤ (x0 : Int):=sqd;have z9 : x0 < (l0_1.length : Int):=sqd;obtain ⟨za,zl,z5⟩:=Kd.at_int HR0_1.out x0 z8 z9;have z3:=z5;cases zl;replace z5:=sqa HB z5;replace z8:=eq_true z8;replace z9:=eq_true z9;have zb : 0 ≤ (x0 : Int):=sqd;have zc : x0 < (l1_1.length : Int):=sqd;obtain ⟨zd,zm,z6⟩:=Kd.at_int HR1_1.out x0 zb zc;have z4:=z6;cases zm;replace z6:=sqa HB z6;replace zb:=eq_true zb;replace zc:=eq_true zc;refine sqsT 17 (fun w'=>Ce2 w' gb3 (.int .i64 a0_0) z1∧Ce2 w' gb0 (.int .i64 a0_0) (.slice (some za) l0_1.length c0_1)∧Ce2 w' gb1 (.int .i64 a1_0) (.slice (some zd) l1_1.length c1_1)∧w'.cell? (za.add (x0).toNat) = some (.int .i64 (rd l0_1 x0))∧w'.cell? (zd.add (x0).toNat) = some (.int .i64 (rd l1_1 x0))) [16] ⟨sqK2 B3,sqK2 B0,sqK2 B1,(sqa HB z3 :),(sqa HB z4 :)⟩ (fun hHeld=>?_);refine with_tabW spec_GapsJoin.tab7 spec_GapsJoin.bits7 (fun HT_ HW_=>?_);generalize wr.drew = w29 at z0 B0 B1 B2 B3 HB z5 z6 hHeld ⊢;refine sqp HT_ 0 22 ?_;refine sqp HT_ 2 24 ?_;refine sqp HT_ 4 26 ?_;refine sqp HT_ 7 29 ?_;refine sqp HT_ 9 31 ?_;refine sqw HT_ HW_ 1 23 hHeld ?_;refine sqw HT_ HW_ 3 25 hHeld ?_;refine sqp HT_ 5 27 ?_;refine sqw HT_ HW_ 6 28 hHeld ?_;refine sqw HT_ HW_ 8 30 hHeld ?_;refine sqp HT_ 10 32 ?_;refine sqw HT_ HW_ 11 33 hHeld ?_;refine sqo HT_ 12 34 (fun K hK=>?_);refine sqGq rfl Tryz.func161 (spec_l8Max.calls _ _ _ _ A23.out) ?_;intro nd;refine hK.out _ _ ⟨sqK2 B3,sqK2 B0,sqK2 B1,(sqa HB z3 :),(sqa HB z4 :)⟩ (fun hHeld=>?_);clear hK K;refine sqnm ?_;refine sqo HT_ 13 35 (fun K hK=>?_);refine value_ (w1:=?_) (v:=?_) (by rfl) rfl ?_ ?_;rotate_left 2
   ·go_simp
    constructor
    ·rfl
    ·rfl
   refine hK.out _ _ ⟨sqK2 ⟨blk_alloc B3.out _⟩,sqK2 ⟨blk_alloc B0.out _⟩,sqK2 ⟨blk_alloc B1.out _⟩,(World.cell?_alloc_lt _ _ _ (World.block_lt_of_cell? _ _ ((sqa HB z3 :)))).trans ((sqa HB z3 :)),(World.cell?_alloc_lt _ _ _ (World.block_lt_of_cell? _ _ ((sqa HB z4 :)))).trans ((sqa HB z4 :))⟩ (fun hHeld=>?_);clear hK K;refine sqnm ?_;refine sqo HT_ 14 36 (fun K hK=>?_);refine Kd.R_append_step (Kd.int .i64) (w0:=w) w.heap.size (by rfl) (.tmp 23) (.tmp 35) 24 3 (.int .i64 0) 8 rfl Tryz.underlying24 info3 rfl (by decide) (by omega) z1 x1 t1 [.int .i64 t1] (fun _=>True) (fun _=>False) rfl rfl ?aP (fun _ hk=>hk.elim) ?aF ?aO ?aB ?aS ?aL ?_;(case aP=>exact rfl);(case aB=>exact (sqB HB));(case aF=>exact (fun _ _=>trivial));(case aO=>exact (sqy z0.out));(case aS=>exact (below_size (sqB HB)))
   (case aL=>have:=LMc24.out;omega)
   intro zr w30 ho hb hg hat;rw [← zk.out] at ho;replace B0:=Aside0.mk (blk_grown (g:=gb0) (o:=.cells #[.int .i64 a0_0,.slice (some za) l0_1.length c0_1] 32 (0,0)) (sqt B0.out) hg (Kd.R_ne z0.out B0.out (by decide)));replace B1:=Aside0.mk (blk_grown (g:=gb1) (o:=.cells #[.int .i64 a1_0,.slice (some zd) l1_1.length c1_1] 32 (0,0)) (sqt B1.out) hg (Kd.R_ne z0.out B1.out (by decide)));replace B2:=Aside0.mk (blk_grown (g:=gb2) (o:=.cells #[.int .i64 0,.slice none 0 0] 32 (0,0)) (sqt B2.out) hg (Kd.R_ne z0.out B2.out (by decide)));replace B3:=Aside0.mk (blk_grown (g:=gb3) (o:=.cells #[.int .i64 a0_0,z1] 32 (0,0)) (sqt B3.out) hg (Kd.R_ne z0.out B3.out (by decide)));replace HB:=Aside0.mk (hb);have ze:=Aside0.mk (ho);clear z0;clear ho hb hg hat;obtain ⟨zn,zo,zf⟩:=Kd.R_slice ze.out
   (first | subst zf | (injection zf with f1_ f2_ f3_;have f4_:=f1_.symm;have f5_:=f3_.symm;clear f1_ f2_ f3_;subst f4_;subst f5_))
   refine hK.out _ _ ⟨sqK2 B3,sqK2 B0,sqK2 B1,(sqa HB z3 :),(sqa HB z4 :)⟩ (fun hHeld=>?_);clear hK K;refine sqnm ?_;refine sqp HT_ 15 37 ?_;refine sqla HT_ 16 none (fun K hK=>?_);obtain ⟨_,_,_,_⟩:=sqc2 B3;obtain ⟨_,_,_,_,_,_⟩:=sqN3 N0_3 N1_3 N2_3;refine sqsk ?_;refine hK.out _ _ ?_;clear hK K;refine done_ (done_of HT_.out (by kernel_rfl)) ?_
   try go_wp2
   go_roundg k1
   case measure=>have:=HK1.out;omega
   case rel=>exact ⟨(wrap64 (x0 + 1)),(z7),(.slice zn z7.length zo),sqE,H',⟨by have:=HK1.out;omega⟩,⟨sqF1Rf (sqtyR ze B3) (fun _ hk=>trivial)⟩,⟨sqT B0⟩,⟨sqT B1⟩,⟨sqT B2⟩,⟨sqP B3⟩,sqh HB⟩

/-! ### spec_l9All: function 92 -/
theorem spec_l9All.calls  (r1 : Int) (r2 : Int) (w : World) (h : spec_l9All.f  = some (r1,r2)) :
  Calls Tryz.prog 92 #[] w fun e w'=>e = .returned (.agg #[.int .i64 r1,.int .i64 r2])∧Below w.heap.size w w':=by
 have hu111:=Tryz.underlying111;have HB:=Aside0.mk (Below.refl w.heap.size w);have H:=h;unfold spec_l9All.f at H;clear h;simp only [Option.some.injEq,Prod.mk.injEq] at H;obtain ⟨rfl,rfl⟩:=H;go_enter Tryz.func92,Tryz.ntmps92;go_wp2_with (first | ((with_reducible refine gd 0 rfl ?_);refine sqX 0 #[.int .i64 0,.int .i64 0] 111 HB ?_;clear HB;intro gb0 hg w1 hb B0 GW0 HB;clear hb hg;obtain ⟨_,_,_,_⟩:=sqc2 B0));refine sqre #[.int .i64 1,.int .i64 0] (sqP B0) Tryz.underlying111 ?_;exact sqe HB

/-! ### spec_l9Gcd: function 169 -/
theorem spec_l9Gcd.calls (k : Nat) (a0 : Int) (a1 : Int) (r : Int) (w : World) (h : spec_l9Gcd.f k a0 a1 = some r) :
  Calls Tryz.prog 169 #[.int .i64 a0,.int .i64 a1] w fun e w'=>e = .returned (.int .i64 r)∧Drawn0 w w':=by
 have H:=h;unfold spec_l9Gcd.f at H;clear h;have HC3:=Aside0.mk H;clear H;go_enter Tryz.func169,Tryz.ntmps169
 go_upto_if 7 with (fail)
 go_cut [0] (fun v0 wc=>∃ (kq : Nat) (x0 : Int),v0 = .int .i64 x0∧Aside0 (spec_l9Gcd.j0 kq x0 a1 = some r)∧Aside0 (kq ≤ k)∧Drawn0 w wc)
 case first =>
  have H:=HC3.out;clear HC3;replace H:=sqi H;rcases H with ⟨c4,H⟩ | ⟨c4,H⟩
  ·have z0:=decide_eq_false c4;clear c4
   (first | rw [z0] | (simp only [i64_w,i32_w];rw [z0]) | skip)
   have H':=Aside0.mk H;clear H
   go_wp2
   go_meet
   case rel=>exact ⟨_,(a0),sqE,H',⟨sqle⟩,sqD⟩
  have z0:=decide_eq_true c4;clear c4
  (first | rw [z0] | (simp only [i64_w,i32_w];rw [z0]) | skip)
  have H':=Aside0.mk H;clear H
  go_wp2
  go_meet
  case rel=>exact ⟨_,(wrap64 (-a0)),sqE,H',⟨sqle⟩,sqD⟩
 case rest =>
  clear HC3;obtain ⟨kq,x0,rfl,HA,HJ2,⟨mc2,rfl⟩⟩:=hcut;cases kq with
  | zero=>exact absurd HA.out (by simp [spec_l9Gcd.j0])
  | succ kj2 =>
   have H:=HA.out;clear HA;simp only [spec_l9Gcd.j0] at H;have HC5:=Aside0.mk H;clear H
   go_upto_if 11 with (fail)
   go_cut [1] (fun v1 wc=>∃ (kq : Nat) (x1 : Int),v1 = .int .i64 x1∧Aside0 (spec_l9Gcd.j1 kq x0 x1 = some r)∧Aside0 (kq ≤ kj2)∧Drawn0 w wc)
   case first =>
    have H:=HC5.out;clear HC5;replace H:=sqi H;rcases H with ⟨c6,H⟩ | ⟨c6,H⟩
    ·have z1:=decide_eq_false c6;clear c6
     (first | rw [z1] | (simp only [i64_w,i32_w];rw [z1]) | skip)
     have H':=Aside0.mk H;clear H
     go_wp2
     go_meet
     case rel=>exact ⟨_,(a1),sqE,H',⟨by have:=HJ2.out;first | omega | exact Nat.le_refl _⟩,sqD⟩
    have z1:=decide_eq_true c6;clear c6
    (first | rw [z1] | (simp only [i64_w,i32_w];rw [z1]) | skip)
    have H':=Aside0.mk H;clear H
    go_wp2
    go_meet
    case rel=>exact ⟨_,(wrap64 (-a1)),sqE,H',⟨by have:=HJ2.out;first | omega | exact Nat.le_refl _⟩,sqD⟩
   case rest =>
    clear HC5;obtain ⟨kq,x1,rfl,HA,HJ4,⟨mc4,rfl⟩⟩:=hcut;cases kq with
    | zero=>exact absurd HA.out (by simp [spec_l9Gcd.j1])
    | succ kj4 =>
     have H:=HA.out;clear HA;simp only [spec_l9Gcd.j1] at H;have H':=Aside0.mk H;clear H
     go_wp2
     go_loopg [0,1] kj4 (fun kq v0 v1 w'=>∃ (x2 : Int) (x3 : Int),v0 = .int .i64 x2∧v1 = .int .i64 x3∧Aside0 (spec_l9Gcd.l0 kq x2 x3 = some r)∧Aside0 (kq ≤ kj4)∧Drawn0 w w')
     case atStart=>exact ⟨(x0),(x1),sqE,sqE,H',⟨Nat.le_refl _⟩,sqD⟩
     case round =>
      clear H';obtain ⟨x2,x3,rfl,rfl,HA,HK3,⟨m3,rfl⟩⟩:=hrel;cases gk with
      | zero=>exact absurd HA.out (by simp [spec_l9Gcd.l0])
      | succ k3 =>
       have H:=HA.out;clear HA;simp only [spec_l9Gcd.l0] at H;replace H:=sqj H;rcases H with ⟨c7,H⟩ | ⟨c7,H⟩
       ·have z2 : (x3 == 0) = true:=beq_iff_eq.mpr c7;have z3 : (x3 != 0) = false:=bne_eq_false_iff_eq.mpr c7;clear c7;obtain rfl:=Option.some.inj H
        go_wp2
        go_ret
        exact ⟨sqE,sqD⟩
       have z2 : (x3 == 0) = false:=beq_eq_false_iff_ne.mpr c7;have z3 : (x3 != 0) = true:=bne_iff_ne.mpr c7;have H':=Aside0.mk H;clear H
       go_wp2
       go_roundg k3
       case measure=>have:=HJ2.out;have:=HJ4.out;have:=HK3.out;omega
       case rel=>exact ⟨(x3),(Int.tmod x2 x3),sqE,sqE,H',⟨by have:=HJ2.out;have:=HJ4.out;have:=HK3.out;omega⟩,sqD⟩

/-! ### spec_l9Make: function 180 -/
theorem spec_l9Make.calls (k : Nat) (a0 : Int) (a1 : Int) (r1 : Int) (r2 : Int) (w : World) (h : spec_l9Make.f k a0 a1 = some (r1,r2)) :
  Calls Tryz.prog 180 #[.int .i64 a0,.int .i64 a1] w fun e w'=>e = .returned (.agg #[.int .i64 r1,.int .i64 r2])∧Below w.heap.size w w':=by
 have hu111:=Tryz.underlying111;have HB:=Aside0.mk (Below.refl w.heap.size w);have H:=h;unfold spec_l9Make.f at H;clear h;replace H:=sqi H;rcases H with ⟨c3,H⟩ | ⟨c3,H⟩
 ·have z0 : decide (65536 < a0) = false:=decide_eq_false c3;clear c3;replace H:=sqj H;rcases H with ⟨c11,H⟩ | ⟨c11,H⟩
  ·have z1 : (a0 == 0) = true:=beq_iff_eq.mpr c11;have z2 : (a0 != 0) = false:=bne_eq_false_iff_eq.mpr c11;clear c11;simp only [Option.some.injEq,Prod.mk.injEq] at H;obtain ⟨rfl,rfl⟩:=H;go_enter Tryz.func180,Tryz.ntmps180;go_wp2_with (first | ((with_reducible refine gd 4 rfl ?_);refine sqX 4 #[.int .i64 0,.int .i64 0] 111 HB ?_;clear HB;intro gb0 hg w12 hb B0 GW0 HB;clear hb hg;obtain ⟨_,_,_,_⟩:=sqc2 B0));refine sqre #[.int .i64 0,.int .i64 a1] (sqP B0) Tryz.underlying111 ?_;exact sqe HB
  have z1 : (a0 == 0) = false:=beq_eq_false_iff_ne.mpr c11;have z2 : (a0 != 0) = true:=bne_iff_ne.mpr c11;replace H:=sqbi H;obtain ⟨t0,A14,H⟩:=H;(try dsimp only at H);simp only [Option.some.injEq,Prod.mk.injEq] at H;obtain ⟨rfl,rfl⟩:=H;go_enter Tryz.func180,Tryz.ntmps180;go_wp2_with (first | ((with_reducible refine gd 4 rfl ?_);refine sqX 4 #[.int .i64 0,.int .i64 0] 111 HB ?_;clear HB;intro gb0 hg w15 hb B0 GW0 HB;clear hb hg) | ((with_reducible refine gf 157 rfl ?_);refine sqLq rfl (some 16) Tryz.func157 (spec_l1Mod.calls _ _ _ _ A14.out) ?_;intro nd;(try (rw [drewN_self w15];generalize hq_ : World.drewN w15 _ = w15;replace B0:=sqq B0 hq_;replace HB:=sqr HB hq_;clear hq_;obtain ⟨z5,z6,z7,z8⟩:=sqc2 B0));obtain ⟨_,_,_,_⟩:=sqc2 B0));refine sqre #[.int .i64 a0,.int .i64 t0] (sqP B0) Tryz.underlying111 ?_;exact sqe HB
 have z0 : decide (65536 < a0) = true:=decide_eq_true c3;clear c3;replace H:=sqbi H;obtain ⟨t1,A4,H⟩:=H;(try dsimp only at H);replace H:=sqj H;rcases H with ⟨c5,H⟩ | ⟨c5,H⟩
 ·have z3 : (t1 == 0) = true:=beq_iff_eq.mpr c5;have z4 : (t1 != 0) = false:=bne_eq_false_iff_eq.mpr c5;clear c5;simp only [Option.some.injEq,Prod.mk.injEq] at H;obtain ⟨rfl,rfl⟩:=H;go_enter Tryz.func180,Tryz.ntmps180;go_wp2_with (first | ((with_reducible refine gd 4 rfl ?_);refine sqX 4 #[.int .i64 0,.int .i64 0] 111 HB ?_;clear HB;intro gb0 hg w6 hb B0 GW0 HB;clear hb hg) | ((with_reducible refine gf 169 rfl ?_);refine sqLq rfl (some 8) Tryz.func169 (spec_l9Gcd.calls _ _ _ _ _ A4.out) ?_;intro nd;(try (rw [drewN_self w6];generalize hq_ : World.drewN w6 _ = w6;replace B0:=sqq B0 hq_;replace HB:=sqr HB hq_;clear hq_;obtain ⟨z9,za,zb,zc⟩:=sqc2 B0));obtain ⟨_,_,_,_⟩:=sqc2 B0));refine sqre #[.int .i64 0,.int .i64 a1] (sqP B0) Tryz.underlying111 ?_;exact sqe HB
 have z3 : (t1 == 0) = false:=beq_eq_false_iff_ne.mpr c5;have z4 : (t1 != 0) = true:=bne_iff_ne.mpr c5;replace H:=sqbi H;obtain ⟨t2,A8,H⟩:=H;(try dsimp only at H);simp only [Option.some.injEq,Prod.mk.injEq] at H;obtain ⟨rfl,rfl⟩:=H;go_enter Tryz.func180,Tryz.ntmps180;go_wp2_with (first | ((with_reducible refine gd 4 rfl ?_);refine sqX 4 #[.int .i64 0,.int .i64 0] 111 HB ?_;clear HB;intro gb0 hg w9 hb B0 GW0 HB;clear hb hg) | ((with_reducible refine gf 169 rfl ?_);refine sqLq rfl (some 8) Tryz.func169 (spec_l9Gcd.calls _ _ _ _ _ A4.out) ?_;intro nd;(try (rw [drewN_self w9];generalize hq_ : World.drewN w9 _ = w9;replace B0:=sqq B0 hq_;replace HB:=sqr HB hq_;clear hq_;obtain ⟨zd,ze,zf,zg⟩:=sqc2 B0))) | ((with_reducible refine gf 157 rfl ?_);refine sqLq rfl (some 16) Tryz.func157 (spec_l1Mod.calls _ _ _ _ A8.out) ?_;intro nd;(try (rw [drewN_self w9];generalize hq_ : World.drewN w9 _ = w9;replace B0:=sqq B0 hq_;replace HB:=sqr HB hq_;clear hq_;obtain ⟨zh,zi,zj,zk⟩:=sqc2 B0));obtain ⟨_,_,_,_⟩:=sqc2 B0));refine sqre #[.int .i64 t1,.int .i64 t2] (sqP B0) Tryz.underlying111 ?_;exact sqe HB

/-! ### spec_RestJoin: function 174 -/
def spec_RestJoin.T3 : Bool × List (List Nat × List Nat):=(true,[([],[]),([0],[0]),([],[]),([2],[2]),([1,3],[1,3]),([],[]),([5],[5]),([],[]),([7],[7]),([6,8],[6,8]),([4,9,4],[4,9]),([],[]),([11],[11]),([10,12,10],[10,12]),([13,13,0,1,2,3,4,5,6,7,8,9,10,11,12,13],[13])])
def spec_RestJoin.B3 : List Nat:=[0,1,0,4,15,0,32,0,128,480,1023,0,2048,8191,16383]
theorem spec_RestJoin.tab3 : rtab .any (opsOf Tryz.f174 3) = spec_RestJoin.T3:=by kernel_rfl
theorem spec_RestJoin.bits3 : waitsOk spec_RestJoin.T3.2 spec_RestJoin.B3 = true:=by kernel_rfl
theorem spec_RestJoin.calls (k : Nat) (a0_0 : Int) (a0_1 : Int) (a1_0 : Int) (a1_1 : Int) (r1 : Int) (r2 : Int) (w : World) (h : spec_RestJoin.f k a0_0 a0_1 a1_0 a1_1 = some (r1,r2)) :
  Calls Tryz.prog 174 #[.agg #[.int .i64 a0_0,.int .i64 a0_1],.agg #[.int .i64 a1_0,.int .i64 a1_1]] w fun e w'=>e = .returned (.agg #[.int .i64 r1,.int .i64 r2])∧Below w.heap.size w w':=by
 have hu111:=Tryz.underlying111;have HB:=Aside0.mk (Below.refl w.heap.size w);have H:=h;unfold spec_RestJoin.f at H;clear h;have HC3:=Aside0.mk H;clear H;go_enter Tryz.func174,Tryz.ntmps174;go_upto_region 1 with (first | ((with_reducible refine gd 2 rfl ?_);refine sqX 2 #[.int .i64 a0_0,.int .i64 a0_1] 111 HB ?_;clear HB;intro gb0 hg w4 hb B0 GW0 HB;clear hb hg) | ((with_reducible refine gd 3 rfl ?_);refine sqX 3 #[.int .i64 a1_0,.int .i64 a1_1] 111 HB ?_;clear HB;intro gb1 hg w5 hb B1 GW1 HB;have N0_1:=sqn B0 hg;have N1_0:=sqm B0 hg;replace B0:=sqb B0 hb;clear hb hg) | ((with_reducible refine gd 4 rfl ?_);refine sqX 4 #[.int .i64 0,.int .i64 0] 111 HB ?_;clear HB;intro gb2 hg w6 hb B2 GW2 HB;have N0_2:=sqn B0 hg;have N2_0:=sqm B0 hg;have N1_2:=sqn B1 hg;have N2_1:=sqm B1 hg;refine sqM2 B0 B1 hb ?_;clear B0 B1;intro B0 B1;clear hb hg))
 (try simp only [Act.put,List.setIfInBounds_toArray,List.set_cons_zero,List.set_cons_succ])
 go_cut [12] (fun v12 wc=>∃ (kq : Nat) (x0 : Bool),v12 = .bool x0∧Aside0 (spec_RestJoin.j0 kq x0 a0_0 a0_1 a1_0 a1_1 = some (r1,r2))∧Aside0 (kq ≤ k)∧Aside0 (wc.heap[gb0]? = some (.cells #[.int .i64 a0_0,.int .i64 a0_1] 111 (0,0)))∧Aside0 (wc.heap[gb1]? = some (.cells #[.int .i64 a1_0,.int .i64 a1_1] 111 (0,0)))∧Aside0 (wc.heap[gb2]? = some (.cells #[.int .i64 0,.int .i64 0] 111 (0,0)))∧Aside0 (Below w.heap.size w wc))
 case first =>
  have H:=HC3.out;clear HC3;replace H:=sqbi H;obtain ⟨t0,A7,H⟩:=H;(try dsimp only at H);rcases sqI (t0 = true) with c8 | c8
  ·replace c8:=Bool.eq_false_iff.mpr c8;subst c8;rw [sqff] at H;have H':=Aside0.mk H;clear H;obtain ⟨_,_,_,_⟩:=sqN2 N0_1 N0_2;obtain ⟨_,_,_,_⟩:=sqc2 B0;go_wp2_with (first | ((with_reducible refine gf 155 rfl ?_);refine sqLb rfl (some 6) Tryz.func155 (spec_RestOk.calls _ _ _ _ A7.out) ?_;intro w20 hb;refine sqM3 B0 B1 B2 hb ?_;clear B0 B1 B2;intro B0 B1 B2;replace HB:=sqs HB hb;(try clear hb)));go_meet
   case rel=>exact ⟨_,(true),sqE,H',⟨sqle⟩,sqk B0,sqk B1,sqk B2,sqh HB⟩
  subst c8;rw [if_pos rfl] at H;replace H:=sqbi H;obtain ⟨t1,A9,H⟩:=H;(try dsimp only at H);have H':=Aside0.mk H;clear H;obtain ⟨_,_,_,_⟩:=sqN2 N0_1 N0_2;obtain ⟨_,_,_,_⟩:=sqc2 B0;go_wp2_with (first | ((with_reducible refine gf 155 rfl ?_);refine sqLb rfl (some 6) Tryz.func155 (spec_RestOk.calls _ _ _ _ A7.out) ?_;intro w13 hb;refine sqM3 B0 B1 B2 hb ?_;clear B0 B1 B2;intro B0 B1 B2;replace HB:=sqs HB hb;(try clear hb);obtain ⟨_,_⟩:=sqN1 N1_2;obtain ⟨_,_,_,_⟩:=sqc2 B1) | (go_at_call 155;(with_reducible refine (spec_RestOk.calls a1_0 a1_1 t1 _ A9.out).mono ?_);rintro e w16 ⟨rfl,hb⟩;refine sqM3 B0 B1 B2 hb ?_;clear B0 B1 B2;intro B0 B1 B2;replace HB:=sqs HB hb;(try clear hb)));go_meet
  case rel=>exact ⟨_,(!t1),sqE,H',⟨sqle⟩,sqk B0,sqk B1,sqk B2,sqh HB⟩
 case rest =>
  clear HC3;obtain ⟨kq,x0,rfl,HA,HJ2,B0,B1,B2,HB⟩:=hcut;cases kq with
  | zero=>exact absurd HA.out (by simp [spec_RestJoin.j0])
  | succ kj2 =>
   have H:=HA.out;clear HA;simp only [spec_RestJoin.j0] at H
   by_cases c21 : x0 = true
   ·subst c21;rw [if_pos rfl] at H;replace H:=sqbi H;obtain ⟨⟨t2,t3⟩,A22,H⟩:=H;(try dsimp only at H);simp only [Option.some.injEq,Prod.mk.injEq] at H;obtain ⟨rfl,rfl⟩:=H;go_wp2_with (first | ((with_reducible refine gf 92 rfl ?_);refine sqLb rfl (some 13) Tryz.func92 (spec_l9All.calls _ _ _ A22.out) ?_;intro w23 hb;refine sqM3 B0 B1 B2 hb ?_;clear B0 B1 B2;intro B0 B1 B2;replace HB:=sqs HB hb;(try clear hb);obtain ⟨_,_,_,_⟩:=sqN2 N2_0 N2_1;obtain ⟨_,_,_,_⟩:=sqc2 B2));refine sqre #[.int .i64 t2,.int .i64 t3] (sqP B2) Tryz.underlying111 ?_;exact sqe HB
   replace c21:=Bool.eq_false_iff.mpr c21;subst c21;rw [sqff] at H;replace H:=sqbi H;obtain ⟨t4,A27,H⟩:=H;(try dsimp only at H);replace H:=sqbi H;obtain ⟨t5,A28,H⟩:=H;(try dsimp only at H);replace H:=sqbi H;obtain ⟨⟨t6,t7⟩,A29,H⟩:=H;(try dsimp only at H);simp only [Option.some.injEq,Prod.mk.injEq] at H;obtain ⟨rfl,rfl⟩:=H
   try go_wp2
   replace B0:=sqdr B0;replace B1:=sqdr B1;replace B2:=sqdr B2;replace HB:=sqdB HB;refine sqst 15 (fun w'=>Ce2 w' gb0 (.int .i64 a0_0) (.int .i64 a0_1)∧Ce2 w' gb1 (.int .i64 a1_0) (.int .i64 a1_1)) sqz (fun hHeld=>?_);refine with_tabW spec_RestJoin.tab3 spec_RestJoin.bits3 (fun HT_ HW_=>?_);generalize wc.drew = w30 at B0 B1 B2 HB hHeld ⊢;refine sqp HT_ 0 14 ?_;refine sqp HT_ 2 16 ?_;refine sqp HT_ 5 19 ?_;refine sqp HT_ 7 21 ?_;refine sqp HT_ 11 25 ?_;refine sqw HT_ HW_ 1 15 hHeld ?_;refine sqw HT_ HW_ 3 17 hHeld ?_;refine sqw HT_ HW_ 6 20 hHeld ?_;refine sqw HT_ HW_ 8 22 hHeld ?_;refine sqp HT_ 9 23 ?_;refine sqw HT_ HW_ 12 26 hHeld ?_;refine sqo HT_ 4 18 (fun K hK=>?_);refine sqGq rfl Tryz.func169 (spec_l9Gcd.calls _ _ _ _ _ A27.out) ?_;intro nd;refine hK.out _ _ sqz (fun hHeld=>?_);clear hK K;refine sqnm ?_;refine sqo HT_ 10 24 (fun K hK=>?_);refine sqGq rfl Tryz.func169 (spec_l9Gcd.calls _ _ _ _ _ A28.out) ?_;intro nd;refine hK.out _ _ sqz (fun hHeld=>?_);clear hK K;refine sqnm ?_;refine sqo HT_ 13 27 (fun K hK=>?_);refine sqGb rfl Tryz.func180 (spec_l9Make.calls _ _ _ _ _ _ A29.out) ?_;intro w31 hb;refine sqM3 B0 B1 B2 hb ?_;clear B0 B1 B2;intro B0 B1 B2;replace HB:=sqs HB hb;(try clear hb);refine hK.out _ _ sqz (fun hHeld=>?_);clear hK K;refine sqnm ?_;refine sqo0 HT_ 14 (fun K hK=>?_);obtain ⟨_,_,_,_⟩:=sqc2 B2;obtain ⟨_,_,_,_⟩:=sqN2 N0_2 N1_2;refine sqsk ?_;refine hK.out _ _ sqzf (fun hHeld=>?_);clear hK K;refine done_ (done_of HT_.out (by kernel_rfl)) ?_
   try go_wp2
   refine sqre #[.int .i64 t6,.int .i64 t7] (sqP B2) Tryz.underlying111 ?_;exact sqe HB

/-! ### spec_l8Min: function 170 -/
theorem spec_l8Min.calls (a0 : Int) (a1 : Int) (r : Int) (w : World) (h : spec_l8Min.f a0 a1 = some r) :
  Calls Tryz.prog 170 #[.int .i64 a0,.int .i64 a1] w fun e w'=>e = .returned (.int .i64 r)∧Drawn0 w w':=by
 have H:=h;unfold spec_l8Min.f at H;clear h;replace H:=sqj H;rcases H with ⟨c3,H⟩ | ⟨c3,H⟩
 ·have z0:=decide_eq_true c3;clear c3;obtain rfl:=Option.some.inj H;go_enter Tryz.func170,Tryz.ntmps170
  go_wp2
  go_ret
  exact ⟨sqE,sqD⟩
 have z0:=decide_eq_false c3;clear c3;obtain rfl:=Option.some.inj H;go_enter Tryz.func170,Tryz.ntmps170
 go_wp2
 go_ret
 exact ⟨sqE,sqD⟩

attribute [local go_sem high] eqA108
/-! ### spec_RangeJoin: function 175 -/
def spec_RangeJoin.T7 : Bool × List (List Nat × List Nat):=(true,[([],[]),([0],[0]),([],[]),([2],[2]),([1,3],[1,3]),([],[]),([5],[5]),([],[]),([7],[7]),([6,8,4],[6,8]),([4,9],[4,9]),([10,9,0,1,2,3,4,5,6,7,8,9,10],[10])])
def spec_RangeJoin.B7 : List Nat:=[0,1,0,4,15,0,32,0,128,511,1023,2047]
theorem spec_RangeJoin.tab7 : rtab .any (opsOf Tryz.f175 7) = spec_RangeJoin.T7:=by kernel_rfl
theorem spec_RangeJoin.bits7 : waitsOk spec_RangeJoin.T7.2 spec_RangeJoin.B7 = true:=by kernel_rfl
theorem spec_RangeJoin.calls (k : Nat) (a0_0 : Int) (a0_1 : Int) (a1_0 : Int) (a1_1 : Int) (r1 : Int) (r2 : Int) (w : World) (h : spec_RangeJoin.f k a0_0 a0_1 a1_0 a1_1 = some (r1,r2)) :
  Calls Tryz.prog 175 #[.agg #[.int .i64 a0_0,.int .i64 a0_1],.agg #[.int .i64 a1_0,.int .i64 a1_1]] w fun e w'=>e = .returned (.agg #[.int .i64 r1,.int .i64 r2])∧Below w.heap.size w w':=by
 have hu108:=Tryz.underlying108;have HB:=Aside0.mk (Below.refl w.heap.size w);have H:=h;unfold spec_RangeJoin.f at H;clear h;have HC3:=Aside0.mk H;clear H;go_enter Tryz.func175,Tryz.ntmps175;go_upto_region 1 with (first | ((with_reducible refine gd 2 rfl ?_);refine sqX 2 #[.int .i64 a0_0,.int .i64 a0_1] 108 HB ?_;clear HB;intro gb0 hg w4 hb B0 GW0 HB;clear hb hg) | ((with_reducible refine gd 3 rfl ?_);refine sqX 3 #[.int .i64 a1_0,.int .i64 a1_1] 108 HB ?_;clear HB;intro gb1 hg w5 hb B1 GW1 HB;have N0_1:=sqn B0 hg;have N1_0:=sqm B0 hg;replace B0:=sqb B0 hb;clear hb hg) | ((with_reducible refine gd 4 rfl ?_);refine sqX 4 #[.int .i64 0,.int .i64 0] 108 HB ?_;clear HB;intro gb2 hg w6 hb B2 GW2 HB;have N0_2:=sqn B0 hg;have N2_0:=sqm B0 hg;have N1_2:=sqn B1 hg;have N2_1:=sqm B1 hg;refine sqM2 B0 B1 hb ?_;clear B0 B1;intro B0 B1;clear hb hg))
 (try simp only [Act.put,List.setIfInBounds_toArray,List.set_cons_zero,List.set_cons_succ])
 go_cut [12] (fun v12 wc=>∃ (kq : Nat) (x0 : Bool),v12 = .bool x0∧Aside0 (spec_RangeJoin.j0 kq x0 a0_0 a0_1 a1_0 a1_1 = some (r1,r2))∧Aside0 (kq ≤ k)∧Aside0 (wc.heap[gb0]? = some (.cells #[.int .i64 a0_0,.int .i64 a0_1] 108 (0,0)))∧Aside0 (wc.heap[gb1]? = some (.cells #[.int .i64 a1_0,.int .i64 a1_1] 108 (0,0)))∧Aside0 (wc.heap[gb2]? = some (.cells #[.int .i64 0,.int .i64 0] 108 (0,0)))∧Aside0 (Below w.heap.size w wc))
 case first =>
  have H:=HC3.out;clear HC3;replace H:=sqbi H;obtain ⟨t0,A7,H⟩:=H;(try dsimp only at H);rcases sqI (t0 = true) with c8 | c8
  ·replace c8:=Bool.eq_false_iff.mpr c8;subst c8;rw [sqff] at H;have H':=Aside0.mk H;clear H;obtain ⟨_,_,_,_⟩:=sqN2 N0_1 N0_2;obtain ⟨_,_,_,_⟩:=sqc2 B0;go_wp2_with (first | ((with_reducible refine gf 154 rfl ?_);refine sqLb rfl (some 6) Tryz.func154 (spec_RangeOk.calls _ _ _ _ A7.out) ?_;intro w20 hb;refine sqM3 B0 B1 B2 hb ?_;clear B0 B1 B2;intro B0 B1 B2;replace HB:=sqs HB hb;(try clear hb)));go_meet
   case rel=>exact ⟨_,(true),sqE,H',⟨sqle⟩,sqk B0,sqk B1,sqk B2,sqh HB⟩
  subst c8;rw [if_pos rfl] at H;replace H:=sqbi H;obtain ⟨t1,A9,H⟩:=H;(try dsimp only at H);have H':=Aside0.mk H;clear H;obtain ⟨_,_,_,_⟩:=sqN2 N0_1 N0_2;obtain ⟨_,_,_,_⟩:=sqc2 B0;go_wp2_with (first | ((with_reducible refine gf 154 rfl ?_);refine sqLb rfl (some 6) Tryz.func154 (spec_RangeOk.calls _ _ _ _ A7.out) ?_;intro w13 hb;refine sqM3 B0 B1 B2 hb ?_;clear B0 B1 B2;intro B0 B1 B2;replace HB:=sqs HB hb;(try clear hb);obtain ⟨_,_⟩:=sqN1 N1_2;obtain ⟨_,_,_,_⟩:=sqc2 B1) | (go_at_call 154;(with_reducible refine (spec_RangeOk.calls a1_0 a1_1 t1 _ A9.out).mono ?_);rintro e w16 ⟨rfl,hb⟩;refine sqM3 B0 B1 B2 hb ?_;clear B0 B1 B2;intro B0 B1 B2;replace HB:=sqs HB hb;(try clear hb)));go_meet
  case rel=>exact ⟨_,(!t1),sqE,H',⟨sqle⟩,sqk B0,sqk B1,sqk B2,sqh HB⟩
 case rest =>
  clear HC3;obtain ⟨kq,x0,rfl,HA,HJ2,B0,B1,B2,HB⟩:=hcut;cases kq with
  | zero=>exact absurd HA.out (by simp [spec_RangeJoin.j0])
  | succ kj2 =>
   have H:=HA.out;clear HA;simp only [spec_RangeJoin.j0] at H
   by_cases c21 : x0 = true
   ·subst c21;rw [if_pos rfl] at H;replace H:=sqbi H;obtain ⟨⟨t2,t3⟩,A22,H⟩:=H;(try dsimp only at H);simp only [Option.some.injEq,Prod.mk.injEq] at H;obtain ⟨rfl,rfl⟩:=H;go_wp2_with (first | ((with_reducible refine gf 156 rfl ?_);refine sqLb rfl (some 13) Tryz.func156 (spec_l8None.calls _ _ _ A22.out) ?_;intro w23 hb;refine sqM3 B0 B1 B2 hb ?_;clear B0 B1 B2;intro B0 B1 B2;replace HB:=sqs HB hb;(try clear hb);obtain ⟨_,_,_,_⟩:=sqN2 N2_0 N2_1;obtain ⟨_,_,_,_⟩:=sqc2 B2));refine sqre #[.int .i64 t2,.int .i64 t3] (sqP B2) Tryz.underlying108 ?_;exact sqe HB
   replace c21:=Bool.eq_false_iff.mpr c21;subst c21;rw [sqff] at H;replace H:=sqbi H;obtain ⟨⟨t4,t5⟩,A27,H⟩:=H;(try dsimp only at H);replace H:=sqj H;rcases H with ⟨c28,H⟩ | ⟨c28,H⟩
   ·have z0 : (a0_0 == t4 && (a0_1 == t5)) = true:=c28
    (try (have z1 : decide (a0_0 = t4 && (a0_1 == t5)) = true:=by simpa using c28))
    (try (have z2 : (a0_0 == t4 && (a0_1 == t5)) = true:=by simpa using c28))
    clear c28;simp only [Option.some.injEq,Prod.mk.injEq] at H;obtain ⟨rfl,rfl⟩:=H
    try go_wp2
    replace B0:=sqdr B0;replace B1:=sqdr B1;replace B2:=sqdr B2;replace HB:=sqdB HB;refine sqst 3 (fun w'=>Ce2 w' gb0 (.int .i64 a0_0) (.int .i64 a0_1)) sqz (fun hHeld=>?_);generalize wc.drew = w29 at B0 B1 B2 HB hHeld ⊢;refine take_ (i:=0) (N:=some 14) (v:=?_) (a':=?_) #[true,false,false] rfl rfl (by kernel_rfl) (fun _ _ _ h=>h) (Or.inl ⟨by rfl,?_⟩) hHeld ?_ ?_;rotate_left
    ·rintro w' ⟨s0,s1⟩
     go_simp
     with_reducible rfl
    rotate_left
    ·simp only [Act.put,List.setIfInBounds_toArray,List.set_cons_zero,List.set_cons_succ,i64_w,i32_w]
     rfl
    refine one_ (i:=1) (N:=some 15) #[true,true,false] rfl rfl (by kernel_rfl) (by decide) (fun K hK=>?_);refine sqGb rfl Tryz.func156 (spec_l8None.calls _ _ _ A27.out) ?_;intro w30 hb;refine sqM3 B0 B1 B2 hb ?_;clear B0 B1 B2;intro B0 B1 B2;replace HB:=sqs HB hb;(try clear hb);refine hK.out _ _ sqz (fun hHeld=>?_);clear hK K;refine sqnm ?_;refine pure_ (i:=2) (N:=some 16) (v:=?_) (a':=?_) #[true,true,true] rfl rfl (by kernel_rfl) (fun _ _ _ h=>h) (Or.inl ⟨by rfl,?_⟩) ?_ ?_;rotate_left
    ·intro w'
     go_simp
     with_reducible rfl
    rotate_left
    ·simp only [Act.put,List.setIfInBounds_toArray,List.set_cons_zero,List.set_cons_succ,i64_w,i32_w]
     rfl
    refine done_ (by kernel_rfl) ?_;obtain ⟨_,_,_,_⟩:=sqN2 N1_0 N1_2;obtain ⟨_,_,_,_⟩:=sqc2 B1;obtain ⟨_,_⟩:=sqN1 N2_0;obtain ⟨_,_,_,_⟩:=sqc2 B2
    try go_wp2
    refine sqre #[.int .i64 a1_0,.int .i64 a1_1] (sqP B2) Tryz.underlying108 ?_;exact sqe HB
   have z0 : (a0_0 == t4 && (a0_1 == t5)) = false:=by simpa using c28
   (try (have z1 : decide (a0_0 = t4 && (a0_1 == t5)) = false:=by simpa using c28))
   (try (have z2 : (a0_0 == t4 && (a0_1 == t5)) = false:=by simpa using c28))
   (try (have z6 : ¬ (a0_0 = t4 && (a0_1 == t5)):=by simpa using c28))
   clear c28;replace H:=sqbi H;obtain ⟨⟨t6,t7⟩,A36,H⟩:=H;(try dsimp only at H);replace H:=sqj H;rcases H with ⟨c37,H⟩ | ⟨c37,H⟩
   ·have z3 : (a1_0 == t6 && (a1_1 == t7)) = true:=c37
    (try (have z4 : decide (a1_0 = t6 && (a1_1 == t7)) = true:=by simpa using c37))
    (try (have z5 : (a1_0 == t6 && (a1_1 == t7)) = true:=by simpa using c37))
    clear c37;simp only [Option.some.injEq,Prod.mk.injEq] at H;obtain ⟨rfl,rfl⟩:=H
    try go_wp2
    replace B0:=sqdr B0;replace B1:=sqdr B1;replace B2:=sqdr B2;replace HB:=sqdB HB;refine sqst 3 (fun w'=>Ce2 w' gb0 (.int .i64 a0_0) (.int .i64 a0_1)) sqz (fun hHeld=>?_);generalize wc.drew = w38 at B0 B1 B2 HB hHeld ⊢;refine take_ (i:=0) (N:=some 14) (v:=?_) (a':=?_) #[true,false,false] rfl rfl (by kernel_rfl) (fun _ _ _ h=>h) (Or.inl ⟨by rfl,?_⟩) hHeld ?_ ?_;rotate_left
    ·rintro w' ⟨s0,s1⟩
     go_simp
     with_reducible rfl
    rotate_left
    ·simp only [Act.put,List.setIfInBounds_toArray,List.set_cons_zero,List.set_cons_succ,i64_w,i32_w]
     rfl
    refine one_ (i:=1) (N:=some 15) #[true,true,false] rfl rfl (by kernel_rfl) (by decide) (fun K hK=>?_);refine sqGb rfl Tryz.func156 (spec_l8None.calls _ _ _ A27.out) ?_;intro w39 hb;refine sqM3 B0 B1 B2 hb ?_;clear B0 B1 B2;intro B0 B1 B2;replace HB:=sqs HB hb;(try clear hb);refine hK.out _ _ sqz (fun hHeld=>?_);clear hK K;refine sqnm ?_;refine pure_ (i:=2) (N:=some 16) (v:=?_) (a':=?_) #[true,true,true] rfl rfl (by kernel_rfl) (fun _ _ _ h=>h) (Or.inl ⟨by rfl,?_⟩) ?_ ?_;rotate_left
    ·intro w'
     go_simp
     with_reducible rfl
    rotate_left
    ·simp only [Act.put,List.setIfInBounds_toArray,List.set_cons_zero,List.set_cons_succ,i64_w,i32_w]
     rfl
    refine done_ (by kernel_rfl) ?_
    try go_wp2
    replace B0:=sqdr B0;replace B1:=sqdr B1;replace B2:=sqdr B2;replace HB:=sqdB HB;refine sqst 3 (fun w'=>Ce2 w' gb1 (.int .i64 a1_0) (.int .i64 a1_1)) sqz (fun hHeld=>?_);generalize w39.drew = w40 at B0 B1 B2 HB hHeld ⊢;refine take_ (i:=0) (N:=some 18) (v:=?_) (a':=?_) #[true,false,false] rfl rfl (by kernel_rfl) (fun _ _ _ h=>h) (Or.inl ⟨by rfl,?_⟩) hHeld ?_ ?_;rotate_left
    ·rintro w' ⟨s0,s1⟩
     go_simp
     with_reducible rfl
    rotate_left
    ·simp only [Act.put,List.setIfInBounds_toArray,List.set_cons_zero,List.set_cons_succ,i64_w,i32_w]
     rfl
    refine one_ (i:=1) (N:=some 19) #[true,true,false] rfl rfl (by kernel_rfl) (by decide) (fun K hK=>?_);refine sqGb rfl Tryz.func156 (spec_l8None.calls _ _ _ A36.out) ?_;intro w41 hb;refine sqM3 B0 B1 B2 hb ?_;clear B0 B1 B2;intro B0 B1 B2;replace HB:=sqs HB hb;(try clear hb);refine hK.out _ _ sqz (fun hHeld=>?_);clear hK K;refine sqnm ?_;refine pure_ (i:=2) (N:=some 20) (v:=?_) (a':=?_) #[true,true,true] rfl rfl (by kernel_rfl) (fun _ _ _ h=>h) (Or.inl ⟨by rfl,?_⟩) ?_ ?_;rotate_left
    ·intro w'
     go_simp
     with_reducible rfl
    rotate_left
    ·simp only [Act.put,List.setIfInBounds_toArray,List.set_cons_zero,List.set_cons_succ,i64_w,i32_w]
     rfl
    refine done_ (by kernel_rfl) ?_;obtain ⟨_,_,_,_⟩:=sqN2 N0_1 N0_2;obtain ⟨_,_,_,_⟩:=sqc2 B0;obtain ⟨_,_⟩:=sqN1 N2_1;obtain ⟨_,_,_,_⟩:=sqc2 B2
    try go_wp2
    refine sqre #[.int .i64 a0_0,.int .i64 a0_1] (sqP B2) Tryz.underlying108 ?_;exact sqe HB
   have z3 : (a1_0 == t6 && (a1_1 == t7)) = false:=by simpa using c37
   (try (have z4 : decide (a1_0 = t6 && (a1_1 == t7)) = false:=by simpa using c37))
   (try (have z5 : (a1_0 == t6 && (a1_1 == t7)) = false:=by simpa using c37))
   (try (have z7 : ¬ (a1_0 = t6 && (a1_1 == t7)):=by simpa using c37))
   clear c37;replace H:=sqbi H;obtain ⟨t8,A47,H⟩:=H;(try dsimp only at H);replace H:=sqbi H;obtain ⟨t9,A48,H⟩:=H;(try dsimp only at H);simp only [Option.some.injEq,Prod.mk.injEq] at H;obtain ⟨rfl,rfl⟩:=H
   try go_wp2
   replace B0:=sqdr B0;replace B1:=sqdr B1;replace B2:=sqdr B2;replace HB:=sqdB HB;refine sqst 3 (fun w'=>Ce2 w' gb0 (.int .i64 a0_0) (.int .i64 a0_1)) sqz (fun hHeld=>?_);generalize wc.drew = w49 at B0 B1 B2 HB hHeld ⊢;refine take_ (i:=0) (N:=some 14) (v:=?_) (a':=?_) #[true,false,false] rfl rfl (by kernel_rfl) (fun _ _ _ h=>h) (Or.inl ⟨by rfl,?_⟩) hHeld ?_ ?_;rotate_left
   ·rintro w' ⟨s0,s1⟩
    go_simp
    with_reducible rfl
   rotate_left
   ·simp only [Act.put,List.setIfInBounds_toArray,List.set_cons_zero,List.set_cons_succ,i64_w,i32_w]
    rfl
   refine one_ (i:=1) (N:=some 15) #[true,true,false] rfl rfl (by kernel_rfl) (by decide) (fun K hK=>?_);refine sqGb rfl Tryz.func156 (spec_l8None.calls _ _ _ A27.out) ?_;intro w50 hb;refine sqM3 B0 B1 B2 hb ?_;clear B0 B1 B2;intro B0 B1 B2;replace HB:=sqs HB hb;(try clear hb);refine hK.out _ _ sqz (fun hHeld=>?_);clear hK K;refine sqnm ?_;refine pure_ (i:=2) (N:=some 16) (v:=?_) (a':=?_) #[true,true,true] rfl rfl (by kernel_rfl) (fun _ _ _ h=>h) (Or.inl ⟨by rfl,?_⟩) ?_ ?_;rotate_left
   ·intro w'
    go_simp
    with_reducible rfl
   rotate_left
   ·simp only [Act.put,List.setIfInBounds_toArray,List.set_cons_zero,List.set_cons_succ,i64_w,i32_w]
    rfl
   refine done_ (by kernel_rfl) ?_
   try go_wp2
   replace B0:=sqdr B0;replace B1:=sqdr B1;replace B2:=sqdr B2;replace HB:=sqdB HB;refine sqst 3 (fun w'=>Ce2 w' gb1 (.int .i64 a1_0) (.int .i64 a1_1)) sqz (fun hHeld=>?_);generalize w50.drew = w51 at B0 B1 B2 HB hHeld ⊢;refine take_ (i:=0) (N:=some 18) (v:=?_) (a':=?_) #[true,false,false] rfl rfl (by kernel_rfl) (fun _ _ _ h=>h) (Or.inl ⟨by rfl,?_⟩) hHeld ?_ ?_;rotate_left
   ·rintro w' ⟨s0,s1⟩
    go_simp
    with_reducible rfl
   rotate_left
   ·simp only [Act.put,List.setIfInBounds_toArray,List.set_cons_zero,List.set_cons_succ,i64_w,i32_w]
    rfl
   refine one_ (i:=1) (N:=some 19) #[true,true,false] rfl rfl (by kernel_rfl) (by decide) (fun K hK=>?_);refine sqGb rfl Tryz.func156 (spec_l8None.calls _ _ _ A36.out) ?_;intro w52 hb;refine sqM3 B0 B1 B2 hb ?_;clear B0 B1 B2;intro B0 B1 B2;replace HB:=sqs HB hb;(try clear hb);refine hK.out _ _ sqz (fun hHeld=>?_);clear hK K;refine sqnm ?_;refine pure_ (i:=2) (N:=some 20) (v:=?_) (a':=?_) #[true,true,true] rfl rfl (by kernel_rfl) (fun _ _ _ h=>h) (Or.inl ⟨by rfl,?_⟩) ?_ ?_;rotate_left
   ·intro w'
    go_simp
    with_reducible rfl
   rotate_left
   ·simp only [Act.put,List.setIfInBounds_toArray,List.set_cons_zero,List.set_cons_succ,i64_w,i32_w]
    rfl
   refine done_ (by kernel_rfl) ?_
   try go_wp2
   replace B0:=sqdr B0;replace B1:=sqdr B1;replace B2:=sqdr B2;replace HB:=sqdB HB;refine sqst 12 (fun w'=>Ce2 w' gb0 (.int .i64 a0_0) (.int .i64 a0_1)∧Ce2 w' gb1 (.int .i64 a1_0) (.int .i64 a1_1)) sqz (fun hHeld=>?_);refine with_tabW spec_RangeJoin.tab7 spec_RangeJoin.bits7 (fun HT_ HW_=>?_);generalize w52.drew = w53 at B0 B1 B2 HB hHeld ⊢;refine sqp HT_ 0 22 ?_;refine sqp HT_ 2 24 ?_;refine sqp HT_ 5 27 ?_;refine sqp HT_ 7 29 ?_;refine sqw HT_ HW_ 1 23 hHeld ?_;refine sqw HT_ HW_ 3 25 hHeld ?_;refine sqw HT_ HW_ 6 28 hHeld ?_;refine sqw HT_ HW_ 8 30 hHeld ?_;refine sqo HT_ 4 26 (fun K hK=>?_);refine sqGq rfl Tryz.func170 (spec_l8Min.calls _ _ _ _ A47.out) ?_;intro nd;refine hK.out _ _ sqz (fun hHeld=>?_);clear hK K;refine sqnm ?_;refine sqo HT_ 9 31 (fun K hK=>?_);refine sqGq rfl Tryz.func161 (spec_l8Max.calls _ _ _ _ A48.out) ?_;intro nd;refine hK.out _ _ sqz (fun hHeld=>?_);clear hK K;refine sqnm ?_;refine sqp HT_ 10 32 ?_;refine sqo0 HT_ 11 (fun K hK=>?_);obtain ⟨_,_,_,_⟩:=sqc2 B2;obtain ⟨_,_,_,_⟩:=sqN2 N0_2 N1_2;refine sqsk ?_;refine hK.out _ _ sqzf (fun hHeld=>?_);clear hK K;refine done_ (done_of HT_.out (by kernel_rfl)) ?_
   try go_wp2
   refine sqre #[.int .i64 t8,.int .i64 t9] (sqP B2) Tryz.underlying108 ?_;exact sqe HB

end Go.Proofs.YtklkdpcopfjmcaaGreat.PFnExactAbsJoin
