/- Functions of the program as plain Lean functions, and that calls of them come to what these tell. Conditions: those in each law. -/
import Derived.Test.YtklkdpcopfjmcaaGreatSqV
import Derived.Test.YtklkdpcopfjmcaaGreatDFnExactAbsJoinV
import Derived.Test.YtklkdpcopfjmcaaGreatQFnExactAbsJoinx0V
namespace Go.Proofs.YtklkdpcopfjmcaaGreat.PFnExactAbsJoin
open Go.RowKit Go.Proofs.YtklkdpcopfjmcaaGreat.Sq Go.Proofs.YtklkdpcopfjmcaaGreatW.PrintWords Go.Proofs.YtklkdpcopfjmcaaGreatW.PrintLast Go.Proofs.YtklkdpcopfjmcaaGreatW.PrintMore
attribute [local go_sem] max2_int min2_int max_two min_two max_three min_three max_four min_four   -- for this text's walks alone
set_option linter.unusedVariables false
set_option linter.unusedSimpArgs false

theorem eqA58 (d : Nat) (w : World) (x0 y0 : Int) (x1 y1 : Int) (x2 y2 : Int) (x3 y3 : Int) :
  (Op.equalIn (d + 2) 58 (.agg #[.int .i64 x0,.int .i64 x1,.int .i64 x2,.int .i64 x3]) (.agg #[.int .i64 y0,.int .i64 y1,.int .i64 y2,.int .i64 y3])).run Tryz.prog w = .ok (x0 == y0 && (x1 == y1 && (x2 == y2 && (x3 == y3)))) w:=by
 refine eqA_of Tryz.underlying58 (by kernel_rfl) ?_;refine eqf_cons (by rfl) (by go_simp;rfl) (by go_simp;rfl) (by go_simp) ?_;refine eqf_cons (by rfl) (by go_simp;rfl) (by go_simp;rfl) (by go_simp) ?_;refine eqf_cons (by rfl) (by go_simp;rfl) (by go_simp;rfl) (by go_simp) ?_;exact eqf_last (by rfl) (by go_simp;rfl) (by go_simp;rfl) (by go_simp)
theorem eqA108 (d : Nat) (w : World) (x0 y0 : Int) (x1 y1 : Int) :
  (Op.equalIn (d + 2) 108 (.agg #[.int .i64 x0,.int .i64 x1]) (.agg #[.int .i64 y0,.int .i64 y1])).run Tryz.prog w = .ok (x0 == y0 && (x1 == y1)) w:=by
 refine eqA_of Tryz.underlying108 (by kernel_rfl) ?_;refine eqf_cons (by rfl) (by go_simp;rfl) (by go_simp;rfl) (by go_simp) ?_;exact eqf_last (by rfl) (by go_simp;rfl) (by go_simp;rfl) (by go_simp)
set_option maxHeartbeats 8000000
set_option maxRecDepth 100000
/-! ### laws_szValS: function 32 -/
theorem laws_szValS.calls (A0 : Option Addr) (c0 : Nat) (l0 : List (S116)) (a1 : Int) (r : Int) (w : World) (hr0 : Kd.C k116 w A0 l0.length l0) (hc0 : l0.length ≤ c0) (h : laws_szValS.f l0 a1 = some r) :
  Calls Tryz.prog 32 #[.slice A0 l0.length c0,.int .i64 a1] w fun e w'=>e = .returned (.int .i64 r)∧Drawn0 w w':=by
 have HR0:=Aside0.mk hr0;have HC0:=Aside0.mk hc0;clear hr0 hc0;have H:=h;unfold laws_szValS.f at H;clear h;replace H:=sqj H;rcases H with ⟨c3,H⟩ | ⟨c3,H⟩
 ·have z0:=decide_eq_true c3;clear c3;obtain rfl:=Option.some.inj H;go_enter Tryz.func32,Tryz.ntmps32
  go_wp2
  go_ret
  exact ⟨sqE,sqD⟩
 have z0:=decide_eq_false c3;clear c3;obtain rfl:=Option.some.inj H;go_enter Tryz.func32,Tryz.ntmps32
 go_wp2
 go_ret
 exact ⟨sqE,sqD⟩

/-! ### laws_szIntS: function 99 -/
theorem laws_szIntS.calls (A0 : Option Addr) (c0 : Nat) (l0 : List Int) (a1 : Int) (r : Int) (w : World) (hr0 : Kd.C (Kd.int .i64) w A0 l0.length l0) (hc0 : l0.length ≤ c0) (h : laws_szIntS.f l0 a1 = some r) :
  Calls Tryz.prog 99 #[.slice A0 l0.length c0,.int .i64 a1] w fun e w'=>e = .returned (.int .i64 r)∧Drawn0 w w':=by
 have HR0:=Aside0.mk hr0;have HC0:=Aside0.mk hc0;clear hr0 hc0;have H:=h;unfold laws_szIntS.f at H;clear h;replace H:=sqj H;rcases H with ⟨c3,H⟩ | ⟨c3,H⟩
 ·have z0:=decide_eq_true c3;clear c3;obtain rfl:=Option.some.inj H;go_enter Tryz.func99,Tryz.ntmps99
  go_wp2
  go_ret
  exact ⟨sqE,sqD⟩
 have z0:=decide_eq_false c3;clear c3;obtain rfl:=Option.some.inj H;go_enter Tryz.func99,Tryz.ntmps99
 go_wp2
 go_ret
 exact ⟨sqE,sqD⟩

/-! ### laws_szRefVal: function 98 -/
theorem laws_szRefVal.calls (a0_0 : Bool) (A0_1 : Option Addr) (c0_1 : Nat) (l0_1 : List Int) (a0_2 : Int) (a0_3 : Int) (a0_4 : Int) (a0_5 : Int) (a1 : Int) (r : Int) (w : World) (hr0_1 : Kd.C (Kd.int .i64) w A0_1 l0_1.length l0_1) (hc0_1 : l0_1.length ≤ c0_1) (h : laws_szRefVal.f a0_0 l0_1 a0_2 a0_3 a0_4 a0_5 a1 = some r) :
  Calls Tryz.prog 98 #[.agg #[.bool a0_0,.slice A0_1 l0_1.length c0_1,.int .i64 a0_2,.int .i64 a0_3,.int .i64 a0_4,.int .i64 a0_5],.int .i64 a1] w fun e w'=>e = .returned (.int .i64 r)∧Below w.heap.size w w':=by
 have hu118:=Tryz.underlying118;have HR0_1:=Aside0.mk hr0_1;have HC0_1:=Aside0.mk hc0_1;clear hr0_1 hc0_1;have HB:=Aside0.mk (Below.refl w.heap.size w);have H:=h;unfold laws_szRefVal.f at H;clear h;replace H:=sqbi H;obtain ⟨t0,A3,H⟩:=H;(try dsimp only at H);replace H:=sqj H;rcases H with ⟨c4,H⟩ | ⟨c4,H⟩
 ·have z0:=decide_eq_true c4;clear c4;obtain rfl:=Option.some.inj H;go_enter Tryz.func98,Tryz.ntmps98;go_wp2_with (first | ((with_reducible refine gd 2 rfl ?_);refine sqX 2 #[.bool a0_0,.slice A0_1 l0_1.length c0_1,.int .i64 a0_2,.int .i64 a0_3,.int .i64 a0_4,.int .i64 a0_5] 118 HB ?_;clear HB;intro gb0 hg w5 hb B0 GW0 HB;clear hb hg;obtain ⟨_,_,_,_,_,_,_,_,_,_,_,_⟩:=sqc6 B0) | ((with_reducible refine gf 99 rfl ?_);refine sqLq rfl (some 8) Tryz.func99 (laws_szIntS.calls _ _ _ _ _ _ (sqC (Kd.C_below HR0_1.out HB.out)) HC0_1.out A3.out) ?_;intro nd))
  go_ret
  exact sqe HB
 have z0:=decide_eq_false c4;clear c4;obtain rfl:=Option.some.inj H;go_enter Tryz.func98,Tryz.ntmps98;go_wp2_with (first | ((with_reducible refine gd 2 rfl ?_);refine sqX 2 #[.bool a0_0,.slice A0_1 l0_1.length c0_1,.int .i64 a0_2,.int .i64 a0_3,.int .i64 a0_4,.int .i64 a0_5] 118 HB ?_;clear HB;intro gb0 hg w7 hb B0 GW0 HB;clear hb hg;obtain ⟨_,_,_,_,_,_,_,_,_,_,_,_⟩:=sqc6 B0) | ((with_reducible refine gf 99 rfl ?_);refine sqLq rfl (some 8) Tryz.func99 (laws_szIntS.calls _ _ _ _ _ _ (sqC (Kd.C_below HR0_1.out HB.out)) HC0_1.out A3.out) ?_;intro nd))
 go_ret
 exact sqe HB

/-! ### laws_szRefValS: function 33 -/
theorem laws_szRefValS.calls (k : Nat) (A0 : Option Addr) (c0 : Nat) (l0 : List (S118)) (a1 : Int) (r : Int) (w : World) (hr0 : Kd.C k118 w A0 l0.length l0) (hc0 : l0.length ≤ c0) (h : laws_szRefValS.f k l0 a1 = some r) :
  Calls Tryz.prog 33 #[.slice A0 l0.length c0,.int .i64 a1] w fun e w'=>e = .returned (.int .i64 r)∧Below w.heap.size w w':=by
 have hu118:=Tryz.underlying118;have HR0:=Aside0.mk hr0;have HC0:=Aside0.mk hc0;clear hr0 hc0;have HB:=Aside0.mk (Below.refl w.heap.size w);have H:=h;unfold laws_szRefValS.f at H;clear h;replace H:=sqj H;rcases H with ⟨c3,H⟩ | ⟨c3,H⟩
 ·have zd:=decide_eq_true c3;clear c3;obtain rfl:=Option.some.inj H;go_enter Tryz.func33,Tryz.ntmps33
  go_wp2
  go_ret
  exact sqe HB
 have zd:=decide_eq_false c3;clear c3;have H':=Aside0.mk H;clear H;go_enter Tryz.func33,Tryz.ntmps33
 go_wp2
 go_loopg [1,5] k (fun kq v1 v5 w'=>∃ (x0 : Int) (x1 : Int),v1 = .int .i64 x0∧v5 = .int .i64 x1∧Aside0 (laws_szRefValS.l0 kq l0 x0 x1 = some r)∧Aside0 (kq ≤ k)∧Aside0 (Below w.heap.size w w'))
 case atStart=>exact ⟨(wrap64 (a1 - (l0.length : Int))),(0),sqE,sqE,H',⟨Nat.le_refl _⟩,sqh HB⟩
 case round =>
  clear H';obtain ⟨x0,x1,rfl,rfl,HA,HK1,HB⟩:=hrel;cases gk with
  | zero=>exact absurd HA.out (by simp [laws_szRefValS.l0])
  | succ k1 =>
   have H:=HA.out;clear HA;simp only [laws_szRefValS.l0] at H;replace H:=sqi H;rcases H with ⟨c4,H⟩ | ⟨c4,H⟩
   ·have ze:=decide_eq_false c4;clear c4;obtain rfl:=Option.some.inj H
    go_wp2
    go_ret
    exact sqe HB
   have ze:=decide_eq_true c4;clear c4;replace H:=sqi H;rcases H with ⟨c5,H⟩ | ⟨c5,H⟩
   ·cases H
   have zj:=decide_eq_true c5;clear c5;replace H:=sqbi H;obtain ⟨t0,A6,H⟩:=H;(try dsimp only at H);replace H:=sqj H;rcases H with ⟨c7,H⟩ | ⟨c7,H⟩
   ·have zf:=decide_eq_true c7;clear c7;obtain rfl:=Option.some.inj H;have z0 : 0 ≤ (x1 : Int):=sqd;have z1 : x1 < (l0.length : Int):=sqd;obtain ⟨zg,zh,zi,za,z2,z3,z4,z5,z6,z7,z8,z9⟩:=at_T118 HR0.out x1 z0 z1;cases za;replace z2:=sqa HB z2;replace z3:=sqa HB z3;replace z4:=sqa HB z4;replace z5:=sqa HB z5;replace z6:=sqa HB z6;replace z7:=sqa HB z7;have zb:=Aside0.mk z9;have zc:=Aside0.mk z8;clear z9 z8;replace z0:=eq_true z0;replace z1:=eq_true z1;go_wp2_with (first | ((with_reducible refine gf 98 rfl ?_);refine sqLb rfl (some 23) Tryz.func98 (laws_szRefVal.calls _ _ _ _ _ _ _ _ _ _ _ (sqC (Kd.C_below zb.out HB.out)) zc.out A6.out) ?_;intro w8 hb;replace HB:=sqs HB hb;(try clear hb)))
    go_ret
    exact sqe HB
   have zf:=decide_eq_false c7;clear c7;have H':=Aside0.mk H;clear H;have z0 : 0 ≤ (x1 : Int):=sqd;have z1 : x1 < (l0.length : Int):=sqd;obtain ⟨zg,zh,zi,za,z2,z3,z4,z5,z6,z7,z8,z9⟩:=at_T118 HR0.out x1 z0 z1;cases za;replace z2:=sqa HB z2;replace z3:=sqa HB z3;replace z4:=sqa HB z4;replace z5:=sqa HB z5;replace z6:=sqa HB z6;replace z7:=sqa HB z7;have zb:=Aside0.mk z9;have zc:=Aside0.mk z8;clear z9 z8;replace z0:=eq_true z0;replace z1:=eq_true z1;go_wp2_with (first | ((with_reducible refine gf 98 rfl ?_);refine sqLb rfl (some 23) Tryz.func98 (laws_szRefVal.calls _ _ _ _ _ _ _ _ _ _ _ (sqC (Kd.C_below zb.out HB.out)) zc.out A6.out) ?_;intro w9 hb;replace HB:=sqs HB hb;(try clear hb)));go_roundg k1
   case measure=>have:=HK1.out;omega
   case rel=>exact ⟨(t0),(wrap64 (x1 + 1)),sqE,sqE,H',⟨by have:=HK1.out;omega⟩,sqh HB⟩

/-! ### laws_szGaps: function 34 -/
theorem laws_szGaps.calls (a0_0 : Int) (A0_1 : Option Addr) (c0_1 : Nat) (l0_1 : List Int) (a1 : Int) (r : Int) (w : World) (hr0_1 : Kd.C (Kd.int .i64) w A0_1 l0_1.length l0_1) (hc0_1 : l0_1.length ≤ c0_1) (h : laws_szGaps.f a0_0 l0_1 a1 = some r) :
  Calls Tryz.prog 34 #[.agg #[.int .i64 a0_0,.slice A0_1 l0_1.length c0_1],.int .i64 a1] w fun e w'=>e = .returned (.int .i64 r)∧Below w.heap.size w w':=by
 have hu26:=Tryz.underlying26;have HR0_1:=Aside0.mk hr0_1;have HC0_1:=Aside0.mk hc0_1;clear hr0_1 hc0_1;have HB:=Aside0.mk (Below.refl w.heap.size w);have H:=h;unfold laws_szGaps.f at H;clear h;replace H:=sqbi H;obtain ⟨t0,A3,H⟩:=H;(try dsimp only at H);replace H:=sqj H;rcases H with ⟨c4,H⟩ | ⟨c4,H⟩
 ·have z0:=decide_eq_true c4;clear c4;obtain rfl:=Option.some.inj H;go_enter Tryz.func34,Tryz.ntmps34;go_wp2_with (first | ((with_reducible refine gd 2 rfl ?_);refine sqX 2 #[.int .i64 a0_0,.slice A0_1 l0_1.length c0_1] 26 HB ?_;clear HB;intro gb0 hg w5 hb B0 GW0 HB;clear hb hg;obtain ⟨_,_,_,_⟩:=sqc2 B0) | ((with_reducible refine gf 99 rfl ?_);refine sqLq rfl (some 8) Tryz.func99 (laws_szIntS.calls _ _ _ _ _ _ (sqC (Kd.C_below HR0_1.out HB.out)) HC0_1.out A3.out) ?_;intro nd))
  go_ret
  exact sqe HB
 have z0:=decide_eq_false c4;clear c4;obtain rfl:=Option.some.inj H;go_enter Tryz.func34,Tryz.ntmps34;go_wp2_with (first | ((with_reducible refine gd 2 rfl ?_);refine sqX 2 #[.int .i64 a0_0,.slice A0_1 l0_1.length c0_1] 26 HB ?_;clear HB;intro gb0 hg w7 hb B0 GW0 HB;clear hb hg;obtain ⟨_,_,_,_⟩:=sqc2 B0) | ((with_reducible refine gf 99 rfl ?_);refine sqLq rfl (some 8) Tryz.func99 (laws_szIntS.calls _ _ _ _ _ _ (sqC (Kd.C_below HR0_1.out HB.out)) HC0_1.out A3.out) ?_;intro nd))
 go_ret
 exact sqe HB

/-! ### laws_szAbs: function 8 -/
theorem laws_szAbs.calls (k : Nat) (a0_0 : Bool) (A0_1 : Option Addr) (c0_1 : Nat) (l0_1 : List (S116)) (A0_2 : Option Addr) (c0_2 : Nat) (l0_2 : List (S118)) (A0_3 : Option Addr) (c0_3 : Nat) (l0_3 : List (S116)) (a0_4 : Int) (A0_5 : Option Addr) (c0_5 : Nat) (l0_5 : List Int) (a1 : Int) (r : Int) (w : World) (hr0_1 : Kd.C k116 w A0_1 l0_1.length l0_1) (hc0_1 : l0_1.length ≤ c0_1) (hr0_2 : Kd.C k118 w A0_2 l0_2.length l0_2) (hc0_2 : l0_2.length ≤ c0_2) (hr0_3 : Kd.C k116 w A0_3 l0_3.length l0_3) (hc0_3 : l0_3.length ≤ c0_3) (hr0_5 : Kd.C (Kd.int .i64) w A0_5 l0_5.length l0_5) (hc0_5 : l0_5.length ≤ c0_5) (h : laws_szAbs.f k a0_0 l0_1 l0_2 l0_3 a0_4 l0_5 a1 = some r) :
  Calls Tryz.prog 8 #[.agg #[.bool a0_0,.slice A0_1 l0_1.length c0_1,.slice A0_2 l0_2.length c0_2,.slice A0_3 l0_3.length c0_3,.int .i64 a0_4,.slice A0_5 l0_5.length c0_5],.int .i64 a1] w fun e w'=>e = .returned (.int .i64 r)∧Below w.heap.size w w':=by
 have hu28:=Tryz.underlying28;have hu26:=Tryz.underlying26;have HR0_1:=Aside0.mk hr0_1;have HC0_1:=Aside0.mk hc0_1;clear hr0_1 hc0_1;have HR0_2:=Aside0.mk hr0_2;have HC0_2:=Aside0.mk hc0_2;clear hr0_2 hc0_2;have HR0_3:=Aside0.mk hr0_3;have HC0_3:=Aside0.mk hc0_3;clear hr0_3 hc0_3;have HR0_5:=Aside0.mk hr0_5;have HC0_5:=Aside0.mk hc0_5;clear hr0_5 hc0_5;have HB:=Aside0.mk (Below.refl w.heap.size w);have H:=h;unfold laws_szAbs.f at H;clear h;replace H:=sqbi H;obtain ⟨t0,A3,H⟩:=H;(try dsimp only at H);replace H:=sqj H;rcases H with ⟨c4,H⟩ | ⟨c4,H⟩
 ·have z0:=decide_eq_true c4;clear c4;obtain rfl:=Option.some.inj H;go_enter Tryz.func8,Tryz.ntmps8;go_wp2_with (first | ((with_reducible refine gd 2 rfl ?_);refine sqX 2 #[.bool a0_0,.slice A0_1 l0_1.length c0_1,.slice A0_2 l0_2.length c0_2,.slice A0_3 l0_3.length c0_3,.int .i64 a0_4,.slice A0_5 l0_5.length c0_5] 28 HB ?_;clear HB;intro gb0 hg w5 hb B0 GW0 HB;clear hb hg;obtain ⟨_,_,_,_,_,_,_,_,_,_,_,_⟩:=sqc6 B0) | ((with_reducible refine gf 32 rfl ?_);refine sqLq rfl (some 8) Tryz.func32 (laws_szValS.calls _ _ _ _ _ _ (sqC (Kd.C_below HR0_1.out HB.out)) HC0_1.out A3.out) ?_;intro nd))
  go_ret
  exact sqe HB
 have z0:=decide_eq_false c4;clear c4;replace H:=sqbi H;obtain ⟨t1,A7,H⟩:=H;(try dsimp only at H);replace H:=sqj H;rcases H with ⟨c8,H⟩ | ⟨c8,H⟩
 ·have z1:=decide_eq_true c8;clear c8;obtain rfl:=Option.some.inj H;go_enter Tryz.func8,Tryz.ntmps8;go_wp2_with (first | ((with_reducible refine gd 2 rfl ?_);refine sqX 2 #[.bool a0_0,.slice A0_1 l0_1.length c0_1,.slice A0_2 l0_2.length c0_2,.slice A0_3 l0_3.length c0_3,.int .i64 a0_4,.slice A0_5 l0_5.length c0_5] 28 HB ?_;clear HB;intro gb0 hg w9 hb B0 GW0 HB;clear hb hg;obtain ⟨_,_,_,_,_,_,_,_,_,_,_,_⟩:=sqc6 B0) | ((with_reducible refine gf 32 rfl ?_);refine sqLq rfl (some 8) Tryz.func32 (laws_szValS.calls _ _ _ _ _ _ (sqC (Kd.C_below HR0_1.out HB.out)) HC0_1.out A3.out) ?_;intro nd) | ((with_reducible refine gf 33 rfl ?_);refine sqLb rfl (some 14) Tryz.func33 (laws_szRefValS.calls _ _ _ _ _ _ _ (sqC (Kd.C_below HR0_2.out (sqB HB))) HC0_2.out A7.out) ?_;intro w11 hb;replace B0:=sqb B0 hb;replace HB:=sqs HB hb;(try clear hb)))
  go_ret
  exact sqe HB
 have z1:=decide_eq_false c8;clear c8;replace H:=sqbi H;obtain ⟨t2,A12,H⟩:=H;(try dsimp only at H);replace H:=sqj H;rcases H with ⟨c13,H⟩ | ⟨c13,H⟩
 ·have z2:=decide_eq_true c13;clear c13;obtain rfl:=Option.some.inj H;go_enter Tryz.func8,Tryz.ntmps8;go_wp2_with (first | ((with_reducible refine gd 2 rfl ?_);refine sqX 2 #[.bool a0_0,.slice A0_1 l0_1.length c0_1,.slice A0_2 l0_2.length c0_2,.slice A0_3 l0_3.length c0_3,.int .i64 a0_4,.slice A0_5 l0_5.length c0_5] 28 HB ?_;clear HB;intro gb0 hg w14 hb B0 GW0 HB;clear hb hg;obtain ⟨_,_,_,_,_,_,_,_,_,_,_,_⟩:=sqc6 B0) | ((with_reducible refine gf 32 rfl ?_);refine sqLq rfl (some 8) Tryz.func32 (laws_szValS.calls _ _ _ _ _ _ (sqC (Kd.C_below HR0_1.out HB.out)) HC0_1.out A3.out) ?_;intro nd) | ((with_reducible refine gf 33 rfl ?_);refine sqLb rfl (some 14) Tryz.func33 (laws_szRefValS.calls _ _ _ _ _ _ _ (sqC (Kd.C_below HR0_2.out (sqB HB))) HC0_2.out A7.out) ?_;intro w16 hb;replace B0:=sqb B0 hb;replace HB:=sqs HB hb;(try clear hb);obtain ⟨_,_,_,_,_,_,_,_,_,_,_,_⟩:=sqc6 B0) | ((with_reducible refine gf 32 rfl ?_);refine sqLq rfl (some 20) Tryz.func32 (laws_szValS.calls _ _ _ _ _ _ (sqC (Kd.C_below HR0_3.out HB.out)) HC0_3.out A12.out) ?_;intro nd))
  go_ret
  exact sqe HB
 have z2:=decide_eq_false c13;clear c13;replace H:=sqbi H;obtain ⟨t3,A18,H⟩:=H;(try dsimp only at H);replace H:=sqj H;rcases H with ⟨c19,H⟩ | ⟨c19,H⟩
 ·have z3:=decide_eq_true c19;clear c19;obtain rfl:=Option.some.inj H;go_enter Tryz.func8,Tryz.ntmps8;go_wp2_with (first | ((with_reducible refine gd 2 rfl ?_);refine sqX 2 #[.bool a0_0,.slice A0_1 l0_1.length c0_1,.slice A0_2 l0_2.length c0_2,.slice A0_3 l0_3.length c0_3,.int .i64 a0_4,.slice A0_5 l0_5.length c0_5] 28 HB ?_;clear HB;intro gb0 hg w20 hb B0 GW0 HB;clear hb hg;obtain ⟨_,_,_,_,_,_,_,_,_,_,_,_⟩:=sqc6 B0) | ((with_reducible refine gf 32 rfl ?_);refine sqLq rfl (some 8) Tryz.func32 (laws_szValS.calls _ _ _ _ _ _ (sqC (Kd.C_below HR0_1.out HB.out)) HC0_1.out A3.out) ?_;intro nd) | ((with_reducible refine gf 33 rfl ?_);refine sqLb rfl (some 14) Tryz.func33 (laws_szRefValS.calls _ _ _ _ _ _ _ (sqC (Kd.C_below HR0_2.out (sqB HB))) HC0_2.out A7.out) ?_;intro w22 hb;replace B0:=sqb B0 hb;replace HB:=sqs HB hb;(try clear hb);obtain ⟨_,_,_,_,_,_,_,_,_,_,_,_⟩:=sqc6 B0) | ((with_reducible refine gf 32 rfl ?_);refine sqLq rfl (some 20) Tryz.func32 (laws_szValS.calls _ _ _ _ _ _ (sqC (Kd.C_below HR0_3.out HB.out)) HC0_3.out A12.out) ?_;intro nd) | ((with_reducible refine gf 34 rfl ?_);refine sqLb rfl (some 26) Tryz.func34 (laws_szGaps.calls _ _ _ _ _ _ _ (sqC (Kd.C_below HR0_5.out (sqB HB))) HC0_5.out A18.out) ?_;intro w24 hb;replace B0:=sqb B0 hb;replace HB:=sqs HB hb;(try clear hb)))
  go_ret
  exact sqe HB
 have z3:=decide_eq_false c19;clear c19;obtain rfl:=Option.some.inj H;go_enter Tryz.func8,Tryz.ntmps8;go_wp2_with (first | ((with_reducible refine gd 2 rfl ?_);refine sqX 2 #[.bool a0_0,.slice A0_1 l0_1.length c0_1,.slice A0_2 l0_2.length c0_2,.slice A0_3 l0_3.length c0_3,.int .i64 a0_4,.slice A0_5 l0_5.length c0_5] 28 HB ?_;clear HB;intro gb0 hg w25 hb B0 GW0 HB;clear hb hg;obtain ⟨_,_,_,_,_,_,_,_,_,_,_,_⟩:=sqc6 B0) | ((with_reducible refine gf 32 rfl ?_);refine sqLq rfl (some 8) Tryz.func32 (laws_szValS.calls _ _ _ _ _ _ (sqC (Kd.C_below HR0_1.out HB.out)) HC0_1.out A3.out) ?_;intro nd) | ((with_reducible refine gf 33 rfl ?_);refine sqLb rfl (some 14) Tryz.func33 (laws_szRefValS.calls _ _ _ _ _ _ _ (sqC (Kd.C_below HR0_2.out (sqB HB))) HC0_2.out A7.out) ?_;intro w27 hb;replace B0:=sqb B0 hb;replace HB:=sqs HB hb;(try clear hb);obtain ⟨_,_,_,_,_,_,_,_,_,_,_,_⟩:=sqc6 B0) | ((with_reducible refine gf 32 rfl ?_);refine sqLq rfl (some 20) Tryz.func32 (laws_szValS.calls _ _ _ _ _ _ (sqC (Kd.C_below HR0_3.out HB.out)) HC0_3.out A12.out) ?_;intro nd) | ((with_reducible refine gf 34 rfl ?_);refine sqLb rfl (some 26) Tryz.func34 (laws_szGaps.calls _ _ _ _ _ _ _ (sqC (Kd.C_below HR0_5.out (sqB HB))) HC0_5.out A18.out) ?_;intro w29 hb;replace B0:=sqb B0 hb;replace HB:=sqs HB hb;(try clear hb)))
 go_ret
 exact sqe HB

/-! ### spec_l10None: function 93 -/
theorem spec_l10None.calls  (r1 : Int) (r2 : Int) (r3 : Int) (r4 : Int) (w : World) (h : spec_l10None.f  = some (r1,r2,r3,r4)) :
  Calls Tryz.prog 93 #[] w fun e w'=>e = .returned (.agg #[.int .i64 r1,.int .i64 r2,.int .i64 r3,.int .i64 r4])∧Below w.heap.size w w':=by
 have hu58:=Tryz.underlying58;have HB:=Aside0.mk (Below.refl w.heap.size w);have H:=h;unfold spec_l10None.f at H;clear h;simp only [Option.some.injEq,Prod.mk.injEq] at H;obtain ⟨rfl,rfl,rfl,rfl⟩:=H;go_enter Tryz.func93,Tryz.ntmps93;go_wp2_with (first | ((with_reducible refine gd 0 rfl ?_);refine sqX 0 #[.int .i64 0,.int .i64 0,.int .i64 0,.int .i64 0] 58 HB ?_;clear HB;intro gb0 hg w1 hb B0 GW0 HB;clear hb hg;obtain ⟨_,_,_,_,_,_,_,_⟩:=sqc4 B0));refine sqre #[.int .i64 1,.int .i64 0,.int .i64 0,.int .i64 0] (sqP B0) Tryz.underlying58 ?_;exact sqe HB

/-! ### spec_l10One: function 123 -/
theorem spec_l10One.calls (a0 : Int) (r1 : Int) (r2 : Int) (r3 : Int) (r4 : Int) (w : World) (h : spec_l10One.f a0 = some (r1,r2,r3,r4)) :
  Calls Tryz.prog 123 #[.int .i64 a0] w fun e w'=>e = .returned (.agg #[.int .i64 r1,.int .i64 r2,.int .i64 r3,.int .i64 r4])∧Below w.heap.size w w':=by
 have hu58:=Tryz.underlying58;have HB:=Aside0.mk (Below.refl w.heap.size w);have H:=h;unfold spec_l10One.f at H;clear h;simp only [Option.some.injEq,Prod.mk.injEq] at H;obtain ⟨rfl,rfl,rfl,rfl⟩:=H;go_enter Tryz.func123,Tryz.ntmps123;go_wp2_with (first | ((with_reducible refine gd 2 rfl ?_);refine sqX 2 #[.int .i64 0,.int .i64 0,.int .i64 0,.int .i64 0] 58 HB ?_;clear HB;intro gb0 hg w2 hb B0 GW0 HB;clear hb hg;obtain ⟨_,_,_,_,_,_,_,_⟩:=sqc4 B0));refine sqre #[.int .i64 a0,.int .i64 a0,.int .i64 0,.int .i64 a0] (sqP B0) Tryz.underlying58 ?_;exact sqe HB

/-! ### spec_l1In: function 120 -/
theorem spec_l1In.calls (a0 : Int) (a1 : Int) (a2 : Int) (r : Bool) (w : World) (h : spec_l1In.f a0 a1 a2 = some r) :
  Calls Tryz.prog 120 #[.int .i64 a0,.int .i64 a1,.int .i64 a2] w fun e w'=>e = .returned (.bool r)∧Drawn0 w w':=by
 have H:=h;unfold spec_l1In.f at H;clear h;replace H:=sqj H;rcases H with ⟨c4,H⟩ | ⟨c4,H⟩
 ·have z0 : decide (a1 ≤ a0) = true:=decide_eq_true c4;clear c4;obtain rfl:=Option.some.inj H;go_enter Tryz.func120,Tryz.ntmps120
  go_wp2
  go_ret
  exact ⟨sqE,sqD⟩
 have z0 : decide (a1 ≤ a0) = false:=decide_eq_false c4;clear c4;obtain rfl:=Option.some.inj H;go_enter Tryz.func120,Tryz.ntmps120
 go_wp2
 go_ret
 exact ⟨sqE,sqD⟩

/-! ### spec_NumOk: function 133 -/
theorem spec_NumOk.calls (a0 : Int) (r : Bool) (w : World) (h : spec_NumOk.f a0 = some r) :
  Calls Tryz.prog 133 #[.int .i64 a0] w fun e w'=>e = .returned (.bool r)∧Drawn0 w w':=by
 have H:=h;unfold spec_NumOk.f at H;clear h;replace H:=sqbi H;obtain ⟨t0,A2,H⟩:=H;(try dsimp only at H);obtain rfl:=Option.some.inj H;go_enter Tryz.func133,Tryz.ntmps133;go_wp2_with (first | ((with_reducible refine gf 120 rfl ?_);refine sqLq rfl (some 4) Tryz.func120 (spec_l1In.calls _ _ _ _ _ A2.out) ?_;intro nd))
 go_ret
 exact ⟨sqE,sqD⟩

/-! ### spec_l8None: function 156 -/
theorem spec_l8None.calls  (r1 : Int) (r2 : Int) (w : World) (h : spec_l8None.f  = some (r1,r2)) :
  Calls Tryz.prog 156 #[] w fun e w'=>e = .returned (.agg #[.int .i64 r1,.int .i64 r2])∧Below w.heap.size w w':=by
 have hu108:=Tryz.underlying108;have HB:=Aside0.mk (Below.refl w.heap.size w);have H:=h;unfold spec_l8None.f at H;clear h;simp only [Option.some.injEq,Prod.mk.injEq] at H;obtain ⟨rfl,rfl⟩:=H;go_enter Tryz.func156,Tryz.ntmps156;go_wp2_with (first | ((with_reducible refine gd 0 rfl ?_);refine sqX 0 #[.int .i64 0,.int .i64 0] 108 HB ?_;clear HB;intro gb0 hg w1 hb B0 GW0 HB;clear hb hg;obtain ⟨_,_,_,_⟩:=sqc2 B0));refine sqre #[.int .i64 1,.int .i64 0] (sqP B0) Tryz.underlying108 ?_;exact sqe HB

attribute [local go_sem high] eqA108
/-! ### spec_RangeOk: function 154 -/
def spec_RangeOk.T1 : Bool × List (List Nat × List Nat):=(true,[([],[]),([],[]),([0,1],[0,1]),([2,1],[2]),([3],[3]),([4,3],[3,4]),([5,3,3],[3,5]),([6,6,3],[3,6]),([7],[7]),([8,7],[7,8]),([9,7,7],[7,9]),([7,10,3],[3,7,10]),([11,10,3],[3,11]),([12],[12]),([13,12],[12,13]),([12],[12]),([15,12],[12,15]),([14,16,12],[12,14,16]),([12,17,3],[3,12,17]),([3,18],[3,18]),([19,12,0,1,2,3,4,5,6,7,8,9,10,11,12,13,14,15,16,17,18,19],[19])])
def spec_RangeOk.B1 : List Nat:=[0,0,3,7,15,31,63,127,255,511,1023,2047,4095,8191,16383,8191,40959,131071,262143,524287,1048575]
theorem spec_RangeOk.tab1 : rtab .any (opsOf Tryz.f154 1) = spec_RangeOk.T1:=by kernel_rfl
theorem spec_RangeOk.bits1 : waitsOk spec_RangeOk.T1.2 spec_RangeOk.B1 = true:=by kernel_rfl
theorem spec_RangeOk.calls (a0_0 : Int) (a0_1 : Int) (r : Bool) (w : World) (h : spec_RangeOk.f a0_0 a0_1 = some r) :
  Calls Tryz.prog 154 #[.agg #[.int .i64 a0_0,.int .i64 a0_1]] w fun e w'=>e = .returned (.bool r)∧Below w.heap.size w w':=by
 have hu108:=Tryz.underlying108;have HB:=Aside0.mk (Below.refl w.heap.size w);have H:=h;unfold spec_RangeOk.f at H;clear h;replace H:=sqbi H;obtain ⟨⟨t0,t1⟩,A2,H⟩:=H;(try dsimp only at H);replace H:=sqj H;rcases H with ⟨c3,H⟩ | ⟨c3,H⟩
 ·have z0 : (a0_0 == t0 && (a0_1 == t1)) = true:=c3
  (try (have z1 : decide (a0_0 = t0 && (a0_1 == t1)) = true:=by simpa using c3))
  (try (have z2 : (a0_0 == t0 && (a0_1 == t1)) = true:=by simpa using c3))
  clear c3;obtain rfl:=Option.some.inj H;go_enter Tryz.func154,Tryz.ntmps154
  try go_wp2_with (first | ((with_reducible refine gd 1 rfl ?_);refine sqX 1 #[.int .i64 a0_0,.int .i64 a0_1] 108 HB ?_;clear HB;intro gb0 hg w4 hb B0 GW0 HB;clear hb hg))
  replace B0:=sqdr B0;replace HB:=sqdB HB;refine sqst 21 (fun w'=>Ce2 w' gb0 (.int .i64 a0_0) (.int .i64 a0_1)) sqz (fun hHeld=>?_);refine with_tabW spec_RangeOk.tab1 spec_RangeOk.bits1 (fun HT_ HW_=>?_);generalize w4.drew = w5 at B0 HB hHeld ⊢;refine sqw HT_ HW_ 0 3 hHeld ?_;refine sqo HT_ 1 4 (fun K hK=>?_);refine sqGb rfl Tryz.func156 (spec_l8None.calls _ _ _ A2.out) ?_;intro w6 hb;replace B0:=sqb B0 hb;replace HB:=sqs HB hb;(try clear hb);refine hK.out _ _ sqz (fun hHeld=>?_);clear hK K;refine sqnm ?_;refine sqp HT_ 2 5 ?_;refine sqp HT_ 3 6 ?_;refine sqpu HT_ 4 7 ?_;refine sqpu HT_ 5 8 ?_;refine sqpu HT_ 6 9 ?_;refine sqpu HT_ 7 10 ?_;refine sqpu HT_ 8 11 ?_;refine sqpu HT_ 9 12 ?_;refine sqpu HT_ 10 13 ?_;refine sqpu HT_ 11 14 ?_;refine sqpu HT_ 12 15 ?_;refine sqpu HT_ 13 16 ?_;refine sqpu HT_ 14 17 ?_;refine sqpu HT_ 15 18 ?_;refine sqpu HT_ 16 19 ?_;refine sqpu HT_ 17 20 ?_;refine sqpu HT_ 18 21 ?_;refine sqp HT_ 19 22 ?_;refine sqp HT_ 20 2 ?_;refine done_ (done_of HT_.out (by kernel_rfl)) ?_
  try go_wp2
  go_ret
  exact sqe HB
 have z0 : (a0_0 == t0 && (a0_1 == t1)) = false:=by simpa using c3
 (try (have z1 : decide (a0_0 = t0 && (a0_1 == t1)) = false:=by simpa using c3))
 (try (have z2 : (a0_0 == t0 && (a0_1 == t1)) = false:=by simpa using c3))
 (try (have z3 : ¬ (a0_0 = t0 && (a0_1 == t1)):=by simpa using c3))
 clear c3;replace H:=sqbi H;obtain ⟨t2,A7,H⟩:=H;(try dsimp only at H);rcases sqI (t2 = true) with c8 | c8
 ·replace c8:=Bool.eq_false_iff.mpr c8;subst c8;rw [sqff] at H;obtain rfl:=Option.some.inj H;go_enter Tryz.func154,Tryz.ntmps154
  try go_wp2_with (first | ((with_reducible refine gd 1 rfl ?_);refine sqX 1 #[.int .i64 a0_0,.int .i64 a0_1] 108 HB ?_;clear HB;intro gb0 hg w17 hb B0 GW0 HB;clear hb hg))
  replace B0:=sqdr B0;replace HB:=sqdB HB;refine sqst 21 (fun w'=>Ce2 w' gb0 (.int .i64 a0_0) (.int .i64 a0_1)) sqz (fun hHeld=>?_);refine with_tabW spec_RangeOk.tab1 spec_RangeOk.bits1 (fun HT_ HW_=>?_);generalize w17.drew = w18 at B0 HB hHeld ⊢;refine sqw HT_ HW_ 0 3 hHeld ?_;refine sqo HT_ 1 4 (fun K hK=>?_);refine sqGb rfl Tryz.func156 (spec_l8None.calls _ _ _ A2.out) ?_;intro w19 hb;replace B0:=sqb B0 hb;replace HB:=sqs HB hb;(try clear hb);refine hK.out _ _ sqz (fun hHeld=>?_);clear hK K;refine sqnm ?_;refine sqp HT_ 2 5 ?_;refine sqp HT_ 3 6 ?_;refine sqp HT_ 4 7 ?_;refine sqw HT_ HW_ 5 8 hHeld ?_;refine sqo HT_ 6 9 (fun K hK=>?_);refine sqGq rfl Tryz.func133 (spec_NumOk.calls _ _ _ A7.out) ?_;intro nd;refine hK.out _ _ sqz (fun hHeld=>?_);clear hK K;refine sqnm ?_;refine sqp HT_ 7 10 ?_;refine sqpu HT_ 8 11 ?_;refine sqpu HT_ 9 12 ?_;refine sqpu HT_ 10 13 ?_;refine sqp HT_ 11 14 ?_;refine sqp HT_ 12 15 ?_;refine sqpu HT_ 13 16 ?_;refine sqpu HT_ 14 17 ?_;refine sqpu HT_ 15 18 ?_;refine sqpu HT_ 16 19 ?_;refine sqpu HT_ 17 20 ?_;refine sqp HT_ 18 21 ?_;refine sqp HT_ 19 22 ?_;refine sqp HT_ 20 2 ?_;refine done_ (done_of HT_.out (by kernel_rfl)) ?_
  try go_wp2
  go_ret
  exact sqe HB
 subst c8;rw [if_pos rfl] at H;replace H:=sqbi H;obtain ⟨t3,A9,H⟩:=H;(try dsimp only at H)
 by_cases c10 : t3 = true
 ·subst c10;rw [if_pos rfl] at H;obtain rfl:=Option.some.inj H;go_enter Tryz.func154,Tryz.ntmps154
  try go_wp2_with (first | ((with_reducible refine gd 1 rfl ?_);refine sqX 1 #[.int .i64 a0_0,.int .i64 a0_1] 108 HB ?_;clear HB;intro gb0 hg w11 hb B0 GW0 HB;clear hb hg))
  replace B0:=sqdr B0;replace HB:=sqdB HB;refine sqst 21 (fun w'=>Ce2 w' gb0 (.int .i64 a0_0) (.int .i64 a0_1)) sqz (fun hHeld=>?_);refine with_tabW spec_RangeOk.tab1 spec_RangeOk.bits1 (fun HT_ HW_=>?_);generalize w11.drew = w12 at B0 HB hHeld ⊢;refine sqw HT_ HW_ 0 3 hHeld ?_;refine sqo HT_ 1 4 (fun K hK=>?_);refine sqGb rfl Tryz.func156 (spec_l8None.calls _ _ _ A2.out) ?_;intro w13 hb;replace B0:=sqb B0 hb;replace HB:=sqs HB hb;(try clear hb);refine hK.out _ _ sqz (fun hHeld=>?_);clear hK K;refine sqnm ?_;refine sqp HT_ 2 5 ?_;refine sqp HT_ 3 6 ?_;refine sqp HT_ 4 7 ?_;refine sqw HT_ HW_ 5 8 hHeld ?_;refine sqo HT_ 6 9 (fun K hK=>?_);refine sqGq rfl Tryz.func133 (spec_NumOk.calls _ _ _ A7.out) ?_;intro nd;refine hK.out _ _ sqz (fun hHeld=>?_);clear hK K;refine sqnm ?_;refine sqp HT_ 7 10 ?_;refine sqp HT_ 8 11 ?_;refine sqw HT_ HW_ 9 12 hHeld ?_;refine sqo HT_ 10 13 (fun K hK=>?_);refine sqGq rfl Tryz.func133 (spec_NumOk.calls _ _ _ A9.out) ?_;intro nd;refine hK.out _ _ sqz (fun hHeld=>?_);clear hK K;refine sqnm ?_;refine sqp HT_ 11 14 ?_;refine sqp HT_ 12 15 ?_;refine sqp HT_ 13 16 ?_;refine sqp HT_ 15 18 ?_;refine sqw HT_ HW_ 14 17 hHeld ?_;refine sqw HT_ HW_ 16 19 hHeld ?_;refine sqp HT_ 17 20 ?_;refine sqp HT_ 18 21 ?_;refine sqp HT_ 19 22 ?_;refine sqp HT_ 20 2 ?_;refine done_ (done_of HT_.out (by kernel_rfl)) ?_
  try go_wp2
  go_ret
  exact sqe HB
 replace c10:=Bool.eq_false_iff.mpr c10;subst c10;rw [sqff] at H;obtain rfl:=Option.some.inj H;go_enter Tryz.func154,Tryz.ntmps154
 try go_wp2_with (first | ((with_reducible refine gd 1 rfl ?_);refine sqX 1 #[.int .i64 a0_0,.int .i64 a0_1] 108 HB ?_;clear HB;intro gb0 hg w14 hb B0 GW0 HB;clear hb hg))
 replace B0:=sqdr B0;replace HB:=sqdB HB;refine sqst 21 (fun w'=>Ce2 w' gb0 (.int .i64 a0_0) (.int .i64 a0_1)) sqz (fun hHeld=>?_);refine with_tabW spec_RangeOk.tab1 spec_RangeOk.bits1 (fun HT_ HW_=>?_);generalize w14.drew = w15 at B0 HB hHeld ⊢;refine sqw HT_ HW_ 0 3 hHeld ?_;refine sqo HT_ 1 4 (fun K hK=>?_);refine sqGb rfl Tryz.func156 (spec_l8None.calls _ _ _ A2.out) ?_;intro w16 hb;replace B0:=sqb B0 hb;replace HB:=sqs HB hb;(try clear hb);refine hK.out _ _ sqz (fun hHeld=>?_);clear hK K;refine sqnm ?_;refine sqp HT_ 2 5 ?_;refine sqp HT_ 3 6 ?_;refine sqp HT_ 4 7 ?_;refine sqw HT_ HW_ 5 8 hHeld ?_;refine sqo HT_ 6 9 (fun K hK=>?_);refine sqGq rfl Tryz.func133 (spec_NumOk.calls _ _ _ A7.out) ?_;intro nd;refine hK.out _ _ sqz (fun hHeld=>?_);clear hK K;refine sqnm ?_;refine sqp HT_ 7 10 ?_;refine sqp HT_ 8 11 ?_;refine sqw HT_ HW_ 9 12 hHeld ?_;refine sqo HT_ 10 13 (fun K hK=>?_);refine sqGq rfl Tryz.func133 (spec_NumOk.calls _ _ _ A9.out) ?_;intro nd;refine hK.out _ _ sqz (fun hHeld=>?_);clear hK K;refine sqnm ?_;refine sqp HT_ 11 14 ?_;refine sqp HT_ 12 15 ?_;refine sqpu HT_ 13 16 ?_;refine sqpu HT_ 14 17 ?_;refine sqpu HT_ 15 18 ?_;refine sqpu HT_ 16 19 ?_;refine sqpu HT_ 17 20 ?_;refine sqp HT_ 18 21 ?_;refine sqp HT_ 19 22 ?_;refine sqp HT_ 20 2 ?_;refine done_ (done_of HT_.out (by kernel_rfl)) ?_
 try go_wp2
 go_ret
 exact sqe HB

/-! ### spec_RangeHas: function 128 -/
theorem spec_RangeHas.calls (a0_0 : Int) (a0_1 : Int) (a1 : Int) (r : Bool) (w : World) (h : spec_RangeHas.f a0_0 a0_1 a1 = some r) :
  Calls Tryz.prog 128 #[.agg #[.int .i64 a0_0,.int .i64 a0_1],.int .i64 a1] w fun e w'=>e = .returned (.bool r)∧Below w.heap.size w w':=by
 have hu108:=Tryz.underlying108;have HB:=Aside0.mk (Below.refl w.heap.size w);have H:=h;unfold spec_RangeHas.f at H;clear h;replace H:=sqbi H;obtain ⟨t0,A3,H⟩:=H;(try dsimp only at H);rcases sqI (t0 = true) with c4 | c4
 ·replace c4:=Bool.eq_false_iff.mpr c4;subst c4;rw [sqff] at H;obtain rfl:=Option.some.inj H;go_enter Tryz.func128,Tryz.ntmps128;go_wp2_with (first | ((with_reducible refine gd 2 rfl ?_);refine sqX 2 #[.int .i64 a0_0,.int .i64 a0_1] 108 HB ?_;clear HB;intro gb0 hg w10 hb B0 GW0 HB;clear hb hg;obtain ⟨_,_,_,_⟩:=sqc2 B0) | ((with_reducible refine gf 154 rfl ?_);refine sqLb rfl (some 6) Tryz.func154 (spec_RangeOk.calls _ _ _ _ A3.out) ?_;intro w12 hb;replace B0:=sqb B0 hb;replace HB:=sqs HB hb;(try clear hb)))
  go_ret
  exact sqe HB
 subst c4;rw [if_pos rfl] at H;replace H:=sqbi H;obtain ⟨t1,A5,H⟩:=H;(try dsimp only at H);obtain rfl:=Option.some.inj H;go_enter Tryz.func128,Tryz.ntmps128;go_wp2_with (first | ((with_reducible refine gd 2 rfl ?_);refine sqX 2 #[.int .i64 a0_0,.int .i64 a0_1] 108 HB ?_;clear HB;intro gb0 hg w6 hb B0 GW0 HB;clear hb hg;obtain ⟨_,_,_,_⟩:=sqc2 B0) | ((with_reducible refine gf 154 rfl ?_);refine sqLb rfl (some 6) Tryz.func154 (spec_RangeOk.calls _ _ _ _ A3.out) ?_;intro w8 hb;replace B0:=sqb B0 hb;replace HB:=sqs HB hb;(try clear hb);obtain ⟨_,_,_,_⟩:=sqc2 B0) | (go_at_call 120;(with_reducible refine (spec_l1In.calls a1 a0_0 a0_1 t1 _ A5.out).mono ?_);rintro e w' ⟨rfl,⟨nd,rfl⟩⟩))
 go_ret
 exact sqe HB

/-! ### spec_RestOk: function 155 -/
theorem spec_RestOk.calls (a0_0 : Int) (a0_1 : Int) (r : Bool) (w : World) (h : spec_RestOk.f a0_0 a0_1 = some r) :
  Calls Tryz.prog 155 #[.agg #[.int .i64 a0_0,.int .i64 a0_1]] w fun e w'=>e = .returned (.bool r)∧Below w.heap.size w w':=by
 have hu111:=Tryz.underlying111;have HB:=Aside0.mk (Below.refl w.heap.size w);have H:=h;unfold spec_RestOk.f at H;clear h;replace H:=sqj H;rcases H with ⟨c2,H⟩ | ⟨c2,H⟩
 ·have z0 : (a0_0 == 0) = true:=beq_iff_eq.mpr c2;have z1 : (a0_0 != 0) = false:=bne_eq_false_iff_eq.mpr c2;clear c2;replace H:=sqbi H;obtain ⟨t0,A3,H⟩:=H;(try dsimp only at H);obtain rfl:=Option.some.inj H;go_enter Tryz.func155,Tryz.ntmps155;go_wp2_with (first | ((with_reducible refine gd 1 rfl ?_);refine sqX 1 #[.int .i64 a0_0,.int .i64 a0_1] 111 HB ?_;clear HB;intro gb0 hg w4 hb B0 GW0 HB;clear hb hg;obtain ⟨_,_,_,_⟩:=sqc2 B0) | ((with_reducible refine gf 133 rfl ?_);refine sqLq rfl (some 8) Tryz.func133 (spec_NumOk.calls _ _ _ A3.out) ?_;intro nd))
  go_ret
  exact sqe HB
 have z0 : (a0_0 == 0) = false:=beq_eq_false_iff_ne.mpr c2;have z1 : (a0_0 != 0) = true:=bne_iff_ne.mpr c2;replace H:=sqbi H;obtain ⟨t1,A6,H⟩:=H;(try dsimp only at H);rcases sqI (t1 = true) with c7 | c7
 ·replace c7:=Bool.eq_false_iff.mpr c7;subst c7;rw [sqff] at H;obtain rfl:=Option.some.inj H;go_enter Tryz.func155,Tryz.ntmps155;go_wp2_with (first | ((with_reducible refine gd 1 rfl ?_);refine sqX 1 #[.int .i64 a0_0,.int .i64 a0_1] 111 HB ?_;clear HB;intro gb0 hg w11 hb B0 GW0 HB;clear hb hg;obtain ⟨_,_,_,_⟩:=sqc2 B0) | ((with_reducible refine gf 120 rfl ?_);refine sqLq rfl (some 11) Tryz.func120 (spec_l1In.calls _ _ _ _ _ A6.out) ?_;intro nd))
  go_ret
  exact sqe HB
 subst c7;rw [if_pos rfl] at H;replace H:=sqbi H;obtain ⟨t2,A8,H⟩:=H;(try dsimp only at H);obtain rfl:=Option.some.inj H;go_enter Tryz.func155,Tryz.ntmps155;go_wp2_with (first | ((with_reducible refine gd 1 rfl ?_);refine sqX 1 #[.int .i64 a0_0,.int .i64 a0_1] 111 HB ?_;clear HB;intro gb0 hg w9 hb B0 GW0 HB;clear hb hg;obtain ⟨_,_,_,_⟩:=sqc2 B0) | ((with_reducible refine gf 120 rfl ?_);refine sqLq rfl (some 11) Tryz.func120 (spec_l1In.calls _ _ _ _ _ A6.out) ?_;intro nd) | (go_at_call 120;(with_reducible refine (spec_l1In.calls a0_1 0 (wrap64 (a0_0 - 1)) t2 _ A8.out).mono ?_);rintro e w' ⟨rfl,⟨nd,rfl⟩⟩))
 go_ret
 exact sqe HB

/-! ### spec_l1Mod: function 157 -/
theorem spec_l1Mod.calls (a0 : Int) (a1 : Int) (r : Int) (w : World) (h : spec_l1Mod.f a0 a1 = some r) :
  Calls Tryz.prog 157 #[.int .i64 a0,.int .i64 a1] w fun e w'=>e = .returned (.int .i64 r)∧Drawn0 w w':=by
 have H:=h;unfold spec_l1Mod.f at H;clear h;replace H:=sqj H;rcases H with ⟨c3,H⟩ | ⟨c3,H⟩
 ·cases H
 have z1 : (a1 == 0) = false:=beq_eq_false_iff_ne.mpr c3;have z2 : (a1 != 0) = true:=bne_iff_ne.mpr c3;replace H:=sqj H;rcases H with ⟨c4,H⟩ | ⟨c4,H⟩
 ·have z0:=decide_eq_true c4;clear c4;obtain rfl:=Option.some.inj H;go_enter Tryz.func157,Tryz.ntmps157
  go_wp2
  go_ret
  exact ⟨sqE,sqD⟩
 have z0:=decide_eq_false c4;clear c4;obtain rfl:=Option.some.inj H;go_enter Tryz.func157,Tryz.ntmps157
 go_wp2
 go_ret
 exact ⟨sqE,sqD⟩

attribute [local go_sem high] eqA108
/-! ### spec_ValMake: function 90 -/
def spec_ValMake.T1 : Bool × List (List Nat × List Nat):=(true,[([],[]),([0],[0]),([1],[1]),([2,1],[2]),([3],[3]),([4,3,3],[3,4]),([5,3],[3,5]),([3,6],[3,6]),([7,5],[7]),([8],[8]),([8,8],[8]),([9,10,8],[8,9,10]),([8,11],[8,11])])
def spec_ValMake.B1 : List Nat:=[0,1,3,7,15,31,63,127,255,511,511,2047,4095]
theorem spec_ValMake.tab1 : rtab .any (opsOf Tryz.f90 1) = spec_ValMake.T1:=by kernel_rfl
theorem spec_ValMake.bits1 : waitsOk spec_ValMake.T1.2 spec_ValMake.B1 = true:=by kernel_rfl
def spec_ValMake.T7 : Bool × List (List Nat × List Nat):=(true,[([],[]),([0],[0]),([],[]),([2],[2]),([],[]),([4],[4]),([3,5],[3,5]),([],[]),([7],[7]),([6,8],[6,8]),([1,9],[1,9]),([10,9,0,1,2,3,4,5,6,7,8,9,10],[10])])
def spec_ValMake.B7 : List Nat:=[0,1,0,4,0,16,60,0,128,508,1023,2047]
theorem spec_ValMake.tab7 : rtab .any (opsOf Tryz.f90 7) = spec_ValMake.T7:=by kernel_rfl
theorem spec_ValMake.bits7 : waitsOk spec_ValMake.T7.2 spec_ValMake.B7 = true:=by kernel_rfl
def spec_ValMake.T8 : Bool × List (List Nat × List Nat):=(true,[([],[]),([0],[0]),([],[]),([2],[2]),([],[]),([4],[4]),([3,5],[3,5]),([],[]),([7],[7]),([6,8],[6,8]),([1,9],[1,9]),([10,9,0,1,2,3,4,5,6,7,8,9,10],[10])])
def spec_ValMake.B8 : List Nat:=[0,1,0,4,0,16,60,0,128,508,1023,2047]
theorem spec_ValMake.tab8 : rtab .any (opsOf Tryz.f90 8) = spec_ValMake.T8:=by kernel_rfl
theorem spec_ValMake.bits8 : waitsOk spec_ValMake.T8.2 spec_ValMake.B8 = true:=by kernel_rfl
theorem spec_ValMake.calls (k : Nat) (a0_0 : Int) (a0_1 : Int) (a1_0 : Int) (a1_1 : Int) (r1 : Int) (r2 : Int) (r3 : Int) (r4 : Int) (w : World) (h : spec_ValMake.f k a0_0 a0_1 a1_0 a1_1 = some (r1,r2,r3,r4)) :
  Calls Tryz.prog 90 #[.agg #[.int .i64 a0_0,.int .i64 a0_1],.agg #[.int .i64 a1_0,.int .i64 a1_1]] w fun e w'=>e = .returned (.agg #[.int .i64 r1,.int .i64 r2,.int .i64 r3,.int .i64 r4])∧Below w.heap.size w w':=by
 have hu108:=Tryz.underlying108;have hu111:=Tryz.underlying111;have hu58:=Tryz.underlying58;have HB:=Aside0.mk (Below.refl w.heap.size w);have H:=h;unfold spec_ValMake.f at H;clear h;have HC3:=Aside0.mk H;clear H;go_enter Tryz.func90,Tryz.ntmps90;go_upto_region 1 with (first | ((with_reducible refine gd 2 rfl ?_);refine sqX 2 #[.int .i64 a0_0,.int .i64 a0_1] 108 HB ?_;clear HB;intro gb0 hg w4 hb B0 GW0 HB;clear hb hg) | ((with_reducible refine gd 3 rfl ?_);refine sqX 3 #[.int .i64 a1_0,.int .i64 a1_1] 111 HB ?_;clear HB;intro gb1 hg w5 hb B1 GW1 HB;have N0_1:=sqn B0 hg;have N1_0:=sqm B0 hg;replace B0:=sqb B0 hb;clear hb hg) | ((with_reducible refine gd 4 rfl ?_);refine sqX 4 #[.int .i64 0,.int .i64 0,.int .i64 0,.int .i64 0] 58 HB ?_;clear HB;intro gb2 hg w6 hb B2 GW2 HB;have N0_2:=sqn B0 hg;have N2_0:=sqm B0 hg;have N1_2:=sqn B1 hg;have N2_1:=sqm B1 hg;refine sqM2 B0 B1 hb ?_;clear B0 B1;intro B0 B1;clear hb hg))
 (try simp only [Act.put,List.setIfInBounds_toArray,List.set_cons_zero,List.set_cons_succ])
 go_cut [19] (fun v19 wc=>∃ (kq : Nat) (x0 : Bool),v19 = .bool x0∧Aside0 (spec_ValMake.j0 kq x0 a0_0 a0_1 a1_0 a1_1 = some (r1,r2,r3,r4))∧Aside0 (kq ≤ k)∧Aside0 (wc.heap[gb0]? = some (.cells #[.int .i64 a0_0,.int .i64 a0_1] 108 (0,0)))∧Aside0 (wc.heap[gb1]? = some (.cells #[.int .i64 a1_0,.int .i64 a1_1] 111 (0,0)))∧Aside0 (wc.heap[gb2]? = some (.cells #[.int .i64 0,.int .i64 0,.int .i64 0,.int .i64 0] 58 (0,0)))∧Aside0 (Below w.heap.size w wc))
 case first =>
  have H:=HC3.out;clear HC3;replace H:=sqbi H;obtain ⟨t0,A7,H⟩:=H;(try dsimp only at H);rcases sqI (t0 = true) with c8 | c8
  ·replace c8:=Bool.eq_false_iff.mpr c8;subst c8;rw [sqff] at H;have H':=Aside0.mk H;clear H
   try go_wp2
   replace B0:=sqdr B0;replace B1:=sqdr B1;replace B2:=sqdr B2;replace HB:=sqdB HB;refine sqst 13 (fun w'=>Ce2 w' gb0 (.int .i64 a0_0) (.int .i64 a0_1)) sqz (fun hHeld=>?_);refine with_tabW spec_ValMake.tab1 spec_ValMake.bits1 (fun HT_ HW_=>?_);generalize w6.drew = w19 at B0 B1 B2 HB hHeld ⊢;refine sqw HT_ HW_ 0 7 hHeld ?_;refine sqo HT_ 1 8 (fun K hK=>?_);refine sqGb rfl Tryz.func154 (spec_RangeOk.calls _ _ _ _ A7.out) ?_;intro w20 hb;refine sqM3 B0 B1 B2 hb ?_;clear B0 B1 B2;intro B0 B1 B2;replace HB:=sqs HB hb;(try clear hb);refine hK.out _ _ sqz (fun hHeld=>?_);clear hK K;refine sqnm ?_;refine sqp HT_ 2 9 ?_;refine sqp HT_ 3 10 ?_;refine sqpu HT_ 4 11 ?_;refine sqpu HT_ 5 12 ?_;refine sqpu HT_ 6 13 ?_;refine sqp HT_ 7 14 ?_;refine sqp HT_ 8 15 ?_;refine sqpu HT_ 9 16 ?_;refine sqpu HT_ 10 17 ?_;refine sqpu HT_ 11 18 ?_;refine sqp HT_ 12 19 ?_;refine done_ (done_of HT_.out (by kernel_rfl)) ?_
   try go_wp2
   go_meet
   case rel=>exact ⟨_,(true),sqE,H',⟨sqle⟩,sqk B0,sqk B1,sqk B2,sqh HB⟩
  subst c8;rw [if_pos rfl] at H;replace H:=sqbi H;obtain ⟨t1,A9,H⟩:=H;(try dsimp only at H);rcases sqI (t1 = true) with c10 | c10
  ·replace c10:=Bool.eq_false_iff.mpr c10;subst c10;rw [sqff] at H;have H':=Aside0.mk H;clear H
   try go_wp2
   replace B0:=sqdr B0;replace B1:=sqdr B1;replace B2:=sqdr B2;replace HB:=sqdB HB;refine sqst 13 (fun w'=>Ce2 w' gb0 (.int .i64 a0_0) (.int .i64 a0_1)∧Ce2 w' gb1 (.int .i64 a1_0) (.int .i64 a1_1)) sqz (fun hHeld=>?_);refine with_tabW spec_ValMake.tab1 spec_ValMake.bits1 (fun HT_ HW_=>?_);generalize w6.drew = w16 at B0 B1 B2 HB hHeld ⊢;refine sqw HT_ HW_ 0 7 hHeld ?_;refine sqo HT_ 1 8 (fun K hK=>?_);refine sqGb rfl Tryz.func154 (spec_RangeOk.calls _ _ _ _ A7.out) ?_;intro w17 hb;refine sqM3 B0 B1 B2 hb ?_;clear B0 B1 B2;intro B0 B1 B2;replace HB:=sqs HB hb;(try clear hb);refine hK.out _ _ sqz (fun hHeld=>?_);clear hK K;refine sqnm ?_;refine sqp HT_ 2 9 ?_;refine sqp HT_ 3 10 ?_;refine sqw HT_ HW_ 4 11 hHeld ?_;refine sqo HT_ 5 12 (fun K hK=>?_);refine sqGb rfl Tryz.func155 (spec_RestOk.calls _ _ _ _ A9.out) ?_;intro w18 hb;refine sqM3 B0 B1 B2 hb ?_;clear B0 B1 B2;intro B0 B1 B2;replace HB:=sqs HB hb;(try clear hb);refine hK.out _ _ sqz (fun hHeld=>?_);clear hK K;refine sqnm ?_;refine sqp HT_ 6 13 ?_;refine sqp HT_ 7 14 ?_;refine sqp HT_ 8 15 ?_;refine sqpu HT_ 9 16 ?_;refine sqpu HT_ 10 17 ?_;refine sqpu HT_ 11 18 ?_;refine sqp HT_ 12 19 ?_;refine done_ (done_of HT_.out (by kernel_rfl)) ?_
   try go_wp2
   go_meet
   case rel=>exact ⟨_,(true),sqE,H',⟨sqle⟩,sqk B0,sqk B1,sqk B2,sqh HB⟩
  subst c10;rw [if_pos rfl] at H;replace H:=sqbi H;obtain ⟨⟨t2,t3⟩,A11,H⟩:=H;(try dsimp only at H);have H':=Aside0.mk H;clear H
  try go_wp2
  replace B0:=sqdr B0;replace B1:=sqdr B1;replace B2:=sqdr B2;replace HB:=sqdB HB;refine sqst 13 (fun w'=>Ce2 w' gb0 (.int .i64 a0_0) (.int .i64 a0_1)∧Ce2 w' gb1 (.int .i64 a1_0) (.int .i64 a1_1)) sqz (fun hHeld=>?_);refine with_tabW spec_ValMake.tab1 spec_ValMake.bits1 (fun HT_ HW_=>?_);generalize w6.drew = w12 at B0 B1 B2 HB hHeld ⊢;refine sqw HT_ HW_ 0 7 hHeld ?_;refine sqo HT_ 1 8 (fun K hK=>?_);refine sqGb rfl Tryz.func154 (spec_RangeOk.calls _ _ _ _ A7.out) ?_;intro w13 hb;refine sqM3 B0 B1 B2 hb ?_;clear B0 B1 B2;intro B0 B1 B2;replace HB:=sqs HB hb;(try clear hb);refine hK.out _ _ sqz (fun hHeld=>?_);clear hK K;refine sqnm ?_;refine sqp HT_ 2 9 ?_;refine sqp HT_ 3 10 ?_;refine sqw HT_ HW_ 4 11 hHeld ?_;refine sqo HT_ 5 12 (fun K hK=>?_);refine sqGb rfl Tryz.func155 (spec_RestOk.calls _ _ _ _ A9.out) ?_;intro w14 hb;refine sqM3 B0 B1 B2 hb ?_;clear B0 B1 B2;intro B0 B1 B2;replace HB:=sqs HB hb;(try clear hb);refine hK.out _ _ sqz (fun hHeld=>?_);clear hK K;refine sqnm ?_;refine sqp HT_ 6 13 ?_;refine sqp HT_ 7 14 ?_;refine sqp HT_ 8 15 ?_;refine sqw HT_ HW_ 9 16 hHeld ?_;refine sqo HT_ 10 17 (fun K hK=>?_);refine sqGb rfl Tryz.func156 (spec_l8None.calls _ _ _ A11.out) ?_;intro w15 hb;refine sqM3 B0 B1 B2 hb ?_;clear B0 B1 B2;intro B0 B1 B2;replace HB:=sqs HB hb;(try clear hb);refine hK.out _ _ sqz (fun hHeld=>?_);clear hK K;refine sqnm ?_;refine sqp HT_ 11 18 ?_;refine sqp HT_ 12 19 ?_;refine done_ (done_of HT_.out (by kernel_rfl)) ?_
  try go_wp2
  go_meet
  case rel=>exact ⟨_,((a0_0 == t2 && (a0_1 == t3))),sqE,H',⟨sqle⟩,sqk B0,sqk B1,sqk B2,sqh HB⟩
 case rest =>
  clear HC3;obtain ⟨kq,x0,rfl,HA,HJ2,B0,B1,B2,HB⟩:=hcut;cases kq with
  | zero=>exact absurd HA.out (by simp [spec_ValMake.j0])
  | succ kj2 =>
   have H:=HA.out;clear HA;simp only [spec_ValMake.j0] at H
   by_cases c21 : x0 = true
   ·subst c21;rw [if_pos rfl] at H;replace H:=sqbi H;obtain ⟨⟨t4,t5,t6,t7⟩,A22,H⟩:=H;(try dsimp only at H);simp only [Option.some.injEq,Prod.mk.injEq] at H;obtain ⟨rfl,rfl,rfl,rfl⟩:=H;go_wp2_with (first | ((with_reducible refine gf 93 rfl ?_);refine sqLb rfl (some 20) Tryz.func93 (spec_l10None.calls _ _ _ _ _ A22.out) ?_;intro w23 hb;refine sqM3 B0 B1 B2 hb ?_;clear B0 B1 B2;intro B0 B1 B2;replace HB:=sqs HB hb;(try clear hb);obtain ⟨_,_,_,_⟩:=sqN2 N2_0 N2_1;obtain ⟨_,_,_,_,_,_,_,_⟩:=sqc4 B2));refine sqre #[.int .i64 t4,.int .i64 t5,.int .i64 t6,.int .i64 t7] (sqP B2) Tryz.underlying58 ?_;exact sqe HB
   replace c21:=Bool.eq_false_iff.mpr c21;subst c21;rw [sqff] at H;replace H:=sqj H;rcases H with ⟨c27,H⟩ | ⟨c27,H⟩
   ·have z0 : (a1_0 == 0) = true:=beq_iff_eq.mpr c27;have z1 : (a1_0 != 0) = false:=bne_eq_false_iff_eq.mpr c27;clear c27;replace H:=sqbi H;obtain ⟨t8,A28,H⟩:=H;(try dsimp only at H);rcases sqI (t8 = true) with c29 | c29
    ·replace c29:=Bool.eq_false_iff.mpr c29;subst c29;rw [sqff] at H;replace H:=sqbi H;obtain ⟨⟨t9,t10,t11,t12⟩,A40,H⟩:=H;(try dsimp only at H);simp only [Option.some.injEq,Prod.mk.injEq] at H;obtain ⟨rfl,rfl,rfl,rfl⟩:=H;obtain ⟨_,_,_,_⟩:=sqN2 N1_0 N1_2;obtain ⟨_,_,_,_⟩:=sqc2 B1;obtain ⟨_,_⟩:=sqN1 N0_2;obtain ⟨_,_,_,_⟩:=sqc2 B0;go_wp2_with (first | ((with_reducible refine gf 128 rfl ?_);refine sqLb rfl (some 27) Tryz.func128 (spec_RangeHas.calls _ _ _ _ _ A28.out) ?_;intro w46 hb;refine sqM3 B0 B1 B2 hb ?_;clear B0 B1 B2;intro B0 B1 B2;replace HB:=sqs HB hb;(try clear hb)) | ((with_reducible refine gf 93 rfl ?_);refine sqLb rfl (some 31) Tryz.func93 (spec_l10None.calls _ _ _ _ _ A40.out) ?_;intro w47 hb;refine sqM3 B0 B1 B2 hb ?_;clear B0 B1 B2;intro B0 B1 B2;replace HB:=sqs HB hb;(try clear hb);obtain ⟨_,_,_,_,_,_,_,_⟩:=sqc4 B2));refine sqre #[.int .i64 t9,.int .i64 t10,.int .i64 t11,.int .i64 t12] (sqP B2) Tryz.underlying58 ?_;exact sqe HB
    subst c29;rw [if_pos rfl] at H;replace H:=sqbi H;obtain ⟨⟨t13,t14,t15,t16⟩,A30,H⟩:=H;(try dsimp only at H);simp only [Option.some.injEq,Prod.mk.injEq] at H;obtain ⟨rfl,rfl,rfl,rfl⟩:=H;obtain ⟨_,_,_,_⟩:=sqN2 N1_0 N1_2;obtain ⟨_,_,_,_⟩:=sqc2 B1;obtain ⟨_,_⟩:=sqN1 N0_2;obtain ⟨_,_,_,_⟩:=sqc2 B0;go_wp2_with (first | ((with_reducible refine gf 128 rfl ?_);refine sqLb rfl (some 27) Tryz.func128 (spec_RangeHas.calls _ _ _ _ _ A28.out) ?_;intro w36 hb;refine sqM3 B0 B1 B2 hb ?_;clear B0 B1 B2;intro B0 B1 B2;replace HB:=sqs HB hb;(try clear hb);obtain ⟨_,_,_,_⟩:=sqc2 B1) | ((with_reducible refine gf 123 rfl ?_);refine sqLb rfl (some 30) Tryz.func123 (spec_l10One.calls _ _ _ _ _ _ A30.out) ?_;intro w38 hb;refine sqM3 B0 B1 B2 hb ?_;clear B0 B1 B2;intro B0 B1 B2;replace HB:=sqs HB hb;(try clear hb);obtain ⟨_,_,_,_,_,_,_,_⟩:=sqc4 B2));refine sqre #[.int .i64 t13,.int .i64 t14,.int .i64 t15,.int .i64 t16] (sqP B2) Tryz.underlying58 ?_;exact sqe HB
   have z0 : (a1_0 == 0) = false:=beq_eq_false_iff_ne.mpr c27;have z1 : (a1_0 != 0) = true:=bne_iff_ne.mpr c27;replace H:=sqbi H;obtain ⟨t17,A49,H⟩:=H;(try dsimp only at H);replace H:=sqbi H;obtain ⟨t18,A50,H⟩:=H;(try dsimp only at H);replace H:=sqj H;rcases H with ⟨c51,H⟩ | ⟨c51,H⟩
   ·have z2 : decide ((wrap64 (a0_1 - t18)) < (wrap64 (a0_0 + t17))) = true:=decide_eq_true c51;clear c51;replace H:=sqbi H;obtain ⟨⟨t19,t20,t21,t22⟩,A52,H⟩:=H;(try dsimp only at H);simp only [Option.some.injEq,Prod.mk.injEq] at H;obtain ⟨rfl,rfl,rfl,rfl⟩:=H;obtain ⟨_,_,_,_⟩:=sqN2 N1_0 N1_2;obtain ⟨_,_,_,_⟩:=sqc2 B1
    try go_wp2
    replace B0:=sqdr B0;replace B1:=sqdr B1;replace B2:=sqdr B2;replace HB:=sqdB HB;refine sqst 12 (fun w'=>Ce2 w' gb0 (.int .i64 a0_0) (.int .i64 a0_1)∧Ce2 w' gb1 (.int .i64 a1_0) (.int .i64 a1_1)) sqz (fun hHeld=>?_);refine with_tabW spec_ValMake.tab7 spec_ValMake.bits7 (fun HT_ HW_=>?_);generalize wc.drew = w56 at B0 B1 B2 HB hHeld ⊢;refine sqp HT_ 0 32 ?_;refine sqp HT_ 2 34 ?_;refine sqp HT_ 4 36 ?_;refine sqp HT_ 7 39 ?_;refine sqw HT_ HW_ 1 33 hHeld ?_;refine sqw HT_ HW_ 3 35 hHeld ?_;refine sqw HT_ HW_ 5 37 hHeld ?_;refine sqp HT_ 6 38 ?_;refine sqw HT_ HW_ 8 40 hHeld ?_;refine sqo HT_ 9 41 (fun K hK=>?_);refine sqGq rfl Tryz.func157 (spec_l1Mod.calls _ _ _ _ A49.out) ?_;intro nd;refine hK.out _ _ sqz (fun hHeld=>?_);clear hK K;refine sqnm ?_;refine sqp HT_ 10 42 ?_;refine sqp HT_ 11 5 ?_;refine done_ (done_of HT_.out (by kernel_rfl)) ?_
    try go_wp2
    (try (rw [drewN_self w56];generalize hq_ : World.drewN w56 _ = w56;replace B0:=sqq B0 hq_;replace B1:=sqq B1 hq_;replace B2:=sqq B2 hq_;replace HB:=sqr HB hq_;clear hq_;obtain ⟨z5,z6,z7,z8⟩:=sqc2 B0;obtain ⟨z9,za,zb,zc⟩:=sqc2 B1;obtain ⟨zd,ze,zf,zg,zh,zi,zj,zk⟩:=sqc4 B2))
    replace B0:=sqdr B0;replace B1:=sqdr B1;replace B2:=sqdr B2;replace HB:=sqdB HB;refine sqst 12 (fun w'=>Ce2 w' gb0 (.int .i64 a0_0) (.int .i64 a0_1)∧Ce2 w' gb1 (.int .i64 a1_0) (.int .i64 a1_1)) sqz (fun hHeld=>?_);refine with_tabW spec_ValMake.tab8 spec_ValMake.bits8 (fun HT_ HW_=>?_);generalize w56.drew = w57 at B0 B1 B2 HB hHeld ⊢;refine sqp HT_ 0 43 ?_;refine sqp HT_ 2 45 ?_;refine sqp HT_ 4 47 ?_;refine sqp HT_ 7 50 ?_;refine sqw HT_ HW_ 1 44 hHeld ?_;refine sqw HT_ HW_ 3 46 hHeld ?_;refine sqw HT_ HW_ 5 48 hHeld ?_;refine sqp HT_ 6 49 ?_;refine sqw HT_ HW_ 8 51 hHeld ?_;refine sqo HT_ 9 52 (fun K hK=>?_);refine sqGq rfl Tryz.func157 (spec_l1Mod.calls _ _ _ _ A50.out) ?_;intro nd;refine hK.out _ _ sqz (fun hHeld=>?_);clear hK K;refine sqnm ?_;refine sqp HT_ 10 53 ?_;refine sqp HT_ 11 6 ?_;refine done_ (done_of HT_.out (by kernel_rfl)) ?_
    try go_wp2_with (first | ((with_reducible refine gf 93 rfl ?_);refine sqLb rfl (some 57) Tryz.func93 (spec_l10None.calls _ _ _ _ _ A52.out) ?_;intro w58 hb;refine sqM3 B0 B1 B2 hb ?_;clear B0 B1 B2;intro B0 B1 B2;replace HB:=sqs HB hb;(try clear hb);obtain ⟨_,_⟩:=sqN1 N2_0;obtain ⟨_,_,_,_,_,_,_,_⟩:=sqc4 B2))
    refine sqre #[.int .i64 t19,.int .i64 t20,.int .i64 t21,.int .i64 t22] (sqP B2) Tryz.underlying58 ?_;exact sqe HB
   have z2 : decide ((wrap64 (a0_1 - t18)) < (wrap64 (a0_0 + t17))) = false:=decide_eq_false c51;clear c51;replace H:=sqi H;rcases H with ⟨c61,H⟩ | ⟨c61,H⟩
   ·have z3 : ((wrap64 (a0_0 + t17)) == (wrap64 (a0_1 - t18))) = false:=beq_eq_false_iff_ne.mpr c61;have z4 : ((wrap64 (a0_0 + t17)) != (wrap64 (a0_1 - t18))) = true:=bne_iff_ne.mpr c61;simp only [Option.some.injEq,Prod.mk.injEq] at H;obtain ⟨rfl,rfl,rfl,rfl⟩:=H;obtain ⟨_,_,_,_⟩:=sqN2 N1_0 N1_2;obtain ⟨_,_,_,_⟩:=sqc2 B1
    try go_wp2
    replace B0:=sqdr B0;replace B1:=sqdr B1;replace B2:=sqdr B2;replace HB:=sqdB HB;refine sqst 12 (fun w'=>Ce2 w' gb0 (.int .i64 a0_0) (.int .i64 a0_1)∧Ce2 w' gb1 (.int .i64 a1_0) (.int .i64 a1_1)) sqz (fun hHeld=>?_);refine with_tabW spec_ValMake.tab7 spec_ValMake.bits7 (fun HT_ HW_=>?_);generalize wc.drew = w74 at B0 B1 B2 HB hHeld ⊢;refine sqp HT_ 0 32 ?_;refine sqp HT_ 2 34 ?_;refine sqp HT_ 4 36 ?_;refine sqp HT_ 7 39 ?_;refine sqw HT_ HW_ 1 33 hHeld ?_;refine sqw HT_ HW_ 3 35 hHeld ?_;refine sqw HT_ HW_ 5 37 hHeld ?_;refine sqp HT_ 6 38 ?_;refine sqw HT_ HW_ 8 40 hHeld ?_;refine sqo HT_ 9 41 (fun K hK=>?_);refine sqGq rfl Tryz.func157 (spec_l1Mod.calls _ _ _ _ A49.out) ?_;intro nd;refine hK.out _ _ sqz (fun hHeld=>?_);clear hK K;refine sqnm ?_;refine sqp HT_ 10 42 ?_;refine sqp HT_ 11 5 ?_;refine done_ (done_of HT_.out (by kernel_rfl)) ?_
    try go_wp2
    (try (rw [drewN_self w74];generalize hq_ : World.drewN w74 _ = w74;replace B0:=sqq B0 hq_;replace B1:=sqq B1 hq_;replace B2:=sqq B2 hq_;replace HB:=sqr HB hq_;clear hq_;obtain ⟨zl,zm,zn,zo⟩:=sqc2 B0;obtain ⟨zp,zq,zr,zt⟩:=sqc2 B1;obtain ⟨zu,zv,zw,zx,zy,zz,zA,zB⟩:=sqc4 B2))
    replace B0:=sqdr B0;replace B1:=sqdr B1;replace B2:=sqdr B2;replace HB:=sqdB HB;refine sqst 12 (fun w'=>Ce2 w' gb0 (.int .i64 a0_0) (.int .i64 a0_1)∧Ce2 w' gb1 (.int .i64 a1_0) (.int .i64 a1_1)) sqz (fun hHeld=>?_);refine with_tabW spec_ValMake.tab8 spec_ValMake.bits8 (fun HT_ HW_=>?_);generalize w74.drew = w75 at B0 B1 B2 HB hHeld ⊢;refine sqp HT_ 0 43 ?_;refine sqp HT_ 2 45 ?_;refine sqp HT_ 4 47 ?_;refine sqp HT_ 7 50 ?_;refine sqw HT_ HW_ 1 44 hHeld ?_;refine sqw HT_ HW_ 3 46 hHeld ?_;refine sqw HT_ HW_ 5 48 hHeld ?_;refine sqp HT_ 6 49 ?_;refine sqw HT_ HW_ 8 51 hHeld ?_;refine sqo HT_ 9 52 (fun K hK=>?_);refine sqGq rfl Tryz.func157 (spec_l1Mod.calls _ _ _ _ A50.out) ?_;intro nd;refine hK.out _ _ sqz (fun hHeld=>?_);clear hK K;refine sqnm ?_;refine sqp HT_ 10 53 ?_;refine sqp HT_ 11 6 ?_;refine done_ (done_of HT_.out (by kernel_rfl)) ?_;obtain ⟨_,_,_,_⟩:=sqc2 B1;obtain ⟨_,_⟩:=sqN1 N2_0;obtain ⟨_,_,_,_,_,_,_,_⟩:=sqc4 B2
    try go_wp2
    refine sqre #[.int .i64 (wrap64 (a0_0 + t17)),.int .i64 (wrap64 (a0_1 - t18)),.int .i64 a1_0,.int .i64 a1_1] (sqP B2) Tryz.underlying58 ?_;exact sqe HB
   have z3 : ((wrap64 (a0_0 + t17)) == (wrap64 (a0_1 - t18))) = true:=beq_iff_eq.mpr c61;have z4 : ((wrap64 (a0_0 + t17)) != (wrap64 (a0_1 - t18))) = false:=bne_eq_false_iff_eq.mpr c61;clear c61;replace H:=sqbi H;obtain ⟨⟨t23,t24,t25,t26⟩,A62,H⟩:=H;(try dsimp only at H);simp only [Option.some.injEq,Prod.mk.injEq] at H;obtain ⟨rfl,rfl,rfl,rfl⟩:=H;obtain ⟨_,_,_,_⟩:=sqN2 N1_0 N1_2;obtain ⟨_,_,_,_⟩:=sqc2 B1
   try go_wp2
   replace B0:=sqdr B0;replace B1:=sqdr B1;replace B2:=sqdr B2;replace HB:=sqdB HB;refine sqst 12 (fun w'=>Ce2 w' gb0 (.int .i64 a0_0) (.int .i64 a0_1)∧Ce2 w' gb1 (.int .i64 a1_0) (.int .i64 a1_1)) sqz (fun hHeld=>?_);refine with_tabW spec_ValMake.tab7 spec_ValMake.bits7 (fun HT_ HW_=>?_);generalize wc.drew = w66 at B0 B1 B2 HB hHeld ⊢;refine sqp HT_ 0 32 ?_;refine sqp HT_ 2 34 ?_;refine sqp HT_ 4 36 ?_;refine sqp HT_ 7 39 ?_;refine sqw HT_ HW_ 1 33 hHeld ?_;refine sqw HT_ HW_ 3 35 hHeld ?_;refine sqw HT_ HW_ 5 37 hHeld ?_;refine sqp HT_ 6 38 ?_;refine sqw HT_ HW_ 8 40 hHeld ?_;refine sqo HT_ 9 41 (fun K hK=>?_);refine sqGq rfl Tryz.func157 (spec_l1Mod.calls _ _ _ _ A49.out) ?_;intro nd;refine hK.out _ _ sqz (fun hHeld=>?_);clear hK K;refine sqnm ?_;refine sqp HT_ 10 42 ?_;refine sqp HT_ 11 5 ?_;refine done_ (done_of HT_.out (by kernel_rfl)) ?_
   try go_wp2
   (try (rw [drewN_self w66];generalize hq_ : World.drewN w66 _ = w66;replace B0:=sqq B0 hq_;replace B1:=sqq B1 hq_;replace B2:=sqq B2 hq_;replace HB:=sqr HB hq_;clear hq_;obtain ⟨zC,zD,zE,zF⟩:=sqc2 B0;obtain ⟨zG,zH,zI,zJ⟩:=sqc2 B1;obtain ⟨zK,zL,zM,zN,zO,zP,zQ,zR⟩:=sqc4 B2))
   replace B0:=sqdr B0;replace B1:=sqdr B1;replace B2:=sqdr B2;replace HB:=sqdB HB;refine sqst 12 (fun w'=>Ce2 w' gb0 (.int .i64 a0_0) (.int .i64 a0_1)∧Ce2 w' gb1 (.int .i64 a1_0) (.int .i64 a1_1)) sqz (fun hHeld=>?_);refine with_tabW spec_ValMake.tab8 spec_ValMake.bits8 (fun HT_ HW_=>?_);generalize w66.drew = w67 at B0 B1 B2 HB hHeld ⊢;refine sqp HT_ 0 43 ?_;refine sqp HT_ 2 45 ?_;refine sqp HT_ 4 47 ?_;refine sqp HT_ 7 50 ?_;refine sqw HT_ HW_ 1 44 hHeld ?_;refine sqw HT_ HW_ 3 46 hHeld ?_;refine sqw HT_ HW_ 5 48 hHeld ?_;refine sqp HT_ 6 49 ?_;refine sqw HT_ HW_ 8 51 hHeld ?_;refine sqo HT_ 9 52 (fun K hK=>?_);refine sqGq rfl Tryz.func157 (spec_l1Mod.calls _ _ _ _ A50.out) ?_;intro nd;refine hK.out _ _ sqz (fun hHeld=>?_);clear hK K;refine sqnm ?_;refine sqp HT_ 10 53 ?_;refine sqp HT_ 11 6 ?_;refine done_ (done_of HT_.out (by kernel_rfl)) ?_
   try go_wp2_with (first | ((with_reducible refine gf 123 rfl ?_);refine sqLb rfl (some 62) Tryz.func123 (spec_l10One.calls _ _ _ _ _ _ A62.out) ?_;intro w68 hb;refine sqM3 B0 B1 B2 hb ?_;clear B0 B1 B2;intro B0 B1 B2;replace HB:=sqs HB hb;(try clear hb);obtain ⟨_,_⟩:=sqN1 N2_0;obtain ⟨_,_,_,_,_,_,_,_⟩:=sqc4 B2))
   refine sqre #[.int .i64 t23,.int .i64 t24,.int .i64 t25,.int .i64 t26] (sqP B2) Tryz.underlying58 ?_;exact sqe HB

/-! ### spec_l10Range: function 129 -/
theorem spec_l10Range.calls (a0_0 : Int) (a0_1 : Int) (a0_2 : Int) (a0_3 : Int) (r1 : Int) (r2 : Int) (w : World) (h : spec_l10Range.f a0_0 a0_1 a0_2 a0_3 = some (r1,r2)) :
  Calls Tryz.prog 129 #[.agg #[.int .i64 a0_0,.int .i64 a0_1,.int .i64 a0_2,.int .i64 a0_3]] w fun e w'=>e = .returned (.agg #[.int .i64 r1,.int .i64 r2])∧Below w.heap.size w w':=by
 have hu58:=Tryz.underlying58;have hu108:=Tryz.underlying108;have HB:=Aside0.mk (Below.refl w.heap.size w);have H:=h;unfold spec_l10Range.f at H;clear h;simp only [Option.some.injEq,Prod.mk.injEq] at H;obtain ⟨rfl,rfl⟩:=H;go_enter Tryz.func129,Tryz.ntmps129;go_wp2_with (first | ((with_reducible refine gd 1 rfl ?_);refine sqX 1 #[.int .i64 a0_0,.int .i64 a0_1,.int .i64 a0_2,.int .i64 a0_3] 58 HB ?_;clear HB;intro gb0 hg w2 hb B0 GW0 HB;clear hb hg) | ((with_reducible refine gd 2 rfl ?_);refine sqX 2 #[.int .i64 0,.int .i64 0] 108 HB ?_;clear HB;intro gb1 hg w3 hb B1 GW1 HB;have N0_1:=sqn B0 hg;have N1_0:=sqm B0 hg;replace B0:=sqb B0 hb;clear hb hg;obtain ⟨_,_⟩:=sqN1 N0_1;obtain ⟨_,_,_,_,_,_,_,_⟩:=sqc4 B0;obtain ⟨_,_,_,_⟩:=sqc2 B1));refine sqre #[.int .i64 a0_0,.int .i64 a0_1] (sqP B1) Tryz.underlying108 ?_;exact sqe HB

/-! ### spec_l10Rest: function 131 -/
theorem spec_l10Rest.calls (a0_0 : Int) (a0_1 : Int) (a0_2 : Int) (a0_3 : Int) (r1 : Int) (r2 : Int) (w : World) (h : spec_l10Rest.f a0_0 a0_1 a0_2 a0_3 = some (r1,r2)) :
  Calls Tryz.prog 131 #[.agg #[.int .i64 a0_0,.int .i64 a0_1,.int .i64 a0_2,.int .i64 a0_3]] w fun e w'=>e = .returned (.agg #[.int .i64 r1,.int .i64 r2])∧Below w.heap.size w w':=by
 have hu58:=Tryz.underlying58;have hu111:=Tryz.underlying111;have HB:=Aside0.mk (Below.refl w.heap.size w);have H:=h;unfold spec_l10Rest.f at H;clear h;simp only [Option.some.injEq,Prod.mk.injEq] at H;obtain ⟨rfl,rfl⟩:=H;go_enter Tryz.func131,Tryz.ntmps131;go_wp2_with (first | ((with_reducible refine gd 1 rfl ?_);refine sqX 1 #[.int .i64 a0_0,.int .i64 a0_1,.int .i64 a0_2,.int .i64 a0_3] 58 HB ?_;clear HB;intro gb0 hg w2 hb B0 GW0 HB;clear hb hg) | ((with_reducible refine gd 2 rfl ?_);refine sqX 2 #[.int .i64 0,.int .i64 0] 111 HB ?_;clear HB;intro gb1 hg w3 hb B1 GW1 HB;have N0_1:=sqn B0 hg;have N1_0:=sqm B0 hg;replace B0:=sqb B0 hb;clear hb hg;obtain ⟨_,_⟩:=sqN1 N0_1;obtain ⟨_,_,_,_,_,_,_,_⟩:=sqc4 B0;obtain ⟨_,_,_,_⟩:=sqc2 B1));refine sqre #[.int .i64 a0_2,.int .i64 a0_3] (sqP B1) Tryz.underlying111 ?_;exact sqe HB

attribute [local go_sem high] eqA58
/-! ### spec_ValOk: function 127 -/
def spec_ValOk.T1 : Bool × List (List Nat × List Nat):=(true,[([],[]),([],[]),([0,1],[0,1]),([2,1],[2]),([3],[3]),([4,3,3],[3,4]),([5,5,3],[3,5]),([6,6,3],[3,6]),([7],[7]),([8,7,7],[7,8]),([9,9,7],[7,9]),([7,10,3],[3,7,10]),([11,10,3],[3,11]),([12],[12]),([12],[12]),([14,12,12],[12,14]),([12],[12]),([16,15,12],[12,16]),([15,17,17,12],[12,15,17]),([13,18,12],[12,13,18]),([12,19,3],[3,12,19]),([3,20],[3,20]),([21,18,0,1,2,3,4,5,6,7,8,9,10,11,12,13,14,15,16,17,18,19,20,21],[21])])
def spec_ValOk.B1 : List Nat:=[0,0,3,7,15,31,63,127,255,511,1023,2047,4095,8191,8191,24575,8191,122879,253951,524287,1048575,2097151,4194303]
theorem spec_ValOk.tab1 : rtab .any (opsOf Tryz.f127 1) = spec_ValOk.T1:=by kernel_rfl
theorem spec_ValOk.bits1 : waitsOk spec_ValOk.T1.2 spec_ValOk.B1 = true:=by kernel_rfl
theorem spec_ValOk.calls (k : Nat) (a0_0 : Int) (a0_1 : Int) (a0_2 : Int) (a0_3 : Int) (r : Bool) (w : World) (h : spec_ValOk.f k a0_0 a0_1 a0_2 a0_3 = some r) :
  Calls Tryz.prog 127 #[.agg #[.int .i64 a0_0,.int .i64 a0_1,.int .i64 a0_2,.int .i64 a0_3]] w fun e w'=>e = .returned (.bool r)∧Below w.heap.size w w':=by
 have hu58:=Tryz.underlying58;have HB:=Aside0.mk (Below.refl w.heap.size w);have H:=h;unfold spec_ValOk.f at H;clear h;replace H:=sqbi H;obtain ⟨⟨t0,t1,t2,t3⟩,A2,H⟩:=H;(try dsimp only at H);replace H:=sqj H;rcases H with ⟨c3,H⟩ | ⟨c3,H⟩
 ·have z0 : (a0_0 == t0 && (a0_1 == t1 && (a0_2 == t2 && (a0_3 == t3)))) = true:=c3
  (try (have z1 : decide (a0_0 = t0 && (a0_1 == t1 && (a0_2 == t2 && (a0_3 == t3)))) = true:=by simpa using c3))
  (try (have z2 : (a0_0 == t0 && (a0_1 == t1 && (a0_2 == t2 && (a0_3 == t3)))) = true:=by simpa using c3))
  clear c3;obtain rfl:=Option.some.inj H;go_enter Tryz.func127,Tryz.ntmps127
  try go_wp2_with (first | ((with_reducible refine gd 1 rfl ?_);refine sqX 1 #[.int .i64 a0_0,.int .i64 a0_1,.int .i64 a0_2,.int .i64 a0_3] 58 HB ?_;clear HB;intro gb0 hg w4 hb B0 GW0 HB;clear hb hg))
  replace B0:=sqdr B0;replace HB:=sqdB HB;refine sqst 23 (fun w'=>Ce4 w' gb0 (.int .i64 a0_0) (.int .i64 a0_1) (.int .i64 a0_2) (.int .i64 a0_3)) sqz (fun hHeld=>?_);refine with_tabW spec_ValOk.tab1 spec_ValOk.bits1 (fun HT_ HW_=>?_);generalize w4.drew = w5 at B0 HB hHeld ⊢;refine sqw HT_ HW_ 0 3 hHeld ?_;refine sqo HT_ 1 4 (fun K hK=>?_);refine sqGb rfl Tryz.func93 (spec_l10None.calls _ _ _ _ _ A2.out) ?_;intro w6 hb;replace B0:=sqb B0 hb;replace HB:=sqs HB hb;(try clear hb);refine hK.out _ _ sqz (fun hHeld=>?_);clear hK K;refine sqnm ?_;refine sqp HT_ 2 5 ?_;refine sqp HT_ 3 6 ?_;refine sqpu HT_ 4 7 ?_;refine sqpu HT_ 5 8 ?_;refine sqpu HT_ 6 9 ?_;refine sqpu HT_ 7 10 ?_;refine sqpu HT_ 8 11 ?_;refine sqpu HT_ 9 12 ?_;refine sqpu HT_ 10 13 ?_;refine sqpu HT_ 11 14 ?_;refine sqpu HT_ 12 15 ?_;refine sqpu HT_ 13 16 ?_;refine sqpu HT_ 14 17 ?_;refine sqpu HT_ 15 18 ?_;refine sqpu HT_ 16 19 ?_;refine sqpu HT_ 17 20 ?_;refine sqpu HT_ 18 21 ?_;refine sqpu HT_ 19 22 ?_;refine sqpu HT_ 20 23 ?_;refine sqp HT_ 21 24 ?_;refine sqp HT_ 22 2 ?_;refine done_ (done_of HT_.out (by kernel_rfl)) ?_
  try go_wp2
  go_ret
  exact sqe HB
 have z0 : (a0_0 == t0 && (a0_1 == t1 && (a0_2 == t2 && (a0_3 == t3)))) = false:=by simpa using c3
 (try (have z1 : decide (a0_0 = t0 && (a0_1 == t1 && (a0_2 == t2 && (a0_3 == t3)))) = false:=by simpa using c3))
 (try (have z2 : (a0_0 == t0 && (a0_1 == t1 && (a0_2 == t2 && (a0_3 == t3)))) = false:=by simpa using c3))
 (try (have z3 : ¬ (a0_0 = t0 && (a0_1 == t1 && (a0_2 == t2 && (a0_3 == t3)))):=by simpa using c3))
 clear c3;replace H:=sqbi H;obtain ⟨⟨t4,t5⟩,A7,H⟩:=H;(try dsimp only at H);replace H:=sqbi H;obtain ⟨t6,A8,H⟩:=H;(try dsimp only at H);rcases sqI (t6 = true) with c9 | c9
 ·replace c9:=Bool.eq_false_iff.mpr c9;subst c9;rw [sqff] at H;obtain rfl:=Option.some.inj H;go_enter Tryz.func127,Tryz.ntmps127
  try go_wp2_with (first | ((with_reducible refine gd 1 rfl ?_);refine sqX 1 #[.int .i64 a0_0,.int .i64 a0_1,.int .i64 a0_2,.int .i64 a0_3] 58 HB ?_;clear HB;intro gb0 hg w33 hb B0 GW0 HB;clear hb hg))
  replace B0:=sqdr B0;replace HB:=sqdB HB;refine sqst 23 (fun w'=>Ce4 w' gb0 (.int .i64 a0_0) (.int .i64 a0_1) (.int .i64 a0_2) (.int .i64 a0_3)) sqz (fun hHeld=>?_);refine with_tabW spec_ValOk.tab1 spec_ValOk.bits1 (fun HT_ HW_=>?_);generalize w33.drew = w34 at B0 HB hHeld ⊢;refine sqw HT_ HW_ 0 3 hHeld ?_;refine sqo HT_ 1 4 (fun K hK=>?_);refine sqGb rfl Tryz.func93 (spec_l10None.calls _ _ _ _ _ A2.out) ?_;intro w35 hb;replace B0:=sqb B0 hb;replace HB:=sqs HB hb;(try clear hb);refine hK.out _ _ sqz (fun hHeld=>?_);clear hK K;refine sqnm ?_;refine sqp HT_ 2 5 ?_;refine sqp HT_ 3 6 ?_;refine sqw HT_ HW_ 4 7 hHeld ?_;refine sqo HT_ 5 8 (fun K hK=>?_);refine sqGb rfl Tryz.func129 (spec_l10Range.calls _ _ _ _ _ _ _ A7.out) ?_;intro w36 hb;replace B0:=sqb B0 hb;replace HB:=sqs HB hb;(try clear hb);refine hK.out _ _ sqz (fun hHeld=>?_);clear hK K;refine sqnm ?_;refine sqo HT_ 6 9 (fun K hK=>?_);refine sqGb rfl Tryz.func154 (spec_RangeOk.calls _ _ _ _ A8.out) ?_;intro w37 hb;replace B0:=sqb B0 hb;replace HB:=sqs HB hb;(try clear hb);refine hK.out _ _ sqz (fun hHeld=>?_);clear hK K;refine sqnm ?_;refine sqp HT_ 7 10 ?_;refine sqpu HT_ 8 11 ?_;refine sqpu HT_ 9 12 ?_;refine sqpu HT_ 10 13 ?_;refine sqp HT_ 11 14 ?_;refine sqp HT_ 12 15 ?_;refine sqpu HT_ 13 16 ?_;refine sqpu HT_ 14 17 ?_;refine sqpu HT_ 15 18 ?_;refine sqpu HT_ 16 19 ?_;refine sqpu HT_ 17 20 ?_;refine sqpu HT_ 18 21 ?_;refine sqpu HT_ 19 22 ?_;refine sqp HT_ 20 23 ?_;refine sqp HT_ 21 24 ?_;refine sqp HT_ 22 2 ?_;refine done_ (done_of HT_.out (by kernel_rfl)) ?_
  try go_wp2
  go_ret
  exact sqe HB
 subst c9;rw [if_pos rfl] at H;replace H:=sqbi H;obtain ⟨⟨t7,t8⟩,A10,H⟩:=H;(try dsimp only at H);replace H:=sqbi H;obtain ⟨t9,A11,H⟩:=H;(try dsimp only at H);rcases sqI (t9 = true) with c12 | c12
 ·replace c12:=Bool.eq_false_iff.mpr c12;subst c12;rw [sqff] at H;obtain rfl:=Option.some.inj H;go_enter Tryz.func127,Tryz.ntmps127
  try go_wp2_with (first | ((with_reducible refine gd 1 rfl ?_);refine sqX 1 #[.int .i64 a0_0,.int .i64 a0_1,.int .i64 a0_2,.int .i64 a0_3] 58 HB ?_;clear HB;intro gb0 hg w26 hb B0 GW0 HB;clear hb hg))
  replace B0:=sqdr B0;replace HB:=sqdB HB;refine sqst 23 (fun w'=>Ce4 w' gb0 (.int .i64 a0_0) (.int .i64 a0_1) (.int .i64 a0_2) (.int .i64 a0_3)) sqz (fun hHeld=>?_);refine with_tabW spec_ValOk.tab1 spec_ValOk.bits1 (fun HT_ HW_=>?_);generalize w26.drew = w27 at B0 HB hHeld ⊢;refine sqw HT_ HW_ 0 3 hHeld ?_;refine sqo HT_ 1 4 (fun K hK=>?_);refine sqGb rfl Tryz.func93 (spec_l10None.calls _ _ _ _ _ A2.out) ?_;intro w28 hb;replace B0:=sqb B0 hb;replace HB:=sqs HB hb;(try clear hb);refine hK.out _ _ sqz (fun hHeld=>?_);clear hK K;refine sqnm ?_;refine sqp HT_ 2 5 ?_;refine sqp HT_ 3 6 ?_;refine sqw HT_ HW_ 4 7 hHeld ?_;refine sqo HT_ 5 8 (fun K hK=>?_);refine sqGb rfl Tryz.func129 (spec_l10Range.calls _ _ _ _ _ _ _ A7.out) ?_;intro w29 hb;replace B0:=sqb B0 hb;replace HB:=sqs HB hb;(try clear hb);refine hK.out _ _ sqz (fun hHeld=>?_);clear hK K;refine sqnm ?_;refine sqo HT_ 6 9 (fun K hK=>?_);refine sqGb rfl Tryz.func154 (spec_RangeOk.calls _ _ _ _ A8.out) ?_;intro w30 hb;replace B0:=sqb B0 hb;replace HB:=sqs HB hb;(try clear hb);refine hK.out _ _ sqz (fun hHeld=>?_);clear hK K;refine sqnm ?_;refine sqp HT_ 7 10 ?_;refine sqw HT_ HW_ 8 11 hHeld ?_;refine sqo HT_ 9 12 (fun K hK=>?_);refine sqGb rfl Tryz.func131 (spec_l10Rest.calls _ _ _ _ _ _ _ A10.out) ?_;intro w31 hb;replace B0:=sqb B0 hb;replace HB:=sqs HB hb;(try clear hb);refine hK.out _ _ sqz (fun hHeld=>?_);clear hK K;refine sqnm ?_;refine sqo HT_ 10 13 (fun K hK=>?_);refine sqGb rfl Tryz.func155 (spec_RestOk.calls _ _ _ _ A11.out) ?_;intro w32 hb;replace B0:=sqb B0 hb;replace HB:=sqs HB hb;(try clear hb);refine hK.out _ _ sqz (fun hHeld=>?_);clear hK K;refine sqnm ?_;refine sqp HT_ 11 14 ?_;refine sqp HT_ 12 15 ?_;refine sqpu HT_ 13 16 ?_;refine sqpu HT_ 14 17 ?_;refine sqpu HT_ 15 18 ?_;refine sqpu HT_ 16 19 ?_;refine sqpu HT_ 17 20 ?_;refine sqpu HT_ 18 21 ?_;refine sqpu HT_ 19 22 ?_;refine sqp HT_ 20 23 ?_;refine sqp HT_ 21 24 ?_;refine sqp HT_ 22 2 ?_;refine done_ (done_of HT_.out (by kernel_rfl)) ?_
  try go_wp2
  go_ret
  exact sqe HB
 subst c12;rw [if_pos rfl] at H;replace H:=sqbi H;obtain ⟨⟨t10,t11⟩,A13,H⟩:=H;(try dsimp only at H);replace H:=sqbi H;obtain ⟨⟨t12,t13⟩,A14,H⟩:=H;(try dsimp only at H);replace H:=sqbi H;obtain ⟨⟨t14,t15,t16,t17⟩,A15,H⟩:=H;(try dsimp only at H);obtain rfl:=Option.some.inj H;go_enter Tryz.func127,Tryz.ntmps127
 try go_wp2_with (first | ((with_reducible refine gd 1 rfl ?_);refine sqX 1 #[.int .i64 a0_0,.int .i64 a0_1,.int .i64 a0_2,.int .i64 a0_3] 58 HB ?_;clear HB;intro gb0 hg w16 hb B0 GW0 HB;clear hb hg))
 replace B0:=sqdr B0;replace HB:=sqdB HB;refine sqst 23 (fun w'=>Ce4 w' gb0 (.int .i64 a0_0) (.int .i64 a0_1) (.int .i64 a0_2) (.int .i64 a0_3)) sqz (fun hHeld=>?_);refine with_tabW spec_ValOk.tab1 spec_ValOk.bits1 (fun HT_ HW_=>?_);generalize w16.drew = w17 at B0 HB hHeld ⊢;refine sqw HT_ HW_ 0 3 hHeld ?_;refine sqo HT_ 1 4 (fun K hK=>?_);refine sqGb rfl Tryz.func93 (spec_l10None.calls _ _ _ _ _ A2.out) ?_;intro w18 hb;replace B0:=sqb B0 hb;replace HB:=sqs HB hb;(try clear hb);refine hK.out _ _ sqz (fun hHeld=>?_);clear hK K;refine sqnm ?_;refine sqp HT_ 2 5 ?_;refine sqp HT_ 3 6 ?_;refine sqw HT_ HW_ 4 7 hHeld ?_;refine sqo HT_ 5 8 (fun K hK=>?_);refine sqGb rfl Tryz.func129 (spec_l10Range.calls _ _ _ _ _ _ _ A7.out) ?_;intro w19 hb;replace B0:=sqb B0 hb;replace HB:=sqs HB hb;(try clear hb);refine hK.out _ _ sqz (fun hHeld=>?_);clear hK K;refine sqnm ?_;refine sqo HT_ 6 9 (fun K hK=>?_);refine sqGb rfl Tryz.func154 (spec_RangeOk.calls _ _ _ _ A8.out) ?_;intro w20 hb;replace B0:=sqb B0 hb;replace HB:=sqs HB hb;(try clear hb);refine hK.out _ _ sqz (fun hHeld=>?_);clear hK K;refine sqnm ?_;refine sqp HT_ 7 10 ?_;refine sqw HT_ HW_ 8 11 hHeld ?_;refine sqo HT_ 9 12 (fun K hK=>?_);refine sqGb rfl Tryz.func131 (spec_l10Rest.calls _ _ _ _ _ _ _ A10.out) ?_;intro w21 hb;replace B0:=sqb B0 hb;replace HB:=sqs HB hb;(try clear hb);refine hK.out _ _ sqz (fun hHeld=>?_);clear hK K;refine sqnm ?_;refine sqo HT_ 10 13 (fun K hK=>?_);refine sqGb rfl Tryz.func155 (spec_RestOk.calls _ _ _ _ A11.out) ?_;intro w22 hb;replace B0:=sqb B0 hb;replace HB:=sqs HB hb;(try clear hb);refine hK.out _ _ sqz (fun hHeld=>?_);clear hK K;refine sqnm ?_;refine sqp HT_ 11 14 ?_;refine sqp HT_ 12 15 ?_;refine sqw HT_ HW_ 13 16 hHeld ?_;refine sqw HT_ HW_ 14 17 hHeld ?_;refine sqw HT_ HW_ 16 19 hHeld ?_;refine sqo HT_ 15 18 (fun K hK=>?_);refine sqGb rfl Tryz.func129 (spec_l10Range.calls _ _ _ _ _ _ _ A13.out) ?_;intro w23 hb;replace B0:=sqb B0 hb;replace HB:=sqs HB hb;(try clear hb);refine hK.out _ _ sqz (fun hHeld=>?_);clear hK K;refine sqnm ?_;refine sqo HT_ 17 20 (fun K hK=>?_);refine sqGb rfl Tryz.func131 (spec_l10Rest.calls _ _ _ _ _ _ _ A14.out) ?_;intro w24 hb;replace B0:=sqb B0 hb;replace HB:=sqs HB hb;(try clear hb);refine hK.out _ _ sqz (fun hHeld=>?_);clear hK K;refine sqnm ?_;refine sqo HT_ 18 21 (fun K hK=>?_);refine sqGb rfl Tryz.func90 (spec_ValMake.calls _ _ _ _ _ _ _ _ _ _ A15.out) ?_;intro w25 hb;replace B0:=sqb B0 hb;replace HB:=sqs HB hb;(try clear hb);refine hK.out _ _ sqz (fun hHeld=>?_);clear hK K;refine sqnm ?_;refine sqp HT_ 19 22 ?_;refine sqp HT_ 20 23 ?_;refine sqp HT_ 21 24 ?_;refine sqp HT_ 22 2 ?_;refine done_ (done_of HT_.out (by kernel_rfl)) ?_
 try go_wp2
 go_ret
 exact sqe HB

end Go.Proofs.YtklkdpcopfjmcaaGreat.PFnExactAbsJoin
