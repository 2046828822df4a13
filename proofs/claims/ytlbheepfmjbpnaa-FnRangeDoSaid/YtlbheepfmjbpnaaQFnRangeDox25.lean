/- Functions of the program as plain Lean functions, and that calls of them come to what these tell. Conditions: those in each law. -/
import Derived.Test.YtlbheepfmjbpnaaSq
import Derived.Test.YtlbheepfmjbpnaaDFnRangeDo
import Derived.Test.YtlbheepfmjbpnaaQFnRangeDox0
import Derived.Test.YtlbheepfmjbpnaaQFnRangeDox16
import Derived.Test.YtlbheepfmjbpnaaQFnRangeDox5
import Derived.Test.YtlbheepfmjbpnaaQFnRangeDox8
namespace Go.Proofs.Ytlbheepfmjbpnaa.PFnRangeDo
open Go.RowKit Go.Proofs.Ytlbheepfmjbpnaa.Sq Go.Proofs.YtlbheepfmjbpnaaW.PrintWords Go.Proofs.YtlbheepfmjbpnaaW.PrintLast Go.Proofs.YtlbheepfmjbpnaaW.PrintMore
attribute [local go_sem] max2_int min2_int max_two min_two max_three min_three max_four min_four   -- for this text's walks alone
set_option linter.unusedVariables false
set_option linter.unusedSimpArgs false

set_option maxHeartbeats 8000000
set_option maxRecDepth 100000
/-! ### laws_sameInts: function 8 -/
theorem laws_sameInts.calls (k : Nat) (A0 : Option Addr) (c0 : Nat) (l0 : List Int) (A1 : Option Addr) (c1 : Nat) (l1 : List Int) (r : Bool) (w : World) (hr0 : Kd.C (Kd.int .i64) w A0 l0.length l0) (hc0 : l0.length ≤ c0) (hr1 : Kd.C (Kd.int .i64) w A1 l1.length l1) (hc1 : l1.length ≤ c1) (h : laws_sameInts.f k l0 l1 = some r) :
  Calls Try.prog 8 #[.slice A0 l0.length c0,.slice A1 l1.length c1] w fun e w'=>e = .returned (.bool r)∧Drawn0 w w':=by
 have HR0:=Aside0.mk hr0;have HC0:=Aside0.mk hc0;clear hr0 hc0;have HR1:=Aside0.mk hr1;have HC1:=Aside0.mk hc1;clear hr1 hc1;have H:=h;unfold laws_sameInts.f at H;clear h;replace H:=sqi H;rcases H with ⟨c3,H⟩ | ⟨c3,H⟩
 ·have z6 : ((l0.length : Int) == (l1.length : Int)) = false:=beq_eq_false_iff_ne.mpr c3;have z7 : ((l0.length : Int) != (l1.length : Int)) = true:=bne_iff_ne.mpr c3
  have z8 : (l0.length == l1.length) = false:=by first | simpa using c3 | (simp at c3 ⊢;omega)
  obtain rfl:=Option.some.inj H;go_enter Try.func8,Try.ntmps8
  go_wp2
  repeat (go_quiet (fail);try go_wp2)
  go_ret
  exact ⟨sqE,sqD⟩
 have z6 : ((l0.length : Int) == (l1.length : Int)) = true:=beq_iff_eq.mpr c3;have z7 : ((l0.length : Int) != (l1.length : Int)) = false:=bne_eq_false_iff_eq.mpr c3
 have z8 : (l0.length == l1.length) = true:=by first | simpa using c3 | (simp at c3 ⊢;omega)
 clear c3;have H':=Aside0.mk H;clear H;go_enter Try.func8,Try.ntmps8
 go_wp2
 repeat (go_quiet (fail);try go_wp2)
 go_loopg [5] k (fun kq v5 w'=>∃ (x0 : Int),v5 = .int .i64 x0∧Aside0 (laws_sameInts.l0 kq l0 l1 x0 = some r)∧Aside0 (kq ≤ k)∧Drawn0 w w')
 case atStart=>exact ⟨(0),sqE,H',⟨Nat.le_refl _⟩,sqD⟩
 case round =>
  clear H';obtain ⟨x0,rfl,HA,HK1,⟨m1,rfl⟩⟩:=hrel;cases gk with
  | zero=>exact absurd HA.out (by simp [laws_sameInts.l0])
  | succ k1 =>
   have H:=HA.out;clear HA;simp only [laws_sameInts.l0] at H;replace H:=sqi H;rcases H with ⟨c4,H⟩ | ⟨c4,H⟩
   ·have z9:=decide_eq_false c4;clear c4;obtain rfl:=Option.some.inj H
    go_wp2
    repeat (go_quiet (fail);try go_wp2)
    go_ret
    exact ⟨sqE,sqD⟩
   have z9:=decide_eq_true c4;clear c4;replace H:=sqi H;rcases H with ⟨c5,H⟩ | ⟨c5,H⟩
   ·cases H
   have zg:=decide_eq_true c5;clear c5;replace H:=sqi H;rcases H with ⟨c6,H⟩ | ⟨c6,H⟩
   ·cases H
   have zh:=decide_eq_true c6;clear c6;replace H:=sqi H;rcases H with ⟨c7,H⟩ | ⟨c7,H⟩
   ·have za : ((rd l0 x0) == (rd l1 x0)) = false:=beq_eq_false_iff_ne.mpr c7;have zb : ((rd l0 x0) != (rd l1 x0)) = true:=bne_iff_ne.mpr c7;obtain rfl:=Option.some.inj H;have z0 : 0 ≤ (x0 : Int):=sqd;have z1 : x0 < (l0.length : Int):=sqd;obtain ⟨zc,z4,zd⟩:=Kd.at_int HR0.out x0 z0 z1;cases z4;replace z0:=eq_true z0;replace z1:=eq_true z1;have z2 : 0 ≤ (x0 : Int):=sqd;have z3 : x0 < (l1.length : Int):=sqd;obtain ⟨ze,z5,zf⟩:=Kd.at_int HR1.out x0 z2 z3;cases z5;replace z2:=eq_true z2;replace z3:=eq_true z3
    go_wp2
    repeat (go_quiet (fail);try go_wp2)
    go_ret
    exact ⟨sqE,sqD⟩
   have za : ((rd l0 x0) == (rd l1 x0)) = true:=beq_iff_eq.mpr c7;have zb : ((rd l0 x0) != (rd l1 x0)) = false:=bne_eq_false_iff_eq.mpr c7;clear c7;have H':=Aside0.mk H;clear H;have z0 : 0 ≤ (x0 : Int):=sqd;have z1 : x0 < (l0.length : Int):=sqd;obtain ⟨zc,z4,zd⟩:=Kd.at_int HR0.out x0 z0 z1;cases z4;replace z0:=eq_true z0;replace z1:=eq_true z1;have z2 : 0 ≤ (x0 : Int):=sqd;have z3 : x0 < (l1.length : Int):=sqd;obtain ⟨ze,z5,zf⟩:=Kd.at_int HR1.out x0 z2 z3;cases z5;replace z2:=eq_true z2;replace z3:=eq_true z3
   go_wp2
   repeat (go_quiet (fail);try go_wp2)
   go_roundg k1
   case measure=>have:=HK1.out;omega
   case rel=>exact ⟨(wrap64 (x0 + 1)),sqE,H',⟨by have:=HK1.out;omega⟩,sqD⟩

/-! ### laws_at: function 46 -/
theorem laws_at.calls (A0 : Option Addr) (c0 : Nat) (l0 : List Int) (a1 : Int) (r : Int) (w : World) (hr0 : Kd.C (Kd.int .u8) w A0 l0.length l0) (hc0 : l0.length ≤ c0) (h : laws_at.f l0 a1 = some r) :
  Calls Try.prog 46 #[.slice A0 l0.length c0,.int .i64 a1] w fun e w'=>e = .returned (.int .u8 r)∧Drawn0 w w':=by
 have HR0:=Aside0.mk hr0;have HC0:=Aside0.mk hc0;clear hr0 hc0;have H:=h;unfold laws_at.f at H;clear h;replace H:=sqj H;rcases H with ⟨c3,H⟩ | ⟨c3,H⟩
 ·have za : ((l0.length : Int) == 0) = true:=beq_iff_eq.mpr c3;have zb : ((l0.length : Int) != 0) = false:=bne_eq_false_iff_eq.mpr c3;clear c3;obtain rfl:=Option.some.inj H;go_enter Try.func46,Try.ntmps46
  go_wp2
  repeat (go_quiet (fail);try go_wp2)
  go_ret
  exact ⟨sqE,sqD⟩
 have za : ((l0.length : Int) == 0) = false:=beq_eq_false_iff_ne.mpr c3;have zb : ((l0.length : Int) != 0) = true:=bne_iff_ne.mpr c3
 have zi : ¬ (l0 = []):=fun h_=>c3 (by rw [h_];rfl)
 replace H:=sqj H;rcases H with ⟨c4,H⟩ | ⟨c4,H⟩
 ·have zc:=decide_eq_true c4;clear c4;replace H:=sqi H;rcases H with ⟨c5,H⟩ | ⟨c5,H⟩
  ·cases H
  have zj:=decide_eq_true c5;clear c5;obtain rfl:=Option.some.inj H;have z2 : 0 ≤ (a1 : Int):=sqd;have z3 : a1 < (l0.length : Int):=sqd;obtain ⟨zk,zd,zl⟩:=Kd.at_int HR0.out a1 z2 z3;cases zd;replace z2:=eq_true z2;replace z3:=eq_true z3;go_enter Try.func46,Try.ntmps46
  go_wp2
  repeat (go_quiet (fail);try go_wp2)
  go_ret
  exact ⟨sqE,sqD⟩
 have zc:=decide_eq_false c4;clear c4;obtain ⟨z0,z4⟩ : ∃ j_ : Int,(Int.tmod a1 (l0.length : Int)) = j_:=⟨_,rfl⟩
 replace H : (if 0 ≤ (z0) then (if (z0) < (l0.length : Int) then (if 0 ≤ (Int.tmod (wrap64 ((wrap64 (a1 * 5)) + 1)) (l0.length : Int)) then (if (Int.tmod (wrap64 ((wrap64 (a1 * 5)) + 1)) (l0.length : Int)) < (l0.length : Int) then (some (((((((rd l0 (z0)) * 31) % 256) + (rd l0 (Int.tmod (wrap64 ((wrap64 (a1 * 5)) + 1)) (l0.length : Int)))) % 256) + ((a1) % 256)) % 256)) else (none)) else (none)) else (none)) else (none)) = some r:=by first | (rw [z4] at H;exact H) | (simp only [z4] at H ⊢;exact H)
 replace H:=sqi H;rcases H with ⟨c7,H⟩ | ⟨c7,H⟩
 ·cases H
 have zm:=decide_eq_true c7;clear c7;replace H:=sqi H;rcases H with ⟨c8,H⟩ | ⟨c8,H⟩
 ·cases H
 have zn:=decide_eq_true c8;clear c8;obtain ⟨z1,z5⟩ : ∃ j_ : Int,(Int.tmod (wrap64 ((wrap64 (a1 * 5)) + 1)) (l0.length : Int)) = j_:=⟨_,rfl⟩
 replace H : (if 0 ≤ (z1) then (if (z1) < (l0.length : Int) then (some (((((((rd l0 (z0)) * 31) % 256) + (rd l0 (z1))) % 256) + ((a1) % 256)) % 256)) else (none)) else (none)) = some r:=by first | (rw [z5] at H;exact H) | (simp only [z5] at H ⊢;exact H)
 replace H:=sqi H;rcases H with ⟨c10,H⟩ | ⟨c10,H⟩
 ·cases H
 have zo:=decide_eq_true c10;clear c10;replace H:=sqi H;rcases H with ⟨c11,H⟩ | ⟨c11,H⟩
 ·cases H
 have zp:=decide_eq_true c11;clear c11;obtain rfl:=Option.some.inj H;have z6 : 0 ≤ ((z0) : Int):=sqd;have z7 : (z0) < (l0.length : Int):=sqd;obtain ⟨ze,zf,zq⟩:=Kd.at_int HR0.out (z0) z6 z7;cases zf;replace z6:=eq_true z6;replace z7:=eq_true z7;have z8 : 0 ≤ ((z1) : Int):=sqd;have z9 : (z1) < (l0.length : Int):=sqd;obtain ⟨zg,zh,zr⟩:=Kd.at_int HR0.out (z1) z8 z9;obtain rfl : ze = zg:=(by injection zh);replace z8:=eq_true z8;replace z9:=eq_true z9;go_enter Try.func46,Try.ntmps46
 go_wp2
 repeat (go_quiet (fail);try go_wp2)
 go_ret
 exact ⟨by first | rfl | (simp;done) | (simp only [← z4,← z5] <;> (first | rfl | simp)) | (simp [*];done),sqD⟩

/-! ### laws_wide: function 47 -/
theorem laws_wide.calls (A0 : Option Addr) (c0 : Nat) (l0 : List Int) (a1 : Int) (r : Int) (w : World) (hr0 : Kd.C (Kd.int .u8) w A0 l0.length l0) (hc0 : l0.length ≤ c0) (h : laws_wide.f l0 a1 = some r) :
  Calls Try.prog 47 #[.slice A0 l0.length c0,.int .i64 a1] w fun e w'=>e = .returned (.int .i64 r)∧Drawn0 w w':=by
 have HR0:=Aside0.mk hr0;have HC0:=Aside0.mk hc0;clear hr0 hc0;have H:=h;unfold laws_wide.f at H;clear h;replace H:=sqbi H;obtain ⟨t0,A3,H⟩:=H;(try dsimp only at H);replace H:=sqbi H;obtain ⟨t1,A4,H⟩:=H;(try dsimp only at H);replace H:=sqbi H;obtain ⟨t2,A5,H⟩:=H;(try dsimp only at H);replace H:=sqbi H;obtain ⟨t3,A6,H⟩:=H;(try dsimp only at H);obtain rfl:=Option.some.inj H;go_enter Try.func47,Try.ntmps47;go_wp2_with (first | ((with_reducible refine gf 46 rfl ?_);refine sqLq rfl (some 7) Try.func46 (laws_at.calls _ _ _ _ _ _ (sqC HR0.out) HC0.out A3.out) ?_;intro nd) | ((with_reducible refine gf 46 rfl ?_);refine sqLq rfl (some 13) Try.func46 (laws_at.calls _ _ _ _ _ _ (sqC HR0.out) HC0.out A4.out) ?_;intro nd) | ((with_reducible refine gf 46 rfl ?_);refine sqLq rfl (some 20) Try.func46 (laws_at.calls _ _ _ _ _ _ (sqC HR0.out) HC0.out A5.out) ?_;intro nd) | ((with_reducible refine gf 46 rfl ?_);refine sqLq rfl (some 27) Try.func46 (laws_at.calls _ _ _ _ _ _ (sqC HR0.out) HC0.out A6.out) ?_;intro nd))
 go_ret
 exact ⟨sqE,sqD⟩

/-! ### laws_within: function 10 -/
theorem laws_within.calls (k : Nat) (a0_0 : Int) (a0_1 : Int) (A1 : Option Addr) (c1 : Nat) (l1 : List Int) (a2 : Int) (r : Int) (w : World) (hr1 : Kd.C (Kd.int .u8) w A1 l1.length l1) (hc1 : l1.length ≤ c1) (h : laws_within.f k a0_0 a0_1 l1 a2 = some r) :
  Calls Try.prog 10 #[.agg #[.int .i64 a0_0,.int .i64 a0_1],.slice A1 l1.length c1,.int .i64 a2] w fun e w'=>e = .returned (.int .i64 r)∧Below w.heap.size w w':=by
 have hu24:=Try.underlying24;have HR1:=Aside0.mk hr1;have HC1:=Aside0.mk hc1;clear hr1 hc1;have HB:=Aside0.mk (Below.refl w.heap.size w);have H:=h;unfold laws_within.f at H;clear h;have HC4:=Aside0.mk H;clear H;go_enter Try.func10,Try.ntmps10;go_upto_region 1 with (first | ((with_reducible refine gd 3 rfl ?_);refine sqX 3 #[.int .i64 a0_0,.int .i64 a0_1] 24 HB ?_;clear HB;intro gb0 hg w5 hb B0 GW0 HB;clear hb hg))
 repeat (go_quiet (first | ((with_reducible refine gd 3 rfl ?_);refine sqX 3 #[.int .i64 a0_0,.int .i64 a0_1] 24 HB ?_;clear HB;intro gb0 hg w5 hb B0 GW0 HB;clear hb hg));go_upto_region 1 with (first | ((with_reducible refine gd 3 rfl ?_);refine sqX 3 #[.int .i64 a0_0,.int .i64 a0_1] 24 HB ?_;clear HB;intro gb0 hg w5 hb B0 GW0 HB;clear hb hg)))
 (try simp only [Act.put,List.setIfInBounds_toArray,List.set_cons_zero,List.set_cons_succ])
 go_cut [18] (fun v18 wc=>∃ (kq : Nat) (x0 : Bool),v18 = .bool x0∧Aside0 (laws_within.j0 kq l1 a2 x0 a0_0 a0_1 = some r)∧Aside0 (kq ≤ k)∧Aside0 (wc.heap[gb0]? = some (.cells #[.int .i64 a0_0,.int .i64 a0_1] 24 (0,0)))∧Aside0 (Below w.heap.size w wc))
 case first =>
  have H:=HC4.out;clear HC4;replace H:=sqj H;rcases H with ⟨c6,H⟩ | ⟨c6,H⟩
  ·have z0 : decide (a0_1 < a0_0) = true:=decide_eq_true c6;clear c6
   (first | rw [z0] | (simp only [i64_w,i32_w];rw [z0]) | skip)
   have H':=Aside0.mk H;clear H;obtain ⟨z5,z6,z7,z8⟩:=sqc2 B0
   go_wp2
   repeat (go_quiet (fail);try go_wp2)
   go_meet
   case rel=>exact ⟨_,(true),sqE,H',⟨sqle⟩,sqk B0,sqh HB⟩
  have z0 : decide (a0_1 < a0_0) = false:=decide_eq_false c6;clear c6
  (first | rw [z0] | (simp only [i64_w,i32_w];rw [z0]) | skip)
  replace H:=sqbi H;obtain ⟨t0,A8,H⟩:=H;(try dsimp only at H);have H':=Aside0.mk H;clear H;obtain ⟨z9,za,zb,zc⟩:=sqc2 B0;go_wp2_with (first | (go_at_call 9;(with_reducible refine (spec_RangeOk.calls a0_0 a0_1 t0 _ A8.out).mono ?_);rintro e w10 ⟨rfl,hb⟩;replace B0:=sqb B0 hb;replace HB:=sqs HB hb;(try clear hb)))
  repeat (go_quiet (first | (go_at_call 9;(with_reducible refine (spec_RangeOk.calls a0_0 a0_1 t0 _ A8.out).mono ?_);rintro e w10 ⟨rfl,hb⟩;replace B0:=sqb B0 hb;replace HB:=sqs HB hb;(try clear hb)));try go_wp2_with (first | (go_at_call 9;(with_reducible refine (spec_RangeOk.calls a0_0 a0_1 t0 _ A8.out).mono ?_);rintro e w10 ⟨rfl,hb⟩;replace B0:=sqb B0 hb;replace HB:=sqs HB hb;(try clear hb))))
  go_meet
  case rel=>exact ⟨_,(!t0),sqE,H',⟨sqle⟩,sqk B0,sqh HB⟩
 case rest =>
  clear HC4;obtain ⟨kq,x0,rfl,HA,HJ3,B0,HB⟩:=hcut;cases kq with
  | zero=>exact absurd HA.out (by simp [laws_within.j0])
  | succ kj3 =>
   have H:=HA.out;clear HA;simp only [laws_within.j0] at H
   by_cases c11 : x0 = true
   ·subst c11;rw [if_pos rfl] at H;replace H:=sqbi H;obtain ⟨t1,A12,H⟩:=H;(try dsimp only at H);obtain rfl:=Option.some.inj H;go_wp2_with (first | (go_at_call 46;(with_reducible refine (laws_at.calls _ _ l1 a2 t1 _ ?side1 ?side2 A12.out).mono ?_);(case side1=>exact sqC (Kd.C_below HR1.out HB.out));(case side2=>exact HC1.out);rintro e w' ⟨rfl,⟨nd,rfl⟩⟩;(try exact sqdd)))
    repeat (go_quiet (first | (go_at_call 46;(with_reducible refine (laws_at.calls _ _ l1 a2 t1 _ ?side1 ?side2 A12.out).mono ?_);(case side1=>exact sqC (Kd.C_below HR1.out HB.out));(case side2=>exact HC1.out);rintro e w' ⟨rfl,⟨nd,rfl⟩⟩;(try exact sqdd)));try go_wp2_with (first | (go_at_call 46;(with_reducible refine (laws_at.calls _ _ l1 a2 t1 _ ?side1 ?side2 A12.out).mono ?_);(case side1=>exact sqC (Kd.C_below HR1.out HB.out));(case side2=>exact HC1.out);rintro e w' ⟨rfl,⟨nd,rfl⟩⟩;(try exact sqdd))))
    go_ret
    exact sqe HB
   replace c11:=Bool.eq_false_iff.mpr c11;subst c11;rw [sqff] at H;replace H:=sqbi H;obtain ⟨t2,A13,H⟩:=H;(try dsimp only at H);replace H:=sqj H;rcases H with ⟨c14,H⟩ | ⟨c14,H⟩
   ·have z1 : ((Int.tmod (wrap64 (t2)) 4) == 0) = true:=beq_iff_eq.mpr c14;have z2 : ((Int.tmod (wrap64 (t2)) 4) != 0) = false:=bne_eq_false_iff_eq.mpr c14;clear c14;replace H:=sqbi H;obtain ⟨t3,A15,H⟩:=H;(try dsimp only at H);replace H:=sqj H;rcases H with ⟨c16,H⟩ | ⟨c16,H⟩
    ·cases H
    have zd : ((wrap64 ((wrap64 (a0_1 - a0_0)) + 1)) == 0) = false:=beq_eq_false_iff_ne.mpr c16;have ze : ((wrap64 ((wrap64 (a0_1 - a0_0)) + 1)) != 0) = true:=bne_iff_ne.mpr c16;obtain rfl:=Option.some.inj H;obtain ⟨zf,zg,zh,zi⟩:=sqc2 B0;go_wp2_with (first | (go_at_call 46;(with_reducible refine (laws_at.calls _ _ l1 (wrap64 (a2 + 5)) t2 _ ?side1 ?side2 A13.out).mono ?_);(case side1=>exact sqC (Kd.C_below HR1.out HB.out));(case side2=>exact HC1.out);rintro e w' ⟨rfl,⟨nd,rfl⟩⟩;(try exact sqdd)) | (go_at_call 46;(with_reducible refine (laws_at.calls _ _ l1 a2 t3 _ ?side1 ?side2 A15.out).mono ?_);(case side1=>exact sqC (Kd.C_below HR1.out (sqB HB)));(case side2=>exact HC1.out);rintro e w' ⟨rfl,⟨nd,rfl⟩⟩;(try exact sqdd)))
    repeat (go_quiet (first | (go_at_call 46;(with_reducible refine (laws_at.calls _ _ l1 (wrap64 (a2 + 5)) t2 _ ?side1 ?side2 A13.out).mono ?_);(case side1=>exact sqC (Kd.C_below HR1.out HB.out));(case side2=>exact HC1.out);rintro e w' ⟨rfl,⟨nd,rfl⟩⟩;(try exact sqdd)) | (go_at_call 46;(with_reducible refine (laws_at.calls _ _ l1 a2 t3 _ ?side1 ?side2 A15.out).mono ?_);(case side1=>exact sqC (Kd.C_below HR1.out (sqB HB)));(case side2=>exact HC1.out);rintro e w' ⟨rfl,⟨nd,rfl⟩⟩;(try exact sqdd)));try go_wp2_with (first | (go_at_call 46;(with_reducible refine (laws_at.calls _ _ l1 (wrap64 (a2 + 5)) t2 _ ?side1 ?side2 A13.out).mono ?_);(case side1=>exact sqC (Kd.C_below HR1.out HB.out));(case side2=>exact HC1.out);rintro e w' ⟨rfl,⟨nd,rfl⟩⟩;(try exact sqdd)) | (go_at_call 46;(with_reducible refine (laws_at.calls _ _ l1 a2 t3 _ ?side1 ?side2 A15.out).mono ?_);(case side1=>exact sqC (Kd.C_below HR1.out (sqB HB)));(case side2=>exact HC1.out);rintro e w' ⟨rfl,⟨nd,rfl⟩⟩;(try exact sqdd))))
    go_ret
    exact sqe HB
   have z1 : ((Int.tmod (wrap64 (t2)) 4) == 0) = false:=beq_eq_false_iff_ne.mpr c14;have z2 : ((Int.tmod (wrap64 (t2)) 4) != 0) = true:=bne_iff_ne.mpr c14;replace H:=sqi H;rcases H with ⟨c18,H⟩ | ⟨c18,H⟩
   ·have z3 : ((Int.tmod (wrap64 (t2)) 4) == 1) = false:=beq_eq_false_iff_ne.mpr c18;have z4 : ((Int.tmod (wrap64 (t2)) 4) != 1) = true:=bne_iff_ne.mpr c18;replace H:=sqbi H;obtain ⟨t4,A22,H⟩:=H;(try dsimp only at H);replace H:=sqj H;rcases H with ⟨c23,H⟩ | ⟨c23,H⟩
    ·cases H
    have zj : ((wrap64 ((wrap64 (a0_1 - a0_0)) + 1)) == 0) = false:=beq_eq_false_iff_ne.mpr c23;have zk : ((wrap64 ((wrap64 (a0_1 - a0_0)) + 1)) != 0) = true:=bne_iff_ne.mpr c23;obtain rfl:=Option.some.inj H;obtain ⟨zl,zm,zn,zo⟩:=sqc2 B0;go_wp2_with (first | (go_at_call 46;(with_reducible refine (laws_at.calls _ _ l1 (wrap64 (a2 + 5)) t2 _ ?side1 ?side2 A13.out).mono ?_);(case side1=>exact sqC (Kd.C_below HR1.out HB.out));(case side2=>exact HC1.out);rintro e w' ⟨rfl,⟨nd,rfl⟩⟩;(try exact sqdd)) | (go_at_call 47;(with_reducible refine (laws_wide.calls _ _ l1 a2 t4 _ ?side1 ?side2 A22.out).mono ?_);(case side1=>exact sqC (Kd.C_below HR1.out (sqB HB)));(case side2=>exact HC1.out);rintro e w' ⟨rfl,⟨nd,rfl⟩⟩;(try exact sqdd)))
    repeat (go_quiet (first | (go_at_call 46;(with_reducible refine (laws_at.calls _ _ l1 (wrap64 (a2 + 5)) t2 _ ?side1 ?side2 A13.out).mono ?_);(case side1=>exact sqC (Kd.C_below HR1.out HB.out));(case side2=>exact HC1.out);rintro e w' ⟨rfl,⟨nd,rfl⟩⟩;(try exact sqdd)) | (go_at_call 47;(with_reducible refine (laws_wide.calls _ _ l1 a2 t4 _ ?side1 ?side2 A22.out).mono ?_);(case side1=>exact sqC (Kd.C_below HR1.out (sqB HB)));(case side2=>exact HC1.out);rintro e w' ⟨rfl,⟨nd,rfl⟩⟩;(try exact sqdd)));try go_wp2_with (first | (go_at_call 46;(with_reducible refine (laws_at.calls _ _ l1 (wrap64 (a2 + 5)) t2 _ ?side1 ?side2 A13.out).mono ?_);(case side1=>exact sqC (Kd.C_below HR1.out HB.out));(case side2=>exact HC1.out);rintro e w' ⟨rfl,⟨nd,rfl⟩⟩;(try exact sqdd)) | (go_at_call 47;(with_reducible refine (laws_wide.calls _ _ l1 a2 t4 _ ?side1 ?side2 A22.out).mono ?_);(case side1=>exact sqC (Kd.C_below HR1.out (sqB HB)));(case side2=>exact HC1.out);rintro e w' ⟨rfl,⟨nd,rfl⟩⟩;(try exact sqdd))))
    go_ret
    exact sqe HB
   have z3 : ((Int.tmod (wrap64 (t2)) 4) == 1) = true:=beq_iff_eq.mpr c18;have z4 : ((Int.tmod (wrap64 (t2)) 4) != 1) = false:=bne_eq_false_iff_eq.mpr c18;clear c18;replace H:=sqbi H;obtain ⟨t5,A19,H⟩:=H;(try dsimp only at H);replace H:=sqj H;rcases H with ⟨c20,H⟩ | ⟨c20,H⟩
   ·cases H
   have zp : ((wrap64 ((wrap64 (a0_1 - a0_0)) + 1)) == 0) = false:=beq_eq_false_iff_ne.mpr c20;have zq : ((wrap64 ((wrap64 (a0_1 - a0_0)) + 1)) != 0) = true:=bne_iff_ne.mpr c20;obtain rfl:=Option.some.inj H;obtain ⟨zr,zt,zu,zv⟩:=sqc2 B0;go_wp2_with (first | (go_at_call 46;(with_reducible refine (laws_at.calls _ _ l1 (wrap64 (a2 + 5)) t2 _ ?side1 ?side2 A13.out).mono ?_);(case side1=>exact sqC (Kd.C_below HR1.out HB.out));(case side2=>exact HC1.out);rintro e w' ⟨rfl,⟨nd,rfl⟩⟩;(try exact sqdd)) | (go_at_call 46;(with_reducible refine (laws_at.calls _ _ l1 a2 t5 _ ?side1 ?side2 A19.out).mono ?_);(case side1=>exact sqC (Kd.C_below HR1.out (sqB HB)));(case side2=>exact HC1.out);rintro e w' ⟨rfl,⟨nd,rfl⟩⟩;(try exact sqdd)))
   repeat (go_quiet (first | (go_at_call 46;(with_reducible refine (laws_at.calls _ _ l1 (wrap64 (a2 + 5)) t2 _ ?side1 ?side2 A13.out).mono ?_);(case side1=>exact sqC (Kd.C_below HR1.out HB.out));(case side2=>exact HC1.out);rintro e w' ⟨rfl,⟨nd,rfl⟩⟩;(try exact sqdd)) | (go_at_call 46;(with_reducible refine (laws_at.calls _ _ l1 a2 t5 _ ?side1 ?side2 A19.out).mono ?_);(case side1=>exact sqC (Kd.C_below HR1.out (sqB HB)));(case side2=>exact HC1.out);rintro e w' ⟨rfl,⟨nd,rfl⟩⟩;(try exact sqdd)));try go_wp2_with (first | (go_at_call 46;(with_reducible refine (laws_at.calls _ _ l1 (wrap64 (a2 + 5)) t2 _ ?side1 ?side2 A13.out).mono ?_);(case side1=>exact sqC (Kd.C_below HR1.out HB.out));(case side2=>exact HC1.out);rintro e w' ⟨rfl,⟨nd,rfl⟩⟩;(try exact sqdd)) | (go_at_call 46;(with_reducible refine (laws_at.calls _ _ l1 a2 t5 _ ?side1 ?side2 A19.out).mono ?_);(case side1=>exact sqC (Kd.C_below HR1.out (sqB HB)));(case side2=>exact HC1.out);rintro e w' ⟨rfl,⟨nd,rfl⟩⟩;(try exact sqdd))))
   go_ret
   exact sqe HB

/-! ### impl_NumDo: function 11 -/
theorem impl_NumDo.calls (k : Nat) (a0 : Int) (a1 : Int) (a2 : Int) (r1 : Int) (r2 : Int) (w : World) (h : impl_NumDo.f k a0 a1 a2 = some (r1,r2)) :
  Calls Try.prog 11 #[.int .i64 a0,.int .i64 a1,.int .i64 a2] w fun e w'=>e = .returned (.tuple #[.int .i64 r1,.int .i64 r2])∧Drawn0 w w':=by
 have H:=h;unfold impl_NumDo.f at H;clear h;have HC4:=Aside0.mk H;clear H;go_enter Try.func11,Try.ntmps11;go_upto_region 1 with (fail);go_cut [21] (fun v21 wc=>∃ (kq : Nat) (x0 : Bool),v21 = .bool x0∧Aside0 (impl_NumDo.j0 kq a0 a1 a2 x0 = some (r1,r2))∧Aside0 (kq ≤ k)∧Drawn0 w wc)
 case first =>
  have H:=HC4.out;clear HC4;replace H:=sqbi H;obtain ⟨t0,A5,H⟩:=H;(try dsimp only at H);rcases sqI (t0 = true) with c6 | c6
  ·replace c6:=Bool.eq_false_iff.mpr c6;subst c6;rw [sqff] at H;have H':=Aside0.mk H;clear H;go_wp2_with (first | ((with_reducible refine gf 27 rfl ?_);refine sqLq rfl (some 10) Try.func27 (impl_numOp.calls _ _ _ A5.out) ?_;intro nd));go_meet
   case rel=>exact ⟨_,(true),sqE,H',⟨sqle⟩,sqD⟩
  subst c6;rw [if_pos rfl] at H;replace H:=sqbi H;obtain ⟨t1,A7,H⟩:=H;(try dsimp only at H);rcases sqI (t1 = true) with c8 | c8
  ·replace c8:=Bool.eq_false_iff.mpr c8;subst c8;rw [sqff] at H;have H':=Aside0.mk H;clear H;go_wp2_with (first | ((with_reducible refine gf 27 rfl ?_);refine sqLq rfl (some 10) Try.func27 (impl_numOp.calls _ _ _ A5.out) ?_;intro nd) | (go_at_call 48;(with_reducible refine (impl_NumOk.calls a1 false _ A7.out).mono ?_);rintro e w' ⟨rfl,⟨nd,rfl⟩⟩));go_meet
   case rel=>exact ⟨_,(true),sqE,H',⟨sqle⟩,sqD⟩
  subst c8;rw [if_pos rfl] at H;replace H:=sqbi H;obtain ⟨t2,A9,H⟩:=H;(try dsimp only at H);have H':=Aside0.mk H;clear H;go_wp2_with (first | ((with_reducible refine gf 27 rfl ?_);refine sqLq rfl (some 10) Try.func27 (impl_numOp.calls _ _ _ A5.out) ?_;intro nd) | (go_at_call 48;(with_reducible refine (impl_NumOk.calls a1 true _ A7.out).mono ?_);rintro e w' ⟨rfl,⟨nd,rfl⟩⟩) | (go_at_call 48;(with_reducible refine (impl_NumOk.calls a2 t2 _ A9.out).mono ?_);rintro e w' ⟨rfl,⟨nd,rfl⟩⟩));go_meet
  case rel=>exact ⟨_,(!t2),sqE,H',⟨sqle⟩,sqD⟩
 case rest =>
  clear HC4;obtain ⟨kq,x0,rfl,HA,HJ3,⟨mc3,rfl⟩⟩:=hcut;cases kq with
  | zero=>exact absurd HA.out (by simp [impl_NumDo.j0])
  | succ kj3 =>
   have H:=HA.out;clear HA;simp only [impl_NumDo.j0] at H
   by_cases c10 : x0 = true
   ·subst c10;rw [if_pos rfl] at H;simp only [Option.some.injEq,Prod.mk.injEq] at H;obtain ⟨rfl,rfl⟩:=H
    go_wp2
    go_ret2
    exact ⟨sqE,sqD⟩
   replace c10:=Bool.eq_false_iff.mpr c10;subst c10;rw [sqff] at H;have HC11:=Aside0.mk H;clear H
   go_upto_block 0 with (fail)
   go_cut [] (fun wc=>∃ (kq : Nat),Aside0 (impl_NumDo.j3 kq a0 a1 a2 = some (r1,r2))∧Aside0 (kq ≤ kj3)∧Drawn0 w wc)
   case first =>
    have H:=HC11.out;clear HC11;have HC12:=Aside0.mk H;clear H
    go_upto_if 23 with (fail)
    go_cut [23] (fun v23 wc=>∃ (kq : Nat) (x1 : Bool),v23 = .bool x1∧Aside0 (impl_NumDo.j1 kq a0 a1 a2 a0 x1 = some (r1,r2))∧Aside0 (kq ≤ kj3)∧Drawn0 w wc)
    case first =>
     have H:=HC12.out;clear HC12;replace H:=sqi H;rcases H with ⟨c13,H⟩ | ⟨c13,H⟩
     ·have z0 : (a0 == 4) = false:=beq_eq_false_iff_ne.mpr c13;have z3 : (a0 != 4) = true:=bne_iff_ne.mpr c13
      (first | rw [z0] | (simp only [i64_w,i32_w];rw [z0]) | skip)
      have H':=Aside0.mk H;clear H
      go_wp2
      go_meet
      case rel=>exact ⟨_,((a0 == 5)),sqE,H',⟨by have:=HJ3.out;first | omega | exact Nat.le_refl _⟩,sqD⟩
     have z0 : (a0 == 4) = true:=beq_iff_eq.mpr c13;have z3 : (a0 != 4) = false:=bne_eq_false_iff_eq.mpr c13;clear c13
     (first | rw [z0] | (simp only [i64_w,i32_w];rw [z0]) | skip)
     have H':=Aside0.mk H;clear H
     go_wp2
     go_meet
     case rel=>exact ⟨_,((a0 == 4)),sqE,H',⟨by have:=HJ3.out;first | omega | exact Nat.le_refl _⟩,sqD⟩
    case rest =>
     clear HC12;obtain ⟨kq,x1,rfl,HA,HJ11,⟨mc11,rfl⟩⟩:=hcut;cases kq with
     | zero=>exact absurd HA.out (by simp [impl_NumDo.j1])
     | succ kj11 =>
      have H:=HA.out;clear HA;simp only [impl_NumDo.j1] at H
      by_cases c14 : x1 = true
      ·subst c14;rw [if_pos rfl] at H;replace H:=sqi H;rcases H with ⟨c15,H⟩ | ⟨c15,H⟩
       ·have z4 : (a2 == 0) = false:=beq_eq_false_iff_ne.mpr c15;have z5 : (a2 != 0) = true:=bne_iff_ne.mpr c15;have H':=Aside0.mk H;clear H
        go_wp2
        go_meet
        case rel=>exact ⟨_,H',⟨by have:=HJ3.out;have:=HJ11.out;first | omega | exact Nat.le_refl _⟩,sqD⟩
       have z4 : (a2 == 0) = true:=beq_iff_eq.mpr c15;have z5 : (a2 != 0) = false:=bne_eq_false_iff_eq.mpr c15;clear c15;simp only [Option.some.injEq,Prod.mk.injEq] at H;obtain ⟨rfl,rfl⟩:=H
       go_wp2
       go_ret2
       exact ⟨sqE,sqD⟩
      replace c14:=Bool.eq_false_iff.mpr c14;subst c14;rw [sqff] at H;have HC16:=Aside0.mk H;clear H
      go_upto_if 28 with (fail)
      go_cut [28] (fun v28 wc=>∃ (kq : Nat) (x2 : Bool),v28 = .bool x2∧Aside0 (impl_NumDo.j2 kq a0 a1 a2 x2 = some (r1,r2))∧Aside0 (kq ≤ kj11)∧Drawn0 w wc)
      case first =>
       have H:=HC16.out;clear HC16;replace H:=sqi H;rcases H with ⟨c17,H⟩ | ⟨c17,H⟩
       ·have z1 : (a0 == 9) = false:=beq_eq_false_iff_ne.mpr c17;have z6 : (a0 != 9) = true:=bne_iff_ne.mpr c17
        (first | rw [z1] | (simp only [i64_w,i32_w];rw [z1]) | skip)
        have H':=Aside0.mk H;clear H
        go_wp2
        go_meet
        case rel=>exact ⟨_,((a0 == 10)),sqE,H',⟨by have:=HJ3.out;have:=HJ11.out;first | omega | exact Nat.le_refl _⟩,sqD⟩
       have z1 : (a0 == 9) = true:=beq_iff_eq.mpr c17;have z6 : (a0 != 9) = false:=bne_eq_false_iff_eq.mpr c17;clear c17
       (first | rw [z1] | (simp only [i64_w,i32_w];rw [z1]) | skip)
       have H':=Aside0.mk H;clear H
       go_wp2
       go_meet
       case rel=>exact ⟨_,((a0 == 9)),sqE,H',⟨by have:=HJ3.out;have:=HJ11.out;first | omega | exact Nat.le_refl _⟩,sqD⟩
      case rest =>
       clear HC16;obtain ⟨kq,x2,rfl,HA,HJ15,⟨mc15,rfl⟩⟩:=hcut;cases kq with
       | zero=>exact absurd HA.out (by simp [impl_NumDo.j2])
       | succ kj15 =>
        have H:=HA.out;clear HA;simp only [impl_NumDo.j2] at H;rcases sqI (x2 = true) with c18 | c18
        ·replace c18:=Bool.eq_false_iff.mpr c18;subst c18;rw [sqff] at H;have H':=Aside0.mk H;clear H
         go_wp2
         go_meet
         case rel=>exact ⟨_,H',⟨by have:=HJ3.out;have:=HJ11.out;have:=HJ15.out;first | omega | exact Nat.le_refl _⟩,sqD⟩
        subst c18;rw [if_pos rfl] at H;replace H:=sqj H;rcases H with ⟨c19,H⟩ | ⟨c19,H⟩
        ·have z7:=decide_eq_true c19;clear c19;simp only [Option.some.injEq,Prod.mk.injEq] at H;obtain ⟨rfl,rfl⟩:=H
         go_wp2
         go_ret2
         exact ⟨sqE,sqD⟩
        have z7:=decide_eq_false c19;clear c19;replace H:=sqj H;rcases H with ⟨c20,H⟩ | ⟨c20,H⟩
        ·have z8 : decide (31 < a2) = true:=decide_eq_true c20;clear c20;simp only [Option.some.injEq,Prod.mk.injEq] at H;obtain ⟨rfl,rfl⟩:=H
         go_wp2
         go_ret2
         exact ⟨sqE,sqD⟩
        have z8 : decide (31 < a2) = false:=decide_eq_false c20;clear c20;have H':=Aside0.mk H;clear H
        go_wp2
        go_meet
        case rel=>exact ⟨_,H',⟨by have:=HJ3.out;have:=HJ11.out;have:=HJ15.out;first | omega | exact Nat.le_refl _⟩,sqD⟩
   case rest =>
    clear HC11;obtain ⟨kq,HA,HJ10,⟨mc10,rfl⟩⟩:=hcut;cases kq with
    | zero=>exact absurd HA.out (by simp [impl_NumDo.j3])
    | succ kj10 =>
     have H:=HA.out;clear HA;simp only [impl_NumDo.j3] at H;replace H:=sqbi H;obtain ⟨t3,A21,H⟩:=H;(try dsimp only at H);have HC22:=Aside0.mk H;clear H
     go_upto_if 42 with (first | ((with_reducible refine gf 49 rfl ?_);refine sqLq rfl (some 40) Try.func49 (impl_numExact.calls _ _ _ _ _ _ A21.out) ?_;intro nd))
     (try simp only [Act.put,List.setIfInBounds_toArray,List.set_cons_zero,List.set_cons_succ])
     go_cut [42] (fun v42 wc=>∃ (kq : Nat) (x3 : Bool),v42 = .bool x3∧Aside0 (impl_NumDo.j4 kq t3 x3 = some (r1,r2))∧Aside0 (kq ≤ kj10)∧Drawn0 w wc)
     case first =>
      have H:=HC22.out;clear HC22;replace H:=sqj H;rcases H with ⟨c23,H⟩ | ⟨c23,H⟩
      ·have z2 : (a0 == 11) = true:=beq_iff_eq.mpr c23;have z9 : (a0 != 11) = false:=bne_eq_false_iff_eq.mpr c23;clear c23
       (first | rw [z2] | (simp only [i64_w,i32_w];rw [z2]) | skip)
       have H':=Aside0.mk H;clear H
       go_wp2
       go_meet
       case rel=>exact ⟨_,((a0 == 11)),sqE,H',⟨by have:=HJ3.out;have:=HJ10.out;first | omega | exact Nat.le_refl _⟩,sqD⟩
      have z2 : (a0 == 11) = false:=beq_eq_false_iff_ne.mpr c23;have z9 : (a0 != 11) = true:=bne_iff_ne.mpr c23
      (first | rw [z2] | (simp only [i64_w,i32_w];rw [z2]) | skip)
      replace H:=sqi H;rcases H with ⟨c24,H⟩ | ⟨c24,H⟩
      ·have za : (a0 == 12) = false:=beq_eq_false_iff_ne.mpr c24;have zb : (a0 != 12) = true:=bne_iff_ne.mpr c24;have H':=Aside0.mk H;clear H
       go_wp2
       go_meet
       case rel=>exact ⟨_,((a0 == 13)),sqE,H',⟨by have:=HJ3.out;have:=HJ10.out;first | omega | exact Nat.le_refl _⟩,sqD⟩
      have za : (a0 == 12) = true:=beq_iff_eq.mpr c24;have zb : (a0 != 12) = false:=bne_eq_false_iff_eq.mpr c24;clear c24;have H':=Aside0.mk H;clear H
      go_wp2
      go_meet
      case rel=>exact ⟨_,((a0 == 12)),sqE,H',⟨by have:=HJ3.out;have:=HJ10.out;first | omega | exact Nat.le_refl _⟩,sqD⟩
     case rest =>
      clear HC22;obtain ⟨kq,x3,rfl,HA,HJ21,⟨mc21,rfl⟩⟩:=hcut;cases kq with
      | zero=>exact absurd HA.out (by simp [impl_NumDo.j4])
      | succ kj21 =>
       have H:=HA.out;clear HA;simp only [impl_NumDo.j4] at H
       by_cases c25 : x3 = true
       ·subst c25;rw [if_pos rfl] at H;replace H:=sqbi H;obtain ⟨t4,A26,H⟩:=H;(try dsimp only at H);simp only [Option.some.injEq,Prod.mk.injEq] at H;obtain ⟨rfl,rfl⟩:=H;go_wp2_with (first | ((with_reducible refine gf 50 rfl ?_);refine sqLq rfl (some 47) Try.func50 (impl_NumWrap.calls _ _ _ A26.out) ?_;intro nd))
        go_ret2
        exact ⟨sqE,sqD⟩
       replace c25:=Bool.eq_false_iff.mpr c25;subst c25;rw [sqff] at H;replace H:=sqbi H;obtain ⟨t5,A27,H⟩:=H;(try dsimp only at H)
       by_cases c28 : t5 = true
       ·subst c28;rw [if_pos rfl] at H;simp only [Option.some.injEq,Prod.mk.injEq] at H;obtain ⟨rfl,rfl⟩:=H;go_wp2_with (first | ((with_reducible refine gf 48 rfl ?_);refine sqLq rfl (some 49) Try.func48 (impl_NumOk.calls _ _ _ A27.out) ?_;intro nd))
        go_ret2
        exact ⟨sqE,sqD⟩
       replace c28:=Bool.eq_false_iff.mpr c28;subst c28;rw [sqff] at H;simp only [Option.some.injEq,Prod.mk.injEq] at H;obtain ⟨rfl,rfl⟩:=H;go_wp2_with (first | ((with_reducible refine gf 48 rfl ?_);refine sqLq rfl (some 49) Try.func48 (impl_NumOk.calls _ _ _ A27.out) ?_;intro nd))
       go_ret2
       exact ⟨sqE,sqD⟩

/-! ### laws_has: function 13 -/
theorem laws_has.calls (k : Nat) (A0 : Option Addr) (c0 : Nat) (l0 : List Int) (a1 : Int) (r : Bool) (w : World) (hr0 : Kd.C (Kd.int .i64) w A0 l0.length l0) (hc0 : l0.length ≤ c0) (h : laws_has.f k l0 a1 = some r) :
  Calls Try.prog 13 #[.slice A0 l0.length c0,.int .i64 a1] w fun e w'=>e = .returned (.bool r)∧Drawn0 w w':=by
 have HR0:=Aside0.mk hr0;have HC0:=Aside0.mk hc0;clear hr0 hc0;have H:=h;unfold laws_has.f at H;clear h;have H':=Aside0.mk H;clear H;go_enter Try.func13,Try.ntmps13
 go_wp2
 go_loopg [5] k (fun kq v5 w'=>∃ (x0 : Int),v5 = .int .i64 x0∧Aside0 (laws_has.l0 kq l0 a1 x0 = some r)∧Aside0 (kq ≤ k)∧Drawn0 w w')
 case atStart=>exact ⟨(0),sqE,H',⟨Nat.le_refl _⟩,sqD⟩
 case round =>
  clear H';obtain ⟨x0,rfl,HA,HK1,⟨m1,rfl⟩⟩:=hrel;cases gk with
  | zero=>exact absurd HA.out (by simp [laws_has.l0])
  | succ k1 =>
   have H:=HA.out;clear HA;simp only [laws_has.l0] at H;replace H:=sqi H;rcases H with ⟨c3,H⟩ | ⟨c3,H⟩
   ·have z3:=decide_eq_false c3;clear c3;obtain rfl:=Option.some.inj H
    go_wp2
    go_ret
    exact ⟨sqE,sqD⟩
   have z3:=decide_eq_true c3;clear c3;replace H:=sqi H;rcases H with ⟨c4,H⟩ | ⟨c4,H⟩
   ·cases H
   have z8:=decide_eq_true c4;clear c4;replace H:=sqj H;rcases H with ⟨c5,H⟩ | ⟨c5,H⟩
   ·have z4 : ((rd l0 x0) == a1) = true:=beq_iff_eq.mpr c5;have z5 : ((rd l0 x0) != a1) = false:=bne_eq_false_iff_eq.mpr c5;clear c5;obtain rfl:=Option.some.inj H;have z0 : 0 ≤ (x0 : Int):=sqd;have z1 : x0 < (l0.length : Int):=sqd;obtain ⟨z6,z2,z7⟩:=Kd.at_int HR0.out x0 z0 z1;cases z2;replace z0:=eq_true z0;replace z1:=eq_true z1
    go_wp2
    go_ret
    exact ⟨sqE,sqD⟩
   have z4 : ((rd l0 x0) == a1) = false:=beq_eq_false_iff_ne.mpr c5;have z5 : ((rd l0 x0) != a1) = true:=bne_iff_ne.mpr c5;have H':=Aside0.mk H;clear H;have z0 : 0 ≤ (x0 : Int):=sqd;have z1 : x0 < (l0.length : Int):=sqd;obtain ⟨z6,z2,z7⟩:=Kd.at_int HR0.out x0 z0 z1;cases z2;replace z0:=eq_true z0;replace z1:=eq_true z1
   go_wp2
   go_roundg k1
   case measure=>have:=HK1.out;omega
   case rel=>exact ⟨(wrap64 (x0 + 1)),sqE,H',⟨by have:=HK1.out;omega⟩,sqD⟩

end Go.Proofs.Ytlbheepfmjbpnaa.PFnRangeDo
