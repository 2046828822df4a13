/- Functions of the program as plain Lean functions, and that calls of them come to what these tell. Conditions: those in each law. -/
import Derived.Test.YtlbheepfmjbpnaaSqV
import Derived.Test.YtlbheepfmjbpnaaDFnValDoV
import Derived.Test.YtlbheepfmjbpnaaQFnValDox0V
import Derived.Test.YtlbheepfmjbpnaaQFnValDox4V
import Derived.Test.YtlbheepfmjbpnaaQFnValDox13V
import Derived.Test.YtlbheepfmjbpnaaQFnValDox16V
namespace Go.Proofs.Ytlbheepfmjbpnaa.PFnValDo
open Go.RowKit Go.Proofs.Ytlbheepfmjbpnaa.Sq Go.Proofs.YtlbheepfmjbpnaaW.PrintWords Go.Proofs.YtlbheepfmjbpnaaW.PrintLast Go.Proofs.YtlbheepfmjbpnaaW.PrintMore
attribute [local go_sem] max2_int min2_int max_two min_two max_three min_three max_four min_four   -- for this text's walks alone
set_option linter.unusedVariables false
set_option linter.unusedSimpArgs false

attribute [local go_sem high] eqA39
set_option maxHeartbeats 8000000
set_option maxRecDepth 100000
/-! ### impl_Val_span: function 56 -/
theorem impl_Val_span.calls (a0_0 : Int) (a0_1 : Int) (a0_2 : Int) (a0_3 : Int) (r1 : Int) (r2 : Int) (w : World) (h : impl_Val_span.f a0_0 a0_1 a0_2 a0_3 = some (r1,r2)) :
  Calls Try.prog 56 #[.agg #[.int .i64 a0_0,.int .i64 a0_1,.int .i64 a0_2,.int .i64 a0_3]] w fun e w'=>e = .returned (.agg #[.int .i64 r1,.int .i64 r2])∧Below w.heap.size w w':=by
 have hu39:=Try.underlying39;have hu24:=Try.underlying24;have HB:=Aside0.mk (Below.refl w.heap.size w);have H:=h;unfold impl_Val_span.f at H;clear h;simp only [Option.some.injEq,Prod.mk.injEq] at H;obtain ⟨rfl,rfl⟩:=H;go_enter Try.func56,Try.ntmps56;go_wp2_with (first | ((with_reducible refine gd 1 rfl ?_);refine sqX 1 #[.int .i64 a0_0,.int .i64 a0_1,.int .i64 a0_2,.int .i64 a0_3] 39 HB ?_;clear HB;intro gb0 hg w2 hb B0 GW0 HB;clear hb hg) | ((with_reducible refine gd 2 rfl ?_);refine sqX 2 #[.int .i64 0,.int .i64 0] 24 HB ?_;clear HB;intro gb1 hg w3 hb B1 GW1 HB;have N0_1:=sqn B0 hg;have N1_0:=sqm B0 hg;replace B0:=sqb B0 hb;clear hb hg;obtain ⟨_,_⟩:=sqN1 N0_1;obtain ⟨_,_,_,_,_,_,_,_⟩:=sqc4 B0;obtain ⟨_,_,_,_⟩:=sqc2 B1));refine sqre #[.int .i64 a0_0,.int .i64 a0_1] (sqP B1) Try.underlying24 ?_;exact sqe HB

/-! ### impl_valNone: function 55 -/
theorem impl_valNone.calls  (r1 : Int) (r2 : Int) (r3 : Int) (r4 : Int) (w : World) (h : impl_valNone.f  = some (r1,r2,r3,r4)) :
  Calls Try.prog 55 #[] w fun e w'=>e = .returned (.agg #[.int .i64 r1,.int .i64 r2,.int .i64 r3,.int .i64 r4])∧Below w.heap.size w w':=by
 have hu39:=Try.underlying39;have HB:=Aside0.mk (Below.refl w.heap.size w);have H:=h;unfold impl_valNone.f at H;clear h;simp only [Option.some.injEq,Prod.mk.injEq] at H;obtain ⟨rfl,rfl,rfl,rfl⟩:=H;go_enter Try.func55,Try.ntmps55;go_wp2_with (first | ((with_reducible refine gd 0 rfl ?_);refine sqX 0 #[.int .i64 0,.int .i64 0,.int .i64 0,.int .i64 0] 39 HB ?_;clear HB;intro gb0 hg w1 hb B0 GW0 HB;clear hb hg;obtain ⟨_,_,_,_,_,_,_,_⟩:=sqc4 B0));refine sqre #[.int .i64 1,.int .i64 0,.int .i64 0,.int .i64 0] (sqP B0) Try.underlying39 ?_;exact sqe HB

/-! ### impl_RestOk: function 89 -/
theorem impl_RestOk.calls (a0_0 : Int) (a0_1 : Int) (r : Bool) (w : World) (h : impl_RestOk.f a0_0 a0_1 = some r) :
  Calls Try.prog 89 #[.agg #[.int .i64 a0_0,.int .i64 a0_1]] w fun e w'=>e = .returned (.bool r)∧Below w.heap.size w w':=by
 have hu71:=Try.underlying71;have HB:=Aside0.mk (Below.refl w.heap.size w);have H:=h;unfold impl_RestOk.f at H;clear h;replace H:=sqj H;rcases H with ⟨c2,H⟩ | ⟨c2,H⟩
 ·have z0 : (a0_0 == 0) = true:=beq_iff_eq.mpr c2;have z1 : (a0_0 != 0) = false:=bne_eq_false_iff_eq.mpr c2;clear c2;replace H:=sqbi H;obtain ⟨t0,A3,H⟩:=H;(try dsimp only at H);obtain rfl:=Option.some.inj H;go_enter Try.func89,Try.ntmps89;go_wp2_with (first | ((with_reducible refine gd 1 rfl ?_);refine sqX 1 #[.int .i64 a0_0,.int .i64 a0_1] 71 HB ?_;clear HB;intro gb0 hg w4 hb B0 GW0 HB;clear hb hg;obtain ⟨_,_,_,_⟩:=sqc2 B0) | ((with_reducible refine gf 48 rfl ?_);refine sqLq rfl (some 8) Try.func48 (impl_NumOk.calls _ _ _ A3.out) ?_;intro nd))
  go_ret
  exact sqe HB
 have z0 : (a0_0 == 0) = false:=beq_eq_false_iff_ne.mpr c2;have z1 : (a0_0 != 0) = true:=bne_iff_ne.mpr c2;replace H:=sqi H;rcases H with ⟨c6,H⟩ | ⟨c6,H⟩
 ·have z2 : decide (1 ≤ a0_0) = false:=decide_eq_false c6;clear c6;obtain rfl:=Option.some.inj H;go_enter Try.func89,Try.ntmps89;go_wp2_with (first | ((with_reducible refine gd 1 rfl ?_);refine sqX 1 #[.int .i64 a0_0,.int .i64 a0_1] 71 HB ?_;clear HB;intro gb0 hg w15 hb B0 GW0 HB;clear hb hg;obtain ⟨_,_,_,_⟩:=sqc2 B0))
  go_ret
  exact sqe HB
 have z2 : decide (1 ≤ a0_0) = true:=decide_eq_true c6;clear c6;replace H:=sqi H;rcases H with ⟨c7,H⟩ | ⟨c7,H⟩
 ·have z3:=decide_eq_false c7;clear c7;obtain rfl:=Option.some.inj H;go_enter Try.func89,Try.ntmps89;go_wp2_with (first | ((with_reducible refine gd 1 rfl ?_);refine sqX 1 #[.int .i64 a0_0,.int .i64 a0_1] 71 HB ?_;clear HB;intro gb0 hg w13 hb B0 GW0 HB;clear hb hg;obtain ⟨_,_,_,_⟩:=sqc2 B0))
  go_ret
  exact sqe HB
 have z3:=decide_eq_true c7;clear c7;replace H:=sqj H;rcases H with ⟨c8,H⟩ | ⟨c8,H⟩
 ·have z4 : decide (0 ≤ a0_1) = true:=decide_eq_true c8;clear c8;obtain rfl:=Option.some.inj H;go_enter Try.func89,Try.ntmps89;go_wp2_with (first | ((with_reducible refine gd 1 rfl ?_);refine sqX 1 #[.int .i64 a0_0,.int .i64 a0_1] 71 HB ?_;clear HB;intro gb0 hg w9 hb B0 GW0 HB;clear hb hg;obtain ⟨_,_,_,_⟩:=sqc2 B0))
  go_ret
  exact sqe HB
 have z4 : decide (0 ≤ a0_1) = false:=decide_eq_false c8;clear c8;obtain rfl:=Option.some.inj H;go_enter Try.func89,Try.ntmps89;go_wp2_with (first | ((with_reducible refine gd 1 rfl ?_);refine sqX 1 #[.int .i64 a0_0,.int .i64 a0_1] 71 HB ?_;clear HB;intro gb0 hg w11 hb B0 GW0 HB;clear hb hg;obtain ⟨_,_,_,_⟩:=sqc2 B0))
 go_ret
 exact sqe HB

/-! ### impl_valOne: function 90 -/
theorem impl_valOne.calls (a0 : Int) (r1 : Int) (r2 : Int) (r3 : Int) (r4 : Int) (w : World) (h : impl_valOne.f a0 = some (r1,r2,r3,r4)) :
  Calls Try.prog 90 #[.int .i64 a0] w fun e w'=>e = .returned (.agg #[.int .i64 r1,.int .i64 r2,.int .i64 r3,.int .i64 r4])∧Below w.heap.size w w':=by
 have hu39:=Try.underlying39;have HB:=Aside0.mk (Below.refl w.heap.size w);have H:=h;unfold impl_valOne.f at H;clear h;simp only [Option.some.injEq,Prod.mk.injEq] at H;obtain ⟨rfl,rfl,rfl,rfl⟩:=H;go_enter Try.func90,Try.ntmps90;go_wp2_with (first | ((with_reducible refine gd 2 rfl ?_);refine sqX 2 #[.int .i64 0,.int .i64 0,.int .i64 0,.int .i64 0] 39 HB ?_;clear HB;intro gb0 hg w2 hb B0 GW0 HB;clear hb hg;obtain ⟨_,_,_,_,_,_,_,_⟩:=sqc4 B0));refine sqre #[.int .i64 a0,.int .i64 a0,.int .i64 0,.int .i64 a0] (sqP B0) Try.underlying39 ?_;exact sqe HB

/-! ### impl_restMod: function 91 -/
theorem impl_restMod.calls (a0 : Int) (a1 : Int) (r : Int) (w : World) (h : impl_restMod.f a0 a1 = some r) :
  Calls Try.prog 91 #[.int .i64 a0,.int .i64 a1] w fun e w'=>e = .returned (.int .i64 r)∧Drawn0 w w':=by
 have H:=h;unfold impl_restMod.f at H;clear h;replace H:=sqj H;rcases H with ⟨c3,H⟩ | ⟨c3,H⟩
 ·cases H
 have z1 : (a1 == 0) = false:=beq_eq_false_iff_ne.mpr c3;have z2 : (a1 != 0) = true:=bne_iff_ne.mpr c3;replace H:=sqj H;rcases H with ⟨c4,H⟩ | ⟨c4,H⟩
 ·have z0:=decide_eq_true c4;clear c4;obtain rfl:=Option.some.inj H;go_enter Try.func91,Try.ntmps91
  go_wp2
  go_ret
  exact ⟨sqE,sqD⟩
 have z0:=decide_eq_false c4;clear c4;obtain rfl:=Option.some.inj H;go_enter Try.func91,Try.ntmps91
 go_wp2
 go_ret
 exact ⟨sqE,sqD⟩

/-! ### impl_ValMake: function 57 -/
theorem impl_ValMake.calls (k : Nat) (a0_0 : Int) (a0_1 : Int) (a1_0 : Int) (a1_1 : Int) (r1 : Int) (r2 : Int) (r3 : Int) (r4 : Int) (w : World) (h : impl_ValMake.f k a0_0 a0_1 a1_0 a1_1 = some (r1,r2,r3,r4)) :
  Calls Try.prog 57 #[.agg #[.int .i64 a0_0,.int .i64 a0_1],.agg #[.int .i64 a1_0,.int .i64 a1_1]] w fun e w'=>e = .returned (.agg #[.int .i64 r1,.int .i64 r2,.int .i64 r3,.int .i64 r4])∧Below w.heap.size w w':=by
 have hu24:=Try.underlying24;have hu71:=Try.underlying71;have hu39:=Try.underlying39;have HB:=Aside0.mk (Below.refl w.heap.size w);have H:=h;unfold impl_ValMake.f at H;clear h;have HC3:=Aside0.mk H;clear H;go_enter Try.func57,Try.ntmps57;go_upto_region 1 with (first | ((with_reducible refine gd 2 rfl ?_);refine sqX 2 #[.int .i64 a0_0,.int .i64 a0_1] 24 HB ?_;clear HB;intro gb0 hg w4 hb B0 GW0 HB;clear hb hg) | ((with_reducible refine gd 3 rfl ?_);refine sqX 3 #[.int .i64 a1_0,.int .i64 a1_1] 71 HB ?_;clear HB;intro gb1 hg w5 hb B1 GW1 HB;have N0_1:=sqn B0 hg;have N1_0:=sqm B0 hg;replace B0:=sqb B0 hb;clear hb hg) | ((with_reducible refine gd 4 rfl ?_);refine sqX 4 #[.int .i64 0,.int .i64 0,.int .i64 0,.int .i64 0] 39 HB ?_;clear HB;intro gb2 hg w6 hb B2 GW2 HB;have N0_2:=sqn B0 hg;have N2_0:=sqm B0 hg;have N1_2:=sqn B1 hg;have N2_1:=sqm B1 hg;refine sqM2 B0 B1 hb ?_;clear B0 B1;intro B0 B1;clear hb hg))
 repeat (go_quiet (first | ((with_reducible refine gd 2 rfl ?_);refine sqX 2 #[.int .i64 a0_0,.int .i64 a0_1] 24 HB ?_;clear HB;intro gb0 hg w4 hb B0 GW0 HB;clear hb hg) | ((with_reducible refine gd 3 rfl ?_);refine sqX 3 #[.int .i64 a1_0,.int .i64 a1_1] 71 HB ?_;clear HB;intro gb1 hg w5 hb B1 GW1 HB;have N0_1:=sqn B0 hg;have N1_0:=sqm B0 hg;replace B0:=sqb B0 hb;clear hb hg) | ((with_reducible refine gd 4 rfl ?_);refine sqX 4 #[.int .i64 0,.int .i64 0,.int .i64 0,.int .i64 0] 39 HB ?_;clear HB;intro gb2 hg w6 hb B2 GW2 HB;have N0_2:=sqn B0 hg;have N2_0:=sqm B0 hg;have N1_2:=sqn B1 hg;have N2_1:=sqm B1 hg;refine sqM2 B0 B1 hb ?_;clear B0 B1;intro B0 B1;clear hb hg));go_upto_region 1 with (first | ((with_reducible refine gd 2 rfl ?_);refine sqX 2 #[.int .i64 a0_0,.int .i64 a0_1] 24 HB ?_;clear HB;intro gb0 hg w4 hb B0 GW0 HB;clear hb hg) | ((with_reducible refine gd 3 rfl ?_);refine sqX 3 #[.int .i64 a1_0,.int .i64 a1_1] 71 HB ?_;clear HB;intro gb1 hg w5 hb B1 GW1 HB;have N0_1:=sqn B0 hg;have N1_0:=sqm B0 hg;replace B0:=sqb B0 hb;clear hb hg) | ((with_reducible refine gd 4 rfl ?_);refine sqX 4 #[.int .i64 0,.int .i64 0,.int .i64 0,.int .i64 0] 39 HB ?_;clear HB;intro gb2 hg w6 hb B2 GW2 HB;have N0_2:=sqn B0 hg;have N2_0:=sqm B0 hg;have N1_2:=sqn B1 hg;have N2_1:=sqm B1 hg;refine sqM2 B0 B1 hb ?_;clear B0 B1;intro B0 B1;clear hb hg)))
 (try simp only [Act.put,List.setIfInBounds_toArray,List.set_cons_zero,List.set_cons_succ])
 go_cut [18] (fun v18 wc=>∃ (kq : Nat) (x0 : Bool),v18 = .bool x0∧Aside0 (impl_ValMake.j0 kq x0 a0_0 a0_1 a1_0 a1_1 = some (r1,r2,r3,r4))∧Aside0 (kq ≤ k)∧Aside0 (wc.heap[gb0]? = some (.cells #[.int .i64 a0_0,.int .i64 a0_1] 24 (0,0)))∧Aside0 (wc.heap[gb1]? = some (.cells #[.int .i64 a1_0,.int .i64 a1_1] 71 (0,0)))∧Aside0 (wc.heap[gb2]? = some (.cells #[.int .i64 0,.int .i64 0,.int .i64 0,.int .i64 0] 39 (0,0)))∧Aside0 (Below w.heap.size w wc))
 case first =>
  have H:=HC3.out;clear HC3;replace H:=sqbi H;obtain ⟨t0,A7,H⟩:=H;(try dsimp only at H);rcases sqI (t0 = true) with c8 | c8
  ·replace c8:=Bool.eq_false_iff.mpr c8;subst c8;rw [sqff] at H;have H':=Aside0.mk H;clear H;obtain ⟨hnb28,hnc28,hnb29,hnc29⟩:=sqN2 N0_1 N0_2;obtain ⟨j9,ja,jb,jc⟩:=sqc2 B0;go_wp2_with (first | (go_at_call 14;(with_reducible refine (impl_RangeOk.calls a0_0 a0_1 false _ A7.out).mono ?_);rintro e w31 ⟨rfl,hb⟩;refine sqM3 B0 B1 B2 hb ?_;clear B0 B1 B2;intro B0 B1 B2;replace HB:=sqs HB hb;(try clear hb)))
   repeat (go_quiet (first | (go_at_call 14;(with_reducible refine (impl_RangeOk.calls a0_0 a0_1 false _ A7.out).mono ?_);rintro e w31 ⟨rfl,hb⟩;refine sqM3 B0 B1 B2 hb ?_;clear B0 B1 B2;intro B0 B1 B2;replace HB:=sqs HB hb;(try clear hb)));try go_wp2_with (first | (go_at_call 14;(with_reducible refine (impl_RangeOk.calls a0_0 a0_1 false _ A7.out).mono ?_);rintro e w31 ⟨rfl,hb⟩;refine sqM3 B0 B1 B2 hb ?_;clear B0 B1 B2;intro B0 B1 B2;replace HB:=sqs HB hb;(try clear hb))))
   go_meet
   case rel=>exact ⟨_,(true),sqE,H',⟨sqle⟩,sqk B0,sqk B1,sqk B2,sqh HB⟩
  subst c8;rw [if_pos rfl] at H;replace H:=sqbi H;obtain ⟨t1,A9,H⟩:=H;(try dsimp only at H);rcases sqI (t1 = true) with c10 | c10
  ·replace c10:=Bool.eq_false_iff.mpr c10;subst c10;rw [sqff] at H;have H':=Aside0.mk H;clear H;obtain ⟨hnb21,hnc21,hnb22,hnc22⟩:=sqN2 N0_1 N0_2;obtain ⟨jd,je,jf,jg⟩:=sqc2 B0;go_wp2_with (first | (go_at_call 14;(with_reducible refine (impl_RangeOk.calls a0_0 a0_1 true _ A7.out).mono ?_);rintro e w24 ⟨rfl,hb⟩;refine sqM3 B0 B1 B2 hb ?_;clear B0 B1 B2;intro B0 B1 B2;replace HB:=sqs HB hb;(try clear hb);obtain ⟨hnb25,hnc25⟩:=sqN1 N1_2;obtain ⟨z8,z9,za,zb⟩:=sqc2 B1) | (go_at_call 89;(with_reducible refine (impl_RestOk.calls a1_0 a1_1 false _ A9.out).mono ?_);rintro e w27 ⟨rfl,hb⟩;refine sqM3 B0 B1 B2 hb ?_;clear B0 B1 B2;intro B0 B1 B2;replace HB:=sqs HB hb;(try clear hb)))
   repeat (go_quiet (first | (go_at_call 14;(with_reducible refine (impl_RangeOk.calls a0_0 a0_1 true _ A7.out).mono ?_);rintro e w24 ⟨rfl,hb⟩;refine sqM3 B0 B1 B2 hb ?_;clear B0 B1 B2;intro B0 B1 B2;replace HB:=sqs HB hb;(try clear hb);obtain ⟨hnb25,hnc25⟩:=sqN1 N1_2;obtain ⟨z8,z9,za,zb⟩:=sqc2 B1) | (go_at_call 89;(with_reducible refine (impl_RestOk.calls a1_0 a1_1 false _ A9.out).mono ?_);rintro e w27 ⟨rfl,hb⟩;refine sqM3 B0 B1 B2 hb ?_;clear B0 B1 B2;intro B0 B1 B2;replace HB:=sqs HB hb;(try clear hb)));try go_wp2_with (first | (go_at_call 14;(with_reducible refine (impl_RangeOk.calls a0_0 a0_1 true _ A7.out).mono ?_);rintro e w24 ⟨rfl,hb⟩;refine sqM3 B0 B1 B2 hb ?_;clear B0 B1 B2;intro B0 B1 B2;replace HB:=sqs HB hb;(try clear hb);obtain ⟨hnb25,hnc25⟩:=sqN1 N1_2;obtain ⟨z8,z9,za,zb⟩:=sqc2 B1) | (go_at_call 89;(with_reducible refine (impl_RestOk.calls a1_0 a1_1 false _ A9.out).mono ?_);rintro e w27 ⟨rfl,hb⟩;refine sqM3 B0 B1 B2 hb ?_;clear B0 B1 B2;intro B0 B1 B2;replace HB:=sqs HB hb;(try clear hb))))
   go_meet
   case rel=>exact ⟨_,(true),sqE,H',⟨sqle⟩,sqk B0,sqk B1,sqk B2,sqh HB⟩
  subst c10;rw [if_pos rfl] at H;replace H:=sqbi H;obtain ⟨t2,A11,H⟩:=H;(try dsimp only at H);have H':=Aside0.mk H;clear H;obtain ⟨hnb12,hnc12,hnb13,hnc13⟩:=sqN2 N0_1 N0_2;obtain ⟨jh,ji,jj,jk⟩:=sqc2 B0;go_wp2_with (first | (go_at_call 14;(with_reducible refine (impl_RangeOk.calls a0_0 a0_1 true _ A7.out).mono ?_);rintro e w15 ⟨rfl,hb⟩;refine sqM3 B0 B1 B2 hb ?_;clear B0 B1 B2;intro B0 B1 B2;replace HB:=sqs HB hb;(try clear hb);obtain ⟨hnb16,hnc16⟩:=sqN1 N1_2;obtain ⟨zc,zd,ze,zf⟩:=sqc2 B1) | (go_at_call 89;(with_reducible refine (impl_RestOk.calls a1_0 a1_1 true _ A9.out).mono ?_);rintro e w18 ⟨rfl,hb⟩;refine sqM3 B0 B1 B2 hb ?_;clear B0 B1 B2;intro B0 B1 B2;replace HB:=sqs HB hb;(try clear hb);obtain ⟨zg,zh,zi,zj⟩:=sqc2 B0) | (go_at_call 28;(with_reducible refine (impl_Range_empty.calls a0_0 a0_1 t2 _ A11.out).mono ?_);rintro e w20 ⟨rfl,hb⟩;refine sqM3 B0 B1 B2 hb ?_;clear B0 B1 B2;intro B0 B1 B2;replace HB:=sqs HB hb;(try clear hb)))
  repeat (go_quiet (first | (go_at_call 14;(with_reducible refine (impl_RangeOk.calls a0_0 a0_1 true _ A7.out).mono ?_);rintro e w15 ⟨rfl,hb⟩;refine sqM3 B0 B1 B2 hb ?_;clear B0 B1 B2;intro B0 B1 B2;replace HB:=sqs HB hb;(try clear hb);obtain ⟨hnb16,hnc16⟩:=sqN1 N1_2;obtain ⟨zc,zd,ze,zf⟩:=sqc2 B1) | (go_at_call 89;(with_reducible refine (impl_RestOk.calls a1_0 a1_1 true _ A9.out).mono ?_);rintro e w18 ⟨rfl,hb⟩;refine sqM3 B0 B1 B2 hb ?_;clear B0 B1 B2;intro B0 B1 B2;replace HB:=sqs HB hb;(try clear hb);obtain ⟨zg,zh,zi,zj⟩:=sqc2 B0) | (go_at_call 28;(with_reducible refine (impl_Range_empty.calls a0_0 a0_1 t2 _ A11.out).mono ?_);rintro e w20 ⟨rfl,hb⟩;refine sqM3 B0 B1 B2 hb ?_;clear B0 B1 B2;intro B0 B1 B2;replace HB:=sqs HB hb;(try clear hb)));try go_wp2_with (first | (go_at_call 14;(with_reducible refine (impl_RangeOk.calls a0_0 a0_1 true _ A7.out).mono ?_);rintro e w15 ⟨rfl,hb⟩;refine sqM3 B0 B1 B2 hb ?_;clear B0 B1 B2;intro B0 B1 B2;replace HB:=sqs HB hb;(try clear hb);obtain ⟨hnb16,hnc16⟩:=sqN1 N1_2;obtain ⟨zc,zd,ze,zf⟩:=sqc2 B1) | (go_at_call 89;(with_reducible refine (impl_RestOk.calls a1_0 a1_1 true _ A9.out).mono ?_);rintro e w18 ⟨rfl,hb⟩;refine sqM3 B0 B1 B2 hb ?_;clear B0 B1 B2;intro B0 B1 B2;replace HB:=sqs HB hb;(try clear hb);obtain ⟨zg,zh,zi,zj⟩:=sqc2 B0) | (go_at_call 28;(with_reducible refine (impl_Range_empty.calls a0_0 a0_1 t2 _ A11.out).mono ?_);rintro e w20 ⟨rfl,hb⟩;refine sqM3 B0 B1 B2 hb ?_;clear B0 B1 B2;intro B0 B1 B2;replace HB:=sqs HB hb;(try clear hb))))
  go_meet
  case rel=>exact ⟨_,(t2),sqE,H',⟨sqle⟩,sqk B0,sqk B1,sqk B2,sqh HB⟩
 case rest =>
  clear HC3;obtain ⟨kq,x0,rfl,HA,HJ2,B0,B1,B2,HB⟩:=hcut;cases kq with
  | zero=>exact absurd HA.out (by simp [impl_ValMake.j0])
  | succ kj2 =>
   have H:=HA.out;clear HA;simp only [impl_ValMake.j0] at H
   by_cases c32 : x0 = true
   ·subst c32;rw [if_pos rfl] at H;replace H:=sqbi H;obtain ⟨⟨t3,t4,t5,t6⟩,A33,H⟩:=H;(try dsimp only at H);simp only [Option.some.injEq,Prod.mk.injEq] at H;obtain ⟨rfl,rfl,rfl,rfl⟩:=H;go_wp2_with (first | (go_at_call 55;(with_reducible refine (impl_valNone.calls  t3 t4 t5 t6 _ A33.out).mono ?_);rintro e w34 ⟨rfl,hb⟩;refine sqM3 B0 B1 B2 hb ?_;clear B0 B1 B2;intro B0 B1 B2;replace HB:=sqs HB hb;(try clear hb);obtain ⟨hnb35,hnc35,hnb36,hnc36⟩:=sqN2 N2_0 N2_1;obtain ⟨zk,zl,zm,zn,zo,zp,zq,zr⟩:=sqc4 B2))
    repeat (go_quiet (first | (go_at_call 55;(with_reducible refine (impl_valNone.calls  t3 t4 t5 t6 _ A33.out).mono ?_);rintro e w34 ⟨rfl,hb⟩;refine sqM3 B0 B1 B2 hb ?_;clear B0 B1 B2;intro B0 B1 B2;replace HB:=sqs HB hb;(try clear hb);obtain ⟨hnb35,hnc35,hnb36,hnc36⟩:=sqN2 N2_0 N2_1;obtain ⟨zk,zl,zm,zn,zo,zp,zq,zr⟩:=sqc4 B2));try go_wp2_with (first | (go_at_call 55;(with_reducible refine (impl_valNone.calls  t3 t4 t5 t6 _ A33.out).mono ?_);rintro e w34 ⟨rfl,hb⟩;refine sqM3 B0 B1 B2 hb ?_;clear B0 B1 B2;intro B0 B1 B2;replace HB:=sqs HB hb;(try clear hb);obtain ⟨hnb35,hnc35,hnb36,hnc36⟩:=sqN2 N2_0 N2_1;obtain ⟨zk,zl,zm,zn,zo,zp,zq,zr⟩:=sqc4 B2)))
    refine sqre #[.int .i64 t3,.int .i64 t4,.int .i64 t5,.int .i64 t6] (sqP B2) Try.underlying39 ?_;exact sqe HB
   replace c32:=Bool.eq_false_iff.mpr c32;subst c32;rw [sqff] at H;replace H:=sqj H;rcases H with ⟨c38,H⟩ | ⟨c38,H⟩
   ·have j4 : (a1_0 == 0) = true:=beq_iff_eq.mpr c38;have j5 : (a1_0 != 0) = false:=bne_eq_false_iff_eq.mpr c38;clear c38;replace H:=sqbi H;obtain ⟨t7,A39,H⟩:=H;(try dsimp only at H);rcases sqI (t7 = true) with c40 | c40
    ·replace c40:=Bool.eq_false_iff.mpr c40;subst c40;rw [sqff] at H;replace H:=sqbi H;obtain ⟨⟨t8,t9,t10,t11⟩,A51,H⟩:=H;(try dsimp only at H);simp only [Option.some.injEq,Prod.mk.injEq] at H;obtain ⟨rfl,rfl,rfl,rfl⟩:=H;obtain ⟨hnb52,hnc52,hnb53,hnc53⟩:=sqN2 N1_0 N1_2;obtain ⟨jl,jm,jn,jo⟩:=sqc2 B1;obtain ⟨hnb55,hnc55⟩:=sqN1 N0_2;obtain ⟨jp,jq,jr,js⟩:=sqc2 B0;go_wp2_with (first | (go_at_call 12;(with_reducible refine (impl_RangeHas.calls a0_0 a0_1 a1_1 false _ A39.out).mono ?_);rintro e w57 ⟨rfl,hb⟩;refine sqM3 B0 B1 B2 hb ?_;clear B0 B1 B2;intro B0 B1 B2;replace HB:=sqs HB hb;(try clear hb)) | (go_at_call 55;(with_reducible refine (impl_valNone.calls  t8 t9 t10 t11 _ A51.out).mono ?_);rintro e w58 ⟨rfl,hb⟩;refine sqM3 B0 B1 B2 hb ?_;clear B0 B1 B2;intro B0 B1 B2;replace HB:=sqs HB hb;(try clear hb);obtain ⟨zt,zu,zv,zw,zx,zy,zz,zA⟩:=sqc4 B2))
     repeat (go_quiet (first | (go_at_call 12;(with_reducible refine (impl_RangeHas.calls a0_0 a0_1 a1_1 false _ A39.out).mono ?_);rintro e w57 ⟨rfl,hb⟩;refine sqM3 B0 B1 B2 hb ?_;clear B0 B1 B2;intro B0 B1 B2;replace HB:=sqs HB hb;(try clear hb)) | (go_at_call 55;(with_reducible refine (impl_valNone.calls  t8 t9 t10 t11 _ A51.out).mono ?_);rintro e w58 ⟨rfl,hb⟩;refine sqM3 B0 B1 B2 hb ?_;clear B0 B1 B2;intro B0 B1 B2;replace HB:=sqs HB hb;(try clear hb);obtain ⟨zt,zu,zv,zw,zx,zy,zz,zA⟩:=sqc4 B2));try go_wp2_with (first | (go_at_call 12;(with_reducible refine (impl_RangeHas.calls a0_0 a0_1 a1_1 false _ A39.out).mono ?_);rintro e w57 ⟨rfl,hb⟩;refine sqM3 B0 B1 B2 hb ?_;clear B0 B1 B2;intro B0 B1 B2;replace HB:=sqs HB hb;(try clear hb)) | (go_at_call 55;(with_reducible refine (impl_valNone.calls  t8 t9 t10 t11 _ A51.out).mono ?_);rintro e w58 ⟨rfl,hb⟩;refine sqM3 B0 B1 B2 hb ?_;clear B0 B1 B2;intro B0 B1 B2;replace HB:=sqs HB hb;(try clear hb);obtain ⟨zt,zu,zv,zw,zx,zy,zz,zA⟩:=sqc4 B2)))
     refine sqre #[.int .i64 t8,.int .i64 t9,.int .i64 t10,.int .i64 t11] (sqP B2) Try.underlying39 ?_;exact sqe HB
    subst c40;rw [if_pos rfl] at H;replace H:=sqbi H;obtain ⟨⟨t12,t13,t14,t15⟩,A41,H⟩:=H;(try dsimp only at H);simp only [Option.some.injEq,Prod.mk.injEq] at H;obtain ⟨rfl,rfl,rfl,rfl⟩:=H;obtain ⟨hnb42,hnc42,hnb43,hnc43⟩:=sqN2 N1_0 N1_2;obtain ⟨jt,ju,jv,jw⟩:=sqc2 B1;obtain ⟨hnb45,hnc45⟩:=sqN1 N0_2;obtain ⟨jx,jy,jz,jA⟩:=sqc2 B0;go_wp2_with (first | (go_at_call 12;(with_reducible refine (impl_RangeHas.calls a0_0 a0_1 a1_1 true _ A39.out).mono ?_);rintro e w47 ⟨rfl,hb⟩;refine sqM3 B0 B1 B2 hb ?_;clear B0 B1 B2;intro B0 B1 B2;replace HB:=sqs HB hb;(try clear hb);obtain ⟨zB,zC,zD,zE⟩:=sqc2 B1) | (go_at_call 90;(with_reducible refine (impl_valOne.calls a1_1 t12 t13 t14 t15 _ A41.out).mono ?_);rintro e w49 ⟨rfl,hb⟩;refine sqM3 B0 B1 B2 hb ?_;clear B0 B1 B2;intro B0 B1 B2;replace HB:=sqs HB hb;(try clear hb);obtain ⟨zF,zG,zH,zI,zJ,zK,zL,zM⟩:=sqc4 B2))
    repeat (go_quiet (first | (go_at_call 12;(with_reducible refine (impl_RangeHas.calls a0_0 a0_1 a1_1 true _ A39.out).mono ?_);rintro e w47 ⟨rfl,hb⟩;refine sqM3 B0 B1 B2 hb ?_;clear B0 B1 B2;intro B0 B1 B2;replace HB:=sqs HB hb;(try clear hb);obtain ⟨zB,zC,zD,zE⟩:=sqc2 B1) | (go_at_call 90;(with_reducible refine (impl_valOne.calls a1_1 t12 t13 t14 t15 _ A41.out).mono ?_);rintro e w49 ⟨rfl,hb⟩;refine sqM3 B0 B1 B2 hb ?_;clear B0 B1 B2;intro B0 B1 B2;replace HB:=sqs HB hb;(try clear hb);obtain ⟨zF,zG,zH,zI,zJ,zK,zL,zM⟩:=sqc4 B2));try go_wp2_with (first | (go_at_call 12;(with_reducible refine (impl_RangeHas.calls a0_0 a0_1 a1_1 true _ A39.out).mono ?_);rintro e w47 ⟨rfl,hb⟩;refine sqM3 B0 B1 B2 hb ?_;clear B0 B1 B2;intro B0 B1 B2;replace HB:=sqs HB hb;(try clear hb);obtain ⟨zB,zC,zD,zE⟩:=sqc2 B1) | (go_at_call 90;(with_reducible refine (impl_valOne.calls a1_1 t12 t13 t14 t15 _ A41.out).mono ?_);rintro e w49 ⟨rfl,hb⟩;refine sqM3 B0 B1 B2 hb ?_;clear B0 B1 B2;intro B0 B1 B2;replace HB:=sqs HB hb;(try clear hb);obtain ⟨zF,zG,zH,zI,zJ,zK,zL,zM⟩:=sqc4 B2)))
    refine sqre #[.int .i64 t12,.int .i64 t13,.int .i64 t14,.int .i64 t15] (sqP B2) Try.underlying39 ?_;exact sqe HB
   have j4 : (a1_0 == 0) = false:=beq_eq_false_iff_ne.mpr c38;have j5 : (a1_0 != 0) = true:=bne_iff_ne.mpr c38;replace H:=sqbi H;obtain ⟨t16,A60,H⟩:=H;(try dsimp only at H);replace H:=sqbi H;obtain ⟨t17,A61,H⟩:=H;(try dsimp only at H);replace H:=sqj H;rcases H with ⟨c62,H⟩ | ⟨c62,H⟩
   ·have j6 : decide ((wrap64 (a0_1 - t17)) < (wrap64 (a0_0 + t16))) = true:=decide_eq_true c62;clear c62;replace H:=sqbi H;obtain ⟨⟨t18,t19,t20,t21⟩,A63,H⟩:=H;(try dsimp only at H);simp only [Option.some.injEq,Prod.mk.injEq] at H;obtain ⟨rfl,rfl,rfl,rfl⟩:=H;obtain ⟨hnb64,hnc64,hnb65,hnc65⟩:=sqN2 N1_0 N1_2;obtain ⟨jB,jC,jD,jE⟩:=sqc2 B1;obtain ⟨hnb67,hnc67⟩:=sqN1 N0_2;obtain ⟨jF,jG,jH,jI⟩:=sqc2 B0;go_wp2_with (first | (go_at_call 91;(with_reducible refine (impl_restMod.calls (wrap64 (a1_1 - a0_0)) a1_0 t16 _ A60.out).mono ?_);rintro e w' ⟨rfl,⟨nd,rfl⟩⟩;(try exact sqdd)) | (go_at_call 91;(with_reducible refine (impl_restMod.calls (wrap64 (a0_1 - a1_1)) a1_0 t17 _ A61.out).mono ?_);rintro e w' ⟨rfl,⟨nd,rfl⟩⟩;(try exact sqdd)) | (go_at_call 55;(with_reducible refine (impl_valNone.calls  t18 t19 t20 t21 _ A63.out).mono ?_);rintro e w69 ⟨rfl,hb⟩;refine sqM3 B0 B1 B2 hb ?_;clear B0 B1 B2;intro B0 B1 B2;replace HB:=sqs HB hb;(try clear hb);obtain ⟨zN,zO,zP,zQ,zR,zS,zT,zU⟩:=sqc4 B2))
    repeat (go_quiet (first | (go_at_call 91;(with_reducible refine (impl_restMod.calls (wrap64 (a1_1 - a0_0)) a1_0 t16 _ A60.out).mono ?_);rintro e w' ⟨rfl,⟨nd,rfl⟩⟩;(try exact sqdd)) | (go_at_call 91;(with_reducible refine (impl_restMod.calls (wrap64 (a0_1 - a1_1)) a1_0 t17 _ A61.out).mono ?_);rintro e w' ⟨rfl,⟨nd,rfl⟩⟩;(try exact sqdd)) | (go_at_call 55;(with_reducible refine (impl_valNone.calls  t18 t19 t20 t21 _ A63.out).mono ?_);rintro e w69 ⟨rfl,hb⟩;refine sqM3 B0 B1 B2 hb ?_;clear B0 B1 B2;intro B0 B1 B2;replace HB:=sqs HB hb;(try clear hb);obtain ⟨zN,zO,zP,zQ,zR,zS,zT,zU⟩:=sqc4 B2));try go_wp2_with (first | (go_at_call 91;(with_reducible refine (impl_restMod.calls (wrap64 (a1_1 - a0_0)) a1_0 t16 _ A60.out).mono ?_);rintro e w' ⟨rfl,⟨nd,rfl⟩⟩;(try exact sqdd)) | (go_at_call 91;(with_reducible refine (impl_restMod.calls (wrap64 (a0_1 - a1_1)) a1_0 t17 _ A61.out).mono ?_);rintro e w' ⟨rfl,⟨nd,rfl⟩⟩;(try exact sqdd)) | (go_at_call 55;(with_reducible refine (impl_valNone.calls  t18 t19 t20 t21 _ A63.out).mono ?_);rintro e w69 ⟨rfl,hb⟩;refine sqM3 B0 B1 B2 hb ?_;clear B0 B1 B2;intro B0 B1 B2;replace HB:=sqs HB hb;(try clear hb);obtain ⟨zN,zO,zP,zQ,zR,zS,zT,zU⟩:=sqc4 B2)))
    refine sqre #[.int .i64 t18,.int .i64 t19,.int .i64 t20,.int .i64 t21] (sqP B2) Try.underlying39 ?_;exact sqe HB
   have j6 : decide ((wrap64 (a0_1 - t17)) < (wrap64 (a0_0 + t16))) = false:=decide_eq_false c62;clear c62;replace H:=sqi H;rcases H with ⟨c71,H⟩ | ⟨c71,H⟩
   ·have j7 : ((wrap64 (a0_0 + t16)) == (wrap64 (a0_1 - t17))) = false:=beq_eq_false_iff_ne.mpr c71;have j8 : ((wrap64 (a0_0 + t16)) != (wrap64 (a0_1 - t17))) = true:=bne_iff_ne.mpr c71;simp only [Option.some.injEq,Prod.mk.injEq] at H;obtain ⟨rfl,rfl,rfl,rfl⟩:=H;obtain ⟨hnb80,hnc80,hnb81,hnc81⟩:=sqN2 N1_0 N1_2;obtain ⟨jJ,jK,jL,jM⟩:=sqc2 B1;obtain ⟨hnb83,hnc83⟩:=sqN1 N0_2;obtain ⟨jN,jO,jP,jQ⟩:=sqc2 B0;obtain ⟨z0,z1,z2,z3,z4,z5,z6,z7⟩:=sqc4 B2;go_wp2_with (first | (go_at_call 91;(with_reducible refine (impl_restMod.calls (wrap64 (a1_1 - a0_0)) a1_0 t16 _ A60.out).mono ?_);rintro e w' ⟨rfl,⟨nd,rfl⟩⟩;(try exact sqdd)) | (go_at_call 91;(with_reducible refine (impl_restMod.calls (wrap64 (a0_1 - a1_1)) a1_0 t17 _ A61.out).mono ?_);rintro e w' ⟨rfl,⟨nd,rfl⟩⟩;(try exact sqdd);(try (obtain ⟨z0,z1,z2,z3,z4,z5,z6,z7⟩:=sqc4 B2))))
    repeat (go_quiet (first | (go_at_call 91;(with_reducible refine (impl_restMod.calls (wrap64 (a1_1 - a0_0)) a1_0 t16 _ A60.out).mono ?_);rintro e w' ⟨rfl,⟨nd,rfl⟩⟩;(try exact sqdd)) | (go_at_call 91;(with_reducible refine (impl_restMod.calls (wrap64 (a0_1 - a1_1)) a1_0 t17 _ A61.out).mono ?_);rintro e w' ⟨rfl,⟨nd,rfl⟩⟩;(try exact sqdd);(try (obtain ⟨z0,z1,z2,z3,z4,z5,z6,z7⟩:=sqc4 B2))));try go_wp2_with (first | (go_at_call 91;(with_reducible refine (impl_restMod.calls (wrap64 (a1_1 - a0_0)) a1_0 t16 _ A60.out).mono ?_);rintro e w' ⟨rfl,⟨nd,rfl⟩⟩;(try exact sqdd)) | (go_at_call 91;(with_reducible refine (impl_restMod.calls (wrap64 (a0_1 - a1_1)) a1_0 t17 _ A61.out).mono ?_);rintro e w' ⟨rfl,⟨nd,rfl⟩⟩;(try exact sqdd);(try (obtain ⟨z0,z1,z2,z3,z4,z5,z6,z7⟩:=sqc4 B2)))))
    refine sqre #[.int .i64 (wrap64 (a0_0 + t16)),.int .i64 (wrap64 (a0_1 - t17)),.int .i64 a1_0,.int .i64 a1_1] (sqP B2) Try.underlying39 ?_;exact sqe HB
   have j7 : ((wrap64 (a0_0 + t16)) == (wrap64 (a0_1 - t17))) = true:=beq_iff_eq.mpr c71;have j8 : ((wrap64 (a0_0 + t16)) != (wrap64 (a0_1 - t17))) = false:=bne_eq_false_iff_eq.mpr c71;clear c71;replace H:=sqbi H;obtain ⟨⟨t22,t23,t24,t25⟩,A72,H⟩:=H;(try dsimp only at H);simp only [Option.some.injEq,Prod.mk.injEq] at H;obtain ⟨rfl,rfl,rfl,rfl⟩:=H;obtain ⟨hnb73,hnc73,hnb74,hnc74⟩:=sqN2 N1_0 N1_2;obtain ⟨jR,jS,jT,jU⟩:=sqc2 B1;obtain ⟨hnb76,hnc76⟩:=sqN1 N0_2;obtain ⟨jV,jW,jX,jY⟩:=sqc2 B0;go_wp2_with (first | (go_at_call 91;(with_reducible refine (impl_restMod.calls (wrap64 (a1_1 - a0_0)) a1_0 t16 _ A60.out).mono ?_);rintro e w' ⟨rfl,⟨nd,rfl⟩⟩;(try exact sqdd)) | (go_at_call 91;(with_reducible refine (impl_restMod.calls (wrap64 (a0_1 - a1_1)) a1_0 t17 _ A61.out).mono ?_);rintro e w' ⟨rfl,⟨nd,rfl⟩⟩;(try exact sqdd)) | (go_at_call 90;(with_reducible refine (impl_valOne.calls (wrap64 (a0_0 + t16)) t22 t23 t24 t25 _ A72.out).mono ?_);rintro e w78 ⟨rfl,hb⟩;refine sqM3 B0 B1 B2 hb ?_;clear B0 B1 B2;intro B0 B1 B2;replace HB:=sqs HB hb;(try clear hb);obtain ⟨zV,zW,zX,zY,zZ,j1,j2,j3⟩:=sqc4 B2))
   repeat (go_quiet (first | (go_at_call 91;(with_reducible refine (impl_restMod.calls (wrap64 (a1_1 - a0_0)) a1_0 t16 _ A60.out).mono ?_);rintro e w' ⟨rfl,⟨nd,rfl⟩⟩;(try exact sqdd)) | (go_at_call 91;(with_reducible refine (impl_restMod.calls (wrap64 (a0_1 - a1_1)) a1_0 t17 _ A61.out).mono ?_);rintro e w' ⟨rfl,⟨nd,rfl⟩⟩;(try exact sqdd)) | (go_at_call 90;(with_reducible refine (impl_valOne.calls (wrap64 (a0_0 + t16)) t22 t23 t24 t25 _ A72.out).mono ?_);rintro e w78 ⟨rfl,hb⟩;refine sqM3 B0 B1 B2 hb ?_;clear B0 B1 B2;intro B0 B1 B2;replace HB:=sqs HB hb;(try clear hb);obtain ⟨zV,zW,zX,zY,zZ,j1,j2,j3⟩:=sqc4 B2));try go_wp2_with (first | (go_at_call 91;(with_reducible refine (impl_restMod.calls (wrap64 (a1_1 - a0_0)) a1_0 t16 _ A60.out).mono ?_);rintro e w' ⟨rfl,⟨nd,rfl⟩⟩;(try exact sqdd)) | (go_at_call 91;(with_reducible refine (impl_restMod.calls (wrap64 (a0_1 - a1_1)) a1_0 t17 _ A61.out).mono ?_);rintro e w' ⟨rfl,⟨nd,rfl⟩⟩;(try exact sqdd)) | (go_at_call 90;(with_reducible refine (impl_valOne.calls (wrap64 (a0_0 + t16)) t22 t23 t24 t25 _ A72.out).mono ?_);rintro e w78 ⟨rfl,hb⟩;refine sqM3 B0 B1 B2 hb ?_;clear B0 B1 B2;intro B0 B1 B2;replace HB:=sqs HB hb;(try clear hb);obtain ⟨zV,zW,zX,zY,zZ,j1,j2,j3⟩:=sqc4 B2)))
   refine sqre #[.int .i64 t22,.int .i64 t23,.int .i64 t24,.int .i64 t25] (sqP B2) Try.underlying39 ?_;exact sqe HB

/-! ### impl_Val_rest: function 59 -/
theorem impl_Val_rest.calls (a0_0 : Int) (a0_1 : Int) (a0_2 : Int) (a0_3 : Int) (r1 : Int) (r2 : Int) (w : World) (h : impl_Val_rest.f a0_0 a0_1 a0_2 a0_3 = some (r1,r2)) :
  Calls Try.prog 59 #[.agg #[.int .i64 a0_0,.int .i64 a0_1,.int .i64 a0_2,.int .i64 a0_3]] w fun e w'=>e = .returned (.agg #[.int .i64 r1,.int .i64 r2])∧Below w.heap.size w w':=by
 have hu39:=Try.underlying39;have hu71:=Try.underlying71;have HB:=Aside0.mk (Below.refl w.heap.size w);have H:=h;unfold impl_Val_rest.f at H;clear h;simp only [Option.some.injEq,Prod.mk.injEq] at H;obtain ⟨rfl,rfl⟩:=H;go_enter Try.func59,Try.ntmps59;go_wp2_with (first | ((with_reducible refine gd 1 rfl ?_);refine sqX 1 #[.int .i64 a0_0,.int .i64 a0_1,.int .i64 a0_2,.int .i64 a0_3] 39 HB ?_;clear HB;intro gb0 hg w2 hb B0 GW0 HB;clear hb hg) | ((with_reducible refine gd 2 rfl ?_);refine sqX 2 #[.int .i64 0,.int .i64 0] 71 HB ?_;clear HB;intro gb1 hg w3 hb B1 GW1 HB;have N0_1:=sqn B0 hg;have N1_0:=sqm B0 hg;replace B0:=sqb B0 hb;clear hb hg;obtain ⟨_,_⟩:=sqN1 N0_1;obtain ⟨_,_,_,_,_,_,_,_⟩:=sqc4 B0;obtain ⟨_,_,_,_⟩:=sqc2 B1));refine sqre #[.int .i64 a0_2,.int .i64 a0_3] (sqP B1) Try.underlying71 ?_;exact sqe HB

/-! ### impl_ValOk: function 18 -/
def impl_ValOk.T1 : Bool × List (List Nat × List Nat):=(true,[([],[]),([],[]),([1],[1]),([],[]),([3,2],[3]),([2,4,4],[2,4]),([0,5],[0,5]),([6,5,0,1,2,3,4,5,6],[6])])
def impl_ValOk.B1 : List Nat:=[0,0,2,0,14,30,63,127]
theorem impl_ValOk.tab1 : rtab .any (opsOf Try.f18 1) = impl_ValOk.T1:=by kernel_rfl
theorem impl_ValOk.bits1 : waitsOk impl_ValOk.T1.2 impl_ValOk.B1 = true:=by kernel_rfl
theorem impl_ValOk.calls (k : Nat) (a0_0 : Int) (a0_1 : Int) (a0_2 : Int) (a0_3 : Int) (r : Bool) (w : World) (h : impl_ValOk.f k a0_0 a0_1 a0_2 a0_3 = some r) :
  Calls Try.prog 18 #[.agg #[.int .i64 a0_0,.int .i64 a0_1,.int .i64 a0_2,.int .i64 a0_3]] w fun e w'=>e = .returned (.bool r)∧Below w.heap.size w w':=by
 have hu39:=Try.underlying39;have HB:=Aside0.mk (Below.refl w.heap.size w);have H:=h;unfold impl_ValOk.f at H;clear h;replace H:=sqbi H;obtain ⟨⟨t0,t1⟩,A2,H⟩:=H;(try dsimp only at H);replace H:=sqbi H;obtain ⟨⟨t2,t3⟩,A3,H⟩:=H;(try dsimp only at H);replace H:=sqbi H;obtain ⟨⟨t4,t5,t6,t7⟩,A4,H⟩:=H;(try dsimp only at H);obtain rfl:=Option.some.inj H;go_enter Try.func18,Try.ntmps18
 try go_wp2_with (first | ((with_reducible refine gd 1 rfl ?_);refine sqX 1 #[.int .i64 a0_0,.int .i64 a0_1,.int .i64 a0_2,.int .i64 a0_3] 39 HB ?_;clear HB;intro gb0 hg w5 hb B0 GW0 HB;clear hb hg))
 replace B0:=sqdr B0;replace HB:=sqdB HB;refine sqst 8 (fun w'=>Ce4 w' gb0 (.int .i64 a0_0) (.int .i64 a0_1) (.int .i64 a0_2) (.int .i64 a0_3)) sqz (fun hHeld=>?_);refine with_tabW impl_ValOk.tab1 impl_ValOk.bits1 (fun HT_ HW_=>?_);generalize w5.drew = w6 at B0 HB hHeld ⊢;refine sqw HT_ HW_ 0 3 hHeld ?_;refine sqw HT_ HW_ 1 4 hHeld ?_;refine sqw HT_ HW_ 3 6 hHeld ?_;refine sqo HT_ 2 5 (fun K hK=>?_);refine sqGb rfl Try.func56 (impl_Val_span.calls _ _ _ _ _ _ _ A2.out) ?_;intro w7 hb;replace B0:=sqb B0 hb;replace HB:=sqs HB hb;(try clear hb);refine hK.out _ _ sqz (fun hHeld=>?_);clear hK K;refine sqnm ?_;refine sqo HT_ 4 7 (fun K hK=>?_);refine sqGb rfl Try.func59 (impl_Val_rest.calls _ _ _ _ _ _ _ A3.out) ?_;intro w8 hb;replace B0:=sqb B0 hb;replace HB:=sqs HB hb;(try clear hb);refine hK.out _ _ sqz (fun hHeld=>?_);clear hK K;refine sqnm ?_;refine sqo HT_ 5 8 (fun K hK=>?_);refine sqGb rfl Try.func57 (impl_ValMake.calls _ _ _ _ _ _ _ _ _ _ A4.out) ?_;intro w9 hb;replace B0:=sqb B0 hb;replace HB:=sqs HB hb;(try clear hb);refine hK.out _ _ sqz (fun hHeld=>?_);clear hK K;refine sqnm ?_;refine sqp HT_ 6 9 ?_;refine sqp HT_ 7 2 ?_;refine done_ (done_of HT_.out (by kernel_rfl)) ?_
 try go_wp2
 go_ret
 exact sqe HB

/-! ### impl_Val_none: function 54 -/
theorem impl_Val_none.calls (a0_0 : Int) (a0_1 : Int) (a0_2 : Int) (a0_3 : Int) (r : Bool) (w : World) (h : impl_Val_none.f a0_0 a0_1 a0_2 a0_3 = some r) :
  Calls Try.prog 54 #[.agg #[.int .i64 a0_0,.int .i64 a0_1,.int .i64 a0_2,.int .i64 a0_3]] w fun e w'=>e = .returned (.bool r)∧Below w.heap.size w w':=by
 have hu39:=Try.underlying39;have HB:=Aside0.mk (Below.refl w.heap.size w);have H:=h;unfold impl_Val_none.f at H;clear h;replace H:=sqbi H;obtain ⟨⟨t0,t1,t2,t3⟩,A2,H⟩:=H;(try dsimp only at H);obtain rfl:=Option.some.inj H;go_enter Try.func54,Try.ntmps54
 try go_wp2_with (first | ((with_reducible refine gd 1 rfl ?_);refine sqX 1 #[.int .i64 a0_0,.int .i64 a0_1,.int .i64 a0_2,.int .i64 a0_3] 39 HB ?_;clear HB;intro gb0 hg w3 hb B0 GW0 HB;clear hb hg))
 replace B0:=sqdr B0;replace HB:=sqdB HB;refine sqst 4 (fun w'=>Ce4 w' gb0 (.int .i64 a0_0) (.int .i64 a0_1) (.int .i64 a0_2) (.int .i64 a0_3)) sqz (fun hHeld=>?_);generalize w3.drew = w4 at B0 HB hHeld ⊢;refine take_ (i:=0) (N:=some 3) (v:=?_) (a':=?_) #[true,false,false,false] rfl rfl (by kernel_rfl) (fun _ _ _ h=>h) (Or.inl ⟨by rfl,?_⟩) hHeld ?_ ?_;rotate_left
 ·rintro w' ⟨s0,s1,s2,s3⟩
  go_simp
  with_reducible rfl
 rotate_left
 ·simp only [Act.put,List.setIfInBounds_toArray,List.set_cons_zero,List.set_cons_succ,i64_w,i32_w]
  rfl
 refine one_ (i:=1) (N:=some 4) #[true,true,false,false] rfl rfl (by kernel_rfl) (by decide) (fun K hK=>?_);refine sqGb rfl Try.func55 (impl_valNone.calls _ _ _ _ _ A2.out) ?_;intro w5 hb;replace B0:=sqb B0 hb;replace HB:=sqs HB hb;(try clear hb);refine hK.out _ _ sqz (fun hHeld=>?_);clear hK K;refine sqnm ?_;refine pure_ (i:=2) (N:=some 5) (v:=?_) (a':=?_) #[true,true,true,false] rfl rfl (by kernel_rfl) (fun _ _ _ h=>h) (Or.inl ⟨by rfl,?_⟩) ?_ ?_;rotate_left
 ·intro w'
  go_simp
  with_reducible rfl
 rotate_left
 ·simp only [Act.put,List.setIfInBounds_toArray,List.set_cons_zero,List.set_cons_succ,i64_w,i32_w]
  rfl
 refine pure_ (i:=3) (N:=some 2) (v:=?_) (a':=?_) #[true,true,true,true] rfl rfl (by kernel_rfl) (fun _ _ _ h=>h) (Or.inl ⟨by rfl,?_⟩) ?_ ?_;rotate_left
 ·intro w'
  go_simp
  with_reducible rfl
 rotate_left
 ·simp only [Act.put,List.setIfInBounds_toArray,List.set_cons_zero,List.set_cons_succ,i64_w,i32_w]
  rfl
 refine done_ (by kernel_rfl) ?_
 try go_wp2
 go_ret
 exact sqe HB

/-! ### impl_NumDo: function 11 -/
theorem impl_NumDo.calls (k : Nat) (a0 : Int) (a1 : Int) (a2 : Int) (r1 : Int) (r2 : Int) (w : World) (h : impl_NumDo.f k a0 a1 a2 = some (r1,r2)) :
  Calls Try.prog 11 #[.int .i64 a0,.int .i64 a1,.int .i64 a2] w fun e w'=>e = .returned (.tuple #[.int .i64 r1,.int .i64 r2])∧Drawn0 w w':=by
 have H:=h;unfold impl_NumDo.f at H;clear h;have HC4:=Aside0.mk H;clear H;go_enter Try.func11,Try.ntmps11;go_upto_region 1 with (fail);go_cut [21] (fun v21 wc=>∃ (kq : Nat) (x0 : Bool),v21 = .bool x0∧Aside0 (impl_NumDo.j0 kq a0 a1 a2 x0 = some (r1,r2))∧Aside0 (kq ≤ k)∧Drawn0 w wc)
 case first =>
  have H:=HC4.out;clear HC4;replace H:=sqbi H;obtain ⟨t0,A5,H⟩:=H;(try dsimp only at H);rcases sqI (t0 = true) with c6 | c6
  ·replace c6:=Bool.eq_false_iff.mpr c6;subst c6;rw [sqff] at H;have H':=Aside0.mk H;clear H;go_wp2_with (first | ((with_reducible refine gf 27 rfl ?_);refine sqLq rfl (some 10) Try.func27 (impl_numOp.calls _ _ _ A5.out) ?_;intro nd));go_meet
   case rel=>exact ⟨_,(true),sqE,H',⟨sqle⟩,sqD⟩
  subst c6;rw [if_pos rfl] at H;replace H:=sqbi H;obtain ⟨t1,A7,H⟩:=H;(try dsimp only at H);rcases sqI (t1 = true) with c8 | c8
  ·replace c8:=Bool.eq_false_iff.mpr c8;subst c8;rw [sqff] at H;have H':=Aside0.mk H;clear H;go_wp2_with (first | ((with_reducible refine gf 27 rfl ?_);refine sqLq rfl (some 10) Try.func27 (impl_numOp.calls _ _ _ A5.out) ?_;intro nd) | (go_at_call 48;(with_reducible refine (impl_NumOk.calls a1 false _ A7.out).mono ?_);rintro e w' ⟨rfl,⟨nd,rfl⟩⟩));go_meet
   case rel=>exact ⟨_,(true),sqE,H',⟨sqle⟩,sqD⟩
  subst c8;rw [if_pos rfl] at H;replace H:=sqbi H;obtain ⟨t2,A9,H⟩:=H;(try dsimp only at H);have H':=Aside0.mk H;clear H;go_wp2_with (first | ((with_reducible refine gf 27 rfl ?_);refine sqLq rfl (some 10) Try.func27 (impl_numOp.calls _ _ _ A5.out) ?_;intro nd) | (go_at_call 48;(with_reducible refine (impl_NumOk.calls a1 true _ A7.out).mono ?_);rintro e w' ⟨rfl,⟨nd,rfl⟩⟩) | (go_at_call 48;(with_reducible refine (impl_NumOk.calls a2 t2 _ A9.out).mono ?_);rintro e w' ⟨rfl,⟨nd,rfl⟩⟩));go_meet
  case rel=>exact ⟨_,(!t2),sqE,H',⟨sqle⟩,sqD⟩
 case rest =>
  clear HC4;obtain ⟨kq,x0,rfl,HA,HJ3,⟨mc3,rfl⟩⟩:=hcut;cases kq with
  | zero=>exact absurd HA.out (by simp [impl_NumDo.j0])
  | succ kj3 =>
   have H:=HA.out;clear HA;simp only [impl_NumDo.j0] at H
   by_cases c10 : x0 = true
   ·subst c10;rw [if_pos rfl] at H;simp only [Option.some.injEq,Prod.mk.injEq] at H;obtain ⟨rfl,rfl⟩:=H
    go_wp2
    go_ret2
    exact ⟨sqE,sqD⟩
   replace c10:=Bool.eq_false_iff.mpr c10;subst c10;rw [sqff] at H;have HC11:=Aside0.mk H;clear H
   go_upto_block 0 with (fail)
   go_cut [] (fun wc=>∃ (kq : Nat),Aside0 (impl_NumDo.j3 kq a0 a1 a2 = some (r1,r2))∧Aside0 (kq ≤ kj3)∧Drawn0 w wc)
   case first =>
    have H:=HC11.out;clear HC11;have HC12:=Aside0.mk H;clear H
    go_upto_if 23 with (fail)
    go_cut [23] (fun v23 wc=>∃ (kq : Nat) (x1 : Bool),v23 = .bool x1∧Aside0 (impl_NumDo.j1 kq a0 a1 a2 a0 x1 = some (r1,r2))∧Aside0 (kq ≤ kj3)∧Drawn0 w wc)
    case first =>
     have H:=HC12.out;clear HC12;replace H:=sqi H;rcases H with ⟨c13,H⟩ | ⟨c13,H⟩
     ·have z0 : (a0 == 4) = false:=beq_eq_false_iff_ne.mpr c13;have z3 : (a0 != 4) = true:=bne_iff_ne.mpr c13
      (first | rw [z0] | (simp only [i64_w,i32_w];rw [z0]) | skip)
      have H':=Aside0.mk H;clear H
      go_wp2
      go_meet
      case rel=>exact ⟨_,((a0 == 5)),sqE,H',⟨by have:=HJ3.out;first | omega | exact Nat.le_refl _⟩,sqD⟩
     have z0 : (a0 == 4) = true:=beq_iff_eq.mpr c13;have z3 : (a0 != 4) = false:=bne_eq_false_iff_eq.mpr c13;clear c13
     (first | rw [z0] | (simp only [i64_w,i32_w];rw [z0]) | skip)
     have H':=Aside0.mk H;clear H
     go_wp2
     go_meet
     case rel=>exact ⟨_,((a0 == 4)),sqE,H',⟨by have:=HJ3.out;first | omega | exact Nat.le_refl _⟩,sqD⟩
    case rest =>
     clear HC12;obtain ⟨kq,x1,rfl,HA,HJ11,⟨mc11,rfl⟩⟩:=hcut;cases kq with
     | zero=>exact absurd HA.out (by simp [impl_NumDo.j1])
     | succ kj11 =>
      have H:=HA.out;clear HA;simp only [impl_NumDo.j1] at H
      by_cases c14 : x1 = true
      ·subst c14;rw [if_pos rfl] at H;replace H:=sqi H;rcases H with ⟨c15,H⟩ | ⟨c15,H⟩
       ·have z4 : (a2 == 0) = false:=beq_eq_false_iff_ne.mpr c15;have z5 : (a2 != 0) = true:=bne_iff_ne.mpr c15;have H':=Aside0.mk H;clear H
        go_wp2
        go_meet
        case rel=>exact ⟨_,H',⟨by have:=HJ3.out;have:=HJ11.out;first | omega | exact Nat.le_refl _⟩,sqD⟩
       have z4 : (a2 == 0) = true:=beq_iff_eq.mpr c15;have z5 : (a2 != 0) = false:=bne_eq_false_iff_eq.mpr c15;clear c15;simp only [Option.some.injEq,Prod.mk.injEq] at H;obtain ⟨rfl,rfl⟩:=H
       go_wp2
       go_ret2
       exact ⟨sqE,sqD⟩
      replace c14:=Bool.eq_false_iff.mpr c14;subst c14;rw [sqff] at H;have HC16:=Aside0.mk H;clear H
      go_upto_if 28 with (fail)
      go_cut [28] (fun v28 wc=>∃ (kq : Nat) (x2 : Bool),v28 = .bool x2∧Aside0 (impl_NumDo.j2 kq a0 a1 a2 x2 = some (r1,r2))∧Aside0 (kq ≤ kj11)∧Drawn0 w wc)
      case first =>
       have H:=HC16.out;clear HC16;replace H:=sqi H;rcases H with ⟨c17,H⟩ | ⟨c17,H⟩
       ·have z1 : (a0 == 9) = false:=beq_eq_false_iff_ne.mpr c17;have z6 : (a0 != 9) = true:=bne_iff_ne.mpr c17
        (first | rw [z1] | (simp only [i64_w,i32_w];rw [z1]) | skip)
        have H':=Aside0.mk H;clear H
        go_wp2
        go_meet
        case rel=>exact ⟨_,((a0 == 10)),sqE,H',⟨by have:=HJ3.out;have:=HJ11.out;first | omega | exact Nat.le_refl _⟩,sqD⟩
       have z1 : (a0 == 9) = true:=beq_iff_eq.mpr c17;have z6 : (a0 != 9) = false:=bne_eq_false_iff_eq.mpr c17;clear c17
       (first | rw [z1] | (simp only [i64_w,i32_w];rw [z1]) | skip)
       have H':=Aside0.mk H;clear H
       go_wp2
       go_meet
       case rel=>exact ⟨_,((a0 == 9)),sqE,H',⟨by have:=HJ3.out;have:=HJ11.out;first | omega | exact Nat.le_refl _⟩,sqD⟩
      case rest =>
       clear HC16;obtain ⟨kq,x2,rfl,HA,HJ15,⟨mc15,rfl⟩⟩:=hcut;cases kq with
       | zero=>exact absurd HA.out (by simp [impl_NumDo.j2])
       | succ kj15 =>
        have H:=HA.out;clear HA;simp only [impl_NumDo.j2] at H;rcases sqI (x2 = true) with c18 | c18
        ·replace c18:=Bool.eq_false_iff.mpr c18;subst c18;rw [sqff] at H;have H':=Aside0.mk H;clear H
         go_wp2
         go_meet
         case rel=>exact ⟨_,H',⟨by have:=HJ3.out;have:=HJ11.out;have:=HJ15.out;first | omega | exact Nat.le_refl _⟩,sqD⟩
        subst c18;rw [if_pos rfl] at H;replace H:=sqj H;rcases H with ⟨c19,H⟩ | ⟨c19,H⟩
        ·have z7:=decide_eq_true c19;clear c19;simp only [Option.some.injEq,Prod.mk.injEq] at H;obtain ⟨rfl,rfl⟩:=H
         go_wp2
         go_ret2
         exact ⟨sqE,sqD⟩
        have z7:=decide_eq_false c19;clear c19;replace H:=sqj H;rcases H with ⟨c20,H⟩ | ⟨c20,H⟩
        ·have z8 : decide (31 < a2) = true:=decide_eq_true c20;clear c20;simp only [Option.some.injEq,Prod.mk.injEq] at H;obtain ⟨rfl,rfl⟩:=H
         go_wp2
         go_ret2
         exact ⟨sqE,sqD⟩
        have z8 : decide (31 < a2) = false:=decide_eq_false c20;clear c20;have H':=Aside0.mk H;clear H
        go_wp2
        go_meet
        case rel=>exact ⟨_,H',⟨by have:=HJ3.out;have:=HJ11.out;have:=HJ15.out;first | omega | exact Nat.le_refl _⟩,sqD⟩
   case rest =>
    clear HC11;obtain ⟨kq,HA,HJ10,⟨mc10,rfl⟩⟩:=hcut;cases kq with
    | zero=>exact absurd HA.out (by simp [impl_NumDo.j3])
    | succ kj10 =>
     have H:=HA.out;clear HA;simp only [impl_NumDo.j3] at H;replace H:=sqbi H;obtain ⟨t3,A21,H⟩:=H;(try dsimp only at H);have HC22:=Aside0.mk H;clear H
     go_upto_if 42 with (first | ((with_reducible refine gf 49 rfl ?_);refine sqLq rfl (some 40) Try.func49 (impl_numExact.calls _ _ _ _ _ _ A21.out) ?_;intro nd))
     (try simp only [Act.put,List.setIfInBounds_toArray,List.set_cons_zero,List.set_cons_succ])
     go_cut [42] (fun v42 wc=>∃ (kq : Nat) (x3 : Bool),v42 = .bool x3∧Aside0 (impl_NumDo.j4 kq t3 x3 = some (r1,r2))∧Aside0 (kq ≤ kj10)∧Drawn0 w wc)
     case first =>
      have H:=HC22.out;clear HC22;replace H:=sqj H;rcases H with ⟨c23,H⟩ | ⟨c23,H⟩
      ·have z2 : (a0 == 11) = true:=beq_iff_eq.mpr c23;have z9 : (a0 != 11) = false:=bne_eq_false_iff_eq.mpr c23;clear c23
       (first | rw [z2] | (simp only [i64_w,i32_w];rw [z2]) | skip)
       have H':=Aside0.mk H;clear H
       go_wp2
       go_meet
       case rel=>exact ⟨_,((a0 == 11)),sqE,H',⟨by have:=HJ3.out;have:=HJ10.out;first | omega | exact Nat.le_refl _⟩,sqD⟩
      have z2 : (a0 == 11) = false:=beq_eq_false_iff_ne.mpr c23;have z9 : (a0 != 11) = true:=bne_iff_ne.mpr c23
      (first | rw [z2] | (simp only [i64_w,i32_w];rw [z2]) | skip)
      replace H:=sqi H;rcases H with ⟨c24,H⟩ | ⟨c24,H⟩
      ·have za : (a0 == 12) = false:=beq_eq_false_iff_ne.mpr c24;have zb : (a0 != 12) = true:=bne_iff_ne.mpr c24;have H':=Aside0.mk H;clear H
       go_wp2
       go_meet
       case rel=>exact ⟨_,((a0 == 13)),sqE,H',⟨by have:=HJ3.out;have:=HJ10.out;first | omega | exact Nat.le_refl _⟩,sqD⟩
      have za : (a0 == 12) = true:=beq_iff_eq.mpr c24;have zb : (a0 != 12) = false:=bne_eq_false_iff_eq.mpr c24;clear c24;have H':=Aside0.mk H;clear H
      go_wp2
      go_meet
      case rel=>exact ⟨_,((a0 == 12)),sqE,H',⟨by have:=HJ3.out;have:=HJ10.out;first | omega | exact Nat.le_refl _⟩,sqD⟩
     case rest =>
      clear HC22;obtain ⟨kq,x3,rfl,HA,HJ21,⟨mc21,rfl⟩⟩:=hcut;cases kq with
      | zero=>exact absurd HA.out (by simp [impl_NumDo.j4])
      | succ kj21 =>
       have H:=HA.out;clear HA;simp only [impl_NumDo.j4] at H
       by_cases c25 : x3 = true
       ·subst c25;rw [if_pos rfl] at H;replace H:=sqbi H;obtain ⟨t4,A26,H⟩:=H;(try dsimp only at H);simp only [Option.some.injEq,Prod.mk.injEq] at H;obtain ⟨rfl,rfl⟩:=H;go_wp2_with (first | ((with_reducible refine gf 50 rfl ?_);refine sqLq rfl (some 47) Try.func50 (impl_NumWrap.calls _ _ _ A26.out) ?_;intro nd))
        go_ret2
        exact ⟨sqE,sqD⟩
       replace c25:=Bool.eq_false_iff.mpr c25;subst c25;rw [sqff] at H;replace H:=sqbi H;obtain ⟨t5,A27,H⟩:=H;(try dsimp only at H)
       by_cases c28 : t5 = true
       ·subst c28;rw [if_pos rfl] at H;simp only [Option.some.injEq,Prod.mk.injEq] at H;obtain ⟨rfl,rfl⟩:=H;go_wp2_with (first | ((with_reducible refine gf 48 rfl ?_);refine sqLq rfl (some 49) Try.func48 (impl_NumOk.calls _ _ _ A27.out) ?_;intro nd))
        go_ret2
        exact ⟨sqE,sqD⟩
       replace c28:=Bool.eq_false_iff.mpr c28;subst c28;rw [sqff] at H;simp only [Option.some.injEq,Prod.mk.injEq] at H;obtain ⟨rfl,rfl⟩:=H;go_wp2_with (first | ((with_reducible refine gf 48 rfl ?_);refine sqLq rfl (some 49) Try.func48 (impl_NumOk.calls _ _ _ A27.out) ?_;intro nd))
       go_ret2
       exact ⟨sqE,sqD⟩

/-! ### impl_restAll: function 92 -/
theorem impl_restAll.calls  (r1 : Int) (r2 : Int) (w : World) (h : impl_restAll.f  = some (r1,r2)) :
  Calls Try.prog 92 #[] w fun e w'=>e = .returned (.agg #[.int .i64 r1,.int .i64 r2])∧Below w.heap.size w w':=by
 have hu71:=Try.underlying71;have HB:=Aside0.mk (Below.refl w.heap.size w);have H:=h;unfold impl_restAll.f at H;clear h;simp only [Option.some.injEq,Prod.mk.injEq] at H;obtain ⟨rfl,rfl⟩:=H;go_enter Try.func92,Try.ntmps92;go_wp2_with (first | ((with_reducible refine gd 0 rfl ?_);refine sqX 0 #[.int .i64 0,.int .i64 0] 71 HB ?_;clear HB;intro gb0 hg w1 hb B0 GW0 HB;clear hb hg;obtain ⟨_,_,_,_⟩:=sqc2 B0));refine sqre #[.int .i64 1,.int .i64 0] (sqP B0) Try.underlying71 ?_;exact sqe HB

/-! ### impl_restGcd: function 94 -/
theorem impl_restGcd.calls (k : Nat) (A0 : Option Addr) (c0 : Nat) (l0 : List Int) (r : Int) (w : World) (hr0 : Kd.C (Kd.int .i64) w A0 l0.length l0) (hc0 : l0.length ≤ c0) (h : impl_restGcd.f k l0 = some r) :
  Calls Try.prog 94 #[.slice A0 l0.length c0] w fun e w'=>e = .returned (.int .i64 r)∧Drawn0 w w':=by
 have HR0:=Aside0.mk hr0;have HC0:=Aside0.mk hc0;clear hr0 hc0;have H:=h;unfold impl_restGcd.f at H;clear h;have H':=Aside0.mk H;clear H;go_enter Try.func94,Try.ntmps94
 go_wp2
 repeat (go_quiet (fail);try go_wp2)
 go_loopg [3,8] k (fun kq v3 v8 w'=>∃ (x0 : Int) (x1 : Int),v3 = .int .i64 x0∧v8 = .int .i64 x1∧Aside0 (impl_restGcd.l0 kq x0 l0 (l0.length : Int) x1 = some r)∧Aside0 (kq ≤ k)∧Drawn0 w w')
 case atStart=>exact ⟨(0),(0),sqE,sqE,H',⟨Nat.le_refl _⟩,sqD⟩
 case round =>
  clear H';obtain ⟨x0,x1,rfl,rfl,HA,HK1,⟨m1,rfl⟩⟩:=hrel;cases gk with
  | zero=>exact absurd HA.out (by simp [impl_restGcd.l0])
  | succ k1 =>
   have H:=HA.out;clear HA;simp only [impl_restGcd.l0] at H;replace H:=sqi H;rcases H with ⟨c2,H⟩ | ⟨c2,H⟩
   ·have z2:=decide_eq_false c2;clear c2;replace H:=sqj H;rcases H with ⟨c6,H⟩ | ⟨c6,H⟩
    ·have z3:=decide_eq_true c6;clear c6;obtain rfl:=Option.some.inj H
     go_wp2
     repeat (go_quiet (fail);try go_wp2)
     go_ret
     exact ⟨sqE,sqD⟩
    have z3:=decide_eq_false c6;clear c6;obtain rfl:=Option.some.inj H
    go_wp2
    repeat (go_quiet (fail);try go_wp2)
    go_ret
    exact ⟨sqE,sqD⟩
   have z2:=decide_eq_true c2;clear c2;replace H:=sqi H;rcases H with ⟨c3,H⟩ | ⟨c3,H⟩
   ·cases H
   have z7:=decide_eq_true c3;clear c3;replace H:=sqi H;rcases H with ⟨c4,H⟩ | ⟨c4,H⟩
   ·cases H
   have z8:=decide_eq_true c4;clear c4;have H':=Aside0.mk H;clear H;have z0 : 0 ≤ (x1 : Int):=sqd;have z1 : x1 < (l0.length : Int):=sqd;obtain ⟨z9,z4,za⟩:=Kd.at_int HR0.out x1 z0 z1;cases z4;replace z0:=eq_true z0;replace z1:=eq_true z1
   go_wp2
   repeat (go_quiet (fail);try go_wp2)
   go_loopg [3,5] k1 (fun kq v3 v5 w'=>∃ (x2 : Int) (x3 : Int),v3 = .int .i64 x2∧v5 = .int .i64 x3∧Aside0 (impl_restGcd.l1 kq x2 x3 l0 (l0.length : Int) x1 = some r)∧Aside0 (kq ≤ k1)∧Drawn0 w w')
   case atStart=>exact ⟨(x0),(rd l0 x1),sqE,sqE,H',⟨Nat.le_refl _⟩,sqD⟩
   case round =>
    clear H';obtain ⟨x2,x3,rfl,rfl,HA,HK2,⟨m2,rfl⟩⟩:=hrel;cases gk with
    | zero=>exact absurd HA.out (by simp [impl_restGcd.l1])
    | succ k2 =>
     have H:=HA.out;clear HA;simp only [impl_restGcd.l1] at H;replace H:=sqi H;rcases H with ⟨c5,H⟩ | ⟨c5,H⟩
     ·have z5 : (x3 == 0) = false:=beq_eq_false_iff_ne.mpr c5;have z6 : (x3 != 0) = true:=bne_iff_ne.mpr c5;have H':=Aside0.mk H;clear H
      go_wp2
      repeat (go_quiet (fail);try go_wp2)
      go_roundg k2
      case measure=>have:=HK1.out;have:=HK2.out;omega
      case rel=>exact ⟨(x3),(Int.tmod x2 x3),sqE,sqE,H',⟨by have:=HK1.out;have:=HK2.out;omega⟩,sqD⟩
     have z5 : (x3 == 0) = true:=beq_iff_eq.mpr c5;have z6 : (x3 != 0) = false:=bne_eq_false_iff_eq.mpr c5;clear c5;have H':=Aside0.mk H;clear H
     go_wp2
     repeat (go_quiet (fail);try go_wp2)
     go_roundg k2
     case measure=>have:=HK1.out;have:=HK2.out;omega
     case rel=>exact ⟨(x2),(wrap64 (x1 + 1)),sqE,sqE,H',⟨by have:=HK1.out;have:=HK2.out;omega⟩,sqD⟩

/-! ### impl_restOf: function 93 -/
theorem impl_restOf.calls (k : Nat) (a0 : Int) (a1 : Int) (r1 : Int) (r2 : Int) (w : World) (h : impl_restOf.f k a0 a1 = some (r1,r2)) :
  Calls Try.prog 93 #[.int .i64 a0,.int .i64 a1] w fun e w'=>e = .returned (.agg #[.int .i64 r1,.int .i64 r2])∧Below w.heap.size w w':=by
 have hu71:=Try.underlying71;have HB:=Aside0.mk (Below.refl w.heap.size w);have H:=h;unfold impl_restOf.f at H;clear h;replace H:=sqi H;rcases H with ⟨c3,H⟩ | ⟨c3,H⟩
 ·have z6 : decide (65536 < a1) = false:=decide_eq_false c3;clear c3;replace H:=sqj H;rcases H with ⟨c17,H⟩ | ⟨c17,H⟩
  ·have z7 : (a1 == 0) = true:=beq_iff_eq.mpr c17;have z8 : (a1 != 0) = false:=bne_eq_false_iff_eq.mpr c17;clear c17;simp only [Option.some.injEq,Prod.mk.injEq] at H;obtain ⟨rfl,rfl⟩:=H;go_enter Try.func93,Try.ntmps93;go_wp2_with (first | ((with_reducible refine gd 4 rfl ?_);refine sqX 4 #[.int .i64 0,.int .i64 0] 71 HB ?_;clear HB;intro gb0 hg w18 hb B0 GW0 HB;clear hb hg;obtain ⟨_,_,_,_⟩:=sqc2 B0));refine sqre #[.int .i64 0,.int .i64 a0] (sqP B0) Try.underlying71 ?_;exact sqe HB
  have z7 : (a1 == 0) = false:=beq_eq_false_iff_ne.mpr c17;have z8 : (a1 != 0) = true:=bne_iff_ne.mpr c17;replace H:=sqbi H;obtain ⟨t0,A20,H⟩:=H;(try dsimp only at H);simp only [Option.some.injEq,Prod.mk.injEq] at H;obtain ⟨rfl,rfl⟩:=H;go_enter Try.func93,Try.ntmps93;go_wp2_with (first | ((with_reducible refine gd 4 rfl ?_);refine sqX 4 #[.int .i64 0,.int .i64 0] 71 HB ?_;clear HB;intro gb0 hg w21 hb B0 GW0 HB;clear hb hg) | ((with_reducible refine gf 91 rfl ?_);refine sqLq rfl (some 17) Try.func91 (impl_restMod.calls _ _ _ _ A20.out) ?_;intro nd;(try (rw [drewN_self w21];generalize hq_ : World.drewN w21 _ = w21;replace B0:=sqq B0 hq_;replace HB:=sqr HB hq_;clear hq_;obtain ⟨zg,zh,zi,zj⟩:=sqc2 B0));obtain ⟨_,_,_,_⟩:=sqc2 B0));refine sqre #[.int .i64 a1,.int .i64 t0] (sqP B0) Try.underlying71 ?_;exact sqe HB
 have z6 : decide (65536 < a1) = true:=decide_eq_true c3;clear c3;obtain ⟨z1,z2⟩ : ∃ y_ : List Int,y_ = (([a1,65536] : List Int)):=⟨_,rfl⟩
 replace H : ((impl_restGcd.f k z1).bind fun t1=>(if t1 = 0 then (some (0,a0)) else ((impl_restMod.f a0 t1).bind fun t2=>(some (t1,t2))))) = some (r1,r2):=by first | (rw [z2];with_reducible exact H) | (have H2_:=(Option.bind_some _ _).symm.trans H;rw [z2];with_reducible exact H2_) | (have H2_:=(Option.bind_some _ _).symm.trans H;with_reducible exact H2_) | with_reducible exact H | (rw [z2];exact H) | exact H
 have z3:=Aside0.mk z2;clear z2;replace H:=sqbi H;obtain ⟨t1,A4,H⟩:=H;(try dsimp only at H);replace H:=sqj H;rcases H with ⟨c5,H⟩ | ⟨c5,H⟩
 ·have z9 : (t1 == 0) = true:=beq_iff_eq.mpr c5;have za : (t1 != 0) = false:=bne_eq_false_iff_eq.mpr c5;clear c5;simp only [Option.some.injEq,Prod.mk.injEq] at H;obtain ⟨rfl,rfl⟩:=H;go_enter Try.func93,Try.ntmps93;go_wp2_with (first | ((with_reducible refine gd 4 rfl ?_);refine sqX 4 #[.int .i64 0,.int .i64 0] 71 HB ?_;clear HB;intro gb0 hg w6 hb B0 GW0 HB;clear hb hg) | ((with_reducible refine gd 8 rfl ?_);refine Kd.R_lit (Kd.int .i64) _ 3 ?hg (N:=8) ?hd (xs:=([a1,65536] : List Int)) (inner:=[.int .i64 a1,.int .i64 65536]) (ok:=fun _=>True) (okp:=fun _=>True) ?hr ?hp (fun _ hk=>hk) trivial (Below.refl _ _) (Nat.le_refl _) (by simp) ?_;(case hd=>rfl);(case hg=>rfl);(case hr=>first | (go_simp;done) | (go_simp;rfl));(case hp=>exact (Reps.one (show Kd.M (Kd.int .i64) _ _ _ a1 [.int .i64 a1] from rfl) (Reps.one (show Kd.M (Kd.int .i64) _ _ _ 65536 [.int .i64 65536] from rfl) (Reps.none _ _))));intro zb w7 ho8 hb hg_ hnew_;clear hg_ hnew_;(first | rw [← z3.out] at ho8 | (simp only [Int.reduceToNat] at ho8;rw [← z3.out] at ho8));have z0:=sqRlR ho8 HB;replace B0:=sqb B0 hb;replace HB:=sqs HB hb;clear hb ho8;obtain ⟨zc,zd,ze⟩:=Kd.R_slice z0.out;subst ze) | ((with_reducible refine gf 94 rfl ?_);refine sqLq rfl (some 9) Try.func94 (impl_restGcd.calls _ _ _ _ _ _ (sqC (Kd.R_reads' z0.out).2.2) ((Kd.R_reads' z0.out).2.1) A4.out) ?_;intro nd;(try (rw [drewN_self w7];generalize hq_ : World.drewN w7 _ = w7;have n0_ : Aside0 (Kd.R (Kd.int .i64) 3 w7 w.heap.size (fun _=>True) (.slice zc z1.length zd) z1):=⟨by rw [← hq_];exact (sqy z0.out)⟩;have n1_ : Aside0 (w7.heap[gb0]? = some (.cells #[.int .i64 0,.int .i64 0] 71 (0,0))):=⟨by rw [← hq_];exact (sqt B0.out)⟩;have n2_ : Aside0 (Below w.heap.size w w7):=⟨by rw [← hq_];exact (sqB HB)⟩;clear z0 B0 HB hq_;have z0:=n0_;have B0:=n1_;have HB:=n2_;clear n0_ n1_ n2_));obtain ⟨_,_,_,_⟩:=sqc2 B0));refine sqre #[.int .i64 0,.int .i64 a0] (sqP B0) Try.underlying71 ?_;exact sqe HB
 have z9 : (t1 == 0) = false:=beq_eq_false_iff_ne.mpr c5;have za : (t1 != 0) = true:=bne_iff_ne.mpr c5;replace H:=sqbi H;obtain ⟨t2,A11,H⟩:=H;(try dsimp only at H);simp only [Option.some.injEq,Prod.mk.injEq] at H;obtain ⟨rfl,rfl⟩:=H;go_enter Try.func93,Try.ntmps93;go_wp2_with (first | ((with_reducible refine gd 4 rfl ?_);refine sqX 4 #[.int .i64 0,.int .i64 0] 71 HB ?_;clear HB;intro gb0 hg w12 hb B0 GW0 HB;clear hb hg) | ((with_reducible refine gd 8 rfl ?_);refine Kd.R_lit (Kd.int .i64) _ 3 ?hg (N:=8) ?hd (xs:=([a1,65536] : List Int)) (inner:=[.int .i64 a1,.int .i64 65536]) (ok:=fun _=>True) (okp:=fun _=>True) ?hr ?hp (fun _ hk=>hk) trivial (Below.refl _ _) (Nat.le_refl _) (by simp) ?_;(case hd=>rfl);(case hg=>rfl);(case hr=>first | (go_simp;done) | (go_simp;rfl));(case hp=>exact (Reps.one (show Kd.M (Kd.int .i64) _ _ _ a1 [.int .i64 a1] from rfl) (Reps.one (show Kd.M (Kd.int .i64) _ _ _ 65536 [.int .i64 65536] from rfl) (Reps.none _ _))));intro zb w13 ho14 hb hg_ hnew_;clear hg_ hnew_;(first | rw [← z3.out] at ho14 | (simp only [Int.reduceToNat] at ho14;rw [← z3.out] at ho14));have z0:=Aside0.mk (Kd.R_lower ho14 (below_size (sqB HB)));replace B0:=sqb B0 hb;replace HB:=sqs HB hb;clear hb ho14;obtain ⟨z4,z5,zf⟩:=Kd.R_slice z0.out;subst zf) | ((with_reducible refine gf 94 rfl ?_);refine sqLq rfl (some 9) Try.func94 (impl_restGcd.calls _ _ _ _ _ _ (sqC (Kd.R_reads' z0.out).2.2) ((Kd.R_reads' z0.out).2.1) A4.out) ?_;intro nd;(try (rw [drewN_self w13];generalize hq_ : World.drewN w13 _ = w13;have n0_ : Aside0 (Kd.R (Kd.int .i64) 3 w13 w.heap.size (fun _=>True) (.slice z4 z1.length z5) z1):=⟨by rw [← hq_];exact (sqy z0.out)⟩;have n1_ : Aside0 (w13.heap[gb0]? = some (.cells #[.int .i64 0,.int .i64 0] 71 (0,0))):=⟨by rw [← hq_];exact (sqt B0.out)⟩;have n2_ : Aside0 (Below w.heap.size w w13):=⟨by rw [← hq_];exact (sqB HB)⟩;clear z0 B0 HB hq_;have z0:=n0_;have B0:=n1_;have HB:=n2_;clear n0_ n1_ n2_))) | ((with_reducible refine gf 91 rfl ?_);refine sqLq rfl (some 17) Try.func91 (impl_restMod.calls _ _ _ _ A11.out) ?_;intro nd;(try (rw [drewN_self w13];generalize hq_ : World.drewN w13 _ = w13;have n0_ : Aside0 (Kd.R (Kd.int .i64) 3 w13 w.heap.size (fun _=>True) (.slice z4 z1.length z5) z1):=⟨by rw [← hq_];exact (sqy z0.out)⟩;have n1_ : Aside0 (w13.heap[gb0]? = some (.cells #[.int .i64 0,.int .i64 0] 71 (0,0))):=⟨by rw [← hq_];exact (sqt B0.out)⟩;have n2_ : Aside0 (Below w.heap.size w w13):=⟨by rw [← hq_];exact (sqB HB)⟩;clear z0 B0 HB hq_;have z0:=n0_;have B0:=n1_;have HB:=n2_;clear n0_ n1_ n2_));obtain ⟨_,_,_,_⟩:=sqc2 B0));refine sqre #[.int .i64 t1,.int .i64 t2] (sqP B0) Try.underlying71 ?_;exact sqe HB

end Go.Proofs.Ytlbheepfmjbpnaa.PFnValDo
