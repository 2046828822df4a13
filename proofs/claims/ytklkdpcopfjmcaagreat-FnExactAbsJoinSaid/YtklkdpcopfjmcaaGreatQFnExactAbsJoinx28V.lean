/- Functions of the program as plain Lean functions, and that calls of them come to what these tell. Conditions: those in each law. -/
import Derived.Test.YtklkdpcopfjmcaaGreatSqV
import Derived.Test.YtklkdpcopfjmcaaGreatDFnExactAbsJoinV
import Derived.Test.YtklkdpcopfjmcaaGreatQFnExactAbsJoinx0V
import Derived.Test.YtklkdpcopfjmcaaGreatQFnExactAbsJoinx8V
import Derived.Test.YtklkdpcopfjmcaaGreatQFnExactAbsJoinx24V
namespace Go.Proofs.YtklkdpcopfjmcaaGreat.PFnExactAbsJoin
open Go.RowKit Go.Proofs.YtklkdpcopfjmcaaGreat.Sq Go.Proofs.YtklkdpcopfjmcaaGreatW.PrintWords Go.Proofs.YtklkdpcopfjmcaaGreatW.PrintLast Go.Proofs.YtklkdpcopfjmcaaGreatW.PrintMore
attribute [local go_sem] max2_int min2_int max_two min_two max_three min_three max_four min_four   -- for this text's walks alone
set_option linter.unusedVariables false
set_option linter.unusedSimpArgs false

attribute [local go_sem high] eqA58
set_option maxHeartbeats 8000000
set_option maxRecDepth 100000
/-! ### impl_Range_empty: function 143 -/
theorem impl_Range_empty.calls (a0_0 : Int) (a0_1 : Int) (r : Bool) (w : World) (h : impl_Range_empty.f a0_0 a0_1 = some r) :
  Calls Tryz.prog 143 #[.agg #[.int .i64 a0_0,.int .i64 a0_1]] w fun e w'=>e = .returned (.bool r)∧Below w.heap.size w w':=by
 have hu108:=Tryz.underlying108;have HB:=Aside0.mk (Below.refl w.heap.size w);have H:=h;unfold impl_Range_empty.f at H;clear h;obtain rfl:=Option.some.inj H;go_enter Tryz.func143,Tryz.ntmps143;go_wp2_with (first | ((with_reducible refine gd 1 rfl ?_);refine sqX 1 #[.int .i64 a0_0,.int .i64 a0_1] 108 HB ?_;clear HB;intro gb0 hg w2 hb B0 GW0 HB;clear hb hg;obtain ⟨_,_,_,_⟩:=sqc2 B0))
 go_ret
 exact sqe HB

/-! ### impl_valOne: function 144 -/
theorem impl_valOne.calls (a0 : Int) (r1 : Int) (r2 : Int) (r3 : Int) (r4 : Int) (w : World) (h : impl_valOne.f a0 = some (r1,r2,r3,r4)) :
  Calls Tryz.prog 144 #[.int .i64 a0] w fun e w'=>e = .returned (.agg #[.int .i64 r1,.int .i64 r2,.int .i64 r3,.int .i64 r4])∧Below w.heap.size w w':=by
 have hu58:=Tryz.underlying58;have HB:=Aside0.mk (Below.refl w.heap.size w);have H:=h;unfold impl_valOne.f at H;clear h;simp only [Option.some.injEq,Prod.mk.injEq] at H;obtain ⟨rfl,rfl,rfl,rfl⟩:=H;go_enter Tryz.func144,Tryz.ntmps144;go_wp2_with (first | ((with_reducible refine gd 2 rfl ?_);refine sqX 2 #[.int .i64 0,.int .i64 0,.int .i64 0,.int .i64 0] 58 HB ?_;clear HB;intro gb0 hg w2 hb B0 GW0 HB;clear hb hg;obtain ⟨_,_,_,_,_,_,_,_⟩:=sqc4 B0));refine sqre #[.int .i64 a0,.int .i64 a0,.int .i64 0,.int .i64 a0] (sqP B0) Tryz.underlying58 ?_;exact sqe HB

/-! ### impl_restMod: function 145 -/
theorem impl_restMod.calls (a0 : Int) (a1 : Int) (r : Int) (w : World) (h : impl_restMod.f a0 a1 = some r) :
  Calls Tryz.prog 145 #[.int .i64 a0,.int .i64 a1] w fun e w'=>e = .returned (.int .i64 r)∧Drawn0 w w':=by
 have H:=h;unfold impl_restMod.f at H;clear h;replace H:=sqj H;rcases H with ⟨c3,H⟩ | ⟨c3,H⟩
 ·cases H
 have z1 : (a1 == 0) = false:=beq_eq_false_iff_ne.mpr c3;have z2 : (a1 != 0) = true:=bne_iff_ne.mpr c3;replace H:=sqj H;rcases H with ⟨c4,H⟩ | ⟨c4,H⟩
 ·have z0:=decide_eq_true c4;clear c4;obtain rfl:=Option.some.inj H;go_enter Tryz.func145,Tryz.ntmps145
  go_wp2
  go_ret
  exact ⟨sqE,sqD⟩
 have z0:=decide_eq_false c4;clear c4;obtain rfl:=Option.some.inj H;go_enter Tryz.func145,Tryz.ntmps145
 go_wp2
 go_ret
 exact ⟨sqE,sqD⟩

/-! ### impl_ValMake: function 83 -/
theorem impl_ValMake.calls (k : Nat) (a0_0 : Int) (a0_1 : Int) (a1_0 : Int) (a1_1 : Int) (r1 : Int) (r2 : Int) (r3 : Int) (r4 : Int) (w : World) (h : impl_ValMake.f k a0_0 a0_1 a1_0 a1_1 = some (r1,r2,r3,r4)) :
  Calls Tryz.prog 83 #[.agg #[.int .i64 a0_0,.int .i64 a0_1],.agg #[.int .i64 a1_0,.int .i64 a1_1]] w fun e w'=>e = .returned (.agg #[.int .i64 r1,.int .i64 r2,.int .i64 r3,.int .i64 r4])∧Below w.heap.size w w':=by
 have hu108:=Tryz.underlying108;have hu111:=Tryz.underlying111;have hu58:=Tryz.underlying58;have HB:=Aside0.mk (Below.refl w.heap.size w);have H:=h;unfold impl_ValMake.f at H;clear h;have HC3:=Aside0.mk H;clear H;go_enter Tryz.func83,Tryz.ntmps83;go_upto_region 1 with (first | ((with_reducible refine gd 2 rfl ?_);refine sqX 2 #[.int .i64 a0_0,.int .i64 a0_1] 108 HB ?_;clear HB;intro gb0 hg w4 hb B0 GW0 HB;clear hb hg) | ((with_reducible refine gd 3 rfl ?_);refine sqX 3 #[.int .i64 a1_0,.int .i64 a1_1] 111 HB ?_;clear HB;intro gb1 hg w5 hb B1 GW1 HB;have N0_1:=sqn B0 hg;have N1_0:=sqm B0 hg;replace B0:=sqb B0 hb;clear hb hg) | ((with_reducible refine gd 4 rfl ?_);refine sqX 4 #[.int .i64 0,.int .i64 0,.int .i64 0,.int .i64 0] 58 HB ?_;clear HB;intro gb2 hg w6 hb B2 GW2 HB;have N0_2:=sqn B0 hg;have N2_0:=sqm B0 hg;have N1_2:=sqn B1 hg;have N2_1:=sqm B1 hg;refine sqM2 B0 B1 hb ?_;clear B0 B1;intro B0 B1;clear hb hg))
 repeat (go_quiet (first | ((with_reducible refine gd 2 rfl ?_);refine sqX 2 #[.int .i64 a0_0,.int .i64 a0_1] 108 HB ?_;clear HB;intro gb0 hg w4 hb B0 GW0 HB;clear hb hg) | ((with_reducible refine gd 3 rfl ?_);refine sqX 3 #[.int .i64 a1_0,.int .i64 a1_1] 111 HB ?_;clear HB;intro gb1 hg w5 hb B1 GW1 HB;have N0_1:=sqn B0 hg;have N1_0:=sqm B0 hg;replace B0:=sqb B0 hb;clear hb hg) | ((with_reducible refine gd 4 rfl ?_);refine sqX 4 #[.int .i64 0,.int .i64 0,.int .i64 0,.int .i64 0] 58 HB ?_;clear HB;intro gb2 hg w6 hb B2 GW2 HB;have N0_2:=sqn B0 hg;have N2_0:=sqm B0 hg;have N1_2:=sqn B1 hg;have N2_1:=sqm B1 hg;refine sqM2 B0 B1 hb ?_;clear B0 B1;intro B0 B1;clear hb hg));go_upto_region 1 with (first | ((with_reducible refine gd 2 rfl ?_);refine sqX 2 #[.int .i64 a0_0,.int .i64 a0_1] 108 HB ?_;clear HB;intro gb0 hg w4 hb B0 GW0 HB;clear hb hg) | ((with_reducible refine gd 3 rfl ?_);refine sqX 3 #[.int .i64 a1_0,.int .i64 a1_1] 111 HB ?_;clear HB;intro gb1 hg w5 hb B1 GW1 HB;have N0_1:=sqn B0 hg;have N1_0:=sqm B0 hg;replace B0:=sqb B0 hb;clear hb hg) | ((with_reducible refine gd 4 rfl ?_);refine sqX 4 #[.int .i64 0,.int .i64 0,.int .i64 0,.int .i64 0] 58 HB ?_;clear HB;intro gb2 hg w6 hb B2 GW2 HB;have N0_2:=sqn B0 hg;have N2_0:=sqm B0 hg;have N1_2:=sqn B1 hg;have N2_1:=sqm B1 hg;refine sqM2 B0 B1 hb ?_;clear B0 B1;intro B0 B1;clear hb hg)))
 (try simp only [Act.put,List.setIfInBounds_toArray,List.set_cons_zero,List.set_cons_succ])
 go_cut [18] (fun v18 wc=>∃ (kq : Nat) (x0 : Bool),v18 = .bool x0∧Aside0 (impl_ValMake.j0 kq x0 a0_0 a0_1 a1_0 a1_1 = some (r1,r2,r3,r4))∧Aside0 (kq ≤ k)∧Aside0 (wc.heap[gb0]? = some (.cells #[.int .i64 a0_0,.int .i64 a0_1] 108 (0,0)))∧Aside0 (wc.heap[gb1]? = some (.cells #[.int .i64 a1_0,.int .i64 a1_1] 111 (0,0)))∧Aside0 (wc.heap[gb2]? = some (.cells #[.int .i64 0,.int .i64 0,.int .i64 0,.int .i64 0] 58 (0,0)))∧Aside0 (Below w.heap.size w wc))
 case first =>
  have H:=HC3.out;clear HC3;replace H:=sqbi H;obtain ⟨t0,A7,H⟩:=H;(try dsimp only at H);rcases sqI (t0 = true) with c8 | c8
  ·replace c8:=Bool.eq_false_iff.mpr c8;subst c8;rw [sqff] at H;have H':=Aside0.mk H;clear H;obtain ⟨hnb28,hnc28,hnb29,hnc29⟩:=sqN2 N0_1 N0_2;obtain ⟨j9,ja,jb,jc⟩:=sqc2 B0;go_wp2_with (first | (go_at_call 141;(with_reducible refine (impl_RangeOk.calls a0_0 a0_1 false _ A7.out).mono ?_);rintro e w31 ⟨rfl,hb⟩;refine sqM3 B0 B1 B2 hb ?_;clear B0 B1 B2;intro B0 B1 B2;replace HB:=sqs HB hb;(try clear hb)))
   repeat (go_quiet (first | (go_at_call 141;(with_reducible refine (impl_RangeOk.calls a0_0 a0_1 false _ A7.out).mono ?_);rintro e w31 ⟨rfl,hb⟩;refine sqM3 B0 B1 B2 hb ?_;clear B0 B1 B2;intro B0 B1 B2;replace HB:=sqs HB hb;(try clear hb)));try go_wp2_with (first | (go_at_call 141;(with_reducible refine (impl_RangeOk.calls a0_0 a0_1 false _ A7.out).mono ?_);rintro e w31 ⟨rfl,hb⟩;refine sqM3 B0 B1 B2 hb ?_;clear B0 B1 B2;intro B0 B1 B2;replace HB:=sqs HB hb;(try clear hb))))
   go_meet
   case rel=>exact ⟨_,(true),sqE,H',⟨sqle⟩,sqk B0,sqk B1,sqk B2,sqh HB⟩
  subst c8;rw [if_pos rfl] at H;replace H:=sqbi H;obtain ⟨t1,A9,H⟩:=H;(try dsimp only at H);rcases sqI (t1 = true) with c10 | c10
  ·replace c10:=Bool.eq_false_iff.mpr c10;subst c10;rw [sqff] at H;have H':=Aside0.mk H;clear H;obtain ⟨hnb21,hnc21,hnb22,hnc22⟩:=sqN2 N0_1 N0_2;obtain ⟨jd,je,jf,jg⟩:=sqc2 B0;go_wp2_with (first | (go_at_call 141;(with_reducible refine (impl_RangeOk.calls a0_0 a0_1 true _ A7.out).mono ?_);rintro e w24 ⟨rfl,hb⟩;refine sqM3 B0 B1 B2 hb ?_;clear B0 B1 B2;intro B0 B1 B2;replace HB:=sqs HB hb;(try clear hb);obtain ⟨hnb25,hnc25⟩:=sqN1 N1_2;obtain ⟨z8,z9,za,zb⟩:=sqc2 B1) | (go_at_call 142;(with_reducible refine (impl_RestOk.calls a1_0 a1_1 false _ A9.out).mono ?_);rintro e w27 ⟨rfl,hb⟩;refine sqM3 B0 B1 B2 hb ?_;clear B0 B1 B2;intro B0 B1 B2;replace HB:=sqs HB hb;(try clear hb)))
   repeat (go_quiet (first | (go_at_call 141;(with_reducible refine (impl_RangeOk.calls a0_0 a0_1 true _ A7.out).mono ?_);rintro e w24 ⟨rfl,hb⟩;refine sqM3 B0 B1 B2 hb ?_;clear B0 B1 B2;intro B0 B1 B2;replace HB:=sqs HB hb;(try clear hb);obtain ⟨hnb25,hnc25⟩:=sqN1 N1_2;obtain ⟨z8,z9,za,zb⟩:=sqc2 B1) | (go_at_call 142;(with_reducible refine (impl_RestOk.calls a1_0 a1_1 false _ A9.out).mono ?_);rintro e w27 ⟨rfl,hb⟩;refine sqM3 B0 B1 B2 hb ?_;clear B0 B1 B2;intro B0 B1 B2;replace HB:=sqs HB hb;(try clear hb)));try go_wp2_with (first | (go_at_call 141;(with_reducible refine (impl_RangeOk.calls a0_0 a0_1 true _ A7.out).mono ?_);rintro e w24 ⟨rfl,hb⟩;refine sqM3 B0 B1 B2 hb ?_;clear B0 B1 B2;intro B0 B1 B2;replace HB:=sqs HB hb;(try clear hb);obtain ⟨hnb25,hnc25⟩:=sqN1 N1_2;obtain ⟨z8,z9,za,zb⟩:=sqc2 B1) | (go_at_call 142;(with_reducible refine (impl_RestOk.calls a1_0 a1_1 false _ A9.out).mono ?_);rintro e w27 ⟨rfl,hb⟩;refine sqM3 B0 B1 B2 hb ?_;clear B0 B1 B2;intro B0 B1 B2;replace HB:=sqs HB hb;(try clear hb))))
   go_meet
   case rel=>exact ⟨_,(true),sqE,H',⟨sqle⟩,sqk B0,sqk B1,sqk B2,sqh HB⟩
  subst c10;rw [if_pos rfl] at H;replace H:=sqbi H;obtain ⟨t2,A11,H⟩:=H;(try dsimp only at H);have H':=Aside0.mk H;clear H;obtain ⟨hnb12,hnc12,hnb13,hnc13⟩:=sqN2 N0_1 N0_2;obtain ⟨jh,ji,jj,jk⟩:=sqc2 B0;go_wp2_with (first | (go_at_call 141;(with_reducible refine (impl_RangeOk.calls a0_0 a0_1 true _ A7.out).mono ?_);rintro e w15 ⟨rfl,hb⟩;refine sqM3 B0 B1 B2 hb ?_;clear B0 B1 B2;intro B0 B1 B2;replace HB:=sqs HB hb;(try clear hb);obtain ⟨hnb16,hnc16⟩:=sqN1 N1_2;obtain ⟨zc,zd,ze,zf⟩:=sqc2 B1) | (go_at_call 142;(with_reducible refine (impl_RestOk.calls a1_0 a1_1 true _ A9.out).mono ?_);rintro e w18 ⟨rfl,hb⟩;refine sqM3 B0 B1 B2 hb ?_;clear B0 B1 B2;intro B0 B1 B2;replace HB:=sqs HB hb;(try clear hb);obtain ⟨zg,zh,zi,zj⟩:=sqc2 B0) | (go_at_call 143;(with_reducible refine (impl_Range_empty.calls a0_0 a0_1 t2 _ A11.out).mono ?_);rintro e w20 ⟨rfl,hb⟩;refine sqM3 B0 B1 B2 hb ?_;clear B0 B1 B2;intro B0 B1 B2;replace HB:=sqs HB hb;(try clear hb)))
  repeat (go_quiet (first | (go_at_call 141;(with_reducible refine (impl_RangeOk.calls a0_0 a0_1 true _ A7.out).mono ?_);rintro e w15 ⟨rfl,hb⟩;refine sqM3 B0 B1 B2 hb ?_;clear B0 B1 B2;intro B0 B1 B2;replace HB:=sqs HB hb;(try clear hb);obtain ⟨hnb16,hnc16⟩:=sqN1 N1_2;obtain ⟨zc,zd,ze,zf⟩:=sqc2 B1) | (go_at_call 142;(with_reducible refine (impl_RestOk.calls a1_0 a1_1 true _ A9.out).mono ?_);rintro e w18 ⟨rfl,hb⟩;refine sqM3 B0 B1 B2 hb ?_;clear B0 B1 B2;intro B0 B1 B2;replace HB:=sqs HB hb;(try clear hb);obtain ⟨zg,zh,zi,zj⟩:=sqc2 B0) | (go_at_call 143;(with_reducible refine (impl_Range_empty.calls a0_0 a0_1 t2 _ A11.out).mono ?_);rintro e w20 ⟨rfl,hb⟩;refine sqM3 B0 B1 B2 hb ?_;clear B0 B1 B2;intro B0 B1 B2;replace HB:=sqs HB hb;(try clear hb)));try go_wp2_with (first | (go_at_call 141;(with_reducible refine (impl_RangeOk.calls a0_0 a0_1 true _ A7.out).mono ?_);rintro e w15 ⟨rfl,hb⟩;refine sqM3 B0 B1 B2 hb ?_;clear B0 B1 B2;intro B0 B1 B2;replace HB:=sqs HB hb;(try clear hb);obtain ⟨hnb16,hnc16⟩:=sqN1 N1_2;obtain ⟨zc,zd,ze,zf⟩:=sqc2 B1) | (go_at_call 142;(with_reducible refine (impl_RestOk.calls a1_0 a1_1 true _ A9.out).mono ?_);rintro e w18 ⟨rfl,hb⟩;refine sqM3 B0 B1 B2 hb ?_;clear B0 B1 B2;intro B0 B1 B2;replace HB:=sqs HB hb;(try clear hb);obtain ⟨zg,zh,zi,zj⟩:=sqc2 B0) | (go_at_call 143;(with_reducible refine (impl_Range_empty.calls a0_0 a0_1 t2 _ A11.out).mono ?_);rintro e w20 ⟨rfl,hb⟩;refine sqM3 B0 B1 B2 hb ?_;clear B0 B1 B2;intro B0 B1 B2;replace HB:=sqs HB hb;(try clear hb))))
  go_meet
  case rel=>exact ⟨_,(t2),sqE,H',⟨sqle⟩,sqk B0,sqk B1,sqk B2,sqh HB⟩
 case rest =>
  clear HC3;obtain ⟨kq,x0,rfl,HA,HJ2,B0,B1,B2,HB⟩:=hcut;cases kq with
  | zero=>exact absurd HA.out (by simp [impl_ValMake.j0])
  | succ kj2 =>
   have H:=HA.out;clear HA;simp only [impl_ValMake.j0] at H
   by_cases c32 : x0 = true
   ·subst c32;rw [if_pos rfl] at H;replace H:=sqbi H;obtain ⟨⟨t3,t4,t5,t6⟩,A33,H⟩:=H;(try dsimp only at H);simp only [Option.some.injEq,Prod.mk.injEq] at H;obtain ⟨rfl,rfl,rfl,rfl⟩:=H;go_wp2_with (first | (go_at_call 107;(with_reducible refine (impl_valNone.calls  t3 t4 t5 t6 _ A33.out).mono ?_);rintro e w34 ⟨rfl,hb⟩;refine sqM3 B0 B1 B2 hb ?_;clear B0 B1 B2;intro B0 B1 B2;replace HB:=sqs HB hb;(try clear hb);obtain ⟨hnb35,hnc35,hnb36,hnc36⟩:=sqN2 N2_0 N2_1;obtain ⟨zk,zl,zm,zn,zo,zp,zq,zr⟩:=sqc4 B2))
    repeat (go_quiet (first | (go_at_call 107;(with_reducible refine (impl_valNone.calls  t3 t4 t5 t6 _ A33.out).mono ?_);rintro e w34 ⟨rfl,hb⟩;refine sqM3 B0 B1 B2 hb ?_;clear B0 B1 B2;intro B0 B1 B2;replace HB:=sqs HB hb;(try clear hb);obtain ⟨hnb35,hnc35,hnb36,hnc36⟩:=sqN2 N2_0 N2_1;obtain ⟨zk,zl,zm,zn,zo,zp,zq,zr⟩:=sqc4 B2));try go_wp2_with (first | (go_at_call 107;(with_reducible refine (impl_valNone.calls  t3 t4 t5 t6 _ A33.out).mono ?_);rintro e w34 ⟨rfl,hb⟩;refine sqM3 B0 B1 B2 hb ?_;clear B0 B1 B2;intro B0 B1 B2;replace HB:=sqs HB hb;(try clear hb);obtain ⟨hnb35,hnc35,hnb36,hnc36⟩:=sqN2 N2_0 N2_1;obtain ⟨zk,zl,zm,zn,zo,zp,zq,zr⟩:=sqc4 B2)))
    refine sqre #[.int .i64 t3,.int .i64 t4,.int .i64 t5,.int .i64 t6] (sqP B2) Tryz.underlying58 ?_;exact sqe HB
   replace c32:=Bool.eq_false_iff.mpr c32;subst c32;rw [sqff] at H;replace H:=sqj H;rcases H with ⟨c38,H⟩ | ⟨c38,H⟩
   ·have j4 : (a1_0 == 0) = true:=beq_iff_eq.mpr c38;have j5 : (a1_0 != 0) = false:=bne_eq_false_iff_eq.mpr c38;clear c38;replace H:=sqbi H;obtain ⟨t7,A39,H⟩:=H;(try dsimp only at H);rcases sqI (t7 = true) with c40 | c40
    ·replace c40:=Bool.eq_false_iff.mpr c40;subst c40;rw [sqff] at H;replace H:=sqbi H;obtain ⟨⟨t8,t9,t10,t11⟩,A51,H⟩:=H;(try dsimp only at H);simp only [Option.some.injEq,Prod.mk.injEq] at H;obtain ⟨rfl,rfl,rfl,rfl⟩:=H;obtain ⟨hnb52,hnc52,hnb53,hnc53⟩:=sqN2 N1_0 N1_2;obtain ⟨jl,jm,jn,jo⟩:=sqc2 B1;obtain ⟨hnb55,hnc55⟩:=sqN1 N0_2;obtain ⟨jp,jq,jr,js⟩:=sqc2 B0;go_wp2_with (first | (go_at_call 124;(with_reducible refine (impl_RangeHas.calls a0_0 a0_1 a1_1 false _ A39.out).mono ?_);rintro e w57 ⟨rfl,hb⟩;refine sqM3 B0 B1 B2 hb ?_;clear B0 B1 B2;intro B0 B1 B2;replace HB:=sqs HB hb;(try clear hb)) | (go_at_call 107;(with_reducible refine (impl_valNone.calls  t8 t9 t10 t11 _ A51.out).mono ?_);rintro e w58 ⟨rfl,hb⟩;refine sqM3 B0 B1 B2 hb ?_;clear B0 B1 B2;intro B0 B1 B2;replace HB:=sqs HB hb;(try clear hb);obtain ⟨zt,zu,zv,zw,zx,zy,zz,zA⟩:=sqc4 B2))
     repeat (go_quiet (first | (go_at_call 124;(with_reducible refine (impl_RangeHas.calls a0_0 a0_1 a1_1 false _ A39.out).mono ?_);rintro e w57 ⟨rfl,hb⟩;refine sqM3 B0 B1 B2 hb ?_;clear B0 B1 B2;intro B0 B1 B2;replace HB:=sqs HB hb;(try clear hb)) | (go_at_call 107;(with_reducible refine (impl_valNone.calls  t8 t9 t10 t11 _ A51.out).mono ?_);rintro e w58 ⟨rfl,hb⟩;refine sqM3 B0 B1 B2 hb ?_;clear B0 B1 B2;intro B0 B1 B2;replace HB:=sqs HB hb;(try clear hb);obtain ⟨zt,zu,zv,zw,zx,zy,zz,zA⟩:=sqc4 B2));try go_wp2_with (first | (go_at_call 124;(with_reducible refine (impl_RangeHas.calls a0_0 a0_1 a1_1 false _ A39.out).mono ?_);rintro e w57 ⟨rfl,hb⟩;refine sqM3 B0 B1 B2 hb ?_;clear B0 B1 B2;intro B0 B1 B2;replace HB:=sqs HB hb;(try clear hb)) | (go_at_call 107;(with_reducible refine (impl_valNone.calls  t8 t9 t10 t11 _ A51.out).mono ?_);rintro e w58 ⟨rfl,hb⟩;refine sqM3 B0 B1 B2 hb ?_;clear B0 B1 B2;intro B0 B1 B2;replace HB:=sqs HB hb;(try clear hb);obtain ⟨zt,zu,zv,zw,zx,zy,zz,zA⟩:=sqc4 B2)))
     refine sqre #[.int .i64 t8,.int .i64 t9,.int .i64 t10,.int .i64 t11] (sqP B2) Tryz.underlying58 ?_;exact sqe HB
    subst c40;rw [if_pos rfl] at H;replace H:=sqbi H;obtain ⟨⟨t12,t13,t14,t15⟩,A41,H⟩:=H;(try dsimp only at H);simp only [Option.some.injEq,Prod.mk.injEq] at H;obtain ⟨rfl,rfl,rfl,rfl⟩:=H;obtain ⟨hnb42,hnc42,hnb43,hnc43⟩:=sqN2 N1_0 N1_2;obtain ⟨jt,ju,jv,jw⟩:=sqc2 B1;obtain ⟨hnb45,hnc45⟩:=sqN1 N0_2;obtain ⟨jx,jy,jz,jA⟩:=sqc2 B0;go_wp2_with (first | (go_at_call 124;(with_reducible refine (impl_RangeHas.calls a0_0 a0_1 a1_1 true _ A39.out).mono ?_);rintro e w47 ⟨rfl,hb⟩;refine sqM3 B0 B1 B2 hb ?_;clear B0 B1 B2;intro B0 B1 B2;replace HB:=sqs HB hb;(try clear hb);obtain ⟨zB,zC,zD,zE⟩:=sqc2 B1) | (go_at_call 144;(with_reducible refine (impl_valOne.calls a1_1 t12 t13 t14 t15 _ A41.out).mono ?_);rintro e w49 ⟨rfl,hb⟩;refine sqM3 B0 B1 B2 hb ?_;clear B0 B1 B2;intro B0 B1 B2;replace HB:=sqs HB hb;(try clear hb);obtain ⟨zF,zG,zH,zI,zJ,zK,zL,zM⟩:=sqc4 B2))
    repeat (go_quiet (first | (go_at_call 124;(with_reducible refine (impl_RangeHas.calls a0_0 a0_1 a1_1 true _ A39.out).mono ?_);rintro e w47 ⟨rfl,hb⟩;refine sqM3 B0 B1 B2 hb ?_;clear B0 B1 B2;intro B0 B1 B2;replace HB:=sqs HB hb;(try clear hb);obtain ⟨zB,zC,zD,zE⟩:=sqc2 B1) | (go_at_call 144;(with_reducible refine (impl_valOne.calls a1_1 t12 t13 t14 t15 _ A41.out).mono ?_);rintro e w49 ⟨rfl,hb⟩;refine sqM3 B0 B1 B2 hb ?_;clear B0 B1 B2;intro B0 B1 B2;replace HB:=sqs HB hb;(try clear hb);obtain ⟨zF,zG,zH,zI,zJ,zK,zL,zM⟩:=sqc4 B2));try go_wp2_with (first | (go_at_call 124;(with_reducible refine (impl_RangeHas.calls a0_0 a0_1 a1_1 true _ A39.out).mono ?_);rintro e w47 ⟨rfl,hb⟩;refine sqM3 B0 B1 B2 hb ?_;clear B0 B1 B2;intro B0 B1 B2;replace HB:=sqs HB hb;(try clear hb);obtain ⟨zB,zC,zD,zE⟩:=sqc2 B1) | (go_at_call 144;(with_reducible refine (impl_valOne.calls a1_1 t12 t13 t14 t15 _ A41.out).mono ?_);rintro e w49 ⟨rfl,hb⟩;refine sqM3 B0 B1 B2 hb ?_;clear B0 B1 B2;intro B0 B1 B2;replace HB:=sqs HB hb;(try clear hb);obtain ⟨zF,zG,zH,zI,zJ,zK,zL,zM⟩:=sqc4 B2)))
    refine sqre #[.int .i64 t12,.int .i64 t13,.int .i64 t14,.int .i64 t15] (sqP B2) Tryz.underlying58 ?_;exact sqe HB
   have j4 : (a1_0 == 0) = false:=beq_eq_false_iff_ne.mpr c38;have j5 : (a1_0 != 0) = true:=bne_iff_ne.mpr c38;replace H:=sqbi H;obtain ⟨t16,A60,H⟩:=H;(try dsimp only at H);replace H:=sqbi H;obtain ⟨t17,A61,H⟩:=H;(try dsimp only at H);replace H:=sqj H;rcases H with ⟨c62,H⟩ | ⟨c62,H⟩
   ·have j6 : decide ((wrap64 (a0_1 - t17)) < (wrap64 (a0_0 + t16))) = true:=decide_eq_true c62;clear c62;replace H:=sqbi H;obtain ⟨⟨t18,t19,t20,t21⟩,A63,H⟩:=H;(try dsimp only at H);simp only [Option.some.injEq,Prod.mk.injEq] at H;obtain ⟨rfl,rfl,rfl,rfl⟩:=H;obtain ⟨hnb64,hnc64,hnb65,hnc65⟩:=sqN2 N1_0 N1_2;obtain ⟨jB,jC,jD,jE⟩:=sqc2 B1;obtain ⟨hnb67,hnc67⟩:=sqN1 N0_2;obtain ⟨jF,jG,jH,jI⟩:=sqc2 B0;go_wp2_with (first | (go_at_call 145;(with_reducible refine (impl_restMod.calls (wrap64 (a1_1 - a0_0)) a1_0 t16 _ A60.out).mono ?_);rintro e w' ⟨rfl,⟨nd,rfl⟩⟩;(try exact sqdd)) | (go_at_call 145;(with_reducible refine (impl_restMod.calls (wrap64 (a0_1 - a1_1)) a1_0 t17 _ A61.out).mono ?_);rintro e w' ⟨rfl,⟨nd,rfl⟩⟩;(try exact sqdd)) | (go_at_call 107;(with_reducible refine (impl_valNone.calls  t18 t19 t20 t21 _ A63.out).mono ?_);rintro e w69 ⟨rfl,hb⟩;refine sqM3 B0 B1 B2 hb ?_;clear B0 B1 B2;intro B0 B1 B2;replace HB:=sqs HB hb;(try clear hb);obtain ⟨zN,zO,zP,zQ,zR,zS,zT,zU⟩:=sqc4 B2))
    repeat (go_quiet (first | (go_at_call 145;(with_reducible refine (impl_restMod.calls (wrap64 (a1_1 - a0_0)) a1_0 t16 _ A60.out).mono ?_);rintro e w' ⟨rfl,⟨nd,rfl⟩⟩;(try exact sqdd)) | (go_at_call 145;(with_reducible refine (impl_restMod.calls (wrap64 (a0_1 - a1_1)) a1_0 t17 _ A61.out).mono ?_);rintro e w' ⟨rfl,⟨nd,rfl⟩⟩;(try exact sqdd)) | (go_at_call 107;(with_reducible refine (impl_valNone.calls  t18 t19 t20 t21 _ A63.out).mono ?_);rintro e w69 ⟨rfl,hb⟩;refine sqM3 B0 B1 B2 hb ?_;clear B0 B1 B2;intro B0 B1 B2;replace HB:=sqs HB hb;(try clear hb);obtain ⟨zN,zO,zP,zQ,zR,zS,zT,zU⟩:=sqc4 B2));try go_wp2_with (first | (go_at_call 145;(with_reducible refine (impl_restMod.calls (wrap64 (a1_1 - a0_0)) a1_0 t16 _ A60.out).mono ?_);rintro e w' ⟨rfl,⟨nd,rfl⟩⟩;(try exact sqdd)) | (go_at_call 145;(with_reducible refine (impl_restMod.calls (wrap64 (a0_1 - a1_1)) a1_0 t17 _ A61.out).mono ?_);rintro e w' ⟨rfl,⟨nd,rfl⟩⟩;(try exact sqdd)) | (go_at_call 107;(with_reducible refine (impl_valNone.calls  t18 t19 t20 t21 _ A63.out).mono ?_);rintro e w69 ⟨rfl,hb⟩;refine sqM3 B0 B1 B2 hb ?_;clear B0 B1 B2;intro B0 B1 B2;replace HB:=sqs HB hb;(try clear hb);obtain ⟨zN,zO,zP,zQ,zR,zS,zT,zU⟩:=sqc4 B2)))
    refine sqre #[.int .i64 t18,.int .i64 t19,.int .i64 t20,.int .i64 t21] (sqP B2) Tryz.underlying58 ?_;exact sqe HB
   have j6 : decide ((wrap64 (a0_1 - t17)) < (wrap64 (a0_0 + t16))) = false:=decide_eq_false c62;clear c62;replace H:=sqi H;rcases H with ⟨c71,H⟩ | ⟨c71,H⟩
   ·have j7 : ((wrap64 (a0_0 + t16)) == (wrap64 (a0_1 - t17))) = false:=beq_eq_false_iff_ne.mpr c71;have j8 : ((wrap64 (a0_0 + t16)) != (wrap64 (a0_1 - t17))) = true:=bne_iff_ne.mpr c71;simp only [Option.some.injEq,Prod.mk.injEq] at H;obtain ⟨rfl,rfl,rfl,rfl⟩:=H;obtain ⟨hnb80,hnc80,hnb81,hnc81⟩:=sqN2 N1_0 N1_2;obtain ⟨jJ,jK,jL,jM⟩:=sqc2 B1;obtain ⟨hnb83,hnc83⟩:=sqN1 N0_2;obtain ⟨jN,jO,jP,jQ⟩:=sqc2 B0;obtain ⟨z0,z1,z2,z3,z4,z5,z6,z7⟩:=sqc4 B2;go_wp2_with (first | (go_at_call 145;(with_reducible refine (impl_restMod.calls (wrap64 (a1_1 - a0_0)) a1_0 t16 _ A60.out).mono ?_);rintro e w' ⟨rfl,⟨nd,rfl⟩⟩;(try exact sqdd)) | (go_at_call 145;(with_reducible refine (impl_restMod.calls (wrap64 (a0_1 - a1_1)) a1_0 t17 _ A61.out).mono ?_);rintro e w' ⟨rfl,⟨nd,rfl⟩⟩;(try exact sqdd);(try (obtain ⟨z0,z1,z2,z3,z4,z5,z6,z7⟩:=sqc4 B2))))
    repeat (go_quiet (first | (go_at_call 145;(with_reducible refine (impl_restMod.calls (wrap64 (a1_1 - a0_0)) a1_0 t16 _ A60.out).mono ?_);rintro e w' ⟨rfl,⟨nd,rfl⟩⟩;(try exact sqdd)) | (go_at_call 145;(with_reducible refine (impl_restMod.calls (wrap64 (a0_1 - a1_1)) a1_0 t17 _ A61.out).mono ?_);rintro e w' ⟨rfl,⟨nd,rfl⟩⟩;(try exact sqdd);(try (obtain ⟨z0,z1,z2,z3,z4,z5,z6,z7⟩:=sqc4 B2))));try go_wp2_with (first | (go_at_call 145;(with_reducible refine (impl_restMod.calls (wrap64 (a1_1 - a0_0)) a1_0 t16 _ A60.out).mono ?_);rintro e w' ⟨rfl,⟨nd,rfl⟩⟩;(try exact sqdd)) | (go_at_call 145;(with_reducible refine (impl_restMod.calls (wrap64 (a0_1 - a1_1)) a1_0 t17 _ A61.out).mono ?_);rintro e w' ⟨rfl,⟨nd,rfl⟩⟩;(try exact sqdd);(try (obtain ⟨z0,z1,z2,z3,z4,z5,z6,z7⟩:=sqc4 B2)))))
    refine sqre #[.int .i64 (wrap64 (a0_0 + t16)),.int .i64 (wrap64 (a0_1 - t17)),.int .i64 a1_0,.int .i64 a1_1] (sqP B2) Tryz.underlying58 ?_;exact sqe HB
   have j7 : ((wrap64 (a0_0 + t16)) == (wrap64 (a0_1 - t17))) = true:=beq_iff_eq.mpr c71;have j8 : ((wrap64 (a0_0 + t16)) != (wrap64 (a0_1 - t17))) = false:=bne_eq_false_iff_eq.mpr c71;clear c71;replace H:=sqbi H;obtain ⟨⟨t22,t23,t24,t25⟩,A72,H⟩:=H;(try dsimp only at H);simp only [Option.some.injEq,Prod.mk.injEq] at H;obtain ⟨rfl,rfl,rfl,rfl⟩:=H;obtain ⟨hnb73,hnc73,hnb74,hnc74⟩:=sqN2 N1_0 N1_2;obtain ⟨jR,jS,jT,jU⟩:=sqc2 B1;obtain ⟨hnb76,hnc76⟩:=sqN1 N0_2;obtain ⟨jV,jW,jX,jY⟩:=sqc2 B0;go_wp2_with (first | (go_at_call 145;(with_reducible refine (impl_restMod.calls (wrap64 (a1_1 - a0_0)) a1_0 t16 _ A60.out).mono ?_);rintro e w' ⟨rfl,⟨nd,rfl⟩⟩;(try exact sqdd)) | (go_at_call 145;(with_reducible refine (impl_restMod.calls (wrap64 (a0_1 - a1_1)) a1_0 t17 _ A61.out).mono ?_);rintro e w' ⟨rfl,⟨nd,rfl⟩⟩;(try exact sqdd)) | (go_at_call 144;(with_reducible refine (impl_valOne.calls (wrap64 (a0_0 + t16)) t22 t23 t24 t25 _ A72.out).mono ?_);rintro e w78 ⟨rfl,hb⟩;refine sqM3 B0 B1 B2 hb ?_;clear B0 B1 B2;intro B0 B1 B2;replace HB:=sqs HB hb;(try clear hb);obtain ⟨zV,zW,zX,zY,zZ,j1,j2,j3⟩:=sqc4 B2))
   repeat (go_quiet (first | (go_at_call 145;(with_reducible refine (impl_restMod.calls (wrap64 (a1_1 - a0_0)) a1_0 t16 _ A60.out).mono ?_);rintro e w' ⟨rfl,⟨nd,rfl⟩⟩;(try exact sqdd)) | (go_at_call 145;(with_reducible refine (impl_restMod.calls (wrap64 (a0_1 - a1_1)) a1_0 t17 _ A61.out).mono ?_);rintro e w' ⟨rfl,⟨nd,rfl⟩⟩;(try exact sqdd)) | (go_at_call 144;(with_reducible refine (impl_valOne.calls (wrap64 (a0_0 + t16)) t22 t23 t24 t25 _ A72.out).mono ?_);rintro e w78 ⟨rfl,hb⟩;refine sqM3 B0 B1 B2 hb ?_;clear B0 B1 B2;intro B0 B1 B2;replace HB:=sqs HB hb;(try clear hb);obtain ⟨zV,zW,zX,zY,zZ,j1,j2,j3⟩:=sqc4 B2));try go_wp2_with (first | (go_at_call 145;(with_reducible refine (impl_restMod.calls (wrap64 (a1_1 - a0_0)) a1_0 t16 _ A60.out).mono ?_);rintro e w' ⟨rfl,⟨nd,rfl⟩⟩;(try exact sqdd)) | (go_at_call 145;(with_reducible refine (impl_restMod.calls (wrap64 (a0_1 - a1_1)) a1_0 t17 _ A61.out).mono ?_);rintro e w' ⟨rfl,⟨nd,rfl⟩⟩;(try exact sqdd)) | (go_at_call 144;(with_reducible refine (impl_valOne.calls (wrap64 (a0_0 + t16)) t22 t23 t24 t25 _ A72.out).mono ?_);rintro e w78 ⟨rfl,hb⟩;refine sqM3 B0 B1 B2 hb ?_;clear B0 B1 B2;intro B0 B1 B2;replace HB:=sqs HB hb;(try clear hb);obtain ⟨zV,zW,zX,zY,zZ,j1,j2,j3⟩:=sqc4 B2)))
   refine sqre #[.int .i64 t22,.int .i64 t23,.int .i64 t24,.int .i64 t25] (sqP B2) Tryz.underlying58 ?_;exact sqe HB

/-! ### impl_Val_span: function 109 -/
theorem impl_Val_span.calls (a0_0 : Int) (a0_1 : Int) (a0_2 : Int) (a0_3 : Int) (r1 : Int) (r2 : Int) (w : World) (h : impl_Val_span.f a0_0 a0_1 a0_2 a0_3 = some (r1,r2)) :
  Calls Tryz.prog 109 #[.agg #[.int .i64 a0_0,.int .i64 a0_1,.int .i64 a0_2,.int .i64 a0_3]] w fun e w'=>e = .returned (.agg #[.int .i64 r1,.int .i64 r2])∧Below w.heap.size w w':=by
 have hu58:=Tryz.underlying58;have hu108:=Tryz.underlying108;have HB:=Aside0.mk (Below.refl w.heap.size w);have H:=h;unfold impl_Val_span.f at H;clear h;simp only [Option.some.injEq,Prod.mk.injEq] at H;obtain ⟨rfl,rfl⟩:=H;go_enter Tryz.func109,Tryz.ntmps109;go_wp2_with (first | ((with_reducible refine gd 1 rfl ?_);refine sqX 1 #[.int .i64 a0_0,.int .i64 a0_1,.int .i64 a0_2,.int .i64 a0_3] 58 HB ?_;clear HB;intro gb0 hg w2 hb B0 GW0 HB;clear hb hg) | ((with_reducible refine gd 2 rfl ?_);refine sqX 2 #[.int .i64 0,.int .i64 0] 108 HB ?_;clear HB;intro gb1 hg w3 hb B1 GW1 HB;have N0_1:=sqn B0 hg;have N1_0:=sqm B0 hg;replace B0:=sqb B0 hb;clear hb hg;obtain ⟨_,_⟩:=sqN1 N0_1;obtain ⟨_,_,_,_,_,_,_,_⟩:=sqc4 B0;obtain ⟨_,_,_,_⟩:=sqc2 B1));refine sqre #[.int .i64 a0_0,.int .i64 a0_1] (sqP B1) Tryz.underlying108 ?_;exact sqe HB

/-! ### impl_Val_rest: function 111 -/
theorem impl_Val_rest.calls (a0_0 : Int) (a0_1 : Int) (a0_2 : Int) (a0_3 : Int) (r1 : Int) (r2 : Int) (w : World) (h : impl_Val_rest.f a0_0 a0_1 a0_2 a0_3 = some (r1,r2)) :
  Calls Tryz.prog 111 #[.agg #[.int .i64 a0_0,.int .i64 a0_1,.int .i64 a0_2,.int .i64 a0_3]] w fun e w'=>e = .returned (.agg #[.int .i64 r1,.int .i64 r2])∧Below w.heap.size w w':=by
 have hu58:=Tryz.underlying58;have hu111:=Tryz.underlying111;have HB:=Aside0.mk (Below.refl w.heap.size w);have H:=h;unfold impl_Val_rest.f at H;clear h;simp only [Option.some.injEq,Prod.mk.injEq] at H;obtain ⟨rfl,rfl⟩:=H;go_enter Tryz.func111,Tryz.ntmps111;go_wp2_with (first | ((with_reducible refine gd 1 rfl ?_);refine sqX 1 #[.int .i64 a0_0,.int .i64 a0_1,.int .i64 a0_2,.int .i64 a0_3] 58 HB ?_;clear HB;intro gb0 hg w2 hb B0 GW0 HB;clear hb hg) | ((with_reducible refine gd 2 rfl ?_);refine sqX 2 #[.int .i64 0,.int .i64 0] 111 HB ?_;clear HB;intro gb1 hg w3 hb B1 GW1 HB;have N0_1:=sqn B0 hg;have N1_0:=sqm B0 hg;replace B0:=sqb B0 hb;clear hb hg;obtain ⟨_,_⟩:=sqN1 N0_1;obtain ⟨_,_,_,_,_,_,_,_⟩:=sqc4 B0;obtain ⟨_,_,_,_⟩:=sqc2 B1));refine sqre #[.int .i64 a0_2,.int .i64 a0_3] (sqP B1) Tryz.underlying111 ?_;exact sqe HB

/-! ### impl_ValOk: function 69 -/
def impl_ValOk.T1 : Bool × List (List Nat × List Nat):=(true,[([],[]),([],[]),([1],[1]),([],[]),([3,2],[3]),([2,4,4],[2,4]),([0,5],[0,5]),([6,5,0,1,2,3,4,5,6],[6])])
def impl_ValOk.B1 : List Nat:=[0,0,2,0,14,30,63,127]
theorem impl_ValOk.tab1 : rtab .any (opsOf Tryz.f69 1) = impl_ValOk.T1:=by kernel_rfl
theorem impl_ValOk.bits1 : waitsOk impl_ValOk.T1.2 impl_ValOk.B1 = true:=by kernel_rfl
theorem impl_ValOk.calls (k : Nat) (a0_0 : Int) (a0_1 : Int) (a0_2 : Int) (a0_3 : Int) (r : Bool) (w : World) (h : impl_ValOk.f k a0_0 a0_1 a0_2 a0_3 = some r) :
  Calls Tryz.prog 69 #[.agg #[.int .i64 a0_0,.int .i64 a0_1,.int .i64 a0_2,.int .i64 a0_3]] w fun e w'=>e = .returned (.bool r)∧Below w.heap.size w w':=by
 have hu58:=Tryz.underlying58;have HB:=Aside0.mk (Below.refl w.heap.size w);have H:=h;unfold impl_ValOk.f at H;clear h;replace H:=sqbi H;obtain ⟨⟨t0,t1⟩,A2,H⟩:=H;(try dsimp only at H);replace H:=sqbi H;obtain ⟨⟨t2,t3⟩,A3,H⟩:=H;(try dsimp only at H);replace H:=sqbi H;obtain ⟨⟨t4,t5,t6,t7⟩,A4,H⟩:=H;(try dsimp only at H);obtain rfl:=Option.some.inj H;go_enter Tryz.func69,Tryz.ntmps69
 try go_wp2_with (first | ((with_reducible refine gd 1 rfl ?_);refine sqX 1 #[.int .i64 a0_0,.int .i64 a0_1,.int .i64 a0_2,.int .i64 a0_3] 58 HB ?_;clear HB;intro gb0 hg w5 hb B0 GW0 HB;clear hb hg))
 replace B0:=sqdr B0;replace HB:=sqdB HB;refine sqst 8 (fun w'=>Ce4 w' gb0 (.int .i64 a0_0) (.int .i64 a0_1) (.int .i64 a0_2) (.int .i64 a0_3)) sqz (fun hHeld=>?_);refine with_tabW impl_ValOk.tab1 impl_ValOk.bits1 (fun HT_ HW_=>?_);generalize w5.drew = w6 at B0 HB hHeld ⊢;refine sqw HT_ HW_ 0 3 hHeld ?_;refine sqw HT_ HW_ 1 4 hHeld ?_;refine sqw HT_ HW_ 3 6 hHeld ?_;refine sqo HT_ 2 5 (fun K hK=>?_);refine sqGb rfl Tryz.func109 (impl_Val_span.calls _ _ _ _ _ _ _ A2.out) ?_;intro w7 hb;replace B0:=sqb B0 hb;replace HB:=sqs HB hb;(try clear hb);refine hK.out _ _ sqz (fun hHeld=>?_);clear hK K;refine sqnm ?_;refine sqo HT_ 4 7 (fun K hK=>?_);refine sqGb rfl Tryz.func111 (impl_Val_rest.calls _ _ _ _ _ _ _ A3.out) ?_;intro w8 hb;replace B0:=sqb B0 hb;replace HB:=sqs HB hb;(try clear hb);refine hK.out _ _ sqz (fun hHeld=>?_);clear hK K;refine sqnm ?_;refine sqo HT_ 5 8 (fun K hK=>?_);refine sqGb rfl Tryz.func83 (impl_ValMake.calls _ _ _ _ _ _ _ _ _ _ A4.out) ?_;intro w9 hb;replace B0:=sqb B0 hb;replace HB:=sqs HB hb;(try clear hb);refine hK.out _ _ sqz (fun hHeld=>?_);clear hK K;refine sqnm ?_;refine sqp HT_ 6 9 ?_;refine sqp HT_ 7 2 ?_;refine done_ (done_of HT_.out (by kernel_rfl)) ?_
 try go_wp2
 go_ret
 exact sqe HB

/-! ### impl_refOk: function 70 -/
def impl_refOk.T1 : Bool × List (List Nat × List Nat):=(true,[([],[]),([0],[0]),([1],[1]),([2],[2]),([3,2],[3]),([4],[4]),([5,4],[4,5]),([6,4,4],[4,6]),([4],[4]),([8,4],[4,8]),([9,4],[4,9]),([10,4],[4,10]),([7,11,4],[4,7,11]),([4,12],[4,12])])
def impl_refOk.B1 : List Nat:=[0,1,3,7,15,31,63,127,31,287,799,1823,4095,8191]
theorem impl_refOk.tab1 : rtab .any (opsOf Tryz.f70 1) = impl_refOk.T1:=by kernel_rfl
theorem impl_refOk.bits1 : waitsOk impl_refOk.T1.2 impl_refOk.B1 = true:=by kernel_rfl
theorem impl_refOk.calls (k : Nat) (a0_0 : Bool) (A0_1 : Option Addr) (c0_1 : Nat) (l0_1 : List Int) (a0_2 : Int) (a0_3 : Int) (a0_4 : Int) (a0_5 : Int) (r : Bool) (w : World) (hr0_1 : Kd.C (Kd.int .i64) w A0_1 l0_1.length l0_1) (hc0_1 : l0_1.length ≤ c0_1) (h : impl_refOk.f k a0_0 l0_1 a0_2 a0_3 a0_4 a0_5 = some r) :
  Calls Tryz.prog 70 #[.agg #[.bool a0_0,.slice A0_1 l0_1.length c0_1,.int .i64 a0_2,.int .i64 a0_3,.int .i64 a0_4,.int .i64 a0_5]] w fun e w'=>e = .returned (.bool r)∧Below w.heap.size w w':=by
 have hu84:=Tryz.underlying84;have hu58:=Tryz.underlying58;have HR0_1:=Aside0.mk hr0_1;have HC0_1:=Aside0.mk hc0_1;clear hr0_1 hc0_1;have HB:=Aside0.mk (Below.refl w.heap.size w);have H:=h;unfold impl_refOk.f at H;clear h;have HC2:=Aside0.mk H;clear H;go_enter Tryz.func70,Tryz.ntmps70;go_upto_region 1 with (first | ((with_reducible refine gd 1 rfl ?_);(try (refine gate_guard (by rfl) ?_;dsimp only));refine sqX 1 #[.bool a0_0,.slice A0_1 l0_1.length c0_1,.int .i64 a0_2,.int .i64 a0_3,.int .i64 a0_4,.int .i64 a0_5] 84 HB ?_;clear HB;intro gb0 hg w3 hb B0 GW0 HB;clear hb hg))
 (try simp only [Act.put,List.setIfInBounds_toArray,List.set_cons_zero,List.set_cons_succ])
 go_cut [19] (fun v19 wc=>∃ (kq : Nat) (x0 : Bool),v19 = .bool x0∧Aside0 (impl_refOk.j0 kq x0 a0_0 l0_1 a0_2 a0_3 a0_4 a0_5 = some r)∧Aside0 (kq ≤ k)∧Aside0 (wc.heap[gb0]? = some (.cells #[.bool a0_0,(.slice A0_1 l0_1.length c0_1),.int .i64 a0_2,.int .i64 a0_3,.int .i64 a0_4,.int .i64 a0_5] 84 (0,0)))∧Aside0 (Below w.heap.size w wc))
 case first =>
  have H:=HC2.out;clear HC2;replace H:=sqbi H;obtain ⟨t0,A4,H⟩:=H;(try dsimp only at H);rcases sqI (t0 = true) with c5 | c5
  ·replace c5:=Bool.eq_false_iff.mpr c5;subst c5;rw [sqff] at H;have H':=Aside0.mk H;clear H
   try go_wp2
   replace B0:=sqdr B0;replace HB:=sqdB HB;refine sqst 14 (fun w'=>Ce6 w' gb0 (.bool a0_0) (.slice A0_1 l0_1.length c0_1) (.int .i64 a0_2) (.int .i64 a0_3) (.int .i64 a0_4) (.int .i64 a0_5)) sqz (fun hHeld=>?_);refine with_tabW impl_refOk.tab1 impl_refOk.bits1 (fun HT_ HW_=>?_);generalize w3.drew = w10 at B0 HB hHeld ⊢;refine sqp HT_ 0 6 ?_;refine sqw HT_ HW_ 1 7 hHeld ?_;refine sqo HT_ 2 8 (fun K hK=>?_);refine sqGb rfl Tryz.func69 (impl_ValOk.calls _ _ _ _ _ _ _ A4.out) ?_;intro w11 hb;replace B0:=sqb B0 hb;replace HB:=sqs HB hb;(try clear hb);refine hK.out _ _ sqz (fun hHeld=>?_);clear hK K;refine sqnm ?_;refine sqp HT_ 3 9 ?_;refine sqp HT_ 4 10 ?_;refine sqpu HT_ 5 11 ?_;refine sqpu HT_ 6 12 ?_;refine sqpu HT_ 7 13 ?_;refine sqpu HT_ 8 14 ?_;refine sqpu HT_ 9 15 ?_;refine sqpu HT_ 10 16 ?_;refine sqpu HT_ 11 17 ?_;refine sqpu HT_ 12 18 ?_;refine sqp HT_ 13 19 ?_;refine done_ (done_of HT_.out (by kernel_rfl)) ?_
   try go_wp2
   go_meet
   case rel=>exact ⟨_,(true),sqE,H',⟨sqle⟩,sqk B0,sqh HB⟩
  subst c5;rw [if_pos rfl] at H;replace H:=sqbi H;obtain ⟨t1,A6,H⟩:=H;(try dsimp only at H);have H':=Aside0.mk H;clear H
  try go_wp2
  replace B0:=sqdr B0;replace HB:=sqdB HB;refine sqst 14 (fun w'=>Ce6 w' gb0 (.bool a0_0) (.slice A0_1 l0_1.length c0_1) (.int .i64 a0_2) (.int .i64 a0_3) (.int .i64 a0_4) (.int .i64 a0_5)) sqz (fun hHeld=>?_);refine with_tabW impl_refOk.tab1 impl_refOk.bits1 (fun HT_ HW_=>?_);generalize w3.drew = w7 at B0 HB hHeld ⊢;refine sqp HT_ 0 6 ?_;refine sqw HT_ HW_ 1 7 hHeld ?_;refine sqo HT_ 2 8 (fun K hK=>?_);refine sqGb rfl Tryz.func69 (impl_ValOk.calls _ _ _ _ _ _ _ A4.out) ?_;intro w8 hb;replace B0:=sqb B0 hb;replace HB:=sqs HB hb;(try clear hb);refine hK.out _ _ sqz (fun hHeld=>?_);clear hK K;refine sqnm ?_;refine sqp HT_ 3 9 ?_;refine sqp HT_ 4 10 ?_;refine sqp HT_ 5 11 ?_;refine sqp HT_ 8 14 ?_;refine sqw HT_ HW_ 6 12 hHeld ?_;refine sqw HT_ HW_ 9 15 hHeld ?_;refine sqp HT_ 10 16 ?_;refine sqp HT_ 11 17 ?_;refine sqo HT_ 7 13 (fun K hK=>?_);refine sqGb rfl Tryz.func68 (impl_Val_none.calls _ _ _ _ _ _ A6.out) ?_;intro w9 hb;replace B0:=sqb B0 hb;replace HB:=sqs HB hb;(try clear hb);refine hK.out _ _ sqz (fun hHeld=>?_);clear hK K;refine sqnm ?_;refine sqp HT_ 12 18 ?_;refine sqp HT_ 13 19 ?_;refine done_ (done_of HT_.out (by kernel_rfl)) ?_
  try go_wp2
  go_meet
  case rel=>exact ⟨_,((t1 != ((l0_1.length : Int) == 0))),sqE,H',⟨sqle⟩,sqk B0,sqh HB⟩
 case rest =>
  clear HC2;obtain ⟨kq,x0,rfl,HA,HJ1,B0,HB⟩:=hcut;cases kq with
  | zero=>exact absurd HA.out (by simp [impl_refOk.j0])
  | succ kj1 =>
   have H:=HA.out;clear HA;simp only [impl_refOk.j0] at H
   by_cases c12 : x0 = true
   ·subst c12;rw [if_pos rfl] at H;obtain rfl:=Option.some.inj H
    go_wp2
    go_ret
    exact sqe HB
   replace c12:=Bool.eq_false_iff.mpr c12;subst c12;rw [sqff] at H;have H':=Aside0.mk H;clear H;obtain ⟨_,_,_,_,_,_,_,_,_,_,_,_⟩:=sqc6 B0
   go_wp2
   go_loopg [3,23] kj1 (fun kq v3 v23 w'=>∃ (x1 : Int) (x2 : Int),v3 = .int .i64 x1∧v23 = .int .i64 x2∧Aside0 (impl_refOk.l0 kq x1 l0_1 (l0_1.length : Int) x2 a0_0 l0_1 a0_2 a0_3 a0_4 a0_5 = some r)∧Aside0 (kq ≤ kj1)∧Aside0 (w'.heap[gb0]? = some (.cells #[.bool a0_0,(.slice A0_1 l0_1.length c0_1),.int .i64 a0_2,.int .i64 a0_3,.int .i64 a0_4,.int .i64 a0_5] 84 (0,0)))∧Aside0 (Below w.heap.size w w'))
   case atStart=>exact ⟨((-1)),(0),sqE,sqE,H',⟨Nat.le_refl _⟩,sqk B0,sqh HB⟩
   case round =>
    clear H';obtain ⟨x1,x2,rfl,rfl,HA,HK2,B0,HB⟩:=hrel;cases gk with
    | zero=>exact absurd HA.out (by simp [impl_refOk.l0])
    | succ k2 =>
     have H:=HA.out;clear HA;simp only [impl_refOk.l0] at H;replace H:=sqi H;rcases H with ⟨c14,H⟩ | ⟨c14,H⟩
     ·have z4:=decide_eq_false c14;clear c14
      by_cases c18 : a0_0 = true
      ·subst c18;rw [if_pos rfl] at H;obtain rfl:=Option.some.inj H;obtain ⟨_,_,_,_,_,_,_,_,_,_,_,_⟩:=sqc6 B0
       go_wp2
       go_ret
       exact sqe HB
      replace c18:=Bool.eq_false_iff.mpr c18;subst c18;rw [sqff] at H;obtain rfl:=Option.some.inj H;obtain ⟨_,_,_,_,_,_,_,_,_,_,_,_⟩:=sqc6 B0
      go_wp2
      go_ret
      exact sqe HB
     have z4:=decide_eq_true c14;clear c14;replace H:=sqi H;rcases H with ⟨c15,H⟩ | ⟨c15,H⟩
     ·cases H
     have z7:=decide_eq_true c15;clear c15;replace H:=sqi H;rcases H with ⟨c16,H⟩ | ⟨c16,H⟩
     ·cases H
     have z8:=decide_eq_true c16;clear c16;replace H:=sqj H;rcases H with ⟨c17,H⟩ | ⟨c17,H⟩
     ·have z5:=decide_eq_true c17;clear c17;obtain rfl:=Option.some.inj H;have z0 : 0 ≤ (x2 : Int):=sqd;have z1 : x2 < (l0_1.length : Int):=sqd;obtain ⟨z6,z3,z2⟩:=Kd.at_int HR0_1.out x2 z0 z1;cases z3;replace z2:=sqa HB z2;replace z0:=eq_true z0;replace z1:=eq_true z1
      go_wp2
      go_ret
      exact sqe HB
     have z5:=decide_eq_false c17;clear c17;have H':=Aside0.mk H;clear H;have z0 : 0 ≤ (x2 : Int):=sqd;have z1 : x2 < (l0_1.length : Int):=sqd;obtain ⟨z6,z3,z2⟩:=Kd.at_int HR0_1.out x2 z0 z1;cases z3;replace z2:=sqa HB z2;replace z0:=eq_true z0;replace z1:=eq_true z1
     go_wp2
     go_roundg k2
     case measure=>have:=HJ1.out;have:=HK2.out;omega
     case rel=>exact ⟨(rd l0_1 x2),(wrap64 (x2 + 1)),sqE,sqE,H',⟨by have:=HJ1.out;have:=HK2.out;omega⟩,sqk B0,sqh HB⟩

/-! ### impl_Gaps_at: function 80 -/
theorem impl_Gaps_at.calls (a0_0 : Int) (A0_1 : Option Addr) (c0_1 : Nat) (l0_1 : List Int) (a1 : Int) (a2 : Int) (r : Int) (w : World) (hr0_1 : Kd.C (Kd.int .i64) w A0_1 l0_1.length l0_1) (hc0_1 : l0_1.length ≤ c0_1) (h : impl_Gaps_at.f a0_0 l0_1 a1 a2 = some r) :
  Calls Tryz.prog 80 #[.agg #[.int .i64 a0_0,.slice A0_1 l0_1.length c0_1],.int .i64 a1,.int .i64 a2] w fun e w'=>e = .returned (.int .i64 r)∧Below w.heap.size w w':=by
 have hu32:=Tryz.underlying32;have HR0_1:=Aside0.mk hr0_1;have HC0_1:=Aside0.mk hc0_1;clear hr0_1 hc0_1;have HB:=Aside0.mk (Below.refl w.heap.size w);have H:=h;unfold impl_Gaps_at.f at H;clear h;obtain rfl:=Option.some.inj H;go_enter Tryz.func80,Tryz.ntmps80;go_wp2_with (first | ((with_reducible refine gd 3 rfl ?_);refine sqX 3 #[.int .i64 a0_0,.slice A0_1 l0_1.length c0_1] 32 HB ?_;clear HB;intro gb0 hg w4 hb B0 GW0 HB;clear hb hg;obtain ⟨_,_,_,_⟩:=sqc2 B0))
 go_ret
 exact sqe HB

/-! ### impl_GapsOk: function 71 -/
def impl_GapsOk.T6 : Bool × List (List Nat × List Nat):=(true,[([],[]),([0],[0]),([],[]),([],[]),([],[]),([2,3,4],[2,3,4]),([1,5],[1,5]),([6],[6]),([7],[7])])
def impl_GapsOk.B6 : List Nat:=[0,1,0,0,0,28,63,127,255]
theorem impl_GapsOk.tab6 : rtab .any (opsOf Tryz.f71 6) = impl_GapsOk.T6:=by kernel_rfl
theorem impl_GapsOk.bits6 : waitsOk impl_GapsOk.T6.2 impl_GapsOk.B6 = true:=by kernel_rfl
theorem impl_GapsOk.calls (k : Nat) (a0_0 : Int) (A0_1 : Option Addr) (c0_1 : Nat) (l0_1 : List Int) (r : Bool) (w : World) (hr0_1 : Kd.C (Kd.int .i64) w A0_1 l0_1.length l0_1) (hc0_1 : l0_1.length ≤ c0_1) (h : impl_GapsOk.f k a0_0 l0_1 = some r) :
  Calls Tryz.prog 71 #[.agg #[.int .i64 a0_0,.slice A0_1 l0_1.length c0_1]] w fun e w'=>e = .returned (.bool r)∧Below w.heap.size w w':=by
 have hu32:=Tryz.underlying32;have HR0_1:=Aside0.mk hr0_1;have HC0_1:=Aside0.mk hc0_1;clear hr0_1 hc0_1;have HB:=Aside0.mk (Below.refl w.heap.size w);have H:=h;unfold impl_GapsOk.f at H;clear h;have HC2:=Aside0.mk H;clear H;go_enter Tryz.func71,Tryz.ntmps71;go_upto_region 1 with (first | ((with_reducible refine gd 1 rfl ?_);(try (refine gate_guard (by rfl) ?_;dsimp only));refine sqX 1 #[.int .i64 a0_0,.slice A0_1 l0_1.length c0_1] 32 HB ?_;clear HB;intro gb0 hg w3 hb B0 GW0 HB;clear hb hg))
 (try simp only [Act.put,List.setIfInBounds_toArray,List.set_cons_zero,List.set_cons_succ])
 go_cut [26] (fun v26 wc=>∃ (kq : Nat) (x0 : Bool),v26 = .bool x0∧Aside0 (impl_GapsOk.j0 kq x0 a0_0 l0_1 = some r)∧Aside0 (kq ≤ k)∧Aside0 (wc.heap[gb0]? = some (.cells #[.int .i64 a0_0,(.slice A0_1 l0_1.length c0_1)] 32 (0,0)))∧Aside0 (Below w.heap.size w wc))
 case first =>
  have H:=HC2.out;clear HC2;replace H:=sqj H;rcases H with ⟨c4,H⟩ | ⟨c4,H⟩
  ·have z6:=decide_eq_true c4;clear c4
   (first | rw [z6] | (simp only [i64_w,i32_w];rw [z6]) | skip)
   have H':=Aside0.mk H;clear H;obtain ⟨_,_,_,_⟩:=sqc2 B0
   go_wp2
   go_meet
   case rel=>exact ⟨_,(true),sqE,H',⟨sqle⟩,sqk B0,sqh HB⟩
  have z6:=decide_eq_false c4;clear c4
  (first | rw [z6] | (simp only [i64_w,i32_w];rw [z6]) | skip)
  replace H:=sqj H;rcases H with ⟨c6,H⟩ | ⟨c6,H⟩
  ·have zc : decide (12 < a0_0) = true:=decide_eq_true c6;clear c6;have H':=Aside0.mk H;clear H;obtain ⟨_,_,_,_⟩:=sqc2 B0
   go_wp2
   go_meet
   case rel=>exact ⟨_,(true),sqE,H',⟨sqle⟩,sqk B0,sqh HB⟩
  have zc : decide (12 < a0_0) = false:=decide_eq_false c6;clear c6;have H':=Aside0.mk H;clear H;obtain ⟨_,_,_,_⟩:=sqc2 B0
  go_wp2
  go_meet
  case rel=>exact ⟨_,(((l0_1.length : Int) != (wrap64 ((wrap64 (a0_0 + 1)) * (wrap64 (a0_0 + 1)))))),sqE,H',⟨sqle⟩,sqk B0,sqh HB⟩
 case rest =>
  clear HC2;obtain ⟨kq,x0,rfl,HA,HJ1,B0,HB⟩:=hcut;cases kq with
  | zero=>exact absurd HA.out (by simp [impl_GapsOk.j0])
  | succ kj1 =>
   have H:=HA.out;clear HA;simp only [impl_GapsOk.j0] at H
   by_cases c9 : x0 = true
   ·subst c9;rw [if_pos rfl] at H;obtain rfl:=Option.some.inj H
    go_wp2
    go_ret
    exact sqe HB
   replace c9:=Bool.eq_false_iff.mpr c9;subst c9;rw [sqff] at H;have H':=Aside0.mk H;clear H;obtain ⟨_,_,_,_⟩:=sqc2 B0
   go_wp2
   go_loopg [30] kj1 (fun kq v30 w'=>∃ (x1 : Int),v30 = .int .i64 x1∧Aside0 (impl_GapsOk.l0 kq (wrap64 (a0_0 + 1)) x1 a0_0 l0_1 = some r)∧Aside0 (kq ≤ kj1)∧Aside0 (w'.heap[gb0]? = some (.cells #[.int .i64 a0_0,(.slice A0_1 l0_1.length c0_1)] 32 (0,0)))∧Aside0 (Below w.heap.size w w'))
   case atStart=>exact ⟨(0),sqE,H',⟨Nat.le_refl _⟩,sqk B0,sqh HB⟩
   case round =>
    clear H';obtain ⟨x1,rfl,HA,HK2,B0,HB⟩:=hrel;cases gk with
    | zero=>exact absurd HA.out (by simp [impl_GapsOk.l0])
    | succ k2 =>
     have H:=HA.out;clear HA;simp only [impl_GapsOk.l0] at H;replace H:=sqi H;rcases H with ⟨c11,H⟩ | ⟨c11,H⟩
     ·have zd:=decide_eq_false c11;clear c11;have H':=Aside0.mk H;clear H;obtain ⟨_,_,_,_⟩:=sqc2 B0
      go_wp2
      go_loopg [46] k2 (fun kq v46 w'=>∃ (x2 : Int),v46 = .int .i64 x2∧Aside0 (impl_GapsOk.l1 kq l0_1 (l0_1.length : Int) x2 = some r)∧Aside0 (kq ≤ k2)∧Aside0 (w'.heap[gb0]? = some (.cells #[.int .i64 a0_0,(.slice A0_1 l0_1.length c0_1)] 32 (0,0)))∧Aside0 (Below w.heap.size w w'))
      case atStart=>exact ⟨(0),sqE,H',⟨Nat.le_refl _⟩,sqk B0,sqh HB⟩
      case round =>
       clear H';obtain ⟨x2,rfl,HA,HK3,B0,HB⟩:=hrel;cases gk with
       | zero=>exact absurd HA.out (by simp [impl_GapsOk.l1])
       | succ k3 =>
        have H:=HA.out;clear HA;simp only [impl_GapsOk.l1] at H;replace H:=sqi H;rcases H with ⟨c21,H⟩ | ⟨c21,H⟩
        ·have ze:=decide_eq_false c21;clear c21;obtain rfl:=Option.some.inj H
         go_wp2
         go_ret
         exact sqe HB
        have ze:=decide_eq_true c21;clear c21;replace H:=sqi H;rcases H with ⟨c22,H⟩ | ⟨c22,H⟩
        ·cases H
        have zj:=decide_eq_true c22;clear c22;replace H:=sqi H;rcases H with ⟨c23,H⟩ | ⟨c23,H⟩
        ·cases H
        have zk:=decide_eq_true c23;clear c23;replace H:=sqj H;rcases H with ⟨c24,H⟩ | ⟨c24,H⟩
        ·have zf:=decide_eq_true c24;clear c24;obtain rfl:=Option.some.inj H;have z0 : 0 ≤ (x2 : Int):=sqd;have z1 : x2 < (l0_1.length : Int):=sqd;obtain ⟨zb,z7,z3⟩:=Kd.at_int HR0_1.out x2 z0 z1;cases z7;replace z3:=sqa HB z3;replace z0:=eq_true z0;replace z1:=eq_true z1
         go_wp2
         go_ret
         exact sqe HB
        have zf:=decide_eq_false c24;clear c24;replace H:=sqj H;rcases H with ⟨c25,H⟩ | ⟨c25,H⟩
        ·have zg : decide (1099511627776 < (rd l0_1 x2)) = true:=decide_eq_true c25;clear c25;obtain rfl:=Option.some.inj H;have z0 : 0 ≤ (x2 : Int):=sqd;have z1 : x2 < (l0_1.length : Int):=sqd;obtain ⟨zb,z7,z3⟩:=Kd.at_int HR0_1.out x2 z0 z1;cases z7;replace z3:=sqa HB z3;replace z0:=eq_true z0;replace z1:=eq_true z1
         go_wp2
         go_ret
         exact sqe HB
        have zg : decide (1099511627776 < (rd l0_1 x2)) = false:=decide_eq_false c25;clear c25;have H':=Aside0.mk H;clear H;have z0 : 0 ≤ (x2 : Int):=sqd;have z1 : x2 < (l0_1.length : Int):=sqd;obtain ⟨zb,z7,z3⟩:=Kd.at_int HR0_1.out x2 z0 z1;cases z7;replace z3:=sqa HB z3;replace z0:=eq_true z0;replace z1:=eq_true z1
        go_wp2
        go_roundg k3
        case measure=>have:=HJ1.out;have:=HK2.out;have:=HK3.out;omega
        case rel=>exact ⟨(wrap64 (x2 + 1)),sqE,H',⟨by have:=HJ1.out;have:=HK2.out;have:=HK3.out;omega⟩,sqk B0,sqh HB⟩
     have zd:=decide_eq_true c11;clear c11;replace H:=sqbi H;obtain ⟨t0,A12,H⟩:=H;(try dsimp only at H);replace H:=sqi H;rcases H with ⟨c13,H⟩ | ⟨c13,H⟩
     ·cases H
     have zl:=decide_eq_true c13;clear c13;replace H:=sqi H;rcases H with ⟨c14,H⟩ | ⟨c14,H⟩
     ·cases H
     have zm:=decide_eq_true c14;clear c14;replace H:=sqi H;rcases H with ⟨c15,H⟩ | ⟨c15,H⟩
     ·have zh : ((rd l0_1 t0) == 0) = false:=beq_eq_false_iff_ne.mpr c15;have zi : ((rd l0_1 t0) != 0) = true:=bne_iff_ne.mpr c15;obtain rfl:=Option.some.inj H
      try go_wp2
      replace B0:=sqdr B0;replace HB:=sqdB HB;have z4 : 0 ≤ (t0 : Int):=sqd;have z5 : t0 < (l0_1.length : Int):=sqd;obtain ⟨z8,za,z2⟩:=Kd.at_int HR0_1.out t0 z4 z5;have z9:=z2;cases za;replace z2:=sqa HB z2;replace z4:=eq_true z4;replace z5:=eq_true z5;refine sqsT 9 (fun w'=>Ce2 w' gb0 (.int .i64 a0_0) (.slice (some z8) l0_1.length c0_1)∧w'.cell? (z8.add (t0).toNat) = some (.int .i64 (rd l0_1 t0))) [] ⟨sqK2 B0,(sqa HB z9 :)⟩ (fun hHeld=>?_);refine with_tabW impl_GapsOk.tab6 impl_GapsOk.bits6 (fun HT_ HW_=>?_);generalize wr.drew = w18 at B0 HB z2 hHeld ⊢;refine sqp HT_ 0 33 ?_;refine sqp HT_ 3 36 ?_;refine sqp HT_ 4 37 ?_;refine sqw HT_ HW_ 1 34 hHeld ?_;refine sqw HT_ HW_ 2 35 hHeld ?_;refine sqo HT_ 5 38 (fun K hK=>?_);refine sqGb rfl Tryz.func80 (impl_Gaps_at.calls _ _ _ _ _ _ _ _ (sqC (Kd.C_below HR0_1.out HB.out)) HC0_1.out A12.out) ?_;intro w19 hb;replace B0:=sqb B0 hb;replace HB:=sqs HB hb;(try clear hb);refine hK.out _ _ ⟨sqK2 B0,(sqa HB z9 :)⟩ (fun hHeld=>?_);clear hK K;refine sqnm ?_;refine sqp HT_ 6 39 ?_;refine sqw HT_ HW_ 7 40 hHeld ?_;refine sqp HT_ 8 41 ?_;refine done_ (done_of HT_.out (by kernel_rfl)) ?_
      try go_wp2
      go_ret
      exact sqe HB
     have zh : ((rd l0_1 t0) == 0) = true:=beq_iff_eq.mpr c15;have zi : ((rd l0_1 t0) != 0) = false:=bne_eq_false_iff_eq.mpr c15;clear c15;have H':=Aside0.mk H;clear H
     try go_wp2
     replace B0:=sqdr B0;replace HB:=sqdB HB;have z4 : 0 ≤ (t0 : Int):=sqd;have z5 : t0 < (l0_1.length : Int):=sqd;obtain ⟨z8,za,z2⟩:=Kd.at_int HR0_1.out t0 z4 z5;have z9:=z2;cases za;replace z2:=sqa HB z2;replace z4:=eq_true z4;replace z5:=eq_true z5;refine sqsT 9 (fun w'=>Ce2 w' gb0 (.int .i64 a0_0) (.slice (some z8) l0_1.length c0_1)∧w'.cell? (z8.add (t0).toNat) = some (.int .i64 (rd l0_1 t0))) [] ⟨sqK2 B0,(sqa HB z9 :)⟩ (fun hHeld=>?_);refine with_tabW impl_GapsOk.tab6 impl_GapsOk.bits6 (fun HT_ HW_=>?_);generalize wr.drew = w16 at B0 HB z2 hHeld ⊢;refine sqp HT_ 0 33 ?_;refine sqp HT_ 3 36 ?_;refine sqp HT_ 4 37 ?_;refine sqw HT_ HW_ 1 34 hHeld ?_;refine sqw HT_ HW_ 2 35 hHeld ?_;refine sqo HT_ 5 38 (fun K hK=>?_);refine sqGb rfl Tryz.func80 (impl_Gaps_at.calls _ _ _ _ _ _ _ _ (sqC (Kd.C_below HR0_1.out HB.out)) HC0_1.out A12.out) ?_;intro w17 hb;replace B0:=sqb B0 hb;replace HB:=sqs HB hb;(try clear hb);refine hK.out _ _ ⟨sqK2 B0,(sqa HB z9 :)⟩ (fun hHeld=>?_);clear hK K;refine sqnm ?_;refine sqp HT_ 6 39 ?_;refine sqw HT_ HW_ 7 40 hHeld ?_;refine sqp HT_ 8 41 ?_;refine done_ (done_of HT_.out (by kernel_rfl)) ?_
     try go_wp2
     go_roundg k2
     case measure=>have:=HJ1.out;have:=HK2.out;omega
     case rel=>exact ⟨(wrap64 (x1 + 1)),sqE,H',⟨by have:=HJ1.out;have:=HK2.out;omega⟩,sqk B0,sqh HB⟩

/-! ### impl_AbsOk: function 25 -/
theorem impl_AbsOk.calls (k : Nat) (a0_0 : Bool) (A0_1 : Option Addr) (c0_1 : Nat) (l0_1 : List (S58)) (A0_2 : Option Addr) (c0_2 : Nat) (l0_2 : List (S84)) (A0_3 : Option Addr) (c0_3 : Nat) (l0_3 : List (S58)) (a0_4 : Int) (A0_5 : Option Addr) (c0_5 : Nat) (l0_5 : List Int) (r : Bool) (w : World) (hr0_1 : Kd.C k58 w A0_1 l0_1.length l0_1) (hc0_1 : l0_1.length ≤ c0_1) (hr0_2 : Kd.C k84 w A0_2 l0_2.length l0_2) (hc0_2 : l0_2.length ≤ c0_2) (hr0_3 : Kd.C k58 w A0_3 l0_3.length l0_3) (hc0_3 : l0_3.length ≤ c0_3) (hr0_5 : Kd.C (Kd.int .i64) w A0_5 l0_5.length l0_5) (hc0_5 : l0_5.length ≤ c0_5) (h : impl_AbsOk.f k a0_0 l0_1 l0_2 l0_3 a0_4 l0_5 = some r) :
  Calls Tryz.prog 25 #[.agg #[.bool a0_0,.slice A0_1 l0_1.length c0_1,.slice A0_2 l0_2.length c0_2,.slice A0_3 l0_3.length c0_3,.int .i64 a0_4,.slice A0_5 l0_5.length c0_5]] w fun e w'=>e = .returned (.bool r)∧Below w.heap.size w w':=by
 have hu34:=Tryz.underlying34;have hu58:=Tryz.underlying58;have hu84:=Tryz.underlying84;have hu32:=Tryz.underlying32;have HR0_1:=Aside0.mk hr0_1;have HC0_1:=Aside0.mk hc0_1;clear hr0_1 hc0_1;have HR0_2:=Aside0.mk hr0_2;have HC0_2:=Aside0.mk hc0_2;clear hr0_2 hc0_2;have HR0_3:=Aside0.mk hr0_3;have HC0_3:=Aside0.mk hc0_3;clear hr0_3 hc0_3;have HR0_5:=Aside0.mk hr0_5;have HC0_5:=Aside0.mk hc0_5;clear hr0_5 hc0_5;have HB:=Aside0.mk (Below.refl w.heap.size w);have H:=h;unfold impl_AbsOk.f at H;clear h;rcases sqI (a0_0 = true) with c2 | c2
 ·replace c2:=Bool.eq_false_iff.mpr c2;subst c2;rw [sqff] at H;replace H:=sqi H;rcases H with ⟨c73,H⟩ | ⟨c73,H⟩
  ·have zw : ((l0_1.length : Int) == 0) = false:=beq_eq_false_iff_ne.mpr c73;have zx : ((l0_1.length : Int) != 0) = true:=bne_iff_ne.mpr c73
   have zI : ¬ (l0_1 = []):=fun h_=>c73 (by rw [h_];rfl)
   obtain rfl:=Option.some.inj H;go_enter Tryz.func25,Tryz.ntmps25;go_wp2_with (first | ((with_reducible refine gd 1 rfl ?_);(try (refine gate_guard (by rfl) ?_;dsimp only));refine sqX 1 #[.bool false,.slice A0_1 l0_1.length c0_1,.slice A0_2 l0_2.length c0_2,.slice A0_3 l0_3.length c0_3,.int .i64 a0_4,.slice A0_5 l0_5.length c0_5] 34 HB ?_;clear HB;intro gb0 hg w85 hb B0 GW0 HB;clear hb hg;obtain ⟨_,_,_,_,_,_,_,_,_,_,_,_⟩:=sqc6 B0))
   go_ret
   exact sqe HB
  have zw : ((l0_1.length : Int) == 0) = true:=beq_iff_eq.mpr c73;have zx : ((l0_1.length : Int) != 0) = false:=bne_eq_false_iff_eq.mpr c73;clear c73;replace H:=sqi H;rcases H with ⟨c74,H⟩ | ⟨c74,H⟩
  ·have zy : ((l0_2.length : Int) == 0) = false:=beq_eq_false_iff_ne.mpr c74;have zz : ((l0_2.length : Int) != 0) = true:=bne_iff_ne.mpr c74
   have zJ : ¬ (l0_2 = []):=fun h_=>c74 (by rw [h_];rfl)
   obtain rfl:=Option.some.inj H;go_enter Tryz.func25,Tryz.ntmps25;go_wp2_with (first | ((with_reducible refine gd 1 rfl ?_);(try (refine gate_guard (by rfl) ?_;dsimp only));refine sqX 1 #[.bool false,.slice A0_1 l0_1.length c0_1,.slice A0_2 l0_2.length c0_2,.slice A0_3 l0_3.length c0_3,.int .i64 a0_4,.slice A0_5 l0_5.length c0_5] 34 HB ?_;clear HB;intro gb0 hg w83 hb B0 GW0 HB;clear hb hg;obtain ⟨_,_,_,_,_,_,_,_,_,_,_,_⟩:=sqc6 B0))
   go_ret
   exact sqe HB
  have zy : ((l0_2.length : Int) == 0) = true:=beq_iff_eq.mpr c74;have zz : ((l0_2.length : Int) != 0) = false:=bne_eq_false_iff_eq.mpr c74;clear c74;replace H:=sqi H;rcases H with ⟨c75,H⟩ | ⟨c75,H⟩
  ·have zA : ((l0_3.length : Int) == 0) = false:=beq_eq_false_iff_ne.mpr c75;have zB : ((l0_3.length : Int) != 0) = true:=bne_iff_ne.mpr c75
   have zK : ¬ (l0_3 = []):=fun h_=>c75 (by rw [h_];rfl)
   obtain rfl:=Option.some.inj H;go_enter Tryz.func25,Tryz.ntmps25;go_wp2_with (first | ((with_reducible refine gd 1 rfl ?_);(try (refine gate_guard (by rfl) ?_;dsimp only));refine sqX 1 #[.bool false,.slice A0_1 l0_1.length c0_1,.slice A0_2 l0_2.length c0_2,.slice A0_3 l0_3.length c0_3,.int .i64 a0_4,.slice A0_5 l0_5.length c0_5] 34 HB ?_;clear HB;intro gb0 hg w81 hb B0 GW0 HB;clear hb hg;obtain ⟨_,_,_,_,_,_,_,_,_,_,_,_⟩:=sqc6 B0))
   go_ret
   exact sqe HB
  have zA : ((l0_3.length : Int) == 0) = true:=beq_iff_eq.mpr c75;have zB : ((l0_3.length : Int) != 0) = false:=bne_eq_false_iff_eq.mpr c75;clear c75;replace H:=sqi H;rcases H with ⟨c76,H⟩ | ⟨c76,H⟩
  ·have zC : (a0_4 == 0) = false:=beq_eq_false_iff_ne.mpr c76;have zD : (a0_4 != 0) = true:=bne_iff_ne.mpr c76;obtain rfl:=Option.some.inj H;go_enter Tryz.func25,Tryz.ntmps25;go_wp2_with (first | ((with_reducible refine gd 1 rfl ?_);(try (refine gate_guard (by rfl) ?_;dsimp only));refine sqX 1 #[.bool false,.slice A0_1 l0_1.length c0_1,.slice A0_2 l0_2.length c0_2,.slice A0_3 l0_3.length c0_3,.int .i64 a0_4,.slice A0_5 l0_5.length c0_5] 34 HB ?_;clear HB;intro gb0 hg w79 hb B0 GW0 HB;clear hb hg;obtain ⟨_,_,_,_,_,_,_,_,_,_,_,_⟩:=sqc6 B0))
   go_ret
   exact sqe HB
  have zC : (a0_4 == 0) = true:=beq_iff_eq.mpr c76;have zD : (a0_4 != 0) = false:=bne_eq_false_iff_eq.mpr c76;clear c76;obtain rfl:=Option.some.inj H;go_enter Tryz.func25,Tryz.ntmps25;go_wp2_with (first | ((with_reducible refine gd 1 rfl ?_);(try (refine gate_guard (by rfl) ?_;dsimp only));refine sqX 1 #[.bool false,.slice A0_1 l0_1.length c0_1,.slice A0_2 l0_2.length c0_2,.slice A0_3 l0_3.length c0_3,.int .i64 a0_4,.slice A0_5 l0_5.length c0_5] 34 HB ?_;clear HB;intro gb0 hg w77 hb B0 GW0 HB;clear hb hg;obtain ⟨_,_,_,_,_,_,_,_,_,_,_,_⟩:=sqc6 B0))
  go_ret
  exact sqe HB
 subst c2;rw [if_pos rfl] at H;have H':=Aside0.mk H;clear H;go_enter Tryz.func25,Tryz.ntmps25;go_wp2_with (first | ((with_reducible refine gd 1 rfl ?_);(try (refine gate_guard (by rfl) ?_;dsimp only));refine sqX 1 #[.bool true,.slice A0_1 l0_1.length c0_1,.slice A0_2 l0_2.length c0_2,.slice A0_3 l0_3.length c0_3,.int .i64 a0_4,.slice A0_5 l0_5.length c0_5] 34 HB ?_;clear HB;intro gb0 hg w3 hb B0 GW0 HB;clear hb hg;obtain ⟨_,_,_,_,_,_,_,_,_,_,_,_⟩:=sqc6 B0))
 go_loopg [44] k (fun kq v44 w'=>∃ (x0 : Int),v44 = .int .i64 x0∧Aside0 (impl_AbsOk.l0 kq l0_1 (l0_1.length : Int) x0 true l0_1 l0_2 l0_3 a0_4 l0_5 = some r)∧Aside0 (kq ≤ k)∧Aside0 (w'.heap[gb0]? = some (.cells #[.bool true,(.slice A0_1 l0_1.length c0_1),(.slice A0_2 l0_2.length c0_2),(.slice A0_3 l0_3.length c0_3),.int .i64 a0_4,(.slice A0_5 l0_5.length c0_5)] 34 (0,0)))∧Aside0 (Below w.heap.size w w'))
 case atStart=>exact ⟨(0),sqE,H',⟨Nat.le_refl _⟩,sqk B0,sqh HB⟩
 case round =>
  clear H';obtain ⟨x0,rfl,HA,HK1,B0,HB⟩:=hrel;cases gk with
  | zero=>exact absurd HA.out (by simp [impl_AbsOk.l0])
  | succ k1 =>
   have H:=HA.out;clear HA;simp only [impl_AbsOk.l0] at H;replace H:=sqj H;rcases H with ⟨c5,H⟩ | ⟨c5,H⟩
   ·have zE:=decide_eq_true c5;clear c5;replace H:=sqi H;rcases H with ⟨c6,H⟩ | ⟨c6,H⟩
    ·cases H
    have zL:=decide_eq_true c6;clear c6;replace H:=sqi H;rcases H with ⟨c7,H⟩ | ⟨c7,H⟩
    ·cases H
    have zM:=decide_eq_true c7;clear c7;replace H:=sqbi H;obtain ⟨t0,A8,H⟩:=H;(try dsimp only at H)
    by_cases c9 : t0 = true
    ·subst c9;rw [if_pos rfl] at H;obtain rfl:=Option.some.inj H;have z0 : 0 ≤ (x0 : Int):=sqd;have z1 : x0 < (l0_1.length : Int):=sqd;obtain ⟨zu,ze,z4,z5,z6,z7⟩:=at_T58 HR0_1.out x0 z0 z1;cases ze;replace z4:=sqa HB z4;replace z5:=sqa HB z5;replace z6:=sqa HB z6;replace z7:=sqa HB z7;replace z0:=eq_true z0;replace z1:=eq_true z1;go_wp2_with (first | ((with_reducible refine gd 4 rfl ?_);(try (refine gate_guard (by rfl) ?_;dsimp only));refine sqX 4 #[.int .i64 0,.int .i64 0,.int .i64 0,.int .i64 0] 58 HB ?_;clear HB;intro gb1 hg w10 hb B1 GW1 HB;have N0_1:=sqn B0 hg;have N1_0:=sqm B0 hg;replace B0:=sqb B0 hb;clear hb hg;obtain ⟨_,_⟩:=sqN1 N1_0;obtain ⟨_,_,_,_,_,_,_,_⟩:=sqc4 B1) | ((with_reducible refine gf 68 rfl ?_);refine sqLb rfl (some 49) Tryz.func68 (impl_Val_none.calls _ _ _ _ _ _ A8.out) ?_;intro w13 hb;replace B0:=sqbb B0 hb;replace B1:=sqPb (ds:=#[.int .i64 ((rd_T58 l0_1 x0).f0),.int .i64 ((rd_T58 l0_1 x0).f1),.int .i64 ((rd_T58 l0_1 x0).f2),.int .i64 ((rd_T58 l0_1 x0).f3)]) B1 hb;replace HB:=sqs HB hb;(try clear hb)))
     go_ret
     exact sqe HB
    replace c9:=Bool.eq_false_iff.mpr c9;subst c9;rw [sqff] at H;replace H:=sqbi H;obtain ⟨t1,A14,H⟩:=H;(try dsimp only at H);rcases sqI (t1 = true) with c15 | c15
    ·replace c15:=Bool.eq_false_iff.mpr c15;subst c15;rw [sqff] at H;obtain rfl:=Option.some.inj H;have z0 : 0 ≤ (x0 : Int):=sqd;have z1 : x0 < (l0_1.length : Int):=sqd;obtain ⟨zu,ze,z4,z5,z6,z7⟩:=at_T58 HR0_1.out x0 z0 z1;cases ze;replace z4:=sqa HB z4;replace z5:=sqa HB z5;replace z6:=sqa HB z6;replace z7:=sqa HB z7;replace z0:=eq_true z0;replace z1:=eq_true z1;go_wp2_with (first | ((with_reducible refine gd 4 rfl ?_);(try (refine gate_guard (by rfl) ?_;dsimp only));refine sqX 4 #[.int .i64 0,.int .i64 0,.int .i64 0,.int .i64 0] 58 HB ?_;clear HB;intro gb1 hg w22 hb B1 GW1 HB;have N0_1:=sqn B0 hg;have N1_0:=sqm B0 hg;replace B0:=sqb B0 hb;clear hb hg;obtain ⟨_,_⟩:=sqN1 N1_0;obtain ⟨_,_,_,_,_,_,_,_⟩:=sqc4 B1) | ((with_reducible refine gf 68 rfl ?_);refine sqLb rfl (some 49) Tryz.func68 (impl_Val_none.calls _ _ _ _ _ _ A8.out) ?_;intro w25 hb;replace B0:=sqbb B0 hb;replace B1:=sqPb (ds:=#[.int .i64 ((rd_T58 l0_1 x0).f0),.int .i64 ((rd_T58 l0_1 x0).f1),.int .i64 ((rd_T58 l0_1 x0).f2),.int .i64 ((rd_T58 l0_1 x0).f3)]) B1 hb;replace HB:=sqs HB hb;(try clear hb);obtain ⟨_,_,_,_,_,_,_,_⟩:=sqc4 B1) | (go_at_call 69;(with_reducible refine (impl_ValOk.calls k1 ((rd_T58 l0_1 x0).f0) ((rd_T58 l0_1 x0).f1) ((rd_T58 l0_1 x0).f2) ((rd_T58 l0_1 x0).f3) false _ A14.out).mono ?_);rintro e w27 ⟨rfl,hb⟩;refine sqM2 B0 B1 hb ?_;clear B0 B1;intro B0 B1;replace HB:=sqs HB hb;(try clear hb)))
     go_ret
     exact sqe HB
    subst c15;rw [if_pos rfl] at H;have H':=Aside0.mk H;clear H;have z0 : 0 ≤ (x0 : Int):=sqd;have z1 : x0 < (l0_1.length : Int):=sqd;obtain ⟨zu,ze,z4,z5,z6,z7⟩:=at_T58 HR0_1.out x0 z0 z1;cases ze;replace z4:=sqa HB z4;replace z5:=sqa HB z5;replace z6:=sqa HB z6;replace z7:=sqa HB z7;replace z0:=eq_true z0;replace z1:=eq_true z1;go_wp2_with (first | ((with_reducible refine gd 4 rfl ?_);(try (refine gate_guard (by rfl) ?_;dsimp only));refine sqX 4 #[.int .i64 0,.int .i64 0,.int .i64 0,.int .i64 0] 58 HB ?_;clear HB;intro gb1 hg w16 hb B1 GW1 HB;have N0_1:=sqn B0 hg;have N1_0:=sqm B0 hg;replace B0:=sqb B0 hb;clear hb hg;obtain ⟨_,_⟩:=sqN1 N1_0;obtain ⟨_,_,_,_,_,_,_,_⟩:=sqc4 B1) | ((with_reducible refine gf 68 rfl ?_);refine sqLb rfl (some 49) Tryz.func68 (impl_Val_none.calls _ _ _ _ _ _ A8.out) ?_;intro w19 hb;replace B0:=sqbb B0 hb;replace B1:=sqPb (ds:=#[.int .i64 ((rd_T58 l0_1 x0).f0),.int .i64 ((rd_T58 l0_1 x0).f1),.int .i64 ((rd_T58 l0_1 x0).f2),.int .i64 ((rd_T58 l0_1 x0).f3)]) B1 hb;replace HB:=sqs HB hb;(try clear hb);obtain ⟨_,_,_,_,_,_,_,_⟩:=sqc4 B1) | (go_at_call 69;(with_reducible refine (impl_ValOk.calls k1 ((rd_T58 l0_1 x0).f0) ((rd_T58 l0_1 x0).f1) ((rd_T58 l0_1 x0).f2) ((rd_T58 l0_1 x0).f3) true _ A14.out).mono ?_);rintro e w21 ⟨rfl,hb⟩;refine sqM2 B0 B1 hb ?_;clear B0 B1;intro B0 B1;replace HB:=sqs HB hb;(try clear hb)));go_roundg k1
    case measure=>have:=HK1.out;omega
    case rel=>exact ⟨(wrap64 (x0 + 1)),sqE,H',⟨by have:=HK1.out;omega⟩,sqk B0,sqh HB⟩
   have zE:=decide_eq_false c5;clear c5;have H':=Aside0.mk H;clear H;obtain ⟨_,_,_,_,_,_,_,_,_,_,_,_⟩:=sqc6 B0
   go_wp2
   go_loopg [59] k1 (fun kq v59 w'=>∃ (x1 : Int),v59 = .int .i64 x1∧Aside0 (impl_AbsOk.l1 kq l0_3 (l0_3.length : Int) x1 true l0_1 l0_2 l0_3 a0_4 l0_5 = some r)∧Aside0 (kq ≤ k1)∧Aside0 (w'.heap[gb0]? = some (.cells #[.bool true,(.slice A0_1 l0_1.length c0_1),(.slice A0_2 l0_2.length c0_2),(.slice A0_3 l0_3.length c0_3),.int .i64 a0_4,(.slice A0_5 l0_5.length c0_5)] 34 (0,0)))∧Aside0 (Below w.heap.size w w'))
   case atStart=>exact ⟨(0),sqE,H',⟨Nat.le_refl _⟩,sqk B0,sqh HB⟩
   case round =>
    clear H';obtain ⟨x1,rfl,HA,HK2,B0,HB⟩:=hrel;cases gk with
    | zero=>exact absurd HA.out (by simp [impl_AbsOk.l1])
    | succ k2 =>
     have H:=HA.out;clear HA;simp only [impl_AbsOk.l1] at H;replace H:=sqj H;rcases H with ⟨c29,H⟩ | ⟨c29,H⟩
     ·have zF:=decide_eq_true c29;clear c29;replace H:=sqi H;rcases H with ⟨c30,H⟩ | ⟨c30,H⟩
      ·cases H
      have zN:=decide_eq_true c30;clear c30;replace H:=sqi H;rcases H with ⟨c31,H⟩ | ⟨c31,H⟩
      ·cases H
      have zO:=decide_eq_true c31;clear c31;replace H:=sqbi H;obtain ⟨t2,A32,H⟩:=H;(try dsimp only at H)
      by_cases c33 : t2 = true
      ·subst c33;rw [if_pos rfl] at H;obtain rfl:=Option.some.inj H;have z2 : 0 ≤ (x1 : Int):=sqd;have z3 : x1 < (l0_3.length : Int):=sqd;obtain ⟨zv,zf,z8,z9,za,zb⟩:=at_T58 HR0_3.out x1 z2 z3;cases zf;replace z8:=sqa HB z8;replace z9:=sqa HB z9;replace za:=sqa HB za;replace zb:=sqa HB zb;replace z2:=eq_true z2;replace z3:=eq_true z3;go_wp2_with (first | ((with_reducible refine gd 6 rfl ?_);(try (refine gate_guard (by rfl) ?_;dsimp only));refine sqX 6 #[.int .i64 0,.int .i64 0,.int .i64 0,.int .i64 0] 58 HB ?_;clear HB;intro gb2 hg w34 hb B2 GW2 HB;have N0_2:=sqn B0 hg;have N2_0:=sqm B0 hg;replace B0:=sqb B0 hb;clear hb hg;obtain ⟨_,_⟩:=sqN1 N2_0;obtain ⟨_,_,_,_,_,_,_,_⟩:=sqc4 B2) | ((with_reducible refine gf 68 rfl ?_);refine sqLb rfl (some 64) Tryz.func68 (impl_Val_none.calls _ _ _ _ _ _ A32.out) ?_;intro w37 hb;replace B0:=sqbb B0 hb;replace B2:=sqPb (ds:=#[.int .i64 ((rd_T58 l0_3 x1).f0),.int .i64 ((rd_T58 l0_3 x1).f1),.int .i64 ((rd_T58 l0_3 x1).f2),.int .i64 ((rd_T58 l0_3 x1).f3)]) B2 hb;replace HB:=sqs HB hb;(try clear hb)))
       go_ret
       exact sqe HB
      replace c33:=Bool.eq_false_iff.mpr c33;subst c33;rw [sqff] at H;replace H:=sqbi H;obtain ⟨t3,A38,H⟩:=H;(try dsimp only at H);rcases sqI (t3 = true) with c39 | c39
      ·replace c39:=Bool.eq_false_iff.mpr c39;subst c39;rw [sqff] at H;obtain rfl:=Option.some.inj H;have z2 : 0 ≤ (x1 : Int):=sqd;have z3 : x1 < (l0_3.length : Int):=sqd;obtain ⟨zv,zf,z8,z9,za,zb⟩:=at_T58 HR0_3.out x1 z2 z3;cases zf;replace z8:=sqa HB z8;replace z9:=sqa HB z9;replace za:=sqa HB za;replace zb:=sqa HB zb;replace z2:=eq_true z2;replace z3:=eq_true z3;go_wp2_with (first | ((with_reducible refine gd 6 rfl ?_);(try (refine gate_guard (by rfl) ?_;dsimp only));refine sqX 6 #[.int .i64 0,.int .i64 0,.int .i64 0,.int .i64 0] 58 HB ?_;clear HB;intro gb2 hg w46 hb B2 GW2 HB;have N0_2:=sqn B0 hg;have N2_0:=sqm B0 hg;replace B0:=sqb B0 hb;clear hb hg;obtain ⟨_,_⟩:=sqN1 N2_0;obtain ⟨_,_,_,_,_,_,_,_⟩:=sqc4 B2) | ((with_reducible refine gf 68 rfl ?_);refine sqLb rfl (some 64) Tryz.func68 (impl_Val_none.calls _ _ _ _ _ _ A32.out) ?_;intro w49 hb;replace B0:=sqbb B0 hb;replace B2:=sqPb (ds:=#[.int .i64 ((rd_T58 l0_3 x1).f0),.int .i64 ((rd_T58 l0_3 x1).f1),.int .i64 ((rd_T58 l0_3 x1).f2),.int .i64 ((rd_T58 l0_3 x1).f3)]) B2 hb;replace HB:=sqs HB hb;(try clear hb);obtain ⟨_,_,_,_,_,_,_,_⟩:=sqc4 B2) | (go_at_call 69;(with_reducible refine (impl_ValOk.calls k2 ((rd_T58 l0_3 x1).f0) ((rd_T58 l0_3 x1).f1) ((rd_T58 l0_3 x1).f2) ((rd_T58 l0_3 x1).f3) false _ A38.out).mono ?_);rintro e w51 ⟨rfl,hb⟩;refine sqM2 B0 B2 hb ?_;clear B0 B2;intro B0 B2;replace HB:=sqs HB hb;(try clear hb)))
       go_ret
       exact sqe HB
      subst c39;rw [if_pos rfl] at H;have H':=Aside0.mk H;clear H;have z2 : 0 ≤ (x1 : Int):=sqd;have z3 : x1 < (l0_3.length : Int):=sqd;obtain ⟨zv,zf,z8,z9,za,zb⟩:=at_T58 HR0_3.out x1 z2 z3;cases zf;replace z8:=sqa HB z8;replace z9:=sqa HB z9;replace za:=sqa HB za;replace zb:=sqa HB zb;replace z2:=eq_true z2;replace z3:=eq_true z3;go_wp2_with (first | ((with_reducible refine gd 6 rfl ?_);(try (refine gate_guard (by rfl) ?_;dsimp only));refine sqX 6 #[.int .i64 0,.int .i64 0,.int .i64 0,.int .i64 0] 58 HB ?_;clear HB;intro gb2 hg w40 hb B2 GW2 HB;have N0_2:=sqn B0 hg;have N2_0:=sqm B0 hg;replace B0:=sqb B0 hb;clear hb hg;obtain ⟨_,_⟩:=sqN1 N2_0;obtain ⟨_,_,_,_,_,_,_,_⟩:=sqc4 B2) | ((with_reducible refine gf 68 rfl ?_);refine sqLb rfl (some 64) Tryz.func68 (impl_Val_none.calls _ _ _ _ _ _ A32.out) ?_;intro w43 hb;replace B0:=sqbb B0 hb;replace B2:=sqPb (ds:=#[.int .i64 ((rd_T58 l0_3 x1).f0),.int .i64 ((rd_T58 l0_3 x1).f1),.int .i64 ((rd_T58 l0_3 x1).f2),.int .i64 ((rd_T58 l0_3 x1).f3)]) B2 hb;replace HB:=sqs HB hb;(try clear hb);obtain ⟨_,_,_,_,_,_,_,_⟩:=sqc4 B2) | (go_at_call 69;(with_reducible refine (impl_ValOk.calls k2 ((rd_T58 l0_3 x1).f0) ((rd_T58 l0_3 x1).f1) ((rd_T58 l0_3 x1).f2) ((rd_T58 l0_3 x1).f3) true _ A38.out).mono ?_);rintro e w45 ⟨rfl,hb⟩;refine sqM2 B0 B2 hb ?_;clear B0 B2;intro B0 B2;replace HB:=sqs HB hb;(try clear hb)));go_roundg k2
      case measure=>have:=HK1.out;have:=HK2.out;omega
      case rel=>exact ⟨(wrap64 (x1 + 1)),sqE,H',⟨by have:=HK1.out;have:=HK2.out;omega⟩,sqk B0,sqh HB⟩
     have zF:=decide_eq_false c29;clear c29;have H':=Aside0.mk H;clear H;obtain ⟨_,_,_,_,_,_,_,_,_,_,_,_⟩:=sqc6 B0
     go_wp2
     go_loopg [74] k2 (fun kq v74 w'=>∃ (x2 : Int),v74 = .int .i64 x2∧Aside0 (impl_AbsOk.l2 kq l0_2 (l0_2.length : Int) x2 true l0_1 l0_2 l0_3 a0_4 l0_5 = some r)∧Aside0 (kq ≤ k2)∧Aside0 (w'.heap[gb0]? = some (.cells #[.bool true,(.slice A0_1 l0_1.length c0_1),(.slice A0_2 l0_2.length c0_2),(.slice A0_3 l0_3.length c0_3),.int .i64 a0_4,(.slice A0_5 l0_5.length c0_5)] 34 (0,0)))∧Aside0 (Below w.heap.size w w'))
     case atStart=>exact ⟨(0),sqE,H',⟨Nat.le_refl _⟩,sqk B0,sqh HB⟩
     case round =>
      clear H';obtain ⟨x2,rfl,HA,HK3,B0,HB⟩:=hrel;cases gk with
      | zero=>exact absurd HA.out (by simp [impl_AbsOk.l2])
      | succ k3 =>
       have H:=HA.out;clear HA;simp only [impl_AbsOk.l2] at H;replace H:=sqi H;rcases H with ⟨c53,H⟩ | ⟨c53,H⟩
       ·have zG:=decide_eq_false c53;clear c53;replace H:=sqbi H;obtain ⟨t4,A66,H⟩:=H;(try dsimp only at H);rcases sqI (t4 = true) with c67 | c67
        ·replace c67:=Bool.eq_false_iff.mpr c67;subst c67;rw [sqff] at H;obtain rfl:=Option.some.inj H;obtain ⟨_,_,_,_,_,_,_,_,_,_,_,_⟩:=sqc6 B0;go_wp2_with (first | ((with_reducible refine gf 71 rfl ?_);refine sqLb rfl (some 84) Tryz.func71 (impl_GapsOk.calls _ _ _ _ _ _ _ (sqC (Kd.C_below HR0_5.out HB.out)) HC0_5.out A66.out) ?_;intro w72 hb;replace B0:=sqb B0 hb;replace HB:=sqs HB hb;(try clear hb)))
         go_ret
         exact sqe HB
        subst c67;rw [if_pos rfl] at H;obtain rfl:=Option.some.inj H;obtain ⟨_,_,_,_,_,_,_,_,_,_,_,_⟩:=sqc6 B0;go_wp2_with (first | ((with_reducible refine gf 71 rfl ?_);refine sqLb rfl (some 84) Tryz.func71 (impl_GapsOk.calls _ _ _ _ _ _ _ (sqC (Kd.C_below HR0_5.out HB.out)) HC0_5.out A66.out) ?_;intro w69 hb;replace B0:=sqb B0 hb;replace HB:=sqs HB hb;(try clear hb);obtain ⟨_,_,_,_,_,_,_,_,_,_,_,_⟩:=sqc6 B0))
        go_ret
        exact sqe HB
       have zG:=decide_eq_true c53;clear c53;replace H:=sqi H;rcases H with ⟨c54,H⟩ | ⟨c54,H⟩
       ·cases H
       have zP:=decide_eq_true c54;clear c54;replace H:=sqi H;rcases H with ⟨c55,H⟩ | ⟨c55,H⟩
       ·cases H
       have zQ:=decide_eq_true c55;clear c55;replace H:=sqbi H;obtain ⟨t5,A56,H⟩:=H;(try dsimp only at H);rcases sqI (t5 = true) with c57 | c57
       ·replace c57:=Bool.eq_false_iff.mpr c57;subst c57;rw [sqff] at H;obtain rfl:=Option.some.inj H;have zc : 0 ≤ (x2 : Int):=sqd;have zd : x2 < (l0_2.length : Int):=sqd;obtain ⟨zH,zo,zp,zq,zg,zh,zi,zj,zk,zl,zm,zn⟩:=at_T84 HR0_2.out x2 zc zd;cases zq;replace zg:=sqa HB zg;replace zh:=sqa HB zh;replace zi:=sqa HB zi;replace zj:=sqa HB zj;replace zk:=sqa HB zk;replace zl:=sqa HB zl;have zr:=Aside0.mk zn;have zt:=Aside0.mk zm;clear zn zm;replace zc:=eq_true zc;replace zd:=eq_true zd;go_wp2_with (first | ((with_reducible refine gd 8 rfl ?_);(try (refine gate_guard (by rfl) ?_;dsimp only));refine sqX 8 #[.bool false,.slice none 0 0,.int .i64 0,.int .i64 0,.int .i64 0,.int .i64 0] 84 HB ?_;clear HB;intro gb3 hg w62 hb B3 GW3 HB;have N0_3:=sqn B0 hg;have N3_0:=sqm B0 hg;replace B0:=sqb B0 hb;clear hb hg;obtain ⟨_,_⟩:=sqN1 N3_0;obtain ⟨_,_,_,_,_,_,_,_,_,_,_,_⟩:=sqc6 B3) | ((with_reducible refine gf 70 rfl ?_);refine sqLb rfl (some 79) Tryz.func70 (impl_refOk.calls _ _ _ _ _ _ _ _ _ _ _ (Kd.C_below zr.out (sqB HB)) zt.out A56.out) ?_;intro w65 hb;replace B0:=sqbb B0 hb;replace B3:=sqPb (ds:=#[.bool ((rd_T84 l0_2 x2).f0),.slice zo ((rd_T84 l0_2 x2).f1).length zp,.int .i64 ((rd_T84 l0_2 x2).f2.f0),.int .i64 ((rd_T84 l0_2 x2).f2.f1),.int .i64 ((rd_T84 l0_2 x2).f2.f2),.int .i64 ((rd_T84 l0_2 x2).f2.f3)]) B3 hb;replace HB:=sqs HB hb;(try clear hb)))
        go_ret
        exact sqe HB
       subst c57;rw [if_pos rfl] at H;have H':=Aside0.mk H;clear H;have zc : 0 ≤ (x2 : Int):=sqd;have zd : x2 < (l0_2.length : Int):=sqd;obtain ⟨zH,zo,zp,zq,zg,zh,zi,zj,zk,zl,zm,zn⟩:=at_T84 HR0_2.out x2 zc zd;cases zq;replace zg:=sqa HB zg;replace zh:=sqa HB zh;replace zi:=sqa HB zi;replace zj:=sqa HB zj;replace zk:=sqa HB zk;replace zl:=sqa HB zl;have zr:=Aside0.mk zn;have zt:=Aside0.mk zm;clear zn zm;replace zc:=eq_true zc;replace zd:=eq_true zd;go_wp2_with (first | ((with_reducible refine gd 8 rfl ?_);(try (refine gate_guard (by rfl) ?_;dsimp only));refine sqX 8 #[.bool false,.slice none 0 0,.int .i64 0,.int .i64 0,.int .i64 0,.int .i64 0] 84 HB ?_;clear HB;intro gb3 hg w58 hb B3 GW3 HB;have N0_3:=sqn B0 hg;have N3_0:=sqm B0 hg;replace B0:=sqb B0 hb;clear hb hg;obtain ⟨_,_⟩:=sqN1 N3_0;obtain ⟨_,_,_,_,_,_,_,_,_,_,_,_⟩:=sqc6 B3) | ((with_reducible refine gf 70 rfl ?_);refine sqLb rfl (some 79) Tryz.func70 (impl_refOk.calls _ _ _ _ _ _ _ _ _ _ _ (Kd.C_below zr.out (sqB HB)) zt.out A56.out) ?_;intro w61 hb;replace B0:=sqbb B0 hb;replace B3:=sqPb (ds:=#[.bool ((rd_T84 l0_2 x2).f0),.slice zo ((rd_T84 l0_2 x2).f1).length zp,.int .i64 ((rd_T84 l0_2 x2).f2.f0),.int .i64 ((rd_T84 l0_2 x2).f2.f1),.int .i64 ((rd_T84 l0_2 x2).f2.f2),.int .i64 ((rd_T84 l0_2 x2).f2.f3)]) B3 hb;replace HB:=sqs HB hb;(try clear hb)));go_roundg k3
       case measure=>have:=HK1.out;have:=HK2.out;have:=HK3.out;omega
       case rel=>exact ⟨(wrap64 (x2 + 1)),sqE,H',⟨by have:=HK1.out;have:=HK2.out;have:=HK3.out;omega⟩,sqk B0,sqh HB⟩

end Go.Proofs.YtklkdpcopfjmcaaGreat.PFnExactAbsJoin
