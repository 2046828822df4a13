/- Functions of the program as plain Lean functions, and that calls of them come to what these tell. Conditions: those in each law. -/
import Derived.Test.YtlbheepfmjbpnaaSqV
import Derived.Test.YtlbheepfmjbpnaaDFnValDoV
import Derived.Test.YtlbheepfmjbpnaaQFnValDox0V
import Derived.Test.YtlbheepfmjbpnaaQFnValDox13V
import Derived.Test.YtlbheepfmjbpnaaQFnValDox16V
namespace Go.Proofs.Ytlbheepfmjbpnaa.PFnValDo
open Go.RowKit Go.Proofs.Ytlbheepfmjbpnaa.Sq Go.Proofs.YtlbheepfmjbpnaaW.PrintWords Go.Proofs.YtlbheepfmjbpnaaW.PrintLast Go.Proofs.YtlbheepfmjbpnaaW.PrintMore
attribute [local go_sem] max2_int min2_int max_two min_two max_three min_three max_four min_four   -- for this text's walks alone
set_option linter.unusedVariables false
set_option linter.unusedSimpArgs false

set_option maxHeartbeats 8000000
set_option maxRecDepth 100000
/-! ### impl_rangeRem: function 35 -/
def impl_rangeRem.T8 : Bool × List (List Nat × List Nat):=(true,[([],[]),([],[]),([],[]),([2],[2]),([3],[3]),([],[]),([5],[5]),([6],[6]),([1,4,7],[1,4,7]),([0,8,8],[0,8]),([9,9,0,1,2,3,4,5,6,7,8,9],[9])])
def impl_rangeRem.B8 : List Nat:=[0,0,0,4,12,0,32,96,254,511,1023]
theorem impl_rangeRem.tab8 : rtab .any (opsOf Try.f35 8) = impl_rangeRem.T8:=by kernel_rfl
theorem impl_rangeRem.bits8 : waitsOk impl_rangeRem.T8.2 impl_rangeRem.B8 = true:=by kernel_rfl
def impl_rangeRem.T11 : Bool × List (List Nat × List Nat):=(true,[([],[]),([],[]),([],[]),([2],[2]),([],[]),([4],[4]),([1,3,5],[1,3,5]),([0,6,6],[0,6]),([7,7,0,1,2,3,4,5,6,7],[7])])
def impl_rangeRem.B11 : List Nat:=[0,0,0,4,0,16,62,127,255]
theorem impl_rangeRem.tab11 : rtab .any (opsOf Try.f35 11) = impl_rangeRem.T11:=by kernel_rfl
theorem impl_rangeRem.bits11 : waitsOk impl_rangeRem.T11.2 impl_rangeRem.B11 = true:=by kernel_rfl
theorem impl_rangeRem.calls (k : Nat) (a0_0 : Int) (a0_1 : Int) (a1_0 : Int) (a1_1 : Int) (r1 : Int) (r2 : Int) (r3 : List Int) (w : World) (h : impl_rangeRem.f k a0_0 a0_1 a1_0 a1_1 = some (r1,r2,r3)) :
  Calls Try.prog 35 #[.agg #[.int .i64 a0_0,.int .i64 a0_1],.agg #[.int .i64 a1_0,.int .i64 a1_1]] w fun e w'=>∃ v2_ : Value,e = .returned (.tuple #[.agg #[.int .i64 r1,.int .i64 r2],v2_])∧Kd.R (Kd.int .i64) 3 w' w.heap.size (fun _=>True) v2_ r3∧Below w.heap.size w w':=by
 have hu24:=Try.underlying24;have hu82:=Try.underlying82;have HB:=Aside0.mk (Below.refl w.heap.size w);have H:=h;unfold impl_rangeRem.f at H;clear h;have HC3:=Aside0.mk H;clear H;go_enter Try.func35,Try.ntmps35;go_upto_region 1 with (first | ((with_reducible refine gd 2 rfl ?_);refine sqX 2 #[.int .i64 a0_0,.int .i64 a0_1] 24 HB ?_;clear HB;intro gb0 hg w4 hb B0 GW0 HB;clear hb hg) | ((with_reducible refine gd 3 rfl ?_);refine sqX 3 #[.int .i64 a1_0,.int .i64 a1_1] 24 HB ?_;clear HB;intro gb1 hg w5 hb B1 GW1 HB;have N0_1:=sqn B0 hg;have N1_0:=sqm B0 hg;replace B0:=sqb B0 hb;clear hb hg) | ((with_reducible refine gd 4 rfl ?_);refine sqX 4 #[.int .i64 0,.int .i64 0] 24 HB ?_;clear HB;intro gb2 hg w6 hb B2 GW2 HB;have N0_2:=sqn B0 hg;have N2_0:=sqm B0 hg;have N1_2:=sqn B1 hg;have N2_1:=sqm B1 hg;refine sqM2 B0 B1 hb ?_;clear B0 B1;intro B0 B1;clear hb hg))
 (try simp only [Act.put,List.setIfInBounds_toArray,List.set_cons_zero,List.set_cons_succ])
 go_cut [21] (fun v21 wc=>∃ (kq : Nat) (x0 : Bool),v21 = .bool x0∧Aside0 (impl_rangeRem.j0 kq x0 a0_0 a0_1 a1_0 a1_1 = some (r1,r2,r3))∧Aside0 (kq ≤ k)∧Aside0 (wc.heap[gb0]? = some (.cells #[.int .i64 a0_0,.int .i64 a0_1] 24 (0,0)))∧Aside0 (wc.heap[gb1]? = some (.cells #[.int .i64 a1_0,.int .i64 a1_1] 24 (0,0)))∧Aside0 (wc.heap[gb2]? = some (.cells #[.int .i64 0,.int .i64 0] 24 (0,0)))∧Aside0 (Below w.heap.size w wc))
 case first =>
  have H:=HC3.out;clear HC3;replace H:=sqbi H;obtain ⟨t0,A7,H⟩:=H;(try dsimp only at H);rcases sqI (t0 = true) with c8 | c8
  ·replace c8:=Bool.eq_false_iff.mpr c8;subst c8;rw [sqff] at H;have H':=Aside0.mk H;clear H;obtain ⟨_,_,_,_⟩:=sqN2 N0_1 N0_2;obtain ⟨_,_,_,_⟩:=sqc2 B0;go_wp2_with (first | ((with_reducible refine gf 74 rfl ?_);refine sqLb rfl (some 12) Try.func74 (impl_Range_single.calls _ _ _ _ A7.out) ?_;intro w29 hb;refine sqM3 B0 B1 B2 hb ?_;clear B0 B1 B2;intro B0 B1 B2;replace HB:=sqs HB hb;(try clear hb)));go_meet
   case rel=>exact ⟨_,(false),sqE,H',⟨sqle⟩,sqk B0,sqk B1,sqk B2,sqh HB⟩
  subst c8;rw [if_pos rfl] at H;replace H:=sqbi H;obtain ⟨t1,A9,H⟩:=H;(try dsimp only at H);rcases sqI (t1 = true) with c10 | c10
  ·replace c10:=Bool.eq_false_iff.mpr c10;subst c10;rw [sqff] at H;have H':=Aside0.mk H;clear H;obtain ⟨_,_,_,_⟩:=sqN2 N0_1 N0_2;obtain ⟨_,_,_,_⟩:=sqc2 B0;go_wp2_with (first | ((with_reducible refine gf 74 rfl ?_);refine sqLb rfl (some 12) Try.func74 (impl_Range_single.calls _ _ _ _ A7.out) ?_;intro w22 hb;refine sqM3 B0 B1 B2 hb ?_;clear B0 B1 B2;intro B0 B1 B2;replace HB:=sqs HB hb;(try clear hb);obtain ⟨_,_⟩:=sqN1 N1_2;obtain ⟨_,_,_,_⟩:=sqc2 B1) | (go_at_call 74;(with_reducible refine (impl_Range_single.calls a1_0 a1_1 false _ A9.out).mono ?_);rintro e w25 ⟨rfl,hb⟩;refine sqM3 B0 B1 B2 hb ?_;clear B0 B1 B2;intro B0 B1 B2;replace HB:=sqs HB hb;(try clear hb)));go_meet
   case rel=>exact ⟨_,(false),sqE,H',⟨sqle⟩,sqk B0,sqk B1,sqk B2,sqh HB⟩
  subst c10;rw [if_pos rfl] at H;have H':=Aside0.mk H;clear H;obtain ⟨_,_,_,_⟩:=sqN2 N0_1 N0_2;obtain ⟨_,_,_,_⟩:=sqc2 B0;go_wp2_with (first | ((with_reducible refine gf 74 rfl ?_);refine sqLb rfl (some 12) Try.func74 (impl_Range_single.calls _ _ _ _ A7.out) ?_;intro w14 hb;refine sqM3 B0 B1 B2 hb ?_;clear B0 B1 B2;intro B0 B1 B2;replace HB:=sqs HB hb;(try clear hb);obtain ⟨_,_⟩:=sqN1 N1_2;obtain ⟨_,_,_,_⟩:=sqc2 B1) | (go_at_call 74;(with_reducible refine (impl_Range_single.calls a1_0 a1_1 true _ A9.out).mono ?_);rintro e w17 ⟨rfl,hb⟩;refine sqM3 B0 B1 B2 hb ?_;clear B0 B1 B2;intro B0 B1 B2;replace HB:=sqs HB hb;(try clear hb);obtain ⟨_,_,_,_⟩:=sqc2 B1));go_meet
  case rel=>exact ⟨_,((a1_0 != 0)),sqE,H',⟨sqle⟩,sqk B0,sqk B1,sqk B2,sqh HB⟩
 case rest =>
  clear HC3;obtain ⟨kq,x0,rfl,HA,HJ2,B0,B1,B2,HB⟩:=hcut;cases kq with
  | zero=>exact absurd HA.out (by simp [impl_rangeRem.j0])
  | succ kj2 =>
   have H:=HA.out;clear HA;simp only [impl_rangeRem.j0] at H
   by_cases c30 : x0 = true
   ·subst c30;rw [if_pos rfl] at H;replace H:=sqj H;rcases H with ⟨c31,H⟩ | ⟨c31,H⟩
    ·cases H
    have z8 : (a1_0 == 0) = false:=beq_eq_false_iff_ne.mpr c31;have z9 : (a1_0 != 0) = true:=bne_iff_ne.mpr c31;simp only [Option.some.injEq,Prod.mk.injEq] at H;obtain ⟨rfl,rfl,rfl⟩:=H;obtain ⟨_,_,_,_⟩:=sqN2 N0_1 N0_2;obtain ⟨_,_,_,_⟩:=sqc2 B0;obtain ⟨_,_⟩:=sqN1 N1_2;obtain ⟨_,_,_,_⟩:=sqc2 B1;obtain ⟨_,_,_,_⟩:=sqc2 B2
    go_wp2
    refine bodyPost_ret (results_ct rfl _ _ gb2 24 #[.int .i64 (Int.tmod a0_0 a1_0),.int .i64 (Int.tmod a0_0 a1_0)] (0,0) _ rfl (sqP B2) Try.underlying24 rfl (by kernel_rfl)) rfl ?_;exact ⟨_,sqEw,sqnil,sqB HB⟩
   replace c30:=Bool.eq_false_iff.mpr c30;subst c30;rw [sqff] at H;replace H:=sqbi H;obtain ⟨⟨t2,t3,t4,t5⟩,A38,H⟩:=H;(try dsimp only at H);replace H:=sqbi H;obtain ⟨⟨t6,t7⟩,A39,H⟩:=H;(try dsimp only at H);replace H:=sqbi H;obtain ⟨t8,A40,H⟩:=H;(try dsimp only at H);have HC41:=Aside0.mk H;clear H;obtain ⟨_,_,_,_⟩:=sqN2 N1_0 N1_2;obtain ⟨_,_,_,_⟩:=sqc2 B1
   go_upto_if 37 with (first | ((with_reducible refine gf 73 rfl ?_);refine sqLb rfl (some 31) Try.func73 (impl_rangeSides.calls _ _ _ _ _ _ _ _ A38.out) ?_;intro w45 hb;refine sqM3 B0 B1 B2 hb ?_;clear B0 B1 B2;intro B0 B1 B2;replace HB:=sqs HB hb;(try clear hb)) | ((with_reducible refine gd 7 rfl ?_);refine sqX 7 #[.int .i64 0,.int .i64 0,.int .i64 0,.int .i64 0] 82 HB ?_;clear HB;intro gb3 hg w46 hb B3 GW3 HB;have N0_3:=sqn B0 hg;have N3_0:=sqm B0 hg;have N1_3:=sqn B1 hg;have N3_1:=sqm B1 hg;have N2_3:=sqn B2 hg;have N3_2:=sqm B2 hg;refine sqM3 B0 B1 B2 hb ?_;clear B0 B1 B2;intro B0 B1 B2;clear hb hg;obtain ⟨_,_,_,_,_,_⟩:=sqN3 N3_0 N3_1 N3_2;obtain ⟨_,_,_,_,_,_,_,_⟩:=sqc4 B3) | ((with_reducible refine gf 29 rfl ?_);refine sqLb rfl (some 32) Try.func29 (impl_rangeNone.calls _ _ _ A39.out) ?_;intro w51 hb;replace B0:=sqbb B0 hb;replace B1:=sqbb B1 hb;replace B2:=sqbb B2 hb;replace B3:=sqPb (ds:=#[.int .i64 t2,.int .i64 t3,.int .i64 t4,.int .i64 t5]) B3 hb;replace HB:=sqs HB hb;(try clear hb)) | ((with_reducible refine gd 8 rfl ?_);refine sqX 8 #[.int .i64 0,.int .i64 0] 24 HB ?_;clear HB;intro gb4 hg w52 hb B4 GW4 HB;have N0_4:=sqn B0 hg;have N4_0:=sqm B0 hg;have N1_4:=sqn B1 hg;have N4_1:=sqm B1 hg;have N2_4:=sqn B2 hg;have N4_2:=sqm B2 hg;have N3_4:=sqn B3 hg;have N4_3:=sqm B3 hg;refine sqM4 B0 B1 B2 B3 hb ?_;clear B0 B1 B2 B3;intro B0 B1 B2 B3;clear hb hg;obtain ⟨_,_,_,_,_,_,_,_⟩:=sqN4 N4_0 N4_1 N4_2 N4_3;obtain ⟨_,_,_,_⟩:=sqc2 B4;obtain ⟨_,_,_,_,_,_,_,_⟩:=sqc4 B3) | ((with_reducible refine gd 9 rfl ?_);refine sqX 9 #[.int .i64 0,.int .i64 0] 24 HB ?_;clear HB;intro gb5 hg w59 hb B5 GW5 HB;have N0_5:=Aside0.mk ((by rw [hg];exact Nat.ne_of_lt (blk_lt (g:=gb0) (o:=.cells #[.int .i64 a0_0,.int .i64 a0_1] 24 (0,0)) (sqT B0)) : gb0≠gb5));have N5_0:=Aside0.mk ((by rw [hg];exact Nat.ne_of_gt (blk_lt (g:=gb0) (o:=.cells #[.int .i64 a0_0,.int .i64 a0_1] 24 (0,0)) (sqT B0)) : gb5≠gb0));replace B0:=sqbb B0 hb;have N1_5:=Aside0.mk ((by rw [hg];exact Nat.ne_of_lt (blk_lt (g:=gb1) (o:=.cells #[.int .i64 a1_0,.int .i64 a1_1] 24 (0,0)) (sqT B1)) : gb1≠gb5));have N5_1:=Aside0.mk ((by rw [hg];exact Nat.ne_of_gt (blk_lt (g:=gb1) (o:=.cells #[.int .i64 a1_0,.int .i64 a1_1] 24 (0,0)) (sqT B1)) : gb5≠gb1));replace B1:=sqbb B1 hb;have N2_5:=Aside0.mk ((by rw [hg];exact Nat.ne_of_lt (blk_lt (g:=gb2) (o:=.cells #[.int .i64 0,.int .i64 0] 24 (0,0)) (sqT B2)) : gb2≠gb5));have N5_2:=Aside0.mk ((by rw [hg];exact Nat.ne_of_gt (blk_lt (g:=gb2) (o:=.cells #[.int .i64 0,.int .i64 0] 24 (0,0)) (sqT B2)) : gb5≠gb2));replace B2:=sqbb B2 hb;have N3_5:=Aside0.mk ((by rw [hg];exact Nat.ne_of_lt (blk_lt (g:=gb3) (o:=.cells #[.int .i64 t2,.int .i64 t3,.int .i64 t4,.int .i64 t5] 82 (0,0)) (sqT B3)) : gb3≠gb5));have N5_3:=Aside0.mk ((by rw [hg];exact Nat.ne_of_gt (blk_lt (g:=gb3) (o:=.cells #[.int .i64 t2,.int .i64 t3,.int .i64 t4,.int .i64 t5] 82 (0,0)) (sqT B3)) : gb5≠gb3));replace B3:=sqbb B3 hb;have N4_5:=Aside0.mk ((by rw [hg];exact Nat.ne_of_lt (blk_lt (g:=gb4) (o:=.cells #[.int .i64 t6,.int .i64 t7] 24 (0,0)) (sqP B4)) : gb4≠gb5));have N5_4:=Aside0.mk ((by rw [hg];exact Nat.ne_of_gt (blk_lt (g:=gb4) (o:=.cells #[.int .i64 t6,.int .i64 t7] 24 (0,0)) (sqP B4)) : gb5≠gb4));replace B4:=sqPb (ds:=#[.int .i64 t6,.int .i64 t7]) B4 hb;have GE5:=GW5;clear hb hg;obtain ⟨_,_,_,_,_,_,_,_⟩:=sqN4 N5_0 N5_1 N5_2 N5_3;obtain ⟨_,_⟩:=sqN1 N5_4;obtain ⟨_,_,_,_⟩:=sqc2 B5) | ((with_reducible refine gf 28 rfl ?_);refine sqLb rfl (some 36) Try.func28 (impl_Range_empty.calls _ _ _ _ A40.out) ?_;intro w66 hb;replace B0:=sqbb B0 hb;replace B1:=sqbb B1 hb;replace B2:=sqbb B2 hb;replace B3:=sqbb B3 hb;replace B4:=sqbb B4 hb;replace B5:=sqPb (ds:=#[.int .i64 t2,.int .i64 t3]) B5 hb;replace HB:=sqs HB hb;(try clear hb)))
   (try simp only [Act.put,List.setIfInBounds_toArray,List.set_cons_zero,List.set_cons_succ])
   go_cut [] (fun wc=>∃ (kq : Nat) (x1 : Int) (x2 : Int),Aside0 (impl_rangeRem.j1 kq a0_0 a0_1 a1_0 a1_1 t2 t3 t4 t5 x1 x2 = some (r1,r2,r3))∧Aside0 (kq ≤ kj2)∧Aside0 (wc.heap[gb0]? = some (.cells #[.int .i64 a0_0,.int .i64 a0_1] 24 (0,0)))∧Aside0 (wc.heap[gb1]? = some (.cells #[.int .i64 a1_0,.int .i64 a1_1] 24 (0,0)))∧Aside0 (wc.heap[gb2]? = some (.cells #[.int .i64 0,.int .i64 0] 24 (0,0)))∧Aside0 (wc.heap[gb3]? = some (.cells #[.int .i64 t2,.int .i64 t3,.int .i64 t4,.int .i64 t5] 82 (0,0)))∧Aside0 (wc.heap[gb4]? = some (.cells #[.int .i64 x1,.int .i64 x2] 24 (0,0)))∧Aside0 (wc.heap[gb5]? = some (.cells #[.int .i64 t2,.int .i64 t3] 24 (0,0)))∧Aside0 (Below w.heap.size w wc))
   case first =>
    have H:=HC41.out;clear HC41
    by_cases c67 : t8 = true
    ·subst c67;rw [if_pos rfl] at H;have H':=Aside0.mk H;clear H
     go_wp2
     go_meet
     case rel=>exact ⟨_,(t6),(t7),H',⟨by have:=HJ2.out;first | omega | exact Nat.le_refl _⟩,sqk B0,sqk B1,sqk B2,sqk B3,sqk B4,sqk B5,sqh HB⟩
    replace c67:=Bool.eq_false_iff.mpr c67;subst c67;rw [sqff] at H;replace H:=sqbi H;obtain ⟨⟨t9,t10⟩,A68,H⟩:=H;(try dsimp only at H);replace H:=sqbi H;obtain ⟨⟨t11,t12⟩,A69,H⟩:=H;(try dsimp only at H);have H':=Aside0.mk H;clear H
    try go_wp2
    replace B0:=sqdr B0;replace B1:=sqdr B1;replace B2:=sqdr B2;replace B3:=sqdr B3;replace B4:=sqdr B4;replace B5:=sqdr B5;replace HB:=sqdB HB;refine sqsT 11 (fun w'=>Ce2 w' gb4 (.int .i64 t6) (.int .i64 t7)∧Ce2 w' gb0 (.int .i64 a0_0) (.int .i64 a0_1)∧Ce2 w' gb5 (.int .i64 t2) (.int .i64 t3)) [10] sqz (fun hHeld=>?_);refine with_tabW impl_rangeRem.tab8 impl_rangeRem.bits8 (fun HT_ HW_=>?_);generalize w66.drew = w70 at B0 B1 B2 B3 B4 B5 HB hHeld ⊢;refine sqp HT_ 2 40 ?_;refine sqp HT_ 5 43 ?_;refine sqw HT_ HW_ 0 38 hHeld ?_;refine sqw HT_ HW_ 1 39 hHeld ?_;refine sqw HT_ HW_ 3 41 hHeld ?_;refine sqp HT_ 4 42 ?_;refine sqw HT_ HW_ 6 44 hHeld ?_;refine sqp HT_ 7 45 ?_;refine sqo HT_ 8 46 (fun K hK=>?_);refine sqGb rfl Try.func76 (impl_rangeRemBy.calls _ _ _ _ _ _ _ _ A68.out) ?_;intro w71 hb;refine sqM6 B0 B1 B2 B3 B4 B5 hb ?_;clear B0 B1 B2 B3 B4 B5;intro B0 B1 B2 B3 B4 B5;replace HB:=sqs HB hb;(try clear hb);refine hK.out _ _ sqz (fun hHeld=>?_);clear hK K;refine sqnm ?_;refine sqo HT_ 9 47 (fun K hK=>?_);refine sqGb rfl Try.func75 (impl_RangeJoin.calls _ _ _ _ _ _ _ _ A69.out) ?_;intro w72 hb;refine sqM6 B0 B1 B2 B3 B4 B5 hb ?_;clear B0 B1 B2 B3 B4 B5;intro B0 B1 B2 B3 B4 B5;replace HB:=sqs HB hb;(try clear hb);refine hK.out _ _ sqz (fun hHeld=>?_);clear hK K;refine sqnm ?_;refine sqla HT_ 10 none (fun K hK=>?_);obtain ⟨_,_,_,_⟩:=sqc2 B4;obtain ⟨_,_,_,_,_,_,_,_⟩:=sqN4 N0_4 N1_4 N2_4 N3_4;obtain ⟨_,_⟩:=sqN1 N5_4;refine sqsk ?_;refine hK.out _ _ ?_;clear hK K;refine done_ (done_of HT_.out (by kernel_rfl)) ?_
    try go_wp2
    go_meet
    case rel=>exact ⟨_,(t11),(t12),H',⟨by have:=HJ2.out;first | omega | exact Nat.le_refl _⟩,⟨sqT B0⟩,⟨sqT B1⟩,⟨sqT B2⟩,⟨sqT B3⟩,⟨sqP B4⟩,⟨sqT B5⟩,sqh HB⟩
   case rest =>
    clear HC41;obtain ⟨kq,x1,x2,HA,HJ40,B0,B1,B2,B3,B4,B5,HB⟩:=hcut;cases kq with
    | zero=>exact absurd HA.out (by simp [impl_rangeRem.j1])
    | succ kj40 =>
     have H:=HA.out;clear HA;simp only [impl_rangeRem.j1] at H;replace H:=sqbi H;obtain ⟨t13,A75,H⟩:=H;(try dsimp only at H)
     by_cases c76 : t13 = true
     ·subst c76;rw [if_pos rfl] at H;replace H:=sqbi H;obtain ⟨t14,A77,H⟩:=H;(try dsimp only at H);rcases sqI (t14 = true) with c78 | c78
      ·replace c78:=Bool.eq_false_iff.mpr c78;subst c78;rw [sqff] at H;simp only [Option.some.injEq,Prod.mk.injEq] at H;obtain ⟨rfl,rfl,rfl⟩:=H;obtain ⟨_,_,_,_,_,_,_,_⟩:=sqN4 N3_0 N3_1 N3_2 N3_4;obtain ⟨_,_⟩:=sqN1 N3_5;obtain ⟨_,_,_,_,_,_,_,_⟩:=sqc4 B3;go_wp2_with (first | ((with_reducible refine gd 10 rfl ?_);refine sqX 10 #[.int .i64 0,.int .i64 0] 24 HB ?_;clear HB;intro gb6 hg w115 hb B6 GW6 HB;have N0_6:=sqn B0 hg;have N6_0:=sqm B0 hg;have N1_6:=sqn B1 hg;have N6_1:=sqm B1 hg;have N2_6:=sqn B2 hg;have N6_2:=sqm B2 hg;have N3_6:=sqn B3 hg;have N6_3:=sqm B3 hg;have N4_6:=sqn B4 hg;have N6_4:=sqm B4 hg;have N5_6:=sqn B5 hg;have N6_5:=sqm B5 hg;refine sqM6 B0 B1 B2 B3 B4 B5 hb ?_;clear B0 B1 B2 B3 B4 B5;intro B0 B1 B2 B3 B4 B5;clear hb hg;obtain ⟨_,_,_,_,_,_,_,_⟩:=sqN4 N6_0 N6_1 N6_2 N6_3;obtain ⟨_,_,_,_⟩:=sqN2 N6_4 N6_5;obtain ⟨_,_,_,_⟩:=sqc2 B6) | ((with_reducible refine gf 28 rfl ?_);refine sqLb rfl (some 51) Try.func28 (impl_Range_empty.calls _ _ _ _ A75.out) ?_;intro w123 hb;replace B0:=sqbb B0 hb;replace B1:=sqbb B1 hb;replace B2:=sqbb B2 hb;replace B3:=sqbb B3 hb;replace B4:=sqbb B4 hb;replace B5:=sqbb B5 hb;replace B6:=sqPb (ds:=#[.int .i64 t4,.int .i64 t5]) B6 hb;replace HB:=sqs HB hb;(try clear hb);obtain ⟨_,_,_,_,_,_,_,_⟩:=sqN4 N1_0 N1_2 N1_4 N1_5;obtain ⟨_,_,_,_⟩:=sqc2 B1) | ((with_reducible refine gf 12 rfl ?_);refine sqLb rfl (some 62) Try.func12 (impl_RangeHas.calls _ _ _ _ _ A77.out) ?_;intro w129 hb;refine sqM7 B0 B1 B2 B3 B4 B5 B6 hb ?_;clear B0 B1 B2 B3 B4 B5 B6;intro B0 B1 B2 B3 B4 B5 B6;replace HB:=sqs HB hb;(try clear hb);obtain ⟨_,_,_,_,_,_⟩:=sqN3 N4_0 N4_2 N4_5;obtain ⟨_,_,_,_⟩:=sqc2 B4;obtain ⟨_,_,_,_⟩:=sqN2 N2_0 N2_5;obtain ⟨_,_,_,_⟩:=sqc2 B2));refine bodyPost_ret (results_ct rfl _ _ gb2 24 #[.int .i64 x1,.int .i64 x2] (0,0) _ rfl (sqP B2) Try.underlying24 rfl (by kernel_rfl)) rfl ?_;exact ⟨_,sqEw,sqnil,sqB HB⟩
      subst c78;rw [if_pos rfl] at H;obtain ⟨z4,z0⟩ : ∃ y_ : List Int,y_ = (([2] : List Int)):=⟨_,rfl⟩
      replace H : (some (x1,x2,z4)) = some (r1,r2,r3):=by first | (rw [z0];with_reducible exact H) | (have H2_:=(Option.bind_some _ _).symm.trans H;rw [z0];with_reducible exact H2_) | (have H2_:=(Option.bind_some _ _).symm.trans H;with_reducible exact H2_) | with_reducible exact H | (rw [z0];exact H) | exact H
      have z2:=Aside0.mk z0;clear z0;simp only [Option.some.injEq,Prod.mk.injEq] at H;obtain ⟨rfl,rfl,rfl⟩:=H;obtain ⟨_,_,_,_,_,_,_,_⟩:=sqN4 N3_0 N3_1 N3_2 N3_4;obtain ⟨_,_⟩:=sqN1 N3_5;obtain ⟨_,_,_,_,_,_,_,_⟩:=sqc4 B3;go_wp2_with (first | ((with_reducible refine gd 10 rfl ?_);refine sqX 10 #[.int .i64 0,.int .i64 0] 24 HB ?_;clear HB;intro gb6 hg w85 hb B6 GW6 HB;have N0_6:=sqn B0 hg;have N6_0:=sqm B0 hg;have N1_6:=sqn B1 hg;have N6_1:=sqm B1 hg;have N2_6:=sqn B2 hg;have N6_2:=sqm B2 hg;have N3_6:=sqn B3 hg;have N6_3:=sqm B3 hg;have N4_6:=sqn B4 hg;have N6_4:=sqm B4 hg;have N5_6:=sqn B5 hg;have N6_5:=sqm B5 hg;refine sqM6 B0 B1 B2 B3 B4 B5 hb ?_;clear B0 B1 B2 B3 B4 B5;intro B0 B1 B2 B3 B4 B5;clear hb hg;obtain ⟨_,_,_,_,_,_,_,_⟩:=sqN4 N6_0 N6_1 N6_2 N6_3;obtain ⟨_,_,_,_⟩:=sqN2 N6_4 N6_5;obtain ⟨_,_,_,_⟩:=sqc2 B6) | ((with_reducible refine gf 28 rfl ?_);refine sqLb rfl (some 51) Try.func28 (impl_Range_empty.calls _ _ _ _ A75.out) ?_;intro w93 hb;replace B0:=sqbb B0 hb;replace B1:=sqbb B1 hb;replace B2:=sqbb B2 hb;replace B3:=sqbb B3 hb;replace B4:=sqbb B4 hb;replace B5:=sqbb B5 hb;replace B6:=sqPb (ds:=#[.int .i64 t4,.int .i64 t5]) B6 hb;replace HB:=sqs HB hb;(try clear hb);obtain ⟨_,_,_,_,_,_,_,_⟩:=sqN4 N1_0 N1_2 N1_4 N1_5;obtain ⟨_,_,_,_⟩:=sqc2 B1) | ((with_reducible refine gf 12 rfl ?_);refine sqLb rfl (some 62) Try.func12 (impl_RangeHas.calls _ _ _ _ _ A77.out) ?_;intro w99 hb;refine sqM7 B0 B1 B2 B3 B4 B5 B6 hb ?_;clear B0 B1 B2 B3 B4 B5 B6;intro B0 B1 B2 B3 B4 B5 B6;replace HB:=sqs HB hb;(try clear hb);obtain ⟨_,_,_,_,_,_⟩:=sqN3 N4_0 N4_2 N4_5;obtain ⟨_,_,_,_⟩:=sqc2 B4) | ((with_reducible refine gd 64 rfl ?_);refine Kd.R_lit (Kd.int .i64) _ 3 ?hg (N:=64) ?hd (xs:=([2] : List Int)) (inner:=[.int .i64 2]) (ok:=fun _=>True) (okp:=fun _=>True) ?hr ?hp (fun _ hk=>hk) trivial (Below.refl _ _) (Nat.le_refl _) (by simp) ?_;(case hd=>rfl);(case hg=>rfl);(case hr=>first | (go_simp;done) | (go_simp;rfl));(case hp=>exact (Reps.one (show Kd.M (Kd.int .i64) _ _ _ 2 [.int .i64 2] from rfl) (Reps.none _ _)));intro za w104 ho105 hb hg_ hnew_;clear hg_ hnew_;(first | rw [← z2.out] at ho105 | (simp only [Int.reduceToNat] at ho105;rw [← z2.out] at ho105));have z5:=Aside0.mk (Kd.R_lower ho105 (below_size (sqB HB)));refine sqM7 B0 B1 B2 B3 B4 B5 B6 hb ?_;clear B0 B1 B2 B3 B4 B5 B6;intro B0 B1 B2 B3 B4 B5 B6;replace HB:=sqs HB hb;clear hb ho105;obtain ⟨_,_,_,_⟩:=sqN2 N2_0 N2_5;obtain ⟨_,_,_,_⟩:=sqc2 B2));refine bodyPost_ret (results_ct rfl _ _ gb2 24 #[.int .i64 x1,.int .i64 x2] (0,0) _ rfl (sqP B2) Try.underlying24 rfl (by kernel_rfl)) rfl ?_;exact ⟨_,sqEw,sqF1Rf (sqtyR z5 B2) (fun _ hk=>trivial),sqB HB⟩
     replace c76:=Bool.eq_false_iff.mpr c76;subst c76;rw [sqff] at H;replace H:=sqbi H;obtain ⟨⟨t15,t16⟩,A137,H⟩:=H;(try dsimp only at H);replace H:=sqbi H;obtain ⟨⟨t17,t18⟩,A138,H⟩:=H;(try dsimp only at H);replace H:=sqbi H;obtain ⟨t19,A139,H⟩:=H;(try dsimp only at H);rcases sqI (t19 = true) with c140 | c140
     ·replace c140:=Bool.eq_false_iff.mpr c140;subst c140;rw [sqff] at H;simp only [Option.some.injEq,Prod.mk.injEq] at H;obtain ⟨rfl,rfl,rfl⟩:=H;obtain ⟨_,_,_,_,_,_,_,_⟩:=sqN4 N3_0 N3_1 N3_2 N3_4;obtain ⟨_,_⟩:=sqN1 N3_5;obtain ⟨_,_,_,_,_,_,_,_⟩:=sqc4 B3
      try go_wp2_with (first | ((with_reducible refine gd 10 rfl ?_);refine sqX 10 #[.int .i64 0,.int .i64 0] 24 HB ?_;clear HB;intro gb6 hg w182 hb B6 GW6 HB;have N0_6:=sqn B0 hg;have N6_0:=sqm B0 hg;have N1_6:=sqn B1 hg;have N6_1:=sqm B1 hg;have N2_6:=sqn B2 hg;have N6_2:=sqm B2 hg;have N3_6:=sqn B3 hg;have N6_3:=sqm B3 hg;have N4_6:=sqn B4 hg;have N6_4:=sqm B4 hg;have N5_6:=sqn B5 hg;have N6_5:=sqm B5 hg;refine sqM6 B0 B1 B2 B3 B4 B5 hb ?_;clear B0 B1 B2 B3 B4 B5;intro B0 B1 B2 B3 B4 B5;clear hb hg;obtain ⟨_,_,_,_,_,_,_,_⟩:=sqN4 N6_0 N6_1 N6_2 N6_3;obtain ⟨_,_,_,_⟩:=sqN2 N6_4 N6_5;obtain ⟨_,_,_,_⟩:=sqc2 B6) | ((with_reducible refine gf 28 rfl ?_);refine sqLb rfl (some 51) Try.func28 (impl_Range_empty.calls _ _ _ _ A75.out) ?_;intro w190 hb;replace B0:=sqbb B0 hb;replace B1:=sqbb B1 hb;replace B2:=sqbb B2 hb;replace B3:=sqbb B3 hb;replace B4:=sqbb B4 hb;replace B5:=sqbb B5 hb;replace B6:=sqPb (ds:=#[.int .i64 t4,.int .i64 t5]) B6 hb;replace HB:=sqs HB hb;(try clear hb)))
      replace B0:=sqdr B0;replace B1:=sqdr B1;replace B2:=sqdr B2;replace B3:=sqdr B3;replace B4:=sqdr B4;replace B5:=sqdr B5;replace B6:=sqdr B6;replace HB:=sqdB HB;refine sqsT 9 (fun w'=>Ce2 w' gb4 (.int .i64 x1) (.int .i64 x2)∧Ce2 w' gb0 (.int .i64 a0_0) (.int .i64 a0_1)∧Ce2 w' gb6 (.int .i64 t4) (.int .i64 t5)) [8] sqz (fun hHeld=>?_);refine with_tabW impl_rangeRem.tab11 impl_rangeRem.bits11 (fun HT_ HW_=>?_);generalize w190.drew = w191 at B0 B1 B2 B3 B4 B5 B6 HB hHeld ⊢;refine sqp HT_ 2 55 ?_;refine sqp HT_ 4 57 ?_;refine sqw HT_ HW_ 0 53 hHeld ?_;refine sqw HT_ HW_ 1 54 hHeld ?_;refine sqw HT_ HW_ 3 56 hHeld ?_;refine sqw HT_ HW_ 5 58 hHeld ?_;refine sqo HT_ 6 59 (fun K hK=>?_);refine sqGb rfl Try.func76 (impl_rangeRemBy.calls _ _ _ _ _ _ _ _ A137.out) ?_;intro w192 hb;refine sqM7 B0 B1 B2 B3 B4 B5 B6 hb ?_;clear B0 B1 B2 B3 B4 B5 B6;intro B0 B1 B2 B3 B4 B5 B6;replace HB:=sqs HB hb;(try clear hb);refine hK.out _ _ sqz (fun hHeld=>?_);clear hK K;refine sqnm ?_;refine sqo HT_ 7 60 (fun K hK=>?_);refine sqGb rfl Try.func75 (impl_RangeJoin.calls _ _ _ _ _ _ _ _ A138.out) ?_;intro w193 hb;refine sqM7 B0 B1 B2 B3 B4 B5 B6 hb ?_;clear B0 B1 B2 B3 B4 B5 B6;intro B0 B1 B2 B3 B4 B5 B6;replace HB:=sqs HB hb;(try clear hb);refine hK.out _ _ sqz (fun hHeld=>?_);clear hK K;refine sqnm ?_;refine sqla HT_ 8 none (fun K hK=>?_);obtain ⟨_,_,_,_⟩:=sqc2 B4;obtain ⟨_,_,_,_,_,_,_,_⟩:=sqN4 N0_4 N1_4 N2_4 N3_4;obtain ⟨_,_,_,_⟩:=sqN2 N5_4 N6_4;refine sqsk ?_;refine hK.out _ _ ?_;clear hK K;refine done_ (done_of HT_.out (by kernel_rfl)) ?_;obtain ⟨_,_,_,_,_,_,_,_⟩:=sqN4 N1_0 N1_2 N1_4 N1_5;obtain ⟨_,_,_,_⟩:=sqc2 B1
      try go_wp2_with (first | ((with_reducible refine gf 12 rfl ?_);refine sqLb rfl (some 62) Try.func12 (impl_RangeHas.calls _ _ _ _ _ A139.out) ?_;intro w201 hb;replace B0:=sqbb B0 hb;replace B1:=sqbb B1 hb;replace B2:=sqbb B2 hb;replace B3:=sqbb B3 hb;replace B4:=sqPb (ds:=#[.int .i64 t17,.int .i64 t18]) B4 hb;replace B5:=sqbb B5 hb;replace B6:=sqbb B6 hb;replace HB:=sqs HB hb;(try clear hb);obtain ⟨_,_,_,_,_,_⟩:=sqN3 N4_0 N4_2 N4_5;obtain ⟨_,_,_,_⟩:=sqc2 B4;obtain ⟨_,_,_,_⟩:=sqN2 N2_0 N2_5;obtain ⟨_,_,_,_⟩:=sqc2 B2))
      refine bodyPost_ret (results_ct rfl _ _ gb2 24 #[.int .i64 t17,.int .i64 t18] (0,0) _ rfl (sqP B2) Try.underlying24 rfl (by kernel_rfl)) rfl ?_;exact ⟨_,sqEw,sqnil,sqB HB⟩
     subst c140;rw [if_pos rfl] at H;obtain ⟨z6,z1⟩ : ∃ y_ : List Int,y_ = (([2] : List Int)):=⟨_,rfl⟩
     replace H : (some (t17,t18,z6)) = some (r1,r2,r3):=by first | (rw [z1];with_reducible exact H) | (have H2_:=(Option.bind_some _ _).symm.trans H;rw [z1];with_reducible exact H2_) | (have H2_:=(Option.bind_some _ _).symm.trans H;with_reducible exact H2_) | with_reducible exact H | (rw [z1];exact H) | exact H
     have z3:=Aside0.mk z1;clear z1;simp only [Option.some.injEq,Prod.mk.injEq] at H;obtain ⟨rfl,rfl,rfl⟩:=H;obtain ⟨_,_,_,_,_,_,_,_⟩:=sqN4 N3_0 N3_1 N3_2 N3_4;obtain ⟨_,_⟩:=sqN1 N3_5;obtain ⟨_,_,_,_,_,_,_,_⟩:=sqc4 B3
     try go_wp2_with (first | ((with_reducible refine gd 10 rfl ?_);refine sqX 10 #[.int .i64 0,.int .i64 0] 24 HB ?_;clear HB;intro gb6 hg w147 hb B6 GW6 HB;have N0_6:=sqn B0 hg;have N6_0:=sqm B0 hg;have N1_6:=sqn B1 hg;have N6_1:=sqm B1 hg;have N2_6:=sqn B2 hg;have N6_2:=sqm B2 hg;have N3_6:=sqn B3 hg;have N6_3:=sqm B3 hg;have N4_6:=sqn B4 hg;have N6_4:=sqm B4 hg;have N5_6:=sqn B5 hg;have N6_5:=sqm B5 hg;refine sqM6 B0 B1 B2 B3 B4 B5 hb ?_;clear B0 B1 B2 B3 B4 B5;intro B0 B1 B2 B3 B4 B5;clear hb hg;obtain ⟨_,_,_,_,_,_,_,_⟩:=sqN4 N6_0 N6_1 N6_2 N6_3;obtain ⟨_,_,_,_⟩:=sqN2 N6_4 N6_5;obtain ⟨_,_,_,_⟩:=sqc2 B6) | ((with_reducible refine gf 28 rfl ?_);refine sqLb rfl (some 51) Try.func28 (impl_Range_empty.calls _ _ _ _ A75.out) ?_;intro w155 hb;replace B0:=sqbb B0 hb;replace B1:=sqbb B1 hb;replace B2:=sqbb B2 hb;replace B3:=sqbb B3 hb;replace B4:=sqbb B4 hb;replace B5:=sqbb B5 hb;replace B6:=sqPb (ds:=#[.int .i64 t4,.int .i64 t5]) B6 hb;replace HB:=sqs HB hb;(try clear hb)))
     replace B0:=sqdr B0;replace B1:=sqdr B1;replace B2:=sqdr B2;replace B3:=sqdr B3;replace B4:=sqdr B4;replace B5:=sqdr B5;replace B6:=sqdr B6;replace HB:=sqdB HB;refine sqsT 9 (fun w'=>Ce2 w' gb4 (.int .i64 x1) (.int .i64 x2)∧Ce2 w' gb0 (.int .i64 a0_0) (.int .i64 a0_1)∧Ce2 w' gb6 (.int .i64 t4) (.int .i64 t5)) [8] sqz (fun hHeld=>?_);refine with_tabW impl_rangeRem.tab11 impl_rangeRem.bits11 (fun HT_ HW_=>?_);generalize w155.drew = w156 at B0 B1 B2 B3 B4 B5 B6 HB hHeld ⊢;refine sqp HT_ 2 55 ?_;refine sqp HT_ 4 57 ?_;refine sqw HT_ HW_ 0 53 hHeld ?_;refine sqw HT_ HW_ 1 54 hHeld ?_;refine sqw HT_ HW_ 3 56 hHeld ?_;refine sqw HT_ HW_ 5 58 hHeld ?_;refine sqo HT_ 6 59 (fun K hK=>?_);refine sqGb rfl Try.func76 (impl_rangeRemBy.calls _ _ _ _ _ _ _ _ A137.out) ?_;intro w157 hb;refine sqM7 B0 B1 B2 B3 B4 B5 B6 hb ?_;clear B0 B1 B2 B3 B4 B5 B6;intro B0 B1 B2 B3 B4 B5 B6;replace HB:=sqs HB hb;(try clear hb);refine hK.out _ _ sqz (fun hHeld=>?_);clear hK K;refine sqnm ?_;refine sqo HT_ 7 60 (fun K hK=>?_);refine sqGb rfl Try.func75 (impl_RangeJoin.calls _ _ _ _ _ _ _ _ A138.out) ?_;intro w158 hb;refine sqM7 B0 B1 B2 B3 B4 B5 B6 hb ?_;clear B0 B1 B2 B3 B4 B5 B6;intro B0 B1 B2 B3 B4 B5 B6;replace HB:=sqs HB hb;(try clear hb);refine hK.out _ _ sqz (fun hHeld=>?_);clear hK K;refine sqnm ?_;refine sqla HT_ 8 none (fun K hK=>?_);obtain ⟨_,_,_,_⟩:=sqc2 B4;obtain ⟨_,_,_,_,_,_,_,_⟩:=sqN4 N0_4 N1_4 N2_4 N3_4;obtain ⟨_,_,_,_⟩:=sqN2 N5_4 N6_4;refine sqsk ?_;refine hK.out _ _ ?_;clear hK K;refine done_ (done_of HT_.out (by kernel_rfl)) ?_;obtain ⟨_,_,_,_,_,_,_,_⟩:=sqN4 N1_0 N1_2 N1_4 N1_5;obtain ⟨_,_,_,_⟩:=sqc2 B1
     try go_wp2_with (first | ((with_reducible refine gf 12 rfl ?_);refine sqLb rfl (some 62) Try.func12 (impl_RangeHas.calls _ _ _ _ _ A139.out) ?_;intro w166 hb;replace B0:=sqbb B0 hb;replace B1:=sqbb B1 hb;replace B2:=sqbb B2 hb;replace B3:=sqbb B3 hb;replace B4:=sqPb (ds:=#[.int .i64 t17,.int .i64 t18]) B4 hb;replace B5:=sqbb B5 hb;replace B6:=sqbb B6 hb;replace HB:=sqs HB hb;(try clear hb);obtain ⟨_,_,_,_,_,_⟩:=sqN3 N4_0 N4_2 N4_5;obtain ⟨_,_,_,_⟩:=sqc2 B4) | ((with_reducible refine gd 64 rfl ?_);refine Kd.R_lit (Kd.int .i64) _ 3 ?hg (N:=64) ?hd (xs:=([2] : List Int)) (inner:=[.int .i64 2]) (ok:=fun _=>True) (okp:=fun _=>True) ?hr ?hp (fun _ hk=>hk) trivial (Below.refl _ _) (Nat.le_refl _) (by simp) ?_;(case hd=>rfl);(case hg=>rfl);(case hr=>first | (go_simp;done) | (go_simp;rfl));(case hp=>exact (Reps.one (show Kd.M (Kd.int .i64) _ _ _ 2 [.int .i64 2] from rfl) (Reps.none _ _)));intro zb w171 ho172 hb hg_ hnew_;clear hg_ hnew_;(first | rw [← z3.out] at ho172 | (simp only [Int.reduceToNat] at ho172;rw [← z3.out] at ho172));have z7:=Aside0.mk (Kd.R_lower ho172 (below_size (sqB HB)));refine sqM7 B0 B1 B2 B3 B4 B5 B6 hb ?_;clear B0 B1 B2 B3 B4 B5 B6;intro B0 B1 B2 B3 B4 B5 B6;replace HB:=sqs HB hb;clear hb ho172;obtain ⟨_,_,_,_⟩:=sqN2 N2_0 N2_5;obtain ⟨_,_,_,_⟩:=sqc2 B2))
     refine bodyPost_ret (results_ct rfl _ _ gb2 24 #[.int .i64 t17,.int .i64 t18] (0,0) _ rfl (sqP B2) Try.underlying24 rfl (by kernel_rfl)) rfl ?_;exact ⟨_,sqEw,sqF1Rf (sqtyR z7 B2) (fun _ hk=>trivial),sqB HB⟩

/-! ### impl_rangeBits: function 36 -/
theorem impl_rangeBits.calls (k : Nat) (a0 : Int) (a1_0 : Int) (a1_1 : Int) (a2_0 : Int) (a2_1 : Int) (r1 : Int) (r2 : Int) (w : World) (h : impl_rangeBits.f k a0 a1_0 a1_1 a2_0 a2_1 = some (r1,r2)) :
  Calls Try.prog 36 #[.int .i64 a0,.agg #[.int .i64 a1_0,.int .i64 a1_1],.agg #[.int .i64 a2_0,.int .i64 a2_1]] w fun e w'=>e = .returned (.agg #[.int .i64 r1,.int .i64 r2])∧Below w.heap.size w w':=by
 have hu24:=Try.underlying24;have HB:=Aside0.mk (Below.refl w.heap.size w);have H:=h;unfold impl_rangeBits.f at H;clear h;have HC4:=Aside0.mk H;clear H;go_enter Try.func36,Try.ntmps36;go_upto_region 1 with (first | ((with_reducible refine gd 4 rfl ?_);refine sqX 4 #[.int .i64 a1_0,.int .i64 a1_1] 24 HB ?_;clear HB;intro gb0 hg w5 hb B0 GW0 HB;clear hb hg) | ((with_reducible refine gd 5 rfl ?_);refine sqX 5 #[.int .i64 a2_0,.int .i64 a2_1] 24 HB ?_;clear HB;intro gb1 hg w6 hb B1 GW1 HB;have N0_1:=sqn B0 hg;have N1_0:=sqm B0 hg;replace B0:=sqb B0 hb;clear hb hg) | ((with_reducible refine gd 6 rfl ?_);refine sqX 6 #[.int .i64 0,.int .i64 0] 24 HB ?_;clear HB;intro gb2 hg w7 hb B2 GW2 HB;have N0_2:=sqn B0 hg;have N2_0:=sqm B0 hg;have N1_2:=sqn B1 hg;have N2_1:=sqm B1 hg;refine sqM2 B0 B1 hb ?_;clear B0 B1;intro B0 B1;clear hb hg))
 (try simp only [Act.put,List.setIfInBounds_toArray,List.set_cons_zero,List.set_cons_succ])
 go_cut [14] (fun v14 wc=>∃ (kq : Nat) (x0 : Bool),v14 = .bool x0∧Aside0 (impl_rangeBits.j0 kq a0 x0 a1_0 a1_1 a2_0 a2_1 = some (r1,r2))∧Aside0 (kq ≤ k)∧Aside0 (wc.heap[gb0]? = some (.cells #[.int .i64 a1_0,.int .i64 a1_1] 24 (0,0)))∧Aside0 (wc.heap[gb1]? = some (.cells #[.int .i64 a2_0,.int .i64 a2_1] 24 (0,0)))∧Aside0 (wc.heap[gb2]? = some (.cells #[.int .i64 0,.int .i64 0] 24 (0,0)))∧Aside0 (Below w.heap.size w wc))
 case first =>
  have H:=HC4.out;clear HC4;replace H:=sqbi H;obtain ⟨t0,A8,H⟩:=H;(try dsimp only at H);rcases sqI (t0 = true) with c9 | c9
  ·replace c9:=Bool.eq_false_iff.mpr c9;subst c9;rw [sqff] at H;have H':=Aside0.mk H;clear H;obtain ⟨_,_,_,_⟩:=sqN2 N0_1 N0_2;obtain ⟨_,_,_,_⟩:=sqc2 B0;go_wp2_with (first | ((with_reducible refine gf 74 rfl ?_);refine sqLb rfl (some 10) Try.func74 (impl_Range_single.calls _ _ _ _ A8.out) ?_;intro w21 hb;refine sqM3 B0 B1 B2 hb ?_;clear B0 B1 B2;intro B0 B1 B2;replace HB:=sqs HB hb;(try clear hb)));go_meet
   case rel=>exact ⟨_,(false),sqE,H',⟨sqle⟩,sqk B0,sqk B1,sqk B2,sqh HB⟩
  subst c9;rw [if_pos rfl] at H;replace H:=sqbi H;obtain ⟨t1,A10,H⟩:=H;(try dsimp only at H);have H':=Aside0.mk H;clear H;obtain ⟨_,_,_,_⟩:=sqN2 N0_1 N0_2;obtain ⟨_,_,_,_⟩:=sqc2 B0;go_wp2_with (first | ((with_reducible refine gf 74 rfl ?_);refine sqLb rfl (some 10) Try.func74 (impl_Range_single.calls _ _ _ _ A8.out) ?_;intro w14 hb;refine sqM3 B0 B1 B2 hb ?_;clear B0 B1 B2;intro B0 B1 B2;replace HB:=sqs HB hb;(try clear hb);obtain ⟨_,_⟩:=sqN1 N1_2;obtain ⟨_,_,_,_⟩:=sqc2 B1) | (go_at_call 74;(with_reducible refine (impl_Range_single.calls a2_0 a2_1 t1 _ A10.out).mono ?_);rintro e w17 ⟨rfl,hb⟩;refine sqM3 B0 B1 B2 hb ?_;clear B0 B1 B2;intro B0 B1 B2;replace HB:=sqs HB hb;(try clear hb)));go_meet
  case rel=>exact ⟨_,(t1),sqE,H',⟨sqle⟩,sqk B0,sqk B1,sqk B2,sqh HB⟩
 case rest =>
  clear HC4;obtain ⟨kq,x0,rfl,HA,HJ3,B0,B1,B2,HB⟩:=hcut;cases kq with
  | zero=>exact absurd HA.out (by simp [impl_rangeBits.j0])
  | succ kj3 =>
   have H:=HA.out;clear HA;simp only [impl_rangeBits.j0] at H
   by_cases c22 : x0 = true
   ·subst c22;rw [if_pos rfl] at H;replace H:=sqbi H;obtain ⟨t2,A23,H⟩:=H;(try dsimp only at H);simp only [Option.some.injEq,Prod.mk.injEq] at H;obtain ⟨rfl,rfl⟩:=H;obtain ⟨_,_,_,_⟩:=sqN2 N0_1 N0_2;obtain ⟨_,_,_,_⟩:=sqc2 B0;obtain ⟨_,_⟩:=sqN1 N1_2;obtain ⟨_,_,_,_⟩:=sqc2 B1;go_wp2_with (first | ((with_reducible refine gf 49 rfl ?_);refine sqLq rfl (some 20) Try.func49 (impl_numExact.calls _ _ _ _ _ _ A23.out) ?_;intro nd;(try (rw [drewN_self wc];generalize hq_ : World.drewN wc _ = wc;replace B0:=sqq B0 hq_;replace B1:=sqq B1 hq_;replace B2:=sqq B2 hq_;replace HB:=sqr HB hq_;clear hq_;obtain ⟨zf,zg,zh,zi⟩:=sqc2 B0;obtain ⟨zj,zk,zl,zm⟩:=sqc2 B1;obtain ⟨zn,zo,zp,zq⟩:=sqc2 B2));obtain ⟨_,_,_,_⟩:=sqc2 B2));refine sqre #[.int .i64 t2,.int .i64 t2] (sqP B2) Try.underlying24 ?_;exact sqe HB
   replace c22:=Bool.eq_false_iff.mpr c22;subst c22;rw [sqff] at H;replace H:=sqj H;rcases H with ⟨c30,H⟩ | ⟨c30,H⟩
   ·have z9 : (a0 == 6) = true:=beq_iff_eq.mpr c30;have za : (a0 != 6) = false:=bne_eq_false_iff_eq.mpr c30;clear c30;have HC31:=Aside0.mk H;clear H;go_upto_region 5 with (fail);go_cut [26] (fun v26 wc=>∃ (kq : Nat) (x1 : Bool),v26 = .bool x1∧Aside0 (impl_rangeBits.j1 kq x1 a1_0 a1_1 a2_0 a2_1 = some (r1,r2))∧Aside0 (kq ≤ kj3)∧Aside0 (wc.heap[gb0]? = some (.cells #[.int .i64 a1_0,.int .i64 a1_1] 24 (0,0)))∧Aside0 (wc.heap[gb1]? = some (.cells #[.int .i64 a2_0,.int .i64 a2_1] 24 (0,0)))∧Aside0 (wc.heap[gb2]? = some (.cells #[.int .i64 0,.int .i64 0] 24 (0,0)))∧Aside0 (Below w.heap.size w wc))
    case first =>
     have H:=HC31.out;clear HC31;replace H:=sqi H;rcases H with ⟨c32,H⟩ | ⟨c32,H⟩
     ·have z0 : decide (0 ≤ a1_0) = false:=decide_eq_false c32;clear c32
      (first | rw [z0] | (simp only [i64_w,i32_w];rw [z0]) | skip)
      have H':=Aside0.mk H;clear H;obtain ⟨_,_,_,_⟩:=sqN2 N0_1 N0_2;obtain ⟨_,_,_,_⟩:=sqc2 B0
      go_wp2
      go_meet
      case rel=>exact ⟨_,(false),sqE,H',⟨by have:=HJ3.out;first | omega | exact Nat.le_refl _⟩,sqk B0,sqk B1,sqk B2,sqh HB⟩
     have z0 : decide (0 ≤ a1_0) = true:=decide_eq_true c32;clear c32
     (first | rw [z0] | (simp only [i64_w,i32_w];rw [z0]) | skip)
     have H':=Aside0.mk H;clear H;obtain ⟨_,_,_,_⟩:=sqN2 N0_1 N0_2;obtain ⟨_,_,_,_⟩:=sqc2 B0;obtain ⟨_,_⟩:=sqN1 N1_2;obtain ⟨_,_,_,_⟩:=sqc2 B1
     go_wp2
     go_meet
     case rel=>exact ⟨_,(decide (a2_0 ≥ 0)),sqE,H',⟨by have:=HJ3.out;first | omega | exact Nat.le_refl _⟩,sqk B0,sqk B1,sqk B2,sqh HB⟩
    case rest =>
     clear HC31;obtain ⟨kq,x1,rfl,HA,HJ30,B0,B1,B2,HB⟩:=hcut;cases kq with
     | zero=>exact absurd HA.out (by simp [impl_rangeBits.j1])
     | succ kj30 =>
      have H:=HA.out;clear HA;simp only [impl_rangeBits.j1] at H
      by_cases c41 : x1 = true
      ·subst c41;rw [if_pos rfl] at H;obtain ⟨z5,z3⟩ : ∃ j_ : Int,(mn a1_1 a2_1) = j_:=⟨_,rfl⟩
       replace H : (some (0,z5)) = some (r1,r2):=by first | (rw [z3] at H;exact H) | (simp only [z3] at H ⊢;exact H)
       have zr : (if a2_1 < a1_1 then a2_1 else a1_1) = z5:=z3;simp only [Option.some.injEq,Prod.mk.injEq] at H;obtain ⟨rfl,rfl⟩:=H;obtain ⟨_,_,_,_⟩:=sqN2 N0_1 N0_2;obtain ⟨_,_,_,_⟩:=sqc2 B0;obtain ⟨_,_⟩:=sqN1 N1_2;obtain ⟨_,_,_,_⟩:=sqc2 B1;obtain ⟨_,_,_,_⟩:=sqc2 B2
       go_wp2
       refine sqre #[.int .i64 0,.int .i64 z5] (sqP B2) Try.underlying24 ?_;exact ⟨by first | rfl | (simp [errW_none,errW_some] <;> rfl) | (simp only [← z3];first | rfl | (simp [errW_none,errW_some] <;> rfl)) | (simp [*,errW_none,errW_some] <;> rfl),sqB HB⟩
      replace c41:=Bool.eq_false_iff.mpr c41;subst c41;rw [sqff] at H;replace H:=sqj H;rcases H with ⟨c49,H⟩ | ⟨c49,H⟩
      ·have zb : decide (0 ≤ a1_0) = true:=decide_eq_true c49;clear c49;simp only [Option.some.injEq,Prod.mk.injEq] at H;obtain ⟨rfl,rfl⟩:=H;obtain ⟨_,_,_,_⟩:=sqN2 N0_1 N0_2;obtain ⟨_,_,_,_⟩:=sqc2 B0;obtain ⟨_,_⟩:=sqN1 N2_1;obtain ⟨_,_,_,_⟩:=sqc2 B2
       go_wp2
       refine sqre #[.int .i64 0,.int .i64 a1_1] (sqP B2) Try.underlying24 ?_;exact sqe HB
      have zb : decide (0 ≤ a1_0) = false:=decide_eq_false c49;clear c49;replace H:=sqj H;rcases H with ⟨c55,H⟩ | ⟨c55,H⟩
      ·have zc : decide (0 ≤ a2_0) = true:=decide_eq_true c55;clear c55;simp only [Option.some.injEq,Prod.mk.injEq] at H;obtain ⟨rfl,rfl⟩:=H;obtain ⟨_,_,_,_⟩:=sqN2 N0_1 N0_2;obtain ⟨_,_,_,_⟩:=sqc2 B0;obtain ⟨_,_⟩:=sqN1 N1_2;obtain ⟨_,_,_,_⟩:=sqc2 B1;obtain ⟨_,_,_,_⟩:=sqc2 B2
       go_wp2
       refine sqre #[.int .i64 0,.int .i64 a2_1] (sqP B2) Try.underlying24 ?_;exact sqe HB
      have zc : decide (0 ≤ a2_0) = false:=decide_eq_false c55;clear c55;simp only [Option.some.injEq,Prod.mk.injEq] at H;obtain ⟨rfl,rfl⟩:=H;obtain ⟨_,_,_,_⟩:=sqN2 N0_1 N0_2;obtain ⟨_,_,_,_⟩:=sqc2 B0;obtain ⟨_,_⟩:=sqN1 N1_2;obtain ⟨_,_,_,_⟩:=sqc2 B1;obtain ⟨_,_,_,_⟩:=sqc2 B2
      go_wp2
      refine sqre #[.int .i64 (-2147483648),.int .i64 2147483647] (sqP B2) Try.underlying24 ?_;exact sqe HB
   have z9 : (a0 == 6) = false:=beq_eq_false_iff_ne.mpr c30;have za : (a0 != 6) = true:=bne_iff_ne.mpr c30;have HC68:=Aside0.mk H;clear H;go_upto_region 12 with (fail);go_cut [63] (fun v63 wc=>∃ (kq : Nat) (x2 : Bool),v63 = .bool x2∧Aside0 (impl_rangeBits.j2 kq a0 x2 a1_0 a1_1 a2_0 a2_1 = some (r1,r2))∧Aside0 (kq ≤ kj3)∧Aside0 (wc.heap[gb0]? = some (.cells #[.int .i64 a1_0,.int .i64 a1_1] 24 (0,0)))∧Aside0 (wc.heap[gb1]? = some (.cells #[.int .i64 a2_0,.int .i64 a2_1] 24 (0,0)))∧Aside0 (wc.heap[gb2]? = some (.cells #[.int .i64 0,.int .i64 0] 24 (0,0)))∧Aside0 (Below w.heap.size w wc))
   case first =>
    have H:=HC68.out;clear HC68;replace H:=sqj H;rcases H with ⟨c69,H⟩ | ⟨c69,H⟩
    ·have z1:=decide_eq_true c69;clear c69
     (first | rw [z1] | (simp only [i64_w,i32_w];rw [z1]) | skip)
     have H':=Aside0.mk H;clear H;obtain ⟨_,_,_,_⟩:=sqN2 N0_1 N0_2;obtain ⟨_,_,_,_⟩:=sqc2 B0
     go_wp2
     go_meet
     case rel=>exact ⟨_,(true),sqE,H',⟨by have:=HJ3.out;first | omega | exact Nat.le_refl _⟩,sqk B0,sqk B1,sqk B2,sqh HB⟩
    have z1:=decide_eq_false c69;clear c69
    (first | rw [z1] | (simp only [i64_w,i32_w];rw [z1]) | skip)
    have H':=Aside0.mk H;clear H;obtain ⟨_,_,_,_⟩:=sqN2 N0_1 N0_2;obtain ⟨_,_,_,_⟩:=sqc2 B0;obtain ⟨_,_⟩:=sqN1 N1_2;obtain ⟨_,_,_,_⟩:=sqc2 B1
    go_wp2
    go_meet
    case rel=>exact ⟨_,(decide (a2_0 < 0)),sqE,H',⟨by have:=HJ3.out;first | omega | exact Nat.le_refl _⟩,sqk B0,sqk B1,sqk B2,sqh HB⟩
   case rest =>
    clear HC68;obtain ⟨kq,x2,rfl,HA,HJ67,B0,B1,B2,HB⟩:=hcut;cases kq with
    | zero=>exact absurd HA.out (by simp [impl_rangeBits.j2])
    | succ kj67 =>
     have H:=HA.out;clear HA;simp only [impl_rangeBits.j2] at H
     by_cases c78 : x2 = true
     ·subst c78;rw [if_pos rfl] at H;simp only [Option.some.injEq,Prod.mk.injEq] at H;obtain ⟨rfl,rfl⟩:=H;obtain ⟨_,_,_,_⟩:=sqN2 N2_0 N2_1;obtain ⟨_,_,_,_⟩:=sqc2 B2
      go_wp2
      refine sqre #[.int .i64 (-2147483648),.int .i64 2147483647] (sqP B2) Try.underlying24 ?_;exact sqe HB
     replace c78:=Bool.eq_false_iff.mpr c78;subst c78;rw [sqff] at H;have HC82:=Aside0.mk H;clear H
     go_upto_if 67 with (first | ((with_reducible refine gd 8 rfl ?_);refine sqX 8 #[.int .i64 0,.int .i64 0] 24 HB ?_;clear HB;intro gb3 hg w83 hb B3 GW3 HB;have N0_3:=sqn B0 hg;have N3_0:=sqm B0 hg;have N1_3:=sqn B1 hg;have N3_1:=sqm B1 hg;have N2_3:=sqn B2 hg;have N3_2:=sqm B2 hg;refine sqM3 B0 B1 B2 hb ?_;clear B0 B1 B2;intro B0 B1 B2;clear hb hg;obtain ⟨_,_,_,_,_,_⟩:=sqN3 N3_0 N3_1 N3_2;obtain ⟨_,_,_,_⟩:=sqc2 B3))
     (try simp only [Act.put,List.setIfInBounds_toArray,List.set_cons_zero,List.set_cons_succ])
     go_cut [] (fun wc=>∃ (kq : Nat) (x3 : Int),Aside0 (impl_rangeBits.j3 kq a1_0 a1_1 a2_0 a2_1 x3 0 = some (r1,r2))∧Aside0 (kq ≤ kj67)∧Aside0 (wc.heap[gb0]? = some (.cells #[.int .i64 a1_0,.int .i64 a1_1] 24 (0,0)))∧Aside0 (wc.heap[gb1]? = some (.cells #[.int .i64 a2_0,.int .i64 a2_1] 24 (0,0)))∧Aside0 (wc.heap[gb2]? = some (.cells #[.int .i64 0,.int .i64 0] 24 (0,0)))∧Aside0 (wc.heap[gb3]? = some (.cells #[.int .i64 x3,.int .i64 0] 24 (0,0)))∧Aside0 (Below w.heap.size w wc))
     case first =>
      have H:=HC82.out;clear HC82;replace H:=sqi H;rcases H with ⟨c88,H⟩ | ⟨c88,H⟩
      ·have z2 : (a0 == 7) = false:=beq_eq_false_iff_ne.mpr c88;have zd : (a0 != 7) = true:=bne_iff_ne.mpr c88
       (first | rw [z2] | (simp only [i64_w,i32_w];rw [z2]) | skip)
       have H':=Aside0.mk H;clear H
       go_wp2
       go_meet
       case rel=>exact ⟨_,(0),H',⟨by have:=HJ3.out;have:=HJ67.out;first | omega | exact Nat.le_refl _⟩,⟨sqT B0⟩,⟨sqT B1⟩,⟨sqT B2⟩,⟨sqP B3⟩,sqh HB⟩
      have z2 : (a0 == 7) = true:=beq_iff_eq.mpr c88;have zd : (a0 != 7) = false:=bne_eq_false_iff_eq.mpr c88;clear c88
      (first | rw [z2] | (simp only [i64_w,i32_w];rw [z2]) | skip)
      obtain ⟨z6,z7⟩ : ∃ j_ : Int,(mx a1_0 a2_0) = j_:=⟨_,rfl⟩
      replace H : (impl_rangeBits.j3 kj67 a1_0 a1_1 a2_0 a2_1 z6 0) = some (r1,r2):=by first | (rw [z7] at H;exact H) | (simp only [z7] at H ⊢;exact H)
      have zt : (if a1_0 < a2_0 then a2_0 else a1_0) = z6:=z7;have H':=Aside0.mk H;clear H;obtain ⟨_,_,_,_,_,_⟩:=sqN3 N0_1 N0_2 N0_3;obtain ⟨_,_,_,_⟩:=sqc2 B0;obtain ⟨_,_,_,_⟩:=sqN2 N1_2 N1_3;obtain ⟨_,_,_,_⟩:=sqc2 B1;obtain ⟨_,_⟩:=sqN1 N3_2;obtain ⟨_,_,_,_⟩:=sqc2 B3
      go_wp2
      go_meet
      case rel=>exact ⟨_,(z6),H',⟨by have:=HJ3.out;have:=HJ67.out;first | omega | exact Nat.le_refl _⟩,⟨sqT B0⟩,⟨sqT B1⟩,⟨sqT B2⟩,⟨sqP B3⟩,sqh HB⟩
     case rest =>
      clear HC82;obtain ⟨kq,x3,HA,HJ81,B0,B1,B2,B3,HB⟩:=hcut;cases kq with
      | zero=>exact absurd HA.out (by simp [impl_rangeBits.j3])
      | succ kj81 =>
       have H:=HA.out;clear HA;simp only [impl_rangeBits.j3] at H;have H':=Aside0.mk H;clear H
       go_wp2
       go_loopg [] kj81 (fun kq w'=>∃ (x4 : Int),Aside0 (impl_rangeBits.l0 kq a1_0 a1_1 a2_0 a2_1 x3 x4 = some (r1,r2))∧Aside0 (kq ≤ kj81)∧Aside0 (w'.heap[gb0]? = some (.cells #[.int .i64 a1_0,.int .i64 a1_1] 24 (0,0)))∧Aside0 (w'.heap[gb1]? = some (.cells #[.int .i64 a2_0,.int .i64 a2_1] 24 (0,0)))∧Aside0 (w'.heap[gb2]? = some (.cells #[.int .i64 0,.int .i64 0] 24 (0,0)))∧Aside0 (w'.heap[gb3]? = some (.cells #[.int .i64 x3,.int .i64 x4] 24 (0,0)))∧Aside0 (Below w.heap.size w w'))
       case atStart=>exact ⟨(0),H',⟨Nat.le_refl _⟩,sqk B0,sqk B1,sqk B2,sqk B3,sqh HB⟩
       case round =>
        clear H';obtain ⟨x4,HA,HK4,B0,B1,B2,B3,HB⟩:=hrel;cases gk with
        | zero=>exact absurd HA.out (by simp [impl_rangeBits.l0])
        | succ k4 =>
         have H:=HA.out;clear HA;simp only [impl_rangeBits.l0] at H;obtain ⟨z8,z4⟩ : ∃ j_ : Int,(mx a1_1 a2_1) = j_:=⟨_,rfl⟩
         replace H : (if x4 < (z8) then (impl_rangeBits.l0 k4 a1_0 a1_1 a2_0 a2_1 x3 (wrap64 ((wrap64 (2 * x4)) + 1))) else (some (x3,x4))) = some (r1,r2):=by first | (rw [z4] at H;exact H) | (simp only [z4] at H ⊢;exact H)
         have zu : (if a1_1 < a2_1 then a2_1 else a1_1) = z8:=z4;replace H:=sqj H;rcases H with ⟨c100,H⟩ | ⟨c100,H⟩
         ·have ze:=decide_eq_true c100;clear c100;have H':=Aside0.mk H;clear H;obtain ⟨_,_,_,_,_,_⟩:=sqN3 N3_0 N3_1 N3_2;obtain ⟨_,_,_,_⟩:=sqc2 B3;obtain ⟨_,_,_,_⟩:=sqN2 N0_1 N0_2;obtain ⟨_,_,_,_⟩:=sqc2 B0;obtain ⟨_,_⟩:=sqN1 N1_2;obtain ⟨_,_,_,_⟩:=sqc2 B1
          go_wp2
          go_roundg k4
          case measure=>have:=HJ3.out;have:=HJ67.out;have:=HJ81.out;have:=HK4.out;omega
          case rel=>exact ⟨(wrap64 ((wrap64 (2 * x4)) + 1)),H',⟨by have:=HJ3.out;have:=HJ67.out;have:=HJ81.out;have:=HK4.out;omega⟩,⟨sqT B0⟩,⟨sqT B1⟩,⟨sqT B2⟩,⟨sqP B3⟩,sqh HB⟩
         have ze:=decide_eq_false c100;clear c100;simp only [Option.some.injEq,Prod.mk.injEq] at H;obtain ⟨rfl,rfl⟩:=H;obtain ⟨_,_,_,_,_,_⟩:=sqN3 N3_0 N3_1 N3_2;obtain ⟨_,_,_,_⟩:=sqc2 B3;obtain ⟨_,_,_,_⟩:=sqN2 N0_1 N0_2;obtain ⟨_,_,_,_⟩:=sqc2 B0;obtain ⟨_,_⟩:=sqN1 N1_2;obtain ⟨_,_,_,_⟩:=sqc2 B1;obtain ⟨_,_,_,_⟩:=sqc2 B2
         go_wp2
         refine sqre #[.int .i64 x3,.int .i64 x4] (sqP B2) Try.underlying24 ?_;exact ⟨by first | rfl | (simp [errW_none,errW_some] <;> rfl) | (simp only [← z4];first | rfl | (simp [errW_none,errW_some] <;> rfl)) | (simp [*,errW_none,errW_some] <;> rfl),sqB HB⟩

/-! ### impl_RangeDo: function 6 -/
theorem impl_RangeDo.calls (k : Nat) (a0 : Int) (a1_0 : Int) (a1_1 : Int) (a2_0 : Int) (a2_1 : Int) (r1 : Int) (r2 : Int) (r3 : List Int) (w : World) (h : impl_RangeDo.f k a0 a1_0 a1_1 a2_0 a2_1 = some (r1,r2,r3)) :
  Calls Try.prog 6 #[.int .i64 a0,.agg #[.int .i64 a1_0,.int .i64 a1_1],.agg #[.int .i64 a2_0,.int .i64 a2_1]] w fun e w'=>∃ v2_ : Value,e = .returned (.tuple #[.agg #[.int .i64 r1,.int .i64 r2],v2_])∧Kd.R (Kd.int .i64) 3 w' w.heap.size (fun _=>True) v2_ r3∧Below w.heap.size w w':=by
 have hu24:=Try.underlying24;have HB:=Aside0.mk (Below.refl w.heap.size w);have H:=h;unfold impl_RangeDo.f at H;clear h;have HC4:=Aside0.mk H;clear H;go_enter Try.func6,Try.ntmps6;go_upto_region 1 with (first | ((with_reducible refine gd 4 rfl ?_);refine sqX 4 #[.int .i64 a1_0,.int .i64 a1_1] 24 HB ?_;clear HB;intro gb0 hg w5 hb B0 GW0 HB;clear hb hg) | ((with_reducible refine gd 5 rfl ?_);refine sqX 5 #[.int .i64 a2_0,.int .i64 a2_1] 24 HB ?_;clear HB;intro gb1 hg w6 hb B1 GW1 HB;have N0_1:=sqn B0 hg;have N1_0:=sqm B0 hg;replace B0:=sqb B0 hb;clear hb hg) | ((with_reducible refine gd 6 rfl ?_);refine sqX 6 #[.int .i64 0,.int .i64 0] 24 HB ?_;clear HB;intro gb2 hg w7 hb B2 GW2 HB;have N0_2:=sqn B0 hg;have N2_0:=sqm B0 hg;have N1_2:=sqn B1 hg;have N2_1:=sqm B1 hg;refine sqM2 B0 B1 hb ?_;clear B0 B1;intro B0 B1;clear hb hg))
 (try simp only [Act.put,List.setIfInBounds_toArray,List.set_cons_zero,List.set_cons_succ])
 go_cut [30] (fun v30 wc=>∃ (kq : Nat) (x0 : Bool),v30 = .bool x0∧Aside0 (impl_RangeDo.j0 kq a0 x0 a1_0 a1_1 a2_0 a2_1 = some (r1,r2,r3))∧Aside0 (kq ≤ k)∧Aside0 (wc.heap[gb0]? = some (.cells #[.int .i64 a1_0,.int .i64 a1_1] 24 (0,0)))∧Aside0 (wc.heap[gb1]? = some (.cells #[.int .i64 a2_0,.int .i64 a2_1] 24 (0,0)))∧Aside0 (wc.heap[gb2]? = some (.cells #[.int .i64 0,.int .i64 0] 24 (0,0)))∧Aside0 (Below w.heap.size w wc))
 case first =>
  have H:=HC4.out;clear HC4;replace H:=sqbi H;obtain ⟨t0,A8,H⟩:=H;(try dsimp only at H);rcases sqI (t0 = true) with c9 | c9
  ·replace c9:=Bool.eq_false_iff.mpr c9;subst c9;rw [sqff] at H;have H':=Aside0.mk H;clear H;go_wp2_with (first | ((with_reducible refine gf 27 rfl ?_);refine sqLq rfl (some 11) Try.func27 (impl_numOp.calls _ _ _ A8.out) ?_;intro nd));go_meet
   case rel=>exact ⟨_,(true),sqE,H',⟨sqle⟩,sqk B0,sqk B1,sqk B2,sqh HB⟩
  subst c9;rw [if_pos rfl] at H;replace H:=sqbi H;obtain ⟨t1,A10,H⟩:=H;(try dsimp only at H);rcases sqI (t1 = true) with c11 | c11
  ·replace c11:=Bool.eq_false_iff.mpr c11;subst c11;rw [sqff] at H;have H':=Aside0.mk H;clear H;go_wp2_with (first | ((with_reducible refine gf 27 rfl ?_);refine sqLq rfl (some 11) Try.func27 (impl_numOp.calls _ _ _ A8.out) ?_;intro nd;obtain ⟨_,_,_,_⟩:=sqN2 N0_1 N0_2;obtain ⟨_,_,_,_⟩:=sqc2 B0) | (go_at_call 14;(with_reducible refine (impl_RangeOk.calls a1_0 a1_1 false _ A10.out).mono ?_);rintro e w47 ⟨rfl,hb⟩;refine sqM3 B0 B1 B2 hb ?_;clear B0 B1 B2;intro B0 B1 B2;replace HB:=sqs HB hb;(try clear hb)));go_meet
   case rel=>exact ⟨_,(true),sqE,H',⟨sqle⟩,sqk B0,sqk B1,sqk B2,sqh HB⟩
  subst c11;rw [if_pos rfl] at H;replace H:=sqbi H;obtain ⟨t2,A12,H⟩:=H;(try dsimp only at H);rcases sqI (t2 = true) with c13 | c13
  ·replace c13:=Bool.eq_false_iff.mpr c13;subst c13;rw [sqff] at H;have H':=Aside0.mk H;clear H;go_wp2_with (first | ((with_reducible refine gf 27 rfl ?_);refine sqLq rfl (some 11) Try.func27 (impl_numOp.calls _ _ _ A8.out) ?_;intro nd;obtain ⟨_,_,_,_⟩:=sqN2 N0_1 N0_2;obtain ⟨_,_,_,_⟩:=sqc2 B0) | (go_at_call 14;(with_reducible refine (impl_RangeOk.calls a1_0 a1_1 true _ A10.out).mono ?_);rintro e w40 ⟨rfl,hb⟩;refine sqM3 B0 B1 B2 hb ?_;clear B0 B1 B2;intro B0 B1 B2;replace HB:=sqs HB hb;(try clear hb);obtain ⟨_,_⟩:=sqN1 N1_2;obtain ⟨_,_,_,_⟩:=sqc2 B1) | (go_at_call 14;(with_reducible refine (impl_RangeOk.calls a2_0 a2_1 false _ A12.out).mono ?_);rintro e w43 ⟨rfl,hb⟩;refine sqM3 B0 B1 B2 hb ?_;clear B0 B1 B2;intro B0 B1 B2;replace HB:=sqs HB hb;(try clear hb)));go_meet
   case rel=>exact ⟨_,(true),sqE,H',⟨sqle⟩,sqk B0,sqk B1,sqk B2,sqh HB⟩
  subst c13;rw [if_pos rfl] at H;replace H:=sqbi H;obtain ⟨t3,A14,H⟩:=H;(try dsimp only at H)
  by_cases c15 : t3 = true
  ·subst c15;rw [if_pos rfl] at H;have H':=Aside0.mk H;clear H;go_wp2_with (first | ((with_reducible refine gf 27 rfl ?_);refine sqLq rfl (some 11) Try.func27 (impl_numOp.calls _ _ _ A8.out) ?_;intro nd;obtain ⟨_,_,_,_⟩:=sqN2 N0_1 N0_2;obtain ⟨_,_,_,_⟩:=sqc2 B0) | (go_at_call 14;(with_reducible refine (impl_RangeOk.calls a1_0 a1_1 true _ A10.out).mono ?_);rintro e w19 ⟨rfl,hb⟩;refine sqM3 B0 B1 B2 hb ?_;clear B0 B1 B2;intro B0 B1 B2;replace HB:=sqs HB hb;(try clear hb);obtain ⟨_,_⟩:=sqN1 N1_2;obtain ⟨_,_,_,_⟩:=sqc2 B1) | (go_at_call 14;(with_reducible refine (impl_RangeOk.calls a2_0 a2_1 true _ A12.out).mono ?_);rintro e w22 ⟨rfl,hb⟩;refine sqM3 B0 B1 B2 hb ?_;clear B0 B1 B2;intro B0 B1 B2;replace HB:=sqs HB hb;(try clear hb);obtain ⟨_,_,_,_⟩:=sqc2 B0) | (go_at_call 28;(with_reducible refine (impl_Range_empty.calls a1_0 a1_1 true _ A14.out).mono ?_);rintro e w24 ⟨rfl,hb⟩;refine sqM3 B0 B1 B2 hb ?_;clear B0 B1 B2;intro B0 B1 B2;replace HB:=sqs HB hb;(try clear hb)));go_meet
   case rel=>exact ⟨_,(true),sqE,H',⟨sqle⟩,sqk B0,sqk B1,sqk B2,sqh HB⟩
  replace c15:=Bool.eq_false_iff.mpr c15;subst c15;rw [sqff] at H;replace H:=sqbi H;obtain ⟨t4,A25,H⟩:=H;(try dsimp only at H);have H':=Aside0.mk H;clear H;go_wp2_with (first | ((with_reducible refine gf 27 rfl ?_);refine sqLq rfl (some 11) Try.func27 (impl_numOp.calls _ _ _ A8.out) ?_;intro nd;obtain ⟨_,_,_,_⟩:=sqN2 N0_1 N0_2;obtain ⟨_,_,_,_⟩:=sqc2 B0) | (go_at_call 14;(with_reducible refine (impl_RangeOk.calls a1_0 a1_1 true _ A10.out).mono ?_);rintro e w29 ⟨rfl,hb⟩;refine sqM3 B0 B1 B2 hb ?_;clear B0 B1 B2;intro B0 B1 B2;replace HB:=sqs HB hb;(try clear hb);obtain ⟨_,_⟩:=sqN1 N1_2;obtain ⟨_,_,_,_⟩:=sqc2 B1) | (go_at_call 14;(with_reducible refine (impl_RangeOk.calls a2_0 a2_1 true _ A12.out).mono ?_);rintro e w32 ⟨rfl,hb⟩;refine sqM3 B0 B1 B2 hb ?_;clear B0 B1 B2;intro B0 B1 B2;replace HB:=sqs HB hb;(try clear hb);obtain ⟨_,_,_,_⟩:=sqc2 B0) | (go_at_call 28;(with_reducible refine (impl_Range_empty.calls a1_0 a1_1 false _ A14.out).mono ?_);rintro e w34 ⟨rfl,hb⟩;refine sqM3 B0 B1 B2 hb ?_;clear B0 B1 B2;intro B0 B1 B2;replace HB:=sqs HB hb;(try clear hb);obtain ⟨_,_,_,_⟩:=sqc2 B1) | (go_at_call 28;(with_reducible refine (impl_Range_empty.calls a2_0 a2_1 t4 _ A25.out).mono ?_);rintro e w36 ⟨rfl,hb⟩;refine sqM3 B0 B1 B2 hb ?_;clear B0 B1 B2;intro B0 B1 B2;replace HB:=sqs HB hb;(try clear hb)));go_meet
  case rel=>exact ⟨_,(t4),sqE,H',⟨sqle⟩,sqk B0,sqk B1,sqk B2,sqh HB⟩
 case rest =>
  clear HC4;obtain ⟨kq,x0,rfl,HA,HJ3,B0,B1,B2,HB⟩:=hcut;cases kq with
  | zero=>exact absurd HA.out (by simp [impl_RangeDo.j0])
  | succ kj3 =>
   have H:=HA.out;clear HA;simp only [impl_RangeDo.j0] at H
   by_cases c48 : x0 = true
   ·subst c48;rw [if_pos rfl] at H;replace H:=sqbi H;obtain ⟨⟨t5,t6⟩,A49,H⟩:=H;(try dsimp only at H);simp only [Option.some.injEq,Prod.mk.injEq] at H;obtain ⟨rfl,rfl,rfl⟩:=H;go_wp2_with (first | ((with_reducible refine gf 29 rfl ?_);refine sqLb rfl (some 31) Try.func29 (impl_rangeNone.calls _ _ _ A49.out) ?_;intro w50 hb;refine sqM3 B0 B1 B2 hb ?_;clear B0 B1 B2;intro B0 B1 B2;replace HB:=sqs HB hb;(try clear hb);obtain ⟨_,_,_,_⟩:=sqN2 N2_0 N2_1;obtain ⟨_,_,_,_⟩:=sqc2 B2));refine bodyPost_ret (results_ct rfl _ _ gb2 24 #[.int .i64 t5,.int .i64 t6] (0,0) _ rfl (sqP B2) Try.underlying24 rfl (by kernel_rfl)) rfl ?_;exact ⟨_,sqEw,sqnil,sqB HB⟩
   replace c48:=Bool.eq_false_iff.mpr c48;subst c48;rw [sqff] at H;have HC54:=Aside0.mk H;clear H
   go_upto_if 33 with (fail)
   go_cut [33] (fun v33 wc=>∃ (kq : Nat) (x1 : Bool),v33 = .bool x1∧Aside0 (impl_RangeDo.j1 kq a0 a0 x1 a1_0 a1_1 a2_0 a2_1 = some (r1,r2,r3))∧Aside0 (kq ≤ kj3)∧Aside0 (wc.heap[gb0]? = some (.cells #[.int .i64 a1_0,.int .i64 a1_1] 24 (0,0)))∧Aside0 (wc.heap[gb1]? = some (.cells #[.int .i64 a2_0,.int .i64 a2_1] 24 (0,0)))∧Aside0 (wc.heap[gb2]? = some (.cells #[.int .i64 0,.int .i64 0] 24 (0,0)))∧Aside0 (Below w.heap.size w wc))
   case first =>
    have H:=HC54.out;clear HC54;replace H:=sqj H;rcases H with ⟨c55,H⟩ | ⟨c55,H⟩
    ·have z0 : (a0 == 1) = true:=beq_iff_eq.mpr c55;have z6 : (a0 != 1) = false:=bne_eq_false_iff_eq.mpr c55;clear c55
     (first | rw [z0] | (simp only [i64_w,i32_w];rw [z0]) | skip)
     have H':=Aside0.mk H;clear H
     go_wp2
     go_meet
     case rel=>exact ⟨_,((a0 == 1)),sqE,H',⟨by have:=HJ3.out;first | omega | exact Nat.le_refl _⟩,sqk B0,sqk B1,sqk B2,sqh HB⟩
    have z0 : (a0 == 1) = false:=beq_eq_false_iff_ne.mpr c55;have z6 : (a0 != 1) = true:=bne_iff_ne.mpr c55
    (first | rw [z0] | (simp only [i64_w,i32_w];rw [z0]) | skip)
    replace H:=sqi H;rcases H with ⟨c56,H⟩ | ⟨c56,H⟩
    ·have z7 : (a0 == 2) = false:=beq_eq_false_iff_ne.mpr c56;have z8 : (a0 != 2) = true:=bne_iff_ne.mpr c56;have H':=Aside0.mk H;clear H
     go_wp2
     go_meet
     case rel=>exact ⟨_,((a0 == 3)),sqE,H',⟨by have:=HJ3.out;first | omega | exact Nat.le_refl _⟩,sqk B0,sqk B1,sqk B2,sqh HB⟩
    have z7 : (a0 == 2) = true:=beq_iff_eq.mpr c56;have z8 : (a0 != 2) = false:=bne_eq_false_iff_eq.mpr c56;clear c56;have H':=Aside0.mk H;clear H
    go_wp2
    go_meet
    case rel=>exact ⟨_,((a0 == 2)),sqE,H',⟨by have:=HJ3.out;first | omega | exact Nat.le_refl _⟩,sqk B0,sqk B1,sqk B2,sqh HB⟩
   case rest =>
    clear HC54;obtain ⟨kq,x1,rfl,HA,HJ53,B0,B1,B2,HB⟩:=hcut;cases kq with
    | zero=>exact absurd HA.out (by simp [impl_RangeDo.j1])
    | succ kj53 =>
     have H:=HA.out;clear HA;simp only [impl_RangeDo.j1] at H
     by_cases c57 : x1 = true
     ·subst c57;rw [if_pos rfl] at H;replace H:=sqbi H;obtain ⟨⟨t7,t8⟩,A58,H⟩:=H;(try dsimp only at H);have HC59:=Aside0.mk H;clear H;obtain ⟨_,_,_,_⟩:=sqN2 N0_1 N0_2;obtain ⟨_,_,_,_⟩:=sqc2 B0;obtain ⟨_,_⟩:=sqN1 N1_2;obtain ⟨_,_,_,_⟩:=sqc2 B1;go_upto_region 8 with (first | ((with_reducible refine gf 30 rfl ?_);refine sqLb rfl (some 41) Try.func30 (impl_rangeCorners.calls _ _ _ _ _ _ _ _ _ A58.out) ?_;intro w65 hb;refine sqM3 B0 B1 B2 hb ?_;clear B0 B1 B2;intro B0 B1 B2;replace HB:=sqs HB hb;(try clear hb)))
      (try simp only [Act.put,List.setIfInBounds_toArray,List.set_cons_zero,List.set_cons_succ])
      go_cut [49] (fun v49 wc=>∃ (kq : Nat) (x2 : Bool),v49 = .bool x2∧Aside0 (impl_RangeDo.j2 kq t7 t8 x2 = some (r1,r2,r3))∧Aside0 (kq ≤ kj53)∧Aside0 (wc.heap[gb0]? = some (.cells #[.int .i64 a1_0,.int .i64 a1_1] 24 (0,0)))∧Aside0 (wc.heap[gb1]? = some (.cells #[.int .i64 a2_0,.int .i64 a2_1] 24 (0,0)))∧Aside0 (wc.heap[gb2]? = some (.cells #[.int .i64 0,.int .i64 0] 24 (0,0)))∧Aside0 (Below w.heap.size w wc))
      case first =>
       have H:=HC59.out;clear HC59;replace H:=sqj H;rcases H with ⟨c66,H⟩ | ⟨c66,H⟩
       ·have z1:=decide_eq_true c66;clear c66
        (first | rw [z1] | (simp only [i64_w,i32_w];rw [z1]) | skip)
        have H':=Aside0.mk H;clear H
        go_wp2
        go_meet
        case rel=>exact ⟨_,(true),sqE,H',⟨by have:=HJ3.out;have:=HJ53.out;first | omega | exact Nat.le_refl _⟩,sqk B0,sqk B1,sqk B2,sqh HB⟩
       have z1:=decide_eq_false c66;clear c66
       (first | rw [z1] | (simp only [i64_w,i32_w];rw [z1]) | skip)
       have H':=Aside0.mk H;clear H
       go_wp2
       go_meet
       case rel=>exact ⟨_,(decide (t8 > 2147483647)),sqE,H',⟨by have:=HJ3.out;have:=HJ53.out;first | omega | exact Nat.le_refl _⟩,sqk B0,sqk B1,sqk B2,sqh HB⟩
      case rest =>
       clear HC59;obtain ⟨kq,x2,rfl,HA,HJ58,B0,B1,B2,HB⟩:=hcut;cases kq with
       | zero=>exact absurd HA.out (by simp [impl_RangeDo.j2])
       | succ kj58 =>
        have H:=HA.out;clear HA;simp only [impl_RangeDo.j2] at H;rcases sqI (x2 = true) with c67 | c67
        ·replace c67:=Bool.eq_false_iff.mpr c67;subst c67;rw [sqff] at H;replace H:=sqbi H;obtain ⟨⟨t9,t10⟩,A75,H⟩:=H;(try dsimp only at H);simp only [Option.some.injEq,Prod.mk.injEq] at H;obtain ⟨rfl,rfl,rfl⟩:=H;go_wp2_with (first | ((with_reducible refine gf 31 rfl ?_);refine sqLb rfl (some 56) Try.func31 (impl_rangeFrom.calls _ _ _ _ _ A75.out) ?_;intro w76 hb;refine sqM3 B0 B1 B2 hb ?_;clear B0 B1 B2;intro B0 B1 B2;replace HB:=sqs HB hb;(try clear hb);obtain ⟨_,_,_,_⟩:=sqN2 N2_0 N2_1;obtain ⟨_,_,_,_⟩:=sqc2 B2));refine bodyPost_ret (results_ct rfl _ _ gb2 24 #[.int .i64 t9,.int .i64 t10] (0,0) _ rfl (sqP B2) Try.underlying24 rfl (by kernel_rfl)) rfl ?_;exact ⟨_,sqEw,sqnil,sqB HB⟩
        subst c67;rw [if_pos rfl] at H;replace H:=sqbi H;obtain ⟨⟨t11,t12⟩,A68,H⟩:=H;(try dsimp only at H);obtain ⟨z9,z2⟩ : ∃ y_ : List Int,y_ = (([1] : List Int)):=⟨_,rfl⟩
        replace H : (some (t11,t12,z9)) = some (r1,r2,r3):=by first | (rw [z2];with_reducible exact H) | (have H2_:=(Option.bind_some _ _).symm.trans H;rw [z2];with_reducible exact H2_) | (have H2_:=(Option.bind_some _ _).symm.trans H;with_reducible exact H2_) | with_reducible exact H | (rw [z2];exact H) | exact H
        have z5:=Aside0.mk z2;clear z2;simp only [Option.some.injEq,Prod.mk.injEq] at H;obtain ⟨rfl,rfl,rfl⟩:=H;go_wp2_with (first | ((with_reducible refine gf 31 rfl ?_);refine sqLb rfl (some 52) Try.func31 (impl_rangeFrom.calls _ _ _ _ _ A68.out) ?_;intro w69 hb;refine sqM3 B0 B1 B2 hb ?_;clear B0 B1 B2;intro B0 B1 B2;replace HB:=sqs HB hb;(try clear hb)) | ((with_reducible refine gd 53 rfl ?_);refine Kd.R_lit (Kd.int .i64) _ 3 ?hg (N:=53) ?hd (xs:=([1] : List Int)) (inner:=[.int .i64 1]) (ok:=fun _=>True) (okp:=fun _=>True) ?hr ?hp (fun _ hk=>hk) trivial (Below.refl _ _) (Nat.le_refl _) (by simp) ?_;(case hd=>rfl);(case hg=>rfl);(case hr=>first | (go_simp;done) | (go_simp;rfl));(case hp=>exact (Reps.one (show Kd.M (Kd.int .i64) _ _ _ 1 [.int .i64 1] from rfl) (Reps.none _ _)));intro zm w70 ho71 hb hg_ hnew_;clear hg_ hnew_;(first | rw [← z5.out] at ho71 | (simp only [Int.reduceToNat] at ho71;rw [← z5.out] at ho71));have za:=Aside0.mk (Kd.R_lower ho71 (below_size (sqB HB)));refine sqM3 B0 B1 B2 hb ?_;clear B0 B1 B2;intro B0 B1 B2;replace HB:=sqs HB hb;clear hb ho71;obtain ⟨_,_,_,_⟩:=sqN2 N2_0 N2_1;obtain ⟨_,_,_,_⟩:=sqc2 B2));refine bodyPost_ret (results_ct rfl _ _ gb2 24 #[.int .i64 t11,.int .i64 t12] (0,0) _ rfl (sqP B2) Try.underlying24 rfl (by kernel_rfl)) rfl ?_;exact ⟨_,sqEw,sqF1Rf (sqtyR za B2) (fun _ hk=>trivial),sqB HB⟩
     replace c57:=Bool.eq_false_iff.mpr c57;subst c57;rw [sqff] at H;have HC80:=Aside0.mk H;clear H
     go_upto_if 57 with (fail)
     go_cut [57] (fun v57 wc=>∃ (kq : Nat) (x3 : Bool),v57 = .bool x3∧Aside0 (impl_RangeDo.j3 kq a0 a0 x3 a1_0 a1_1 a2_0 a2_1 = some (r1,r2,r3))∧Aside0 (kq ≤ kj53)∧Aside0 (wc.heap[gb0]? = some (.cells #[.int .i64 a1_0,.int .i64 a1_1] 24 (0,0)))∧Aside0 (wc.heap[gb1]? = some (.cells #[.int .i64 a2_0,.int .i64 a2_1] 24 (0,0)))∧Aside0 (wc.heap[gb2]? = some (.cells #[.int .i64 0,.int .i64 0] 24 (0,0)))∧Aside0 (Below w.heap.size w wc))
     case first =>
      have H:=HC80.out;clear HC80;replace H:=sqj H;rcases H with ⟨c81,H⟩ | ⟨c81,H⟩
      ·have z3 : (a0 == 11) = true:=beq_iff_eq.mpr c81;have zb : (a0 != 11) = false:=bne_eq_false_iff_eq.mpr c81;clear c81
       (first | rw [z3] | (simp only [i64_w,i32_w];rw [z3]) | skip)
       have H':=Aside0.mk H;clear H
       go_wp2
       go_meet
       case rel=>exact ⟨_,((a0 == 11)),sqE,H',⟨by have:=HJ3.out;have:=HJ53.out;first | omega | exact Nat.le_refl _⟩,sqk B0,sqk B1,sqk B2,sqh HB⟩
      have z3 : (a0 == 11) = false:=beq_eq_false_iff_ne.mpr c81;have zb : (a0 != 11) = true:=bne_iff_ne.mpr c81
      (first | rw [z3] | (simp only [i64_w,i32_w];rw [z3]) | skip)
      replace H:=sqi H;rcases H with ⟨c82,H⟩ | ⟨c82,H⟩
      ·have zc : (a0 == 12) = false:=beq_eq_false_iff_ne.mpr c82;have zd : (a0 != 12) = true:=bne_iff_ne.mpr c82;have H':=Aside0.mk H;clear H
       go_wp2
       go_meet
       case rel=>exact ⟨_,((a0 == 13)),sqE,H',⟨by have:=HJ3.out;have:=HJ53.out;first | omega | exact Nat.le_refl _⟩,sqk B0,sqk B1,sqk B2,sqh HB⟩
      have zc : (a0 == 12) = true:=beq_iff_eq.mpr c82;have zd : (a0 != 12) = false:=bne_eq_false_iff_eq.mpr c82;clear c82;have H':=Aside0.mk H;clear H
      go_wp2
      go_meet
      case rel=>exact ⟨_,((a0 == 12)),sqE,H',⟨by have:=HJ3.out;have:=HJ53.out;first | omega | exact Nat.le_refl _⟩,sqk B0,sqk B1,sqk B2,sqh HB⟩
     case rest =>
      clear HC80;obtain ⟨kq,x3,rfl,HA,HJ79,B0,B1,B2,HB⟩:=hcut;cases kq with
      | zero=>exact absurd HA.out (by simp [impl_RangeDo.j3])
      | succ kj79 =>
       have H:=HA.out;clear HA;simp only [impl_RangeDo.j3] at H
       by_cases c83 : x3 = true
       ·subst c83;rw [if_pos rfl] at H;replace H:=sqbi H;obtain ⟨⟨t13,t14⟩,A84,H⟩:=H;(try dsimp only at H);simp only [Option.some.injEq,Prod.mk.injEq] at H;obtain ⟨rfl,rfl,rfl⟩:=H;obtain ⟨_,_,_,_⟩:=sqN2 N0_1 N0_2;obtain ⟨_,_,_,_⟩:=sqc2 B0;obtain ⟨_,_⟩:=sqN1 N1_2;obtain ⟨_,_,_,_⟩:=sqc2 B1;go_wp2_with (first | ((with_reducible refine gf 32 rfl ?_);refine sqLb rfl (some 64) Try.func32 (impl_rangeWrap.calls _ _ _ _ _ _ _ _ _ A84.out) ?_;intro w90 hb;refine sqM3 B0 B1 B2 hb ?_;clear B0 B1 B2;intro B0 B1 B2;replace HB:=sqs HB hb;(try clear hb);obtain ⟨_,_,_,_⟩:=sqc2 B2));refine bodyPost_ret (results_ct rfl _ _ gb2 24 #[.int .i64 t13,.int .i64 t14] (0,0) _ rfl (sqP B2) Try.underlying24 rfl (by kernel_rfl)) rfl ?_;exact ⟨_,sqEw,sqnil,sqB HB⟩
       replace c83:=Bool.eq_false_iff.mpr c83;subst c83;rw [sqff] at H;have HC92:=Aside0.mk H;clear H
       go_upto_if 65 with (fail)
       go_cut [65] (fun v65 wc=>∃ (kq : Nat) (x4 : Bool),v65 = .bool x4∧Aside0 (impl_RangeDo.j4 kq a0 a0 x4 a1_0 a1_1 a2_0 a2_1 = some (r1,r2,r3))∧Aside0 (kq ≤ kj79)∧Aside0 (wc.heap[gb0]? = some (.cells #[.int .i64 a1_0,.int .i64 a1_1] 24 (0,0)))∧Aside0 (wc.heap[gb1]? = some (.cells #[.int .i64 a2_0,.int .i64 a2_1] 24 (0,0)))∧Aside0 (wc.heap[gb2]? = some (.cells #[.int .i64 0,.int .i64 0] 24 (0,0)))∧Aside0 (Below w.heap.size w wc))
       case first =>
        have H:=HC92.out;clear HC92;replace H:=sqi H;rcases H with ⟨c93,H⟩ | ⟨c93,H⟩
        ·have z4 : (a0 == 9) = false:=beq_eq_false_iff_ne.mpr c93;have ze : (a0 != 9) = true:=bne_iff_ne.mpr c93
         (first | rw [z4] | (simp only [i64_w,i32_w];rw [z4]) | skip)
         have H':=Aside0.mk H;clear H
         go_wp2
         go_meet
         case rel=>exact ⟨_,((a0 == 10)),sqE,H',⟨by have:=HJ3.out;have:=HJ53.out;have:=HJ79.out;first | omega | exact Nat.le_refl _⟩,sqk B0,sqk B1,sqk B2,sqh HB⟩
        have z4 : (a0 == 9) = true:=beq_iff_eq.mpr c93;have ze : (a0 != 9) = false:=bne_eq_false_iff_eq.mpr c93;clear c93
        (first | rw [z4] | (simp only [i64_w,i32_w];rw [z4]) | skip)
        have H':=Aside0.mk H;clear H
        go_wp2
        go_meet
        case rel=>exact ⟨_,((a0 == 9)),sqE,H',⟨by have:=HJ3.out;have:=HJ53.out;have:=HJ79.out;first | omega | exact Nat.le_refl _⟩,sqk B0,sqk B1,sqk B2,sqh HB⟩
       case rest =>
        clear HC92;obtain ⟨kq,x4,rfl,HA,HJ91,B0,B1,B2,HB⟩:=hcut;cases kq with
        | zero=>exact absurd HA.out (by simp [impl_RangeDo.j4])
        | succ kj91 =>
         have H:=HA.out;clear HA;simp only [impl_RangeDo.j4] at H
         by_cases c94 : x4 = true
         ·subst c94;rw [if_pos rfl] at H;replace H:=sqbi H;obtain ⟨⟨t15,t16,t17⟩,A95,H⟩:=H;(try dsimp only at H);simp only [Option.some.injEq,Prod.mk.injEq] at H;obtain ⟨rfl,rfl,rfl⟩:=H;obtain ⟨_,_,_,_⟩:=sqN2 N0_1 N0_2;obtain ⟨_,_,_,_⟩:=sqc2 B0;obtain ⟨_,_⟩:=sqN1 N1_2;obtain ⟨_,_,_,_⟩:=sqc2 B1;go_wp2_with (first | ((with_reducible refine gf 33 rfl ?_);refine sqLc rfl (some 71) Try.func33 (impl_rangeShift.calls _ _ _ _ _ _ _ _ _ _ A95.out) ?_;rintro e w101 ⟨zn,rfl,ho0,hb⟩;refine ⟨_,rfl,?_⟩;have zf:=sqRlR ho0 HB;refine sqM3 B0 B1 B2 hb ?_;clear B0 B1 B2;intro B0 B1 B2;replace HB:=sqs HB hb;(try clear hb);(try clear hb2);(try clear hk);(try clear hi);(try clear ho0);obtain ⟨_,_,_,_⟩:=sqc2 B2));refine bodyPost_ret (results_ct rfl _ _ gb2 24 #[.int .i64 t15,.int .i64 t16] (0,0) _ rfl (sqP B2) Try.underlying24 rfl (by kernel_rfl)) rfl ?_;exact ⟨_,sqEw,sqF1Rf (sqtyR zf B2) (fun _ hk=>trivial),sqB HB⟩
         replace c94:=Bool.eq_false_iff.mpr c94;subst c94;rw [sqff] at H;replace H:=sqj H;rcases H with ⟨c103,H⟩ | ⟨c103,H⟩
         ·have zg : (a0 == 4) = true:=beq_iff_eq.mpr c103;have zh : (a0 != 4) = false:=bne_eq_false_iff_eq.mpr c103;clear c103;replace H:=sqbi H;obtain ⟨⟨t18,t19,t20⟩,A104,H⟩:=H;(try dsimp only at H);simp only [Option.some.injEq,Prod.mk.injEq] at H;obtain ⟨rfl,rfl,rfl⟩:=H;obtain ⟨_,_,_,_⟩:=sqN2 N0_1 N0_2;obtain ⟨_,_,_,_⟩:=sqc2 B0;obtain ⟨_,_⟩:=sqN1 N1_2;obtain ⟨_,_,_,_⟩:=sqc2 B1;go_wp2_with (first | ((with_reducible refine gf 34 rfl ?_);refine sqLc rfl (some 78) Try.func34 (impl_rangeDiv.calls _ _ _ _ _ _ _ _ _ A104.out) ?_;rintro e w110 ⟨zo,rfl,ho0,hb⟩;refine ⟨_,rfl,?_⟩;have zi:=sqRlR ho0 HB;refine sqM3 B0 B1 B2 hb ?_;clear B0 B1 B2;intro B0 B1 B2;replace HB:=sqs HB hb;(try clear hb);(try clear hb2);(try clear hk);(try clear hi);(try clear ho0);obtain ⟨_,_,_,_⟩:=sqc2 B2));refine bodyPost_ret (results_ct rfl _ _ gb2 24 #[.int .i64 t18,.int .i64 t19] (0,0) _ rfl (sqP B2) Try.underlying24 rfl (by kernel_rfl)) rfl ?_;exact ⟨_,sqEw,sqF1Rf (sqtyR zi B2) (fun _ hk=>trivial),sqB HB⟩
         have zg : (a0 == 4) = false:=beq_eq_false_iff_ne.mpr c103;have zh : (a0 != 4) = true:=bne_iff_ne.mpr c103;replace H:=sqi H;rcases H with ⟨c112,H⟩ | ⟨c112,H⟩
         ·have zj : (a0 == 5) = false:=beq_eq_false_iff_ne.mpr c112;have zk : (a0 != 5) = true:=bne_iff_ne.mpr c112;replace H:=sqbi H;obtain ⟨⟨t21,t22⟩,A121,H⟩:=H;(try dsimp only at H);simp only [Option.some.injEq,Prod.mk.injEq] at H;obtain ⟨rfl,rfl,rfl⟩:=H;obtain ⟨_,_,_,_⟩:=sqN2 N0_1 N0_2;obtain ⟨_,_,_,_⟩:=sqc2 B0;obtain ⟨_,_⟩:=sqN1 N1_2;obtain ⟨_,_,_,_⟩:=sqc2 B1;go_wp2_with (first | ((with_reducible refine gf 36 rfl ?_);refine sqLb rfl (some 91) Try.func36 (impl_rangeBits.calls _ _ _ _ _ _ _ _ _ A121.out) ?_;intro w127 hb;refine sqM3 B0 B1 B2 hb ?_;clear B0 B1 B2;intro B0 B1 B2;replace HB:=sqs HB hb;(try clear hb);obtain ⟨_,_,_,_⟩:=sqc2 B2));refine bodyPost_ret (results_ct rfl _ _ gb2 24 #[.int .i64 t21,.int .i64 t22] (0,0) _ rfl (sqP B2) Try.underlying24 rfl (by kernel_rfl)) rfl ?_;exact ⟨_,sqEw,sqnil,sqB HB⟩
         have zj : (a0 == 5) = true:=beq_iff_eq.mpr c112;have zk : (a0 != 5) = false:=bne_eq_false_iff_eq.mpr c112;clear c112;replace H:=sqbi H;obtain ⟨⟨t23,t24,t25⟩,A113,H⟩:=H;(try dsimp only at H);simp only [Option.some.injEq,Prod.mk.injEq] at H;obtain ⟨rfl,rfl,rfl⟩:=H;obtain ⟨_,_,_,_⟩:=sqN2 N0_1 N0_2;obtain ⟨_,_,_,_⟩:=sqc2 B0;obtain ⟨_,_⟩:=sqN1 N1_2;obtain ⟨_,_,_,_⟩:=sqc2 B1;go_wp2_with (first | ((with_reducible refine gf 35 rfl ?_);refine sqLc rfl (some 85) Try.func35 (impl_rangeRem.calls _ _ _ _ _ _ _ _ _ A113.out) ?_;rintro e w119 ⟨zp,rfl,ho0,hb⟩;refine ⟨_,rfl,?_⟩;have zl:=sqRlR ho0 HB;refine sqM3 B0 B1 B2 hb ?_;clear B0 B1 B2;intro B0 B1 B2;replace HB:=sqs HB hb;(try clear hb);(try clear hb2);(try clear hk);(try clear hi);(try clear ho0);obtain ⟨_,_,_,_⟩:=sqc2 B2));refine bodyPost_ret (results_ct rfl _ _ gb2 24 #[.int .i64 t23,.int .i64 t24] (0,0) _ rfl (sqP B2) Try.underlying24 rfl (by kernel_rfl)) rfl ?_;exact ⟨_,sqEw,sqF1Rf (sqtyR zl B2) (fun _ hk=>trivial),sqB HB⟩

end Go.Proofs.Ytlbheepfmjbpnaa.PFnValDo
