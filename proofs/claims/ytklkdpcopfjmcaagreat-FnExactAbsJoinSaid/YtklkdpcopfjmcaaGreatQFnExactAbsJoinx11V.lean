/- Functions of the program as plain Lean functions, and that calls of them come to what these tell. Conditions: those in each law. -/
import Derived.Test.YtklkdpcopfjmcaaGreatSqV
import Derived.Test.YtklkdpcopfjmcaaGreatDFnExactAbsJoinV
import Derived.Test.YtklkdpcopfjmcaaGreatQFnExactAbsJoinx0V
import Derived.Test.YtklkdpcopfjmcaaGreatQFnExactAbsJoinx8V
namespace Go.Proofs.YtklkdpcopfjmcaaGreat.PFnExactAbsJoin
open Go.RowKit Go.Proofs.YtklkdpcopfjmcaaGreat.Sq Go.Proofs.YtklkdpcopfjmcaaGreatW.PrintWords Go.Proofs.YtklkdpcopfjmcaaGreatW.PrintLast Go.Proofs.YtklkdpcopfjmcaaGreatW.PrintMore
attribute [local go_sem] max2_int min2_int max_two min_two max_three min_three max_four min_four   -- for this text's walks alone
set_option linter.unusedVariables false
set_option linter.unusedSimpArgs false

attribute [local go_sem high] eqA58
set_option maxHeartbeats 8000000
set_option maxRecDepth 100000
/-! ### spec_l12RefOk: function 72 -/
def spec_l12RefOk.T1 : Bool × List (List Nat × List Nat):=(true,[([],[]),([0],[0]),([1],[1]),([2],[2]),([3,2],[3]),([4],[4]),([5,4],[4,5]),([6,4],[4,6]),([7,4],[4,7]),([4],[4]),([9,4],[4,9]),([4,4],[4]),([10,11,4],[4,10,11]),([8,12,4],[4,8,12]),([4,13],[4,13]),([14,11],[14]),([15],[15]),([16,15],[15,16]),([17,15],[15,17]),([18,15,15],[15,18]),([19],[19]),([20,19],[19,20]),([21,19],[19,21]),([22,19],[19,22]),([19,23,15],[15,19,23]),([15,24],[15,24])])
def spec_l12RefOk.B1 : List Nat:=[0,1,3,7,15,31,63,127,255,31,543,31,3615,8191,16383,32767,65535,131071,262143,524287,1048575,2097151,4194303,8388607,16777215,33554431]
theorem spec_l12RefOk.tab1 : rtab .any (opsOf Tryz.f72 1) = spec_l12RefOk.T1:=by kernel_rfl
theorem spec_l12RefOk.bits1 : waitsOk spec_l12RefOk.T1.2 spec_l12RefOk.B1 = true:=by kernel_rfl
def spec_l12RefOk.T6 : Bool × List (List Nat × List Nat):=(true,[([],[]),([0],[0]),([],[]),([1,2],[1,2]),([3],[3]),([4],[4]),([5],[5]),([6],[6]),([7,6],[6,7]),([8,6,6],[6,8]),([9],[9]),([10,9],[9,10]),([9],[9]),([12,9],[9,12]),([11,13,9],[9,11,13]),([14,9],[9,14]),([9],[9]),([16,9],[9,16]),([9],[9]),([17,18,9],[9,17,18]),([19,9],[9,19]),([15,20,9],[9,15,20]),([9,21,6],[6,9,21]),([6,22],[6,22])])
def spec_l12RefOk.B6 : List Nat:=[0,1,0,7,15,31,63,127,255,511,1023,2047,1023,5119,16383,32767,1023,66559,1023,459775,984063,2097151,4194303,8388607]
theorem spec_l12RefOk.tab6 : rtab .any (opsOf Tryz.f72 6) = spec_l12RefOk.T6:=by kernel_rfl
theorem spec_l12RefOk.bits6 : waitsOk spec_l12RefOk.T6.2 spec_l12RefOk.B6 = true:=by kernel_rfl
theorem spec_l12RefOk.calls (k : Nat) (a0_0 : Bool) (A0_1 : Option Addr) (c0_1 : Nat) (l0_1 : List Int) (a0_2 : Int) (a0_3 : Int) (a0_4 : Int) (a0_5 : Int) (r : Bool) (w : World) (hr0_1 : Kd.C (Kd.int .i64) w A0_1 l0_1.length l0_1) (hc0_1 : l0_1.length ≤ c0_1) (h : spec_l12RefOk.f k a0_0 l0_1 a0_2 a0_3 a0_4 a0_5 = some r) :
  Calls Tryz.prog 72 #[.agg #[.bool a0_0,.slice A0_1 l0_1.length c0_1,.int .i64 a0_2,.int .i64 a0_3,.int .i64 a0_4,.int .i64 a0_5]] w fun e w'=>e = .returned (.bool r)∧Below w.heap.size w w':=by
 have hu84:=Tryz.underlying84;have hu58:=Tryz.underlying58;have HR0_1:=Aside0.mk hr0_1;have HC0_1:=Aside0.mk hc0_1;clear hr0_1 hc0_1;have HB:=Aside0.mk (Below.refl w.heap.size w);have H:=h;unfold spec_l12RefOk.f at H;clear h;have HC2:=Aside0.mk H;clear H;go_enter Tryz.func72,Tryz.ntmps72;go_upto_region 1 with (first | ((with_reducible refine gd 1 rfl ?_);(try (refine gate_guard (by rfl) ?_;dsimp only));refine sqX 1 #[.bool a0_0,.slice A0_1 l0_1.length c0_1,.int .i64 a0_2,.int .i64 a0_3,.int .i64 a0_4,.int .i64 a0_5] 84 HB ?_;clear HB;intro gb0 hg w3 hb B0 GW0 HB;clear hb hg))
 (try simp only [Act.put,List.setIfInBounds_toArray,List.set_cons_zero,List.set_cons_succ])
 go_cut [29] (fun v29 wc=>∃ (kq : Nat) (x0 : Bool),v29 = .bool x0∧Aside0 (spec_l12RefOk.j0 kq x0 a0_0 l0_1 a0_2 a0_3 a0_4 a0_5 = some r)∧Aside0 (kq ≤ k)∧Aside0 (wc.heap[gb0]? = some (.cells #[.bool a0_0,(.slice A0_1 l0_1.length c0_1),.int .i64 a0_2,.int .i64 a0_3,.int .i64 a0_4,.int .i64 a0_5] 84 (0,0)))∧Aside0 (Below w.heap.size w wc))
 case first =>
  have H:=HC2.out;clear HC2;replace H:=sqbi H;obtain ⟨t0,A4,H⟩:=H;(try dsimp only at H);rcases sqI (t0 = true) with c5 | c5
  ·replace c5:=Bool.eq_false_iff.mpr c5;subst c5;rw [sqff] at H;have H':=Aside0.mk H;clear H
   try go_wp2
   replace B0:=sqdr B0;replace HB:=sqdB HB;refine sqst 26 (fun w'=>Ce6 w' gb0 (.bool a0_0) (.slice A0_1 l0_1.length c0_1) (.int .i64 a0_2) (.int .i64 a0_3) (.int .i64 a0_4) (.int .i64 a0_5)) sqz (fun hHeld=>?_);refine with_tabW spec_l12RefOk.tab1 spec_l12RefOk.bits1 (fun HT_ HW_=>?_);generalize w3.drew = w18 at B0 HB hHeld ⊢;refine sqp HT_ 0 4 ?_;refine sqw HT_ HW_ 1 5 hHeld ?_;refine sqo HT_ 2 6 (fun K hK=>?_);refine sqGb rfl Tryz.func127 (spec_ValOk.calls _ _ _ _ _ _ _ A4.out) ?_;intro w19 hb;replace B0:=sqb B0 hb;replace HB:=sqs HB hb;(try clear hb);refine hK.out _ _ sqz (fun hHeld=>?_);clear hK K;refine sqnm ?_;refine sqp HT_ 3 7 ?_;refine sqp HT_ 4 8 ?_;refine sqpu HT_ 5 9 ?_;refine sqpu HT_ 6 10 ?_;refine sqpu HT_ 7 11 ?_;refine sqpu HT_ 8 12 ?_;refine sqpu HT_ 9 13 ?_;refine sqpu HT_ 10 14 ?_;refine sqpu HT_ 11 15 ?_;refine sqpu HT_ 12 16 ?_;refine sqpu HT_ 13 17 ?_;refine sqp HT_ 14 18 ?_;refine sqp HT_ 15 19 ?_;refine sqpu HT_ 16 20 ?_;refine sqpu HT_ 17 21 ?_;refine sqpu HT_ 18 22 ?_;refine sqpu HT_ 19 23 ?_;refine sqpu HT_ 20 24 ?_;refine sqpu HT_ 21 25 ?_;refine sqpu HT_ 22 26 ?_;refine sqpu HT_ 23 27 ?_;refine sqpu HT_ 24 28 ?_;refine sqp HT_ 25 29 ?_;refine done_ (done_of HT_.out (by kernel_rfl)) ?_
   try go_wp2
   go_meet
   case rel=>exact ⟨_,(true),sqE,H',⟨sqle⟩,sqk B0,sqh HB⟩
  subst c5;rw [if_pos rfl] at H;replace H:=sqbi H;obtain ⟨⟨t1,t2,t3,t4⟩,A6,H⟩:=H;(try dsimp only at H);replace H:=sqj H;rcases H with ⟨c7,H⟩ | ⟨c7,H⟩
  ·have zd : (((l0_1.length : Int) == 0) != (a0_2 == t1 && (a0_3 == t2 && (a0_4 == t3 && (a0_5 == t4))))) = true:=c7
   (try (have zk : decide (((l0_1.length : Int) == 0) = (a0_2 == t1 && (a0_3 == t2 && (a0_4 == t3 && (a0_5 == t4))))) = false:=by simpa using c7))
   (try (have zl : (((l0_1.length : Int) == 0) == (a0_2 == t1 && (a0_3 == t2 && (a0_4 == t3 && (a0_5 == t4))))) = false:=by simpa using c7))
   (try (have zr : ¬ (((l0_1.length : Int) == 0) = (a0_2 == t1 && (a0_3 == t2 && (a0_4 == t3 && (a0_5 == t4))))):=by simpa using c7))
   clear c7
   (first | rw [zd] | (simp only [i64_w,i32_w];rw [zd]) | skip)
   have H':=Aside0.mk H;clear H
   try go_wp2
   replace B0:=sqdr B0;replace HB:=sqdB HB;refine sqst 26 (fun w'=>Ce6 w' gb0 (.bool a0_0) (.slice A0_1 l0_1.length c0_1) (.int .i64 a0_2) (.int .i64 a0_3) (.int .i64 a0_4) (.int .i64 a0_5)) sqz (fun hHeld=>?_);refine with_tabW spec_l12RefOk.tab1 spec_l12RefOk.bits1 (fun HT_ HW_=>?_);generalize w3.drew = w8 at B0 HB hHeld ⊢;refine sqp HT_ 0 4 ?_;refine sqw HT_ HW_ 1 5 hHeld ?_;refine sqo HT_ 2 6 (fun K hK=>?_);refine sqGb rfl Tryz.func127 (spec_ValOk.calls _ _ _ _ _ _ _ A4.out) ?_;intro w9 hb;replace B0:=sqb B0 hb;replace HB:=sqs HB hb;(try clear hb);refine hK.out _ _ sqz (fun hHeld=>?_);clear hK K;refine sqnm ?_;refine sqp HT_ 3 7 ?_;refine sqp HT_ 4 8 ?_;refine sqp HT_ 5 9 ?_;refine sqp HT_ 9 13 ?_;refine sqw HT_ HW_ 6 10 hHeld ?_;refine sqp HT_ 7 11 ?_;refine sqp HT_ 8 12 ?_;refine sqw HT_ HW_ 10 14 hHeld ?_;refine sqo HT_ 11 15 (fun K hK=>?_);refine sqGb rfl Tryz.func93 (spec_l10None.calls _ _ _ _ _ A6.out) ?_;intro w10 hb;replace B0:=sqb B0 hb;replace HB:=sqs HB hb;(try clear hb);refine hK.out _ _ sqz (fun hHeld=>?_);clear hK K;refine sqnm ?_;refine sqp HT_ 12 16 ?_;refine sqp HT_ 13 17 ?_;refine sqp HT_ 14 18 ?_;refine sqp HT_ 15 19 ?_;refine sqpu HT_ 16 20 ?_;refine sqpu HT_ 17 21 ?_;refine sqpu HT_ 18 22 ?_;refine sqpu HT_ 19 23 ?_;refine sqpu HT_ 20 24 ?_;refine sqpu HT_ 21 25 ?_;refine sqpu HT_ 22 26 ?_;refine sqpu HT_ 23 27 ?_;refine sqpu HT_ 24 28 ?_;refine sqp HT_ 25 29 ?_;refine done_ (done_of HT_.out (by kernel_rfl)) ?_
   try go_wp2
   go_meet
   case rel=>exact ⟨_,(true),sqE,H',⟨sqle⟩,sqk B0,sqh HB⟩
  have zd : (((l0_1.length : Int) == 0) != (a0_2 == t1 && (a0_3 == t2 && (a0_4 == t3 && (a0_5 == t4))))) = false:=by simpa using c7
  (try (have zk : decide (((l0_1.length : Int) == 0) = (a0_2 == t1 && (a0_3 == t2 && (a0_4 == t3 && (a0_5 == t4))))) = true:=by simpa using c7))
  (try (have zl : (((l0_1.length : Int) == 0) == (a0_2 == t1 && (a0_3 == t2 && (a0_4 == t3 && (a0_5 == t4))))) = true:=by simpa using c7))
  clear c7
  (first | rw [zd] | (simp only [i64_w,i32_w];rw [zd]) | skip)
  by_cases c11 : a0_0 = true
  ·subst c11;rw [if_pos rfl] at H;have H':=Aside0.mk H;clear H
   try go_wp2
   replace B0:=sqdr B0;replace HB:=sqdB HB;refine sqst 26 (fun w'=>Ce6 w' gb0 (.bool true) (.slice A0_1 l0_1.length c0_1) (.int .i64 a0_2) (.int .i64 a0_3) (.int .i64 a0_4) (.int .i64 a0_5)) sqz (fun hHeld=>?_);refine with_tabW spec_l12RefOk.tab1 spec_l12RefOk.bits1 (fun HT_ HW_=>?_);generalize w3.drew = w12 at B0 HB hHeld ⊢;refine sqp HT_ 0 4 ?_;refine sqw HT_ HW_ 1 5 hHeld ?_;refine sqo HT_ 2 6 (fun K hK=>?_);refine sqGb rfl Tryz.func127 (spec_ValOk.calls _ _ _ _ _ _ _ A4.out) ?_;intro w13 hb;replace B0:=sqb B0 hb;replace HB:=sqs HB hb;(try clear hb);refine hK.out _ _ sqz (fun hHeld=>?_);clear hK K;refine sqnm ?_;refine sqp HT_ 3 7 ?_;refine sqp HT_ 4 8 ?_;refine sqp HT_ 5 9 ?_;refine sqp HT_ 9 13 ?_;refine sqw HT_ HW_ 6 10 hHeld ?_;refine sqp HT_ 7 11 ?_;refine sqp HT_ 8 12 ?_;refine sqw HT_ HW_ 10 14 hHeld ?_;refine sqo HT_ 11 15 (fun K hK=>?_);refine sqGb rfl Tryz.func93 (spec_l10None.calls _ _ _ _ _ A6.out) ?_;intro w14 hb;replace B0:=sqb B0 hb;replace HB:=sqs HB hb;(try clear hb);refine hK.out _ _ sqz (fun hHeld=>?_);clear hK K;refine sqnm ?_;refine sqp HT_ 12 16 ?_;refine sqp HT_ 13 17 ?_;refine sqp HT_ 14 18 ?_;refine sqp HT_ 15 19 ?_;refine sqp HT_ 16 20 ?_;refine sqw HT_ HW_ 17 21 hHeld ?_;refine sqp HT_ 18 22 ?_;refine sqp HT_ 19 23 ?_;refine sqpu HT_ 20 24 ?_;refine sqpu HT_ 21 25 ?_;refine sqpu HT_ 22 26 ?_;refine sqpu HT_ 23 27 ?_;refine sqp HT_ 24 28 ?_;refine sqp HT_ 25 29 ?_;refine done_ (done_of HT_.out (by kernel_rfl)) ?_
   try go_wp2
   go_meet
   case rel=>exact ⟨_,(false),sqE,H',⟨sqle⟩,sqk B0,sqh HB⟩
  replace c11:=Bool.eq_false_iff.mpr c11;subst c11;rw [sqff] at H;have H':=Aside0.mk H;clear H
  try go_wp2
  replace B0:=sqdr B0;replace HB:=sqdB HB;refine sqst 26 (fun w'=>Ce6 w' gb0 (.bool false) (.slice A0_1 l0_1.length c0_1) (.int .i64 a0_2) (.int .i64 a0_3) (.int .i64 a0_4) (.int .i64 a0_5)) sqz (fun hHeld=>?_);refine with_tabW spec_l12RefOk.tab1 spec_l12RefOk.bits1 (fun HT_ HW_=>?_);generalize w3.drew = w15 at B0 HB hHeld ⊢;refine sqp HT_ 0 4 ?_;refine sqw HT_ HW_ 1 5 hHeld ?_;refine sqo HT_ 2 6 (fun K hK=>?_);refine sqGb rfl Tryz.func127 (spec_ValOk.calls _ _ _ _ _ _ _ A4.out) ?_;intro w16 hb;replace B0:=sqb B0 hb;replace HB:=sqs HB hb;(try clear hb);refine hK.out _ _ sqz (fun hHeld=>?_);clear hK K;refine sqnm ?_;refine sqp HT_ 3 7 ?_;refine sqp HT_ 4 8 ?_;refine sqp HT_ 5 9 ?_;refine sqp HT_ 9 13 ?_;refine sqw HT_ HW_ 6 10 hHeld ?_;refine sqp HT_ 7 11 ?_;refine sqp HT_ 8 12 ?_;refine sqw HT_ HW_ 10 14 hHeld ?_;refine sqo HT_ 11 15 (fun K hK=>?_);refine sqGb rfl Tryz.func93 (spec_l10None.calls _ _ _ _ _ A6.out) ?_;intro w17 hb;replace B0:=sqb B0 hb;replace HB:=sqs HB hb;(try clear hb);refine hK.out _ _ sqz (fun hHeld=>?_);clear hK K;refine sqnm ?_;refine sqp HT_ 12 16 ?_;refine sqp HT_ 13 17 ?_;refine sqp HT_ 14 18 ?_;refine sqp HT_ 15 19 ?_;refine sqp HT_ 16 20 ?_;refine sqw HT_ HW_ 17 21 hHeld ?_;refine sqp HT_ 18 22 ?_;refine sqp HT_ 19 23 ?_;refine sqp HT_ 20 24 ?_;refine sqw HT_ HW_ 21 25 hHeld ?_;refine sqp HT_ 22 26 ?_;refine sqp HT_ 23 27 ?_;refine sqp HT_ 24 28 ?_;refine sqp HT_ 25 29 ?_;refine done_ (done_of HT_.out (by kernel_rfl)) ?_
  try go_wp2
  go_meet
  case rel=>exact ⟨_,(((l0_1.length : Int) == 0)),sqE,H',⟨sqle⟩,sqk B0,sqh HB⟩
 case rest =>
  clear HC2;obtain ⟨kq,x0,rfl,HA,HJ1,B0,HB⟩:=hcut;cases kq with
  | zero=>exact absurd HA.out (by simp [spec_l12RefOk.j0])
  | succ kj1 =>
   have H:=HA.out;clear HA;simp only [spec_l12RefOk.j0] at H
   by_cases c20 : x0 = true
   ·subst c20;rw [if_pos rfl] at H;obtain rfl:=Option.some.inj H
    go_wp2
    go_ret
    exact sqe HB
   replace c20:=Bool.eq_false_iff.mpr c20;subst c20;rw [sqff] at H;have H':=Aside0.mk H;clear H
   go_wp2
   go_loopg [3] kj1 (fun kq v3 w'=>∃ (x1 : Int),v3 = .int .i64 x1∧Aside0 (spec_l12RefOk.l0 kq x1 a0_0 l0_1 a0_2 a0_3 a0_4 a0_5 = some r)∧Aside0 (kq ≤ kj1)∧Aside0 (w'.heap[gb0]? = some (.cells #[.bool a0_0,(.slice A0_1 l0_1.length c0_1),.int .i64 a0_2,.int .i64 a0_3,.int .i64 a0_4,.int .i64 a0_5] 84 (0,0)))∧Aside0 (Below w.heap.size w w'))
   case atStart=>exact ⟨(0),sqE,H',⟨Nat.le_refl _⟩,sqk B0,sqh HB⟩
   case round =>
    clear H';obtain ⟨x1,rfl,HA,HK2,B0,HB⟩:=hrel;cases gk with
    | zero=>exact absurd HA.out (by simp [spec_l12RefOk.l0])
    | succ k2 =>
     have H:=HA.out;clear HA;simp only [spec_l12RefOk.l0] at H;replace H:=sqi H;rcases H with ⟨c21,H⟩ | ⟨c21,H⟩
     ·have zm:=decide_eq_false c21;clear c21;obtain rfl:=Option.some.inj H;obtain ⟨_,_,_,_,_,_,_,_,_,_,_,_⟩:=sqc6 B0
      go_wp2
      go_ret
      exact sqe HB
     have zm:=decide_eq_true c21;clear c21;replace H:=sqi H;rcases H with ⟨c22,H⟩ | ⟨c22,H⟩
     ·cases H
     have zt:=decide_eq_true c22;clear c22;replace H:=sqj H;rcases H with ⟨c23,H⟩ | ⟨c23,H⟩
     ·have zn:=decide_eq_true c23;clear c23;obtain rfl:=Option.some.inj H;obtain ⟨_,_,_,_,_,_,_,_,_,_,_,_⟩:=sqc6 B0
      try go_wp2
      replace B0:=sqdr B0;replace HB:=sqdB HB;have z3 : 0 ≤ (x1 : Int):=sqd;have z4 : x1 < (l0_1.length : Int):=sqd;obtain ⟨z1,z7,z0⟩:=Kd.at_int HR0_1.out x1 z3 z4;have z8:=z0;cases z7;replace z0:=sqa HB z0;replace z3:=eq_true z3;replace z4:=eq_true z4;refine sqsT 24 (fun w'=>Ce6 w' gb0 (.bool a0_0) (.slice (some z1) l0_1.length c0_1) (.int .i64 a0_2) (.int .i64 a0_3) (.int .i64 a0_4) (.int .i64 a0_5)∧w'.cell? (z1.add (x1).toNat) = some (.int .i64 (rd l0_1 x1))) [] ⟨sqK6 B0,(sqa HB z8 :)⟩ (fun hHeld=>?_);refine with_tabW spec_l12RefOk.tab6 spec_l12RefOk.bits6 (fun HT_ HW_=>?_);generalize wr.drew = w25 at B0 HB z0 hHeld ⊢;refine sqp HT_ 0 37 ?_;refine sqp HT_ 2 39 ?_;refine sqw HT_ HW_ 1 38 hHeld ?_;refine sqp HT_ 3 40 ?_;refine sqw HT_ HW_ 4 41 hHeld ?_;refine sqp HT_ 5 42 ?_;refine sqp HT_ 6 43 ?_;refine sqpu HT_ 7 44 ?_;refine sqpu HT_ 8 45 ?_;refine sqpu HT_ 9 46 ?_;refine sqpu HT_ 10 47 ?_;refine sqpu HT_ 11 48 ?_;refine sqpu HT_ 12 49 ?_;refine sqpu HT_ 13 50 ?_;refine sqpu HT_ 14 51 ?_;refine sqpu HT_ 15 52 ?_;refine sqpu HT_ 16 53 ?_;refine sqpu HT_ 17 54 ?_;refine sqpu HT_ 18 55 ?_;refine sqpu HT_ 19 56 ?_;refine sqpu HT_ 20 57 ?_;refine sqpu HT_ 21 58 ?_;refine sqpu HT_ 22 59 ?_;refine sqp HT_ 23 60 ?_;refine done_ (done_of HT_.out (by kernel_rfl)) ?_
      try go_wp2
      go_ret
      exact sqe HB
     have zn:=decide_eq_false c23;clear c23;replace H:=sqi H;rcases H with ⟨c26,H⟩ | ⟨c26,H⟩
     ·have zo : decide (0 < x1) = false:=decide_eq_false c26;clear c26;have H':=Aside0.mk H;clear H;obtain ⟨_,_,_,_,_,_,_,_,_,_,_,_⟩:=sqc6 B0
      try go_wp2
      replace B0:=sqdr B0;replace HB:=sqdB HB;have z3 : 0 ≤ (x1 : Int):=sqd;have z4 : x1 < (l0_1.length : Int):=sqd;obtain ⟨z1,z7,z0⟩:=Kd.at_int HR0_1.out x1 z3 z4;have z8:=z0;cases z7;replace z0:=sqa HB z0;replace z3:=eq_true z3;replace z4:=eq_true z4;refine sqsT 24 (fun w'=>Ce6 w' gb0 (.bool a0_0) (.slice (some z1) l0_1.length c0_1) (.int .i64 a0_2) (.int .i64 a0_3) (.int .i64 a0_4) (.int .i64 a0_5)∧w'.cell? (z1.add (x1).toNat) = some (.int .i64 (rd l0_1 x1))) [] ⟨sqK6 B0,(sqa HB z8 :)⟩ (fun hHeld=>?_);refine with_tabW spec_l12RefOk.tab6 spec_l12RefOk.bits6 (fun HT_ HW_=>?_);generalize wr.drew = w36 at B0 HB z0 hHeld ⊢;refine sqp HT_ 0 37 ?_;refine sqp HT_ 2 39 ?_;refine sqw HT_ HW_ 1 38 hHeld ?_;refine sqp HT_ 3 40 ?_;refine sqw HT_ HW_ 4 41 hHeld ?_;refine sqp HT_ 5 42 ?_;refine sqp HT_ 6 43 ?_;refine sqp HT_ 7 44 ?_;refine sqp HT_ 8 45 ?_;refine sqp HT_ 9 46 ?_;refine sqpu HT_ 10 47 ?_;refine sqpu HT_ 11 48 ?_;refine sqpu HT_ 12 49 ?_;refine sqpu HT_ 13 50 ?_;refine sqpu HT_ 14 51 ?_;refine sqpu HT_ 15 52 ?_;refine sqpu HT_ 16 53 ?_;refine sqpu HT_ 17 54 ?_;refine sqpu HT_ 18 55 ?_;refine sqpu HT_ 19 56 ?_;refine sqpu HT_ 20 57 ?_;refine sqpu HT_ 21 58 ?_;refine sqp HT_ 22 59 ?_;refine sqp HT_ 23 60 ?_;refine done_ (done_of HT_.out (by kernel_rfl)) ?_
      try go_wp2
      go_roundg k2
      case measure=>have:=HJ1.out;have:=HK2.out;omega
      case rel=>exact ⟨(wrap64 (x1 + 1)),sqE,H',⟨by have:=HJ1.out;have:=HK2.out;omega⟩,sqk B0,sqh HB⟩
     have zo : decide (0 < x1) = true:=decide_eq_true c26;clear c26;obtain ⟨z2,ze⟩ : ∃ j_ : Int,(wrap64 (x1 - 1)) = j_:=⟨_,rfl⟩
     replace H : (if 0 ≤ (z2) then (if (z2) < (l0_1.length : Int) then (if (rd l0_1 (z2)) ≥ (rd l0_1 x1) then (some false) else (spec_l12RefOk.l0 k2 (wrap64 (x1 + 1)) a0_0 l0_1 a0_2 a0_3 a0_4 a0_5)) else (none)) else (none)) = some r:=by first | (rw [ze] at H;exact H) | (simp only [ze] at H ⊢;exact H)
     have zu : (IntKind.i64.wrap (x1 - 1)) = z2:=(i64_w _).trans ze;replace H:=sqi H;rcases H with ⟨c28,H⟩ | ⟨c28,H⟩
     ·cases H
     have zv:=decide_eq_true c28;clear c28;replace H:=sqi H;rcases H with ⟨c29,H⟩ | ⟨c29,H⟩
     ·cases H
     have zw:=decide_eq_true c29;clear c29;replace H:=sqj H;rcases H with ⟨c30,H⟩ | ⟨c30,H⟩
     ·have zp : decide ((rd l0_1 x1) ≤ (rd l0_1 (z2))) = true:=decide_eq_true c30;clear c30;obtain rfl:=Option.some.inj H;obtain ⟨_,_,_,_,_,_,_,_,_,_,_,_⟩:=sqc6 B0
      try go_wp2
      replace B0:=sqdr B0;replace HB:=sqdB HB;have z3 : 0 ≤ (x1 : Int):=sqd;have z4 : x1 < (l0_1.length : Int):=sqd;obtain ⟨z1,z7,z0⟩:=Kd.at_int HR0_1.out x1 z3 z4;have z8:=z0;cases z7;replace z0:=sqa HB z0;replace z3:=eq_true z3;replace z4:=eq_true z4;have z9 : 0 ≤ ((z2) : Int):=sqd;have za : (z2) < (l0_1.length : Int):=sqd;obtain ⟨zf,zg,z5⟩:=Kd.at_int HR0_1.out (z2) z9 za;have zh:=z5;obtain rfl : z1 = zf:=(by injection zg);replace z5:=sqa HB z5;replace z9:=eq_true z9;replace za:=eq_true za;have zb : 0 ≤ (x1 : Int):=sqd;have zc : x1 < (l0_1.length : Int):=sqd;obtain ⟨zi,zj,z6⟩:=Kd.at_int HR0_1.out x1 zb zc;have zq:=z6;obtain rfl : z1 = zi:=(by injection zj);replace z6:=sqa HB z6;replace zb:=eq_true zb;replace zc:=eq_true zc;refine sqsT 24 (fun w'=>Ce6 w' gb0 (.bool a0_0) (.slice (some z1) l0_1.length c0_1) (.int .i64 a0_2) (.int .i64 a0_3) (.int .i64 a0_4) (.int .i64 a0_5)∧w'.cell? (z1.add (x1).toNat) = some (.int .i64 (rd l0_1 x1))∧w'.cell? (z1.add ((z2)).toNat) = some (.int .i64 (rd l0_1 (z2)))) [] ⟨sqK6 B0,(sqa HB z8 :),(sqa HB zh :)⟩ (fun hHeld=>?_);refine with_tabW spec_l12RefOk.tab6 spec_l12RefOk.bits6 (fun HT_ HW_=>?_);generalize wr.drew = w32 at B0 HB z0 z5 z6 hHeld ⊢;refine sqp HT_ 0 37 ?_;refine sqp HT_ 2 39 ?_;refine sqw HT_ HW_ 1 38 hHeld ?_;refine sqp HT_ 3 40 ?_;refine sqw HT_ HW_ 4 41 hHeld ?_;refine sqp HT_ 5 42 ?_;refine sqp HT_ 6 43 ?_;refine sqp HT_ 7 44 ?_;refine sqp HT_ 8 45 ?_;refine sqp HT_ 9 46 ?_;refine sqp HT_ 10 47 ?_;refine sqp HT_ 12 49 ?_;refine sqp HT_ 13 50 ?_;refine sqp HT_ 16 53 ?_;refine sqp HT_ 18 55 ?_;refine sqw HT_ HW_ 11 48 hHeld ?_;refine sqp HT_ 14 51 ?_;refine sqw HT_ HW_ 15 52 hHeld ?_;refine sqw HT_ HW_ 17 54 hHeld ?_;refine sqp HT_ 19 56 ?_;refine sqw HT_ HW_ 20 57 hHeld ?_;refine sqp HT_ 21 58 ?_;refine sqp HT_ 22 59 ?_;refine sqp HT_ 23 60 ?_;refine done_ (done_of HT_.out (by kernel_rfl)) ?_
      try go_wp2
      go_ret
      exact ⟨by first | rfl | (simp [errW_none,errW_some] <;> rfl) | (simp only [← ze];first | rfl | (simp [errW_none,errW_some] <;> rfl)) | (simp [*,errW_none,errW_some] <;> rfl),sqB HB⟩
     have zp : decide ((rd l0_1 x1) ≤ (rd l0_1 (z2))) = false:=decide_eq_false c30;clear c30;have H':=Aside0.mk H;clear H;obtain ⟨_,_,_,_,_,_,_,_,_,_,_,_⟩:=sqc6 B0
     try go_wp2
     replace B0:=sqdr B0;replace HB:=sqdB HB;have z3 : 0 ≤ (x1 : Int):=sqd;have z4 : x1 < (l0_1.length : Int):=sqd;obtain ⟨z1,z7,z0⟩:=Kd.at_int HR0_1.out x1 z3 z4;have z8:=z0;cases z7;replace z0:=sqa HB z0;replace z3:=eq_true z3;replace z4:=eq_true z4;have z9 : 0 ≤ ((z2) : Int):=sqd;have za : (z2) < (l0_1.length : Int):=sqd;obtain ⟨zf,zg,z5⟩:=Kd.at_int HR0_1.out (z2) z9 za;have zh:=z5;obtain rfl : z1 = zf:=(by injection zg);replace z5:=sqa HB z5;replace z9:=eq_true z9;replace za:=eq_true za;have zb : 0 ≤ (x1 : Int):=sqd;have zc : x1 < (l0_1.length : Int):=sqd;obtain ⟨zi,zj,z6⟩:=Kd.at_int HR0_1.out x1 zb zc;have zq:=z6;obtain rfl : z1 = zi:=(by injection zj);replace z6:=sqa HB z6;replace zb:=eq_true zb;replace zc:=eq_true zc;refine sqsT 24 (fun w'=>Ce6 w' gb0 (.bool a0_0) (.slice (some z1) l0_1.length c0_1) (.int .i64 a0_2) (.int .i64 a0_3) (.int .i64 a0_4) (.int .i64 a0_5)∧w'.cell? (z1.add (x1).toNat) = some (.int .i64 (rd l0_1 x1))∧w'.cell? (z1.add ((z2)).toNat) = some (.int .i64 (rd l0_1 (z2)))) [] ⟨sqK6 B0,(sqa HB z8 :),(sqa HB zh :)⟩ (fun hHeld=>?_);refine with_tabW spec_l12RefOk.tab6 spec_l12RefOk.bits6 (fun HT_ HW_=>?_);generalize wr.drew = w34 at B0 HB z0 z5 z6 hHeld ⊢;refine sqp HT_ 0 37 ?_;refine sqp HT_ 2 39 ?_;refine sqw HT_ HW_ 1 38 hHeld ?_;refine sqp HT_ 3 40 ?_;refine sqw HT_ HW_ 4 41 hHeld ?_;refine sqp HT_ 5 42 ?_;refine sqp HT_ 6 43 ?_;refine sqp HT_ 7 44 ?_;refine sqp HT_ 8 45 ?_;refine sqp HT_ 9 46 ?_;refine sqp HT_ 10 47 ?_;refine sqp HT_ 12 49 ?_;refine sqp HT_ 13 50 ?_;refine sqp HT_ 16 53 ?_;refine sqp HT_ 18 55 ?_;refine sqw HT_ HW_ 11 48 hHeld ?_;refine sqp HT_ 14 51 ?_;refine sqw HT_ HW_ 15 52 hHeld ?_;refine sqw HT_ HW_ 17 54 hHeld ?_;refine sqp HT_ 19 56 ?_;refine sqw HT_ HW_ 20 57 hHeld ?_;refine sqp HT_ 21 58 ?_;refine sqp HT_ 22 59 ?_;refine sqp HT_ 23 60 ?_;refine done_ (done_of HT_.out (by kernel_rfl)) ?_
     try go_wp2
     go_roundg k2
     case measure=>have:=HJ1.out;have:=HK2.out;omega
     case rel=>exact ⟨(wrap64 (x1 + 1)),sqE,H',⟨by have:=HJ1.out;have:=HK2.out;omega⟩,sqk B0,sqh HB⟩

/-! ### spec_l12Vals: function 73 -/
def spec_l12Vals.T4 : Bool × List (List Nat × List Nat):=(true,[([],[]),([],[]),([0,1],[0,1]),([2],[2]),([3],[3]),([4],[4]),([5,4],[5]),([6],[6]),([6],[6]),([7,8,6],[6,7,8]),([9,6],[6,9]),([6,6],[6]),([10,11,6],[6,10,11]),([6,12],[6,12])])
def spec_l12Vals.B4 : List Nat:=[0,0,3,7,15,31,63,127,127,511,1023,127,4095,8191]
theorem spec_l12Vals.tab4 : rtab .any (opsOf Tryz.f73 4) = spec_l12Vals.T4:=by kernel_rfl
theorem spec_l12Vals.bits4 : waitsOk spec_l12Vals.T4.2 spec_l12Vals.B4 = true:=by kernel_rfl
theorem spec_l12Vals.calls (k : Nat) (A0 : Option Addr) (c0 : Nat) (l0 : List (S58)) (r : Bool) (w : World) (hr0 : Kd.C k58 w A0 l0.length l0) (hc0 : l0.length ≤ c0) (h : spec_l12Vals.f k l0 = some r) :
  Calls Tryz.prog 73 #[.slice A0 l0.length c0] w fun e w'=>e = .returned (.bool r)∧Below w.heap.size w w':=by
 have hu58:=Tryz.underlying58;have HR0:=Aside0.mk hr0;have HC0:=Aside0.mk hc0;clear hr0 hc0;have HB:=Aside0.mk (Below.refl w.heap.size w);have H:=h;unfold spec_l12Vals.f at H;clear h;have H':=Aside0.mk H;clear H;go_enter Tryz.func73,Tryz.ntmps73
 go_wp2
 go_loopg [3] k (fun kq v3 w'=>∃ (x0 : Int),v3 = .int .i64 x0∧Aside0 (spec_l12Vals.l0 kq l0 x0 = some r)∧Aside0 (kq ≤ k)∧Aside0 (Below w.heap.size w w'))
 case atStart=>exact ⟨(0),sqE,H',⟨Nat.le_refl _⟩,sqh HB⟩
 case round =>
  clear H';obtain ⟨x0,rfl,HA,HK1,HB⟩:=hrel;cases gk with
  | zero=>exact absurd HA.out (by simp [spec_l12Vals.l0])
  | succ k1 =>
   have H:=HA.out;clear HA;simp only [spec_l12Vals.l0] at H;replace H:=sqi H;rcases H with ⟨c2,H⟩ | ⟨c2,H⟩
   ·have zk:=decide_eq_false c2;clear c2;obtain rfl:=Option.some.inj H
    go_wp2
    go_ret
    exact sqe HB
   have zk:=decide_eq_true c2;clear c2;replace H:=sqi H;rcases H with ⟨c3,H⟩ | ⟨c3,H⟩
   ·cases H
   have zt:=decide_eq_true c3;clear c3;replace H:=sqbi H;obtain ⟨t0,A4,H⟩:=H;(try dsimp only at H);rcases sqI (t0 = true) with c5 | c5
   ·replace c5:=Bool.eq_false_iff.mpr c5;subst c5;rw [sqff] at H;obtain rfl:=Option.some.inj H
    try go_wp2
    replace HB:=sqdB HB;have z5 : 0 ≤ (x0 : Int):=sqd;have z6 : x0 < (l0.length : Int):=sqd;obtain ⟨z0,zh,z1,z2,z3,z4⟩:=at_T58 HR0.out x0 z5 z6;have z7:=z4;have z8:=z3;have z9:=z2;have za:=z1;cases zh;replace z1:=sqa HB z1;replace z2:=sqa HB z2;replace z3:=sqa HB z3;replace z4:=sqa HB z4;replace z5:=eq_true z5;replace z6:=eq_true z6;refine sqsT 14 (fun w'=>w'.cell? (z0.add ((x0).toNat * 4)) = some (.int .i64 ((rd_T58 l0 x0).f0))∧w'.cell? ⟨(z0.add ((x0).toNat * 4)).block,(z0.add ((x0).toNat * 4)).off + 1,none⟩ = some (.int .i64 ((rd_T58 l0 x0).f1))∧w'.cell? ⟨(z0.add ((x0).toNat * 4)).block,(z0.add ((x0).toNat * 4)).off + 2,none⟩ = some (.int .i64 ((rd_T58 l0 x0).f2))∧w'.cell? ⟨(z0.add ((x0).toNat * 4)).block,(z0.add ((x0).toNat * 4)).off + 3,none⟩ = some (.int .i64 ((rd_T58 l0 x0).f3))) [] ⟨(sqa HB za :),(sqa HB z9 :),(sqa HB z8 :),(sqa HB z7 :)⟩ (fun hHeld=>?_);refine with_tabW spec_l12Vals.tab4 spec_l12Vals.bits4 (fun HT_ HW_=>?_);generalize wr.drew = w14 at HB z1 z2 z3 z4 hHeld ⊢;refine sqp HT_ 0 10 ?_;refine sqp HT_ 1 11 ?_;refine sqp HT_ 2 12 ?_;refine sqw HT_ HW_ 3 13 hHeld ?_;refine sqo HT_ 4 14 (fun K hK=>?_);refine sqGb rfl Tryz.func127 (spec_ValOk.calls _ _ _ _ _ _ _ A4.out) ?_;intro w15 hb;replace HB:=sqs HB hb;(try clear hb);refine hK.out _ _ ⟨(sqa HB za :),(sqa HB z9 :),(sqa HB z8 :),(sqa HB z7 :)⟩ (fun hHeld=>?_);clear hK K;refine sqnm ?_;refine sqp HT_ 5 15 ?_;refine sqp HT_ 6 16 ?_;refine sqpu HT_ 7 17 ?_;refine sqpu HT_ 8 18 ?_;refine sqpu HT_ 9 19 ?_;refine sqpu HT_ 10 20 ?_;refine sqpu HT_ 11 21 ?_;refine sqpu HT_ 12 22 ?_;refine sqp HT_ 13 23 ?_;refine done_ (done_of HT_.out (by kernel_rfl)) ?_
    try go_wp2
    go_ret
    exact sqe HB
   subst c5;rw [if_pos rfl] at H;replace H:=sqbi H;obtain ⟨⟨t1,t2,t3,t4⟩,A6,H⟩:=H;(try dsimp only at H);replace H:=sqj H;rcases H with ⟨c7,H⟩ | ⟨c7,H⟩
   ·have zl : (((rd_T58 l0 x0).f0) == t1 && (((rd_T58 l0 x0).f1) == t2 && (((rd_T58 l0 x0).f2) == t3 && (((rd_T58 l0 x0).f3) == t4)))) = true:=c7
    (try (have zm : decide (((rd_T58 l0 x0).f0) = t1 && (((rd_T58 l0 x0).f1) == t2 && (((rd_T58 l0 x0).f2) == t3 && (((rd_T58 l0 x0).f3) == t4)))) = true:=by simpa using c7))
    (try (have zn : (((rd_T58 l0 x0).f0) == t1 && (((rd_T58 l0 x0).f1) == t2 && (((rd_T58 l0 x0).f2) == t3 && (((rd_T58 l0 x0).f3) == t4)))) = true:=by simpa using c7))
    clear c7;obtain rfl:=Option.some.inj H
    try go_wp2
    replace HB:=sqdB HB;have z5 : 0 ≤ (x0 : Int):=sqd;have z6 : x0 < (l0.length : Int):=sqd;obtain ⟨z0,zh,z1,z2,z3,z4⟩:=at_T58 HR0.out x0 z5 z6;have z7:=z4;have z8:=z3;have z9:=z2;have za:=z1;cases zh;replace z1:=sqa HB z1;replace z2:=sqa HB z2;replace z3:=sqa HB z3;replace z4:=sqa HB z4;replace z5:=eq_true z5;replace z6:=eq_true z6;have zf : 0 ≤ (x0 : Int):=sqd;have zg : x0 < (l0.length : Int):=sqd;obtain ⟨zi,zj,zb,zc,zd,ze⟩:=at_T58 HR0.out x0 zf zg;have zo:=ze;have zp:=zd;have zq:=zc;have zr:=zb;obtain rfl : z0 = zi:=(by injection zj);replace zb:=sqa HB zb;replace zc:=sqa HB zc;replace zd:=sqa HB zd;replace ze:=sqa HB ze;replace zf:=eq_true zf;replace zg:=eq_true zg;refine sqsT 14 (fun w'=>w'.cell? (z0.add ((x0).toNat * 4)) = some (.int .i64 ((rd_T58 l0 x0).f0))∧w'.cell? ⟨(z0.add ((x0).toNat * 4)).block,(z0.add ((x0).toNat * 4)).off + 1,none⟩ = some (.int .i64 ((rd_T58 l0 x0).f1))∧w'.cell? ⟨(z0.add ((x0).toNat * 4)).block,(z0.add ((x0).toNat * 4)).off + 2,none⟩ = some (.int .i64 ((rd_T58 l0 x0).f2))∧w'.cell? ⟨(z0.add ((x0).toNat * 4)).block,(z0.add ((x0).toNat * 4)).off + 3,none⟩ = some (.int .i64 ((rd_T58 l0 x0).f3))) [] ⟨(sqa HB za :),(sqa HB z9 :),(sqa HB z8 :),(sqa HB z7 :)⟩ (fun hHeld=>?_);refine with_tabW spec_l12Vals.tab4 spec_l12Vals.bits4 (fun HT_ HW_=>?_);generalize wr.drew = w8 at HB z1 z2 z3 z4 zb zc zd ze hHeld ⊢;refine sqp HT_ 0 10 ?_;refine sqp HT_ 1 11 ?_;refine sqp HT_ 2 12 ?_;refine sqw HT_ HW_ 3 13 hHeld ?_;refine sqo HT_ 4 14 (fun K hK=>?_);refine sqGb rfl Tryz.func127 (spec_ValOk.calls _ _ _ _ _ _ _ A4.out) ?_;intro w9 hb;replace HB:=sqs HB hb;(try clear hb);refine hK.out _ _ ⟨(sqa HB za :),(sqa HB z9 :),(sqa HB z8 :),(sqa HB z7 :)⟩ (fun hHeld=>?_);clear hK K;refine sqnm ?_;refine sqp HT_ 5 15 ?_;refine sqp HT_ 6 16 ?_;refine sqp HT_ 7 17 ?_;refine sqp HT_ 8 18 ?_;refine sqp HT_ 9 19 ?_;refine sqw HT_ HW_ 10 20 hHeld ?_;refine sqo HT_ 11 21 (fun K hK=>?_);refine sqGb rfl Tryz.func93 (spec_l10None.calls _ _ _ _ _ A6.out) ?_;intro w10 hb;replace HB:=sqs HB hb;(try clear hb);refine hK.out _ _ ⟨(sqa HB za :),(sqa HB z9 :),(sqa HB z8 :),(sqa HB z7 :)⟩ (fun hHeld=>?_);clear hK K;refine sqnm ?_;refine sqp HT_ 12 22 ?_;refine sqp HT_ 13 23 ?_;refine done_ (done_of HT_.out (by kernel_rfl)) ?_
    try go_wp2
    go_ret
    exact sqe HB
   have zl : (((rd_T58 l0 x0).f0) == t1 && (((rd_T58 l0 x0).f1) == t2 && (((rd_T58 l0 x0).f2) == t3 && (((rd_T58 l0 x0).f3) == t4)))) = false:=by simpa using c7
   (try (have zm : decide (((rd_T58 l0 x0).f0) = t1 && (((rd_T58 l0 x0).f1) == t2 && (((rd_T58 l0 x0).f2) == t3 && (((rd_T58 l0 x0).f3) == t4)))) = false:=by simpa using c7))
   (try (have zn : (((rd_T58 l0 x0).f0) == t1 && (((rd_T58 l0 x0).f1) == t2 && (((rd_T58 l0 x0).f2) == t3 && (((rd_T58 l0 x0).f3) == t4)))) = false:=by simpa using c7))
   (try (have zu : ¬ (((rd_T58 l0 x0).f0) = t1 && (((rd_T58 l0 x0).f1) == t2 && (((rd_T58 l0 x0).f2) == t3 && (((rd_T58 l0 x0).f3) == t4)))):=by simpa using c7))
   clear c7;have H':=Aside0.mk H;clear H
   try go_wp2
   replace HB:=sqdB HB;have z5 : 0 ≤ (x0 : Int):=sqd;have z6 : x0 < (l0.length : Int):=sqd;obtain ⟨z0,zh,z1,z2,z3,z4⟩:=at_T58 HR0.out x0 z5 z6;have z7:=z4;have z8:=z3;have z9:=z2;have za:=z1;cases zh;replace z1:=sqa HB z1;replace z2:=sqa HB z2;replace z3:=sqa HB z3;replace z4:=sqa HB z4;replace z5:=eq_true z5;replace z6:=eq_true z6;have zf : 0 ≤ (x0 : Int):=sqd;have zg : x0 < (l0.length : Int):=sqd;obtain ⟨zi,zj,zb,zc,zd,ze⟩:=at_T58 HR0.out x0 zf zg;have zo:=ze;have zp:=zd;have zq:=zc;have zr:=zb;obtain rfl : z0 = zi:=(by injection zj);replace zb:=sqa HB zb;replace zc:=sqa HB zc;replace zd:=sqa HB zd;replace ze:=sqa HB ze;replace zf:=eq_true zf;replace zg:=eq_true zg;refine sqsT 14 (fun w'=>w'.cell? (z0.add ((x0).toNat * 4)) = some (.int .i64 ((rd_T58 l0 x0).f0))∧w'.cell? ⟨(z0.add ((x0).toNat * 4)).block,(z0.add ((x0).toNat * 4)).off + 1,none⟩ = some (.int .i64 ((rd_T58 l0 x0).f1))∧w'.cell? ⟨(z0.add ((x0).toNat * 4)).block,(z0.add ((x0).toNat * 4)).off + 2,none⟩ = some (.int .i64 ((rd_T58 l0 x0).f2))∧w'.cell? ⟨(z0.add ((x0).toNat * 4)).block,(z0.add ((x0).toNat * 4)).off + 3,none⟩ = some (.int .i64 ((rd_T58 l0 x0).f3))) [] ⟨(sqa HB za :),(sqa HB z9 :),(sqa HB z8 :),(sqa HB z7 :)⟩ (fun hHeld=>?_);refine with_tabW spec_l12Vals.tab4 spec_l12Vals.bits4 (fun HT_ HW_=>?_);generalize wr.drew = w11 at HB z1 z2 z3 z4 zb zc zd ze hHeld ⊢;refine sqp HT_ 0 10 ?_;refine sqp HT_ 1 11 ?_;refine sqp HT_ 2 12 ?_;refine sqw HT_ HW_ 3 13 hHeld ?_;refine sqo HT_ 4 14 (fun K hK=>?_);refine sqGb rfl Tryz.func127 (spec_ValOk.calls _ _ _ _ _ _ _ A4.out) ?_;intro w12 hb;replace HB:=sqs HB hb;(try clear hb);refine hK.out _ _ ⟨(sqa HB za :),(sqa HB z9 :),(sqa HB z8 :),(sqa HB z7 :)⟩ (fun hHeld=>?_);clear hK K;refine sqnm ?_;refine sqp HT_ 5 15 ?_;refine sqp HT_ 6 16 ?_;refine sqp HT_ 7 17 ?_;refine sqp HT_ 8 18 ?_;refine sqp HT_ 9 19 ?_;refine sqw HT_ HW_ 10 20 hHeld ?_;refine sqo HT_ 11 21 (fun K hK=>?_);refine sqGb rfl Tryz.func93 (spec_l10None.calls _ _ _ _ _ A6.out) ?_;intro w13 hb;replace HB:=sqs HB hb;(try clear hb);refine hK.out _ _ ⟨(sqa HB za :),(sqa HB z9 :),(sqa HB z8 :),(sqa HB z7 :)⟩ (fun hHeld=>?_);clear hK K;refine sqnm ?_;refine sqp HT_ 12 22 ?_;refine sqp HT_ 13 23 ?_;refine done_ (done_of HT_.out (by kernel_rfl)) ?_
   try go_wp2
   go_roundg k1
   case measure=>have:=HK1.out;omega
   case rel=>exact ⟨(wrap64 (x0 + 1)),sqE,H',⟨by have:=HK1.out;omega⟩,sqh HB⟩

/-! ### spec_l11At: function 135 -/
theorem spec_l11At.calls (a0_0 : Int) (A0_1 : Option Addr) (c0_1 : Nat) (l0_1 : List Int) (a1 : Int) (a2 : Int) (r : Int) (w : World) (hr0_1 : Kd.C (Kd.int .i64) w A0_1 l0_1.length l0_1) (hc0_1 : l0_1.length ≤ c0_1) (h : spec_l11At.f a0_0 l0_1 a1 a2 = some r) :
  Calls Tryz.prog 135 #[.agg #[.int .i64 a0_0,.slice A0_1 l0_1.length c0_1],.int .i64 a1,.int .i64 a2] w fun e w'=>e = .returned (.int .i64 r)∧Below w.heap.size w w':=by
 have hu32:=Tryz.underlying32;have HR0_1:=Aside0.mk hr0_1;have HC0_1:=Aside0.mk hc0_1;clear hr0_1 hc0_1;have HB:=Aside0.mk (Below.refl w.heap.size w);have H:=h;unfold spec_l11At.f at H;clear h;obtain ⟨z0,z1⟩ : ∃ j_ : Int,(wrap64 ((wrap64 (a1 * (wrap64 (a0_0 + 1)))) + a2)) = j_:=⟨_,rfl⟩
 replace H : (if 0 ≤ (z0) then (if (z0) < (l0_1.length : Int) then (some (rd l0_1 (z0))) else (none)) else (none)) = some r:=by first | (rw [z1] at H;exact H) | (simp only [z1] at H ⊢;exact H)
 have z6 : (IntKind.i64.wrap ((wrap64 (a1 * (wrap64 (a0_0 + 1)))) + a2)) = z0:=(i64_w _).trans z1;replace H:=sqi H;rcases H with ⟨c5,H⟩ | ⟨c5,H⟩
 ·cases H
 have z7:=decide_eq_true c5;clear c5;replace H:=sqi H;rcases H with ⟨c6,H⟩ | ⟨c6,H⟩
 ·cases H
 have z8:=decide_eq_true c6;clear c6;obtain rfl:=Option.some.inj H;go_enter Tryz.func135,Tryz.ntmps135;go_wp2_with (first | ((with_reducible refine gd 3 rfl ?_);refine sqX 3 #[.int .i64 a0_0,.slice A0_1 l0_1.length c0_1] 32 HB ?_;clear HB;intro gb0 hg w7 hb B0 GW0 HB;clear hb hg;obtain ⟨_,_,_,_⟩:=sqc2 B0;have z2 : 0 ≤ ((z0) : Int):=sqd;have z3 : (z0) < (l0_1.length : Int):=sqd;obtain ⟨z9,z5,z4⟩:=Kd.at_int HR0_1.out (z0) z2 z3;cases z5;replace z4:=sqa HB z4;replace z2:=eq_true z2;replace z3:=eq_true z3))
 go_ret
 exact ⟨by first | rfl | (simp [errW_none,errW_some] <;> rfl) | (simp only [← z1];first | rfl | (simp [errW_none,errW_some] <;> rfl)) | (simp [*,errW_none,errW_some] <;> rfl),sqB HB⟩

/-! ### spec_GapsOk: function 74 -/
theorem spec_GapsOk.calls (k : Nat) (a0_0 : Int) (A0_1 : Option Addr) (c0_1 : Nat) (l0_1 : List Int) (r : Bool) (w : World) (hr0_1 : Kd.C (Kd.int .i64) w A0_1 l0_1.length l0_1) (hc0_1 : l0_1.length ≤ c0_1) (h : spec_GapsOk.f k a0_0 l0_1 = some r) :
  Calls Tryz.prog 74 #[.agg #[.int .i64 a0_0,.slice A0_1 l0_1.length c0_1]] w fun e w'=>e = .returned (.bool r)∧Below w.heap.size w w':=by
 have hu32:=Tryz.underlying32;have HR0_1:=Aside0.mk hr0_1;have HC0_1:=Aside0.mk hc0_1;clear hr0_1 hc0_1;have HB:=Aside0.mk (Below.refl w.heap.size w);have H:=h;unfold spec_GapsOk.f at H;clear h;have HC2:=Aside0.mk H;clear H;go_enter Tryz.func74,Tryz.ntmps74;go_upto_region 1 with (first | ((with_reducible refine gd 1 rfl ?_);(try (refine gate_guard (by rfl) ?_;dsimp only));refine sqX 1 #[.int .i64 a0_0,.slice A0_1 l0_1.length c0_1] 32 HB ?_;clear HB;intro gb0 hg w3 hb B0 GW0 HB;clear hb hg))
 (try simp only [Act.put,List.setIfInBounds_toArray,List.set_cons_zero,List.set_cons_succ])
 go_cut [22] (fun v22 wc=>∃ (kq : Nat) (x0 : Bool),v22 = .bool x0∧Aside0 (spec_GapsOk.j0 kq x0 a0_0 l0_1 = some r)∧Aside0 (kq ≤ k)∧Aside0 (wc.heap[gb0]? = some (.cells #[.int .i64 a0_0,(.slice A0_1 l0_1.length c0_1)] 32 (0,0)))∧Aside0 (Below w.heap.size w wc))
 case first =>
  have H:=HC2.out;clear HC2;replace H:=sqbi H;obtain ⟨t0,A4,H⟩:=H;(try dsimp only at H);rcases sqI (t0 = true) with c5 | c5
  ·replace c5:=Bool.eq_false_iff.mpr c5;subst c5;rw [sqff] at H;have H':=Aside0.mk H;clear H;obtain ⟨_,_,_,_⟩:=sqc2 B0;go_wp2_with (first | ((with_reducible refine gf 120 rfl ?_);refine sqLq rfl (some 8) Tryz.func120 (spec_l1In.calls _ _ _ _ _ A4.out) ?_;intro nd));go_meet
   case rel=>exact ⟨_,(true),sqE,H',⟨sqle⟩,sqk B0,sqh HB⟩
  subst c5;rw [if_pos rfl] at H;have H':=Aside0.mk H;clear H;obtain ⟨_,_,_,_⟩:=sqc2 B0;go_wp2_with (first | ((with_reducible refine gf 120 rfl ?_);refine sqLq rfl (some 8) Tryz.func120 (spec_l1In.calls _ _ _ _ _ A4.out) ?_;intro nd));go_meet
  case rel=>exact ⟨_,(((l0_1.length : Int) != (wrap64 ((wrap64 (a0_0 + 1)) * (wrap64 (a0_0 + 1)))))),sqE,H',⟨sqle⟩,sqk B0,sqh HB⟩
 case rest =>
  clear HC2;obtain ⟨kq,x0,rfl,HA,HJ1,B0,HB⟩:=hcut;cases kq with
  | zero=>exact absurd HA.out (by simp [spec_GapsOk.j0])
  | succ kj1 =>
   have H:=HA.out;clear HA;simp only [spec_GapsOk.j0] at H
   by_cases c8 : x0 = true
   ·subst c8;rw [if_pos rfl] at H;obtain rfl:=Option.some.inj H
    go_wp2
    go_ret
    exact sqe HB
   replace c8:=Bool.eq_false_iff.mpr c8;subst c8;rw [sqff] at H;have H':=Aside0.mk H;clear H
   go_wp2
   go_loopg [3] kj1 (fun kq v3 w'=>∃ (x1 : Int),v3 = .int .i64 x1∧Aside0 (spec_GapsOk.l0 kq x1 a0_0 l0_1 = some r)∧Aside0 (kq ≤ kj1)∧Aside0 (w'.heap[gb0]? = some (.cells #[.int .i64 a0_0,(.slice A0_1 l0_1.length c0_1)] 32 (0,0)))∧Aside0 (Below w.heap.size w w'))
   case atStart=>exact ⟨(0),sqE,H',⟨Nat.le_refl _⟩,sqk B0,sqh HB⟩
   case round =>
    clear H';obtain ⟨x1,rfl,HA,HK2,B0,HB⟩:=hrel;cases gk with
    | zero=>exact absurd HA.out (by simp [spec_GapsOk.l0])
    | succ k2 =>
     have H:=HA.out;clear HA;simp only [spec_GapsOk.l0] at H;replace H:=sqi H;rcases H with ⟨c9,H⟩ | ⟨c9,H⟩
     ·have z0:=decide_eq_false c9;clear c9;obtain rfl:=Option.some.inj H;obtain ⟨_,_,_,_⟩:=sqc2 B0
      go_wp2
      go_ret
      exact sqe HB
     have z0:=decide_eq_true c9;clear c9;have H':=Aside0.mk H;clear H;obtain ⟨_,_,_,_⟩:=sqc2 B0
     go_wp2
     go_loopg [4] k2 (fun kq v4 w'=>∃ (x2 : Int),v4 = .int .i64 x2∧Aside0 (spec_GapsOk.l1 kq x1 x2 a0_0 l0_1 = some r)∧Aside0 (kq ≤ k2)∧Aside0 (w'.heap[gb0]? = some (.cells #[.int .i64 a0_0,(.slice A0_1 l0_1.length c0_1)] 32 (0,0)))∧Aside0 (Below w.heap.size w w'))
     case atStart=>exact ⟨(0),sqE,H',⟨Nat.le_refl _⟩,sqk B0,sqh HB⟩
     case round =>
      clear H';obtain ⟨x2,rfl,HA,HK3,B0,HB⟩:=hrel;cases gk with
      | zero=>exact absurd HA.out (by simp [spec_GapsOk.l1])
      | succ k3 =>
       have H:=HA.out;clear HA;simp only [spec_GapsOk.l1] at H;replace H:=sqi H;rcases H with ⟨c11,H⟩ | ⟨c11,H⟩
       ·have z1:=decide_eq_false c11;clear c11;have H':=Aside0.mk H;clear H;obtain ⟨_,_,_,_⟩:=sqc2 B0
        go_wp2
        go_roundg k3
        case measure=>have:=HJ1.out;have:=HK2.out;have:=HK3.out;omega
        case rel=>exact ⟨(wrap64 (x1 + 1)),sqE,H',⟨by have:=HJ1.out;have:=HK2.out;have:=HK3.out;omega⟩,sqk B0,sqh HB⟩
       have z1:=decide_eq_true c11;clear c11;replace H:=sqbi H;obtain ⟨t1,A12,H⟩:=H;(try dsimp only at H);replace H:=sqbi H;obtain ⟨t2,A13,H⟩:=H;(try dsimp only at H);rcases sqI (t2 = true) with c14 | c14
       ·replace c14:=Bool.eq_false_iff.mpr c14;subst c14;rw [sqff] at H;obtain rfl:=Option.some.inj H;obtain ⟨_,_,_,_⟩:=sqc2 B0;go_wp2_with (first | ((with_reducible refine gf 135 rfl ?_);refine sqLb rfl (some 38) Tryz.func135 (spec_l11At.calls _ _ _ _ _ _ _ _ (sqC (Kd.C_below HR0_1.out HB.out)) HC0_1.out A12.out) ?_;intro w24 hb;replace B0:=sqb B0 hb;replace HB:=sqs HB hb;(try clear hb)) | ((with_reducible refine gf 120 rfl ?_);refine sqLq rfl (some 40) Tryz.func120 (spec_l1In.calls _ _ _ _ _ A13.out) ?_;intro nd))
        go_ret
        exact sqe HB
       subst c14;rw [if_pos rfl] at H;replace H:=sqi H;rcases H with ⟨c15,H⟩ | ⟨c15,H⟩
       ·have z2 : (x1 == x2) = false:=beq_eq_false_iff_ne.mpr c15;have z3 : (x1 != x2) = true:=bne_iff_ne.mpr c15;have H':=Aside0.mk H;clear H;obtain ⟨_,_,_,_⟩:=sqc2 B0;go_wp2_with (first | ((with_reducible refine gf 135 rfl ?_);refine sqLb rfl (some 38) Tryz.func135 (spec_l11At.calls _ _ _ _ _ _ _ _ (sqC (Kd.C_below HR0_1.out HB.out)) HC0_1.out A12.out) ?_;intro w22 hb;replace B0:=sqb B0 hb;replace HB:=sqs HB hb;(try clear hb)) | ((with_reducible refine gf 120 rfl ?_);refine sqLq rfl (some 40) Tryz.func120 (spec_l1In.calls _ _ _ _ _ A13.out) ?_;intro nd));go_roundg k3
        case measure=>have:=HJ1.out;have:=HK2.out;have:=HK3.out;omega
        case rel=>exact ⟨(wrap64 (x2 + 1)),sqE,H',⟨by have:=HJ1.out;have:=HK2.out;have:=HK3.out;omega⟩,sqk B0,sqh HB⟩
       have z2 : (x1 == x2) = true:=beq_iff_eq.mpr c15;have z3 : (x1 != x2) = false:=bne_eq_false_iff_eq.mpr c15;clear c15;replace H:=sqi H;rcases H with ⟨c16,H⟩ | ⟨c16,H⟩
       ·have z4 : (t1 == 0) = false:=beq_eq_false_iff_ne.mpr c16;have z5 : (t1 != 0) = true:=bne_iff_ne.mpr c16;obtain rfl:=Option.some.inj H;obtain ⟨_,_,_,_⟩:=sqc2 B0;go_wp2_with (first | ((with_reducible refine gf 135 rfl ?_);refine sqLb rfl (some 38) Tryz.func135 (spec_l11At.calls _ _ _ _ _ _ _ _ (sqC (Kd.C_below HR0_1.out HB.out)) HC0_1.out A12.out) ?_;intro w20 hb;replace B0:=sqb B0 hb;replace HB:=sqs HB hb;(try clear hb)) | ((with_reducible refine gf 120 rfl ?_);refine sqLq rfl (some 40) Tryz.func120 (spec_l1In.calls _ _ _ _ _ A13.out) ?_;intro nd))
        go_ret
        exact sqe HB
       have z4 : (t1 == 0) = true:=beq_iff_eq.mpr c16;have z5 : (t1 != 0) = false:=bne_eq_false_iff_eq.mpr c16;clear c16;have H':=Aside0.mk H;clear H;obtain ⟨_,_,_,_⟩:=sqc2 B0;go_wp2_with (first | ((with_reducible refine gf 135 rfl ?_);refine sqLb rfl (some 38) Tryz.func135 (spec_l11At.calls _ _ _ _ _ _ _ _ (sqC (Kd.C_below HR0_1.out HB.out)) HC0_1.out A12.out) ?_;intro w18 hb;replace B0:=sqb B0 hb;replace HB:=sqs HB hb;(try clear hb)) | ((with_reducible refine gf 120 rfl ?_);refine sqLq rfl (some 40) Tryz.func120 (spec_l1In.calls _ _ _ _ _ A13.out) ?_;intro nd));go_roundg k3
       case measure=>have:=HJ1.out;have:=HK2.out;have:=HK3.out;omega
       case rel=>exact ⟨(wrap64 (x2 + 1)),sqE,H',⟨by have:=HJ1.out;have:=HK2.out;have:=HK3.out;omega⟩,sqk B0,sqh HB⟩

/-! ### spec_AbsOk: function 26 -/
theorem spec_AbsOk.calls (k : Nat) (a0_0 : Bool) (A0_1 : Option Addr) (c0_1 : Nat) (l0_1 : List (S58)) (A0_2 : Option Addr) (c0_2 : Nat) (l0_2 : List (S84)) (A0_3 : Option Addr) (c0_3 : Nat) (l0_3 : List (S58)) (a0_4 : Int) (A0_5 : Option Addr) (c0_5 : Nat) (l0_5 : List Int) (r : Bool) (w : World) (hr0_1 : Kd.C k58 w A0_1 l0_1.length l0_1) (hc0_1 : l0_1.length ≤ c0_1) (hr0_2 : Kd.C k84 w A0_2 l0_2.length l0_2) (hc0_2 : l0_2.length ≤ c0_2) (hr0_3 : Kd.C k58 w A0_3 l0_3.length l0_3) (hc0_3 : l0_3.length ≤ c0_3) (hr0_5 : Kd.C (Kd.int .i64) w A0_5 l0_5.length l0_5) (hc0_5 : l0_5.length ≤ c0_5) (h : spec_AbsOk.f k a0_0 l0_1 l0_2 l0_3 a0_4 l0_5 = some r) :
  Calls Tryz.prog 26 #[.agg #[.bool a0_0,.slice A0_1 l0_1.length c0_1,.slice A0_2 l0_2.length c0_2,.slice A0_3 l0_3.length c0_3,.int .i64 a0_4,.slice A0_5 l0_5.length c0_5]] w fun e w'=>e = .returned (.bool r)∧Below w.heap.size w w':=by
 have hu34:=Tryz.underlying34;have hu84:=Tryz.underlying84;have hu32:=Tryz.underlying32;have HR0_1:=Aside0.mk hr0_1;have HC0_1:=Aside0.mk hc0_1;clear hr0_1 hc0_1;have HR0_2:=Aside0.mk hr0_2;have HC0_2:=Aside0.mk hc0_2;clear hr0_2 hc0_2;have HR0_3:=Aside0.mk hr0_3;have HC0_3:=Aside0.mk hc0_3;clear hr0_3 hc0_3;have HR0_5:=Aside0.mk hr0_5;have HC0_5:=Aside0.mk hc0_5;clear hr0_5 hc0_5;have HB:=Aside0.mk (Below.refl w.heap.size w);have H:=h;unfold spec_AbsOk.f at H;clear h;rcases sqI (a0_0 = true) with c2 | c2
 ·replace c2:=Bool.eq_false_iff.mpr c2;subst c2;rw [sqff] at H;replace H:=sqi H;rcases H with ⟨c38,H⟩ | ⟨c38,H⟩
  ·have zd : ((l0_1.length : Int) == 0) = false:=beq_eq_false_iff_ne.mpr c38;have ze : ((l0_1.length : Int) != 0) = true:=bne_iff_ne.mpr c38
   have zp : ¬ (l0_1 = []):=fun h_=>c38 (by rw [h_];rfl)
   obtain rfl:=Option.some.inj H;go_enter Tryz.func26,Tryz.ntmps26;go_wp2_with (first | ((with_reducible refine gd 1 rfl ?_);(try (refine gate_guard (by rfl) ?_;dsimp only));refine sqX 1 #[.bool false,.slice A0_1 l0_1.length c0_1,.slice A0_2 l0_2.length c0_2,.slice A0_3 l0_3.length c0_3,.int .i64 a0_4,.slice A0_5 l0_5.length c0_5] 34 HB ?_;clear HB;intro gb0 hg w50 hb B0 GW0 HB;clear hb hg;obtain ⟨_,_,_,_,_,_,_,_,_,_,_,_⟩:=sqc6 B0))
   go_ret
   exact sqe HB
  have zd : ((l0_1.length : Int) == 0) = true:=beq_iff_eq.mpr c38;have ze : ((l0_1.length : Int) != 0) = false:=bne_eq_false_iff_eq.mpr c38;clear c38;replace H:=sqi H;rcases H with ⟨c39,H⟩ | ⟨c39,H⟩
  ·have zf : ((l0_2.length : Int) == 0) = false:=beq_eq_false_iff_ne.mpr c39;have zg : ((l0_2.length : Int) != 0) = true:=bne_iff_ne.mpr c39
   have zq : ¬ (l0_2 = []):=fun h_=>c39 (by rw [h_];rfl)
   obtain rfl:=Option.some.inj H;go_enter Tryz.func26,Tryz.ntmps26;go_wp2_with (first | ((with_reducible refine gd 1 rfl ?_);(try (refine gate_guard (by rfl) ?_;dsimp only));refine sqX 1 #[.bool false,.slice A0_1 l0_1.length c0_1,.slice A0_2 l0_2.length c0_2,.slice A0_3 l0_3.length c0_3,.int .i64 a0_4,.slice A0_5 l0_5.length c0_5] 34 HB ?_;clear HB;intro gb0 hg w48 hb B0 GW0 HB;clear hb hg;obtain ⟨_,_,_,_,_,_,_,_,_,_,_,_⟩:=sqc6 B0))
   go_ret
   exact sqe HB
  have zf : ((l0_2.length : Int) == 0) = true:=beq_iff_eq.mpr c39;have zg : ((l0_2.length : Int) != 0) = false:=bne_eq_false_iff_eq.mpr c39;clear c39;replace H:=sqi H;rcases H with ⟨c40,H⟩ | ⟨c40,H⟩
  ·have zh : ((l0_3.length : Int) == 0) = false:=beq_eq_false_iff_ne.mpr c40;have zi : ((l0_3.length : Int) != 0) = true:=bne_iff_ne.mpr c40
   have zr : ¬ (l0_3 = []):=fun h_=>c40 (by rw [h_];rfl)
   obtain rfl:=Option.some.inj H;go_enter Tryz.func26,Tryz.ntmps26;go_wp2_with (first | ((with_reducible refine gd 1 rfl ?_);(try (refine gate_guard (by rfl) ?_;dsimp only));refine sqX 1 #[.bool false,.slice A0_1 l0_1.length c0_1,.slice A0_2 l0_2.length c0_2,.slice A0_3 l0_3.length c0_3,.int .i64 a0_4,.slice A0_5 l0_5.length c0_5] 34 HB ?_;clear HB;intro gb0 hg w46 hb B0 GW0 HB;clear hb hg;obtain ⟨_,_,_,_,_,_,_,_,_,_,_,_⟩:=sqc6 B0))
   go_ret
   exact sqe HB
  have zh : ((l0_3.length : Int) == 0) = true:=beq_iff_eq.mpr c40;have zi : ((l0_3.length : Int) != 0) = false:=bne_eq_false_iff_eq.mpr c40;clear c40;replace H:=sqi H;rcases H with ⟨c41,H⟩ | ⟨c41,H⟩
  ·have zj : (a0_4 == 0) = false:=beq_eq_false_iff_ne.mpr c41;have zk : (a0_4 != 0) = true:=bne_iff_ne.mpr c41;obtain rfl:=Option.some.inj H;go_enter Tryz.func26,Tryz.ntmps26;go_wp2_with (first | ((with_reducible refine gd 1 rfl ?_);(try (refine gate_guard (by rfl) ?_;dsimp only));refine sqX 1 #[.bool false,.slice A0_1 l0_1.length c0_1,.slice A0_2 l0_2.length c0_2,.slice A0_3 l0_3.length c0_3,.int .i64 a0_4,.slice A0_5 l0_5.length c0_5] 34 HB ?_;clear HB;intro gb0 hg w44 hb B0 GW0 HB;clear hb hg;obtain ⟨_,_,_,_,_,_,_,_,_,_,_,_⟩:=sqc6 B0))
   go_ret
   exact sqe HB
  have zj : (a0_4 == 0) = true:=beq_iff_eq.mpr c41;have zk : (a0_4 != 0) = false:=bne_eq_false_iff_eq.mpr c41;clear c41;obtain rfl:=Option.some.inj H;go_enter Tryz.func26,Tryz.ntmps26;go_wp2_with (first | ((with_reducible refine gd 1 rfl ?_);(try (refine gate_guard (by rfl) ?_;dsimp only));refine sqX 1 #[.bool false,.slice A0_1 l0_1.length c0_1,.slice A0_2 l0_2.length c0_2,.slice A0_3 l0_3.length c0_3,.int .i64 a0_4,.slice A0_5 l0_5.length c0_5] 34 HB ?_;clear HB;intro gb0 hg w42 hb B0 GW0 HB;clear hb hg;obtain ⟨_,_,_,_,_,_,_,_,_,_,_,_⟩:=sqc6 B0))
  go_ret
  exact sqe HB
 subst c2;rw [if_pos rfl] at H;have H':=Aside0.mk H;clear H;go_enter Tryz.func26,Tryz.ntmps26;go_wp2_with (first | ((with_reducible refine gd 1 rfl ?_);(try (refine gate_guard (by rfl) ?_;dsimp only));refine sqX 1 #[.bool true,.slice A0_1 l0_1.length c0_1,.slice A0_2 l0_2.length c0_2,.slice A0_3 l0_3.length c0_3,.int .i64 a0_4,.slice A0_5 l0_5.length c0_5] 34 HB ?_;clear HB;intro gb0 hg w3 hb B0 GW0 HB;clear hb hg;obtain ⟨_,_,_,_,_,_,_,_,_,_,_,_⟩:=sqc6 B0))
 go_loopg [3] k (fun kq v3 w'=>∃ (x0 : Int),v3 = .int .i64 x0∧Aside0 (spec_AbsOk.l0 kq x0 true l0_1 l0_2 l0_3 a0_4 l0_5 = some r)∧Aside0 (kq ≤ k)∧Aside0 (w'.heap[gb0]? = some (.cells #[.bool true,(.slice A0_1 l0_1.length c0_1),(.slice A0_2 l0_2.length c0_2),(.slice A0_3 l0_3.length c0_3),.int .i64 a0_4,(.slice A0_5 l0_5.length c0_5)] 34 (0,0)))∧Aside0 (Below w.heap.size w w'))
 case atStart=>exact ⟨(0),sqE,H',⟨Nat.le_refl _⟩,sqk B0,sqh HB⟩
 case round =>
  clear H';obtain ⟨x0,rfl,HA,HK1,B0,HB⟩:=hrel;cases gk with
  | zero=>exact absurd HA.out (by simp [spec_AbsOk.l0])
  | succ k1 =>
   have H:=HA.out;clear HA;simp only [spec_AbsOk.l0] at H;replace H:=sqj H;rcases H with ⟨c5,H⟩ | ⟨c5,H⟩
   ·have zl:=decide_eq_true c5;clear c5;replace H:=sqi H;rcases H with ⟨c6,H⟩ | ⟨c6,H⟩
    ·cases H
    have zt:=decide_eq_true c6;clear c6;replace H:=sqbi H;obtain ⟨t0,A7,H⟩:=H;(try dsimp only at H);rcases sqI (t0 = true) with c8 | c8
    ·replace c8:=Bool.eq_false_iff.mpr c8;subst c8;rw [sqff] at H;obtain rfl:=Option.some.inj H;obtain ⟨_,_,_,_,_,_,_,_,_,_,_,_⟩:=sqc6 B0;have z0 : 0 ≤ (x0 : Int):=sqd;have z1 : x0 < (l0_2.length : Int):=sqd;obtain ⟨zm,zn,zo,za,z2,z3,z4,z5,z6,z7,z8,z9⟩:=at_T84 HR0_2.out x0 z0 z1;cases za;replace z2:=sqa HB z2;replace z3:=sqa HB z3;replace z4:=sqa HB z4;replace z5:=sqa HB z5;replace z6:=sqa HB z6;replace z7:=sqa HB z7;have zb:=Aside0.mk z9;have zc:=Aside0.mk z8;clear z9 z8;replace z0:=eq_true z0;replace z1:=eq_true z1;go_wp2_with (first | ((with_reducible refine gf 72 rfl ?_);refine sqLb rfl (some 48) Tryz.func72 (spec_l12RefOk.calls _ _ _ _ _ _ _ _ _ _ _ (sqC (Kd.C_below zb.out HB.out)) zc.out A7.out) ?_;intro w12 hb;replace B0:=sqb B0 hb;replace HB:=sqs HB hb;(try clear hb)))
     go_ret
     exact sqe HB
    subst c8;rw [if_pos rfl] at H;have H':=Aside0.mk H;clear H;obtain ⟨_,_,_,_,_,_,_,_,_,_,_,_⟩:=sqc6 B0;have z0 : 0 ≤ (x0 : Int):=sqd;have z1 : x0 < (l0_2.length : Int):=sqd;obtain ⟨zm,zn,zo,za,z2,z3,z4,z5,z6,z7,z8,z9⟩:=at_T84 HR0_2.out x0 z0 z1;cases za;replace z2:=sqa HB z2;replace z3:=sqa HB z3;replace z4:=sqa HB z4;replace z5:=sqa HB z5;replace z6:=sqa HB z6;replace z7:=sqa HB z7;have zb:=Aside0.mk z9;have zc:=Aside0.mk z8;clear z9 z8;replace z0:=eq_true z0;replace z1:=eq_true z1;go_wp2_with (first | ((with_reducible refine gf 72 rfl ?_);refine sqLb rfl (some 48) Tryz.func72 (spec_l12RefOk.calls _ _ _ _ _ _ _ _ _ _ _ (sqC (Kd.C_below zb.out HB.out)) zc.out A7.out) ?_;intro w10 hb;replace B0:=sqb B0 hb;replace HB:=sqs HB hb;(try clear hb)));go_roundg k1
    case measure=>have:=HK1.out;omega
    case rel=>exact ⟨(wrap64 (x0 + 1)),sqE,H',⟨by have:=HK1.out;omega⟩,sqk B0,sqh HB⟩
   have zl:=decide_eq_false c5;clear c5;replace H:=sqbi H;obtain ⟨t1,A13,H⟩:=H;(try dsimp only at H);rcases sqI (t1 = true) with c14 | c14
   ·replace c14:=Bool.eq_false_iff.mpr c14;subst c14;rw [sqff] at H;obtain rfl:=Option.some.inj H;obtain ⟨_,_,_,_,_,_,_,_,_,_,_,_⟩:=sqc6 B0;go_wp2_with (first | ((with_reducible refine gf 73 rfl ?_);refine sqLb rfl (some 52) Tryz.func73 (spec_l12Vals.calls _ _ _ _ _ _ (sqC (Kd.C_below HR0_1.out HB.out)) HC0_1.out A13.out) ?_;intro w37 hb;replace B0:=sqb B0 hb;replace HB:=sqs HB hb;(try clear hb)))
    go_ret
    exact sqe HB
   subst c14;rw [if_pos rfl] at H;replace H:=sqbi H;obtain ⟨t2,A15,H⟩:=H;(try dsimp only at H);rcases sqI (t2 = true) with c16 | c16
   ·replace c16:=Bool.eq_false_iff.mpr c16;subst c16;rw [sqff] at H;obtain rfl:=Option.some.inj H;obtain ⟨_,_,_,_,_,_,_,_,_,_,_,_⟩:=sqc6 B0;go_wp2_with (first | ((with_reducible refine gf 73 rfl ?_);refine sqLb rfl (some 52) Tryz.func73 (spec_l12Vals.calls _ _ _ _ _ _ (sqC (Kd.C_below HR0_1.out HB.out)) HC0_1.out A13.out) ?_;intro w33 hb;replace B0:=sqb B0 hb;replace HB:=sqs HB hb;(try clear hb);obtain ⟨_,_,_,_,_,_,_,_,_,_,_,_⟩:=sqc6 B0) | (go_at_call 73;(with_reducible refine (spec_l12Vals.calls k1 _ _ l0_3 false _ ?side1 ?side2 A15.out).mono ?_);(case side1=>exact sqC (Kd.C_below HR0_3.out HB.out));(case side2=>exact HC0_3.out);rintro e w35 ⟨rfl,hb⟩;replace B0:=sqb B0 hb;replace HB:=sqs HB hb;(try clear hb)))
    go_ret
    exact sqe HB
   subst c16;rw [if_pos rfl] at H;replace H:=sqbi H;obtain ⟨t3,A17,H⟩:=H;(try dsimp only at H);rcases sqI (t3 = true) with c18 | c18
   ·replace c18:=Bool.eq_false_iff.mpr c18;subst c18;rw [sqff] at H;obtain rfl:=Option.some.inj H;obtain ⟨_,_,_,_,_,_,_,_,_,_,_,_⟩:=sqc6 B0;go_wp2_with (first | ((with_reducible refine gf 73 rfl ?_);refine sqLb rfl (some 52) Tryz.func73 (spec_l12Vals.calls _ _ _ _ _ _ (sqC (Kd.C_below HR0_1.out HB.out)) HC0_1.out A13.out) ?_;intro w27 hb;replace B0:=sqb B0 hb;replace HB:=sqs HB hb;(try clear hb);obtain ⟨_,_,_,_,_,_,_,_,_,_,_,_⟩:=sqc6 B0) | (go_at_call 73;(with_reducible refine (spec_l12Vals.calls k1 _ _ l0_3 true _ ?side1 ?side2 A15.out).mono ?_);(case side1=>exact sqC (Kd.C_below HR0_3.out HB.out));(case side2=>exact HC0_3.out);rintro e w29 ⟨rfl,hb⟩;replace B0:=sqb B0 hb;replace HB:=sqs HB hb;(try clear hb);obtain ⟨_,_,_,_,_,_,_,_,_,_,_,_⟩:=sqc6 B0) | (go_at_call 74;(with_reducible refine (spec_GapsOk.calls k1 a0_4 _ _ l0_5 false _ ?side1 ?side2 A17.out).mono ?_);(case side1=>exact sqC (Kd.C_below HR0_5.out HB.out));(case side2=>exact HC0_5.out);rintro e w31 ⟨rfl,hb⟩;replace B0:=sqb B0 hb;replace HB:=sqs HB hb;(try clear hb)))
    go_ret
    exact sqe HB
   subst c18;rw [if_pos rfl] at H;obtain rfl:=Option.some.inj H;obtain ⟨_,_,_,_,_,_,_,_,_,_,_,_⟩:=sqc6 B0;go_wp2_with (first | ((with_reducible refine gf 73 rfl ?_);refine sqLb rfl (some 52) Tryz.func73 (spec_l12Vals.calls _ _ _ _ _ _ (sqC (Kd.C_below HR0_1.out HB.out)) HC0_1.out A13.out) ?_;intro w20 hb;replace B0:=sqb B0 hb;replace HB:=sqs HB hb;(try clear hb);obtain ⟨_,_,_,_,_,_,_,_,_,_,_,_⟩:=sqc6 B0) | (go_at_call 73;(with_reducible refine (spec_l12Vals.calls k1 _ _ l0_3 true _ ?side1 ?side2 A15.out).mono ?_);(case side1=>exact sqC (Kd.C_below HR0_3.out HB.out));(case side2=>exact HC0_3.out);rintro e w22 ⟨rfl,hb⟩;replace B0:=sqb B0 hb;replace HB:=sqs HB hb;(try clear hb);obtain ⟨_,_,_,_,_,_,_,_,_,_,_,_⟩:=sqc6 B0) | (go_at_call 74;(with_reducible refine (spec_GapsOk.calls k1 a0_4 _ _ l0_5 true _ ?side1 ?side2 A17.out).mono ?_);(case side1=>exact sqC (Kd.C_below HR0_5.out HB.out));(case side2=>exact HC0_5.out);rintro e w24 ⟨rfl,hb⟩;replace B0:=sqb B0 hb;replace HB:=sqs HB hb;(try clear hb);obtain ⟨_,_,_,_,_,_,_,_,_,_,_,_⟩:=sqc6 B0))
   go_ret
   exact sqe HB

end Go.Proofs.YtklkdpcopfjmcaaGreat.PFnExactAbsJoin
