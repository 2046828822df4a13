/- Functions of the program as plain Lean functions, and that calls of them come to what these tell. Conditions: those in each law. -/
import Derived.Test.YtklkdpcopfjmcaaGreatSqV
import Derived.Test.YtklkdpcopfjmcaaGreatDFnExactAbsJoinV
import Derived.Test.YtklkdpcopfjmcaaGreatQFnExactAbsJoinx0V
import Derived.Test.YtklkdpcopfjmcaaGreatQFnExactAbsJoinx8V
import Derived.Test.YtklkdpcopfjmcaaGreatQFnExactAbsJoinx16V
namespace Go.Proofs.YtklkdpcopfjmcaaGreat.PFnExactAbsJoin
open Go.RowKit Go.Proofs.YtklkdpcopfjmcaaGreat.Sq Go.Proofs.YtklkdpcopfjmcaaGreatW.PrintWords Go.Proofs.YtklkdpcopfjmcaaGreatW.PrintLast Go.Proofs.YtklkdpcopfjmcaaGreatW.PrintMore
attribute [local go_sem] max2_int min2_int max_two min_two max_three min_three max_four min_four   -- for this text's walks alone
set_option linter.unusedVariables false
set_option linter.unusedSimpArgs false

attribute [local go_sem high] eqA58
set_option maxHeartbeats 8000000
set_option maxRecDepth 100000
/-! ### spec_ValJoin: function 163 -/
def spec_ValJoin.T7 : Bool × List (List Nat × List Nat):=(true,[([],[]),([0],[0]),([],[]),([2,1],[2]),([1,3,3],[1,3]),([],[]),([5,4],[5]),([],[]),([7,6],[7]),([6,8,8],[6,8]),([4,9,9],[4,9]),([10,10,0,1,2,3,4,5,6,7,8,9,10],[10])])
def spec_ValJoin.B7 : List Nat:=[0,1,0,7,15,0,63,0,255,511,1023,2047]
theorem spec_ValJoin.tab7 : rtab .any (opsOf Tryz.f163 7) = spec_ValJoin.T7:=by kernel_rfl
theorem spec_ValJoin.bits7 : waitsOk spec_ValJoin.T7.2 spec_ValJoin.B7 = true:=by kernel_rfl
theorem spec_ValJoin.calls (k : Nat) (a0_0 : Int) (a0_1 : Int) (a0_2 : Int) (a0_3 : Int) (a1_0 : Int) (a1_1 : Int) (a1_2 : Int) (a1_3 : Int) (r1 : Int) (r2 : Int) (r3 : Int) (r4 : Int) (w : World) (h : spec_ValJoin.f k a0_0 a0_1 a0_2 a0_3 a1_0 a1_1 a1_2 a1_3 = some (r1,r2,r3,r4)) :
  Calls Tryz.prog 163 #[.agg #[.int .i64 a0_0,.int .i64 a0_1,.int .i64 a0_2,.int .i64 a0_3],.agg #[.int .i64 a1_0,.int .i64 a1_1,.int .i64 a1_2,.int .i64 a1_3]] w fun e w'=>e = .returned (.agg #[.int .i64 r1,.int .i64 r2,.int .i64 r3,.int .i64 r4])∧Below w.heap.size w w':=by
 have hu58:=Tryz.underlying58;have HB:=Aside0.mk (Below.refl w.heap.size w);have H:=h;unfold spec_ValJoin.f at H;clear h;have HC3:=Aside0.mk H;clear H;go_enter Tryz.func163,Tryz.ntmps163;go_upto_region 1 with (first | ((with_reducible refine gd 2 rfl ?_);refine sqX 2 #[.int .i64 a0_0,.int .i64 a0_1,.int .i64 a0_2,.int .i64 a0_3] 58 HB ?_;clear HB;intro gb0 hg w4 hb B0 GW0 HB;clear hb hg) | ((with_reducible refine gd 3 rfl ?_);refine sqX 3 #[.int .i64 a1_0,.int .i64 a1_1,.int .i64 a1_2,.int .i64 a1_3] 58 HB ?_;clear HB;intro gb1 hg w5 hb B1 GW1 HB;have N0_1:=sqn B0 hg;have N1_0:=sqm B0 hg;replace B0:=sqb B0 hb;clear hb hg) | ((with_reducible refine gd 4 rfl ?_);refine sqX 4 #[.int .i64 0,.int .i64 0,.int .i64 0,.int .i64 0] 58 HB ?_;clear HB;intro gb2 hg w6 hb B2 GW2 HB;have N0_2:=sqn B0 hg;have N2_0:=sqm B0 hg;have N1_2:=sqn B1 hg;have N2_1:=sqm B1 hg;refine sqM2 B0 B1 hb ?_;clear B0 B1;intro B0 B1;clear hb hg))
 (try simp only [Act.put,List.setIfInBounds_toArray,List.set_cons_zero,List.set_cons_succ])
 go_cut [12] (fun v12 wc=>∃ (kq : Nat) (x0 : Bool),v12 = .bool x0∧Aside0 (spec_ValJoin.j0 kq x0 a0_0 a0_1 a0_2 a0_3 a1_0 a1_1 a1_2 a1_3 = some (r1,r2,r3,r4))∧Aside0 (kq ≤ k)∧Aside0 (wc.heap[gb0]? = some (.cells #[.int .i64 a0_0,.int .i64 a0_1,.int .i64 a0_2,.int .i64 a0_3] 58 (0,0)))∧Aside0 (wc.heap[gb1]? = some (.cells #[.int .i64 a1_0,.int .i64 a1_1,.int .i64 a1_2,.int .i64 a1_3] 58 (0,0)))∧Aside0 (wc.heap[gb2]? = some (.cells #[.int .i64 0,.int .i64 0,.int .i64 0,.int .i64 0] 58 (0,0)))∧Aside0 (Below w.heap.size w wc))
 case first =>
  have H:=HC3.out;clear HC3;replace H:=sqbi H;obtain ⟨t0,A7,H⟩:=H;(try dsimp only at H);rcases sqI (t0 = true) with c8 | c8
  ·replace c8:=Bool.eq_false_iff.mpr c8;subst c8;rw [sqff] at H;have H':=Aside0.mk H;clear H;obtain ⟨_,_,_,_⟩:=sqN2 N0_1 N0_2;obtain ⟨_,_,_,_,_,_,_,_⟩:=sqc4 B0;go_wp2_with (first | ((with_reducible refine gf 127 rfl ?_);refine sqLb rfl (some 6) Tryz.func127 (spec_ValOk.calls _ _ _ _ _ _ _ A7.out) ?_;intro w20 hb;refine sqM3 B0 B1 B2 hb ?_;clear B0 B1 B2;intro B0 B1 B2;replace HB:=sqs HB hb;(try clear hb)));go_meet
   case rel=>exact ⟨_,(true),sqE,H',⟨sqle⟩,sqk B0,sqk B1,sqk B2,sqh HB⟩
  subst c8;rw [if_pos rfl] at H;replace H:=sqbi H;obtain ⟨t1,A9,H⟩:=H;(try dsimp only at H);have H':=Aside0.mk H;clear H;obtain ⟨_,_,_,_⟩:=sqN2 N0_1 N0_2;obtain ⟨_,_,_,_,_,_,_,_⟩:=sqc4 B0;go_wp2_with (first | ((with_reducible refine gf 127 rfl ?_);refine sqLb rfl (some 6) Tryz.func127 (spec_ValOk.calls _ _ _ _ _ _ _ A7.out) ?_;intro w13 hb;refine sqM3 B0 B1 B2 hb ?_;clear B0 B1 B2;intro B0 B1 B2;replace HB:=sqs HB hb;(try clear hb);obtain ⟨_,_⟩:=sqN1 N1_2;obtain ⟨_,_,_,_,_,_,_,_⟩:=sqc4 B1) | (go_at_call 127;(with_reducible refine (spec_ValOk.calls k a1_0 a1_1 a1_2 a1_3 t1 _ A9.out).mono ?_);rintro e w16 ⟨rfl,hb⟩;refine sqM3 B0 B1 B2 hb ?_;clear B0 B1 B2;intro B0 B1 B2;replace HB:=sqs HB hb;(try clear hb)));go_meet
  case rel=>exact ⟨_,(!t1),sqE,H',⟨sqle⟩,sqk B0,sqk B1,sqk B2,sqh HB⟩
 case rest =>
  clear HC3;obtain ⟨kq,x0,rfl,HA,HJ2,B0,B1,B2,HB⟩:=hcut;cases kq with
  | zero=>exact absurd HA.out (by simp [spec_ValJoin.j0])
  | succ kj2 =>
   have H:=HA.out;clear HA;simp only [spec_ValJoin.j0] at H
   by_cases c21 : x0 = true
   ·subst c21;rw [if_pos rfl] at H;replace H:=sqbi H;obtain ⟨⟨t2,t3,t4,t5⟩,A22,H⟩:=H;(try dsimp only at H);simp only [Option.some.injEq,Prod.mk.injEq] at H;obtain ⟨rfl,rfl,rfl,rfl⟩:=H;go_wp2_with (first | ((with_reducible refine gf 93 rfl ?_);refine sqLb rfl (some 13) Tryz.func93 (spec_l10None.calls _ _ _ _ _ A22.out) ?_;intro w23 hb;refine sqM3 B0 B1 B2 hb ?_;clear B0 B1 B2;intro B0 B1 B2;replace HB:=sqs HB hb;(try clear hb);obtain ⟨_,_,_,_⟩:=sqN2 N2_0 N2_1;obtain ⟨_,_,_,_,_,_,_,_⟩:=sqc4 B2));refine sqre #[.int .i64 t2,.int .i64 t3,.int .i64 t4,.int .i64 t5] (sqP B2) Tryz.underlying58 ?_;exact sqe HB
   replace c21:=Bool.eq_false_iff.mpr c21;subst c21;rw [sqff] at H;replace H:=sqbi H;obtain ⟨⟨t6,t7,t8,t9⟩,A27,H⟩:=H;(try dsimp only at H);replace H:=sqj H;rcases H with ⟨c28,H⟩ | ⟨c28,H⟩
   ·have z0 : (a0_0 == t6 && (a0_1 == t7 && (a0_2 == t8 && (a0_3 == t9)))) = true:=c28
    (try (have z1 : decide (a0_0 = t6 && (a0_1 == t7 && (a0_2 == t8 && (a0_3 == t9)))) = true:=by simpa using c28))
    (try (have z2 : (a0_0 == t6 && (a0_1 == t7 && (a0_2 == t8 && (a0_3 == t9)))) = true:=by simpa using c28))
    clear c28;simp only [Option.some.injEq,Prod.mk.injEq] at H;obtain ⟨rfl,rfl,rfl,rfl⟩:=H
    try go_wp2
    replace B0:=sqdr B0;replace B1:=sqdr B1;replace B2:=sqdr B2;replace HB:=sqdB HB;refine sqst 3 (fun w'=>Ce4 w' gb0 (.int .i64 a0_0) (.int .i64 a0_1) (.int .i64 a0_2) (.int .i64 a0_3)) sqz (fun hHeld=>?_);generalize wc.drew = w29 at B0 B1 B2 HB hHeld ⊢;refine take_ (i:=0) (N:=some 14) (v:=?_) (a':=?_) #[true,false,false] rfl rfl (by kernel_rfl) (fun _ _ _ h=>h) (Or.inl ⟨by rfl,?_⟩) hHeld ?_ ?_;rotate_left
    ·rintro w' ⟨s0,s1,s2,s3⟩
     go_simp
     with_reducible rfl
    rotate_left
    ·simp only [Act.put,List.setIfInBounds_toArray,List.set_cons_zero,List.set_cons_succ,i64_w,i32_w]
     rfl
    refine one_ (i:=1) (N:=some 15) #[true,true,false] rfl rfl (by kernel_rfl) (by decide) (fun K hK=>?_);refine sqGb rfl Tryz.func93 (spec_l10None.calls _ _ _ _ _ A27.out) ?_;intro w30 hb;refine sqM3 B0 B1 B2 hb ?_;clear B0 B1 B2;intro B0 B1 B2;replace HB:=sqs HB hb;(try clear hb);refine hK.out _ _ sqz (fun hHeld=>?_);clear hK K;refine sqnm ?_;refine pure_ (i:=2) (N:=some 16) (v:=?_) (a':=?_) #[true,true,true] rfl rfl (by kernel_rfl) (fun _ _ _ h=>h) (Or.inl ⟨by rfl,?_⟩) ?_ ?_;rotate_left
    ·intro w'
     go_simp
     with_reducible rfl
    rotate_left
    ·simp only [Act.put,List.setIfInBounds_toArray,List.set_cons_zero,List.set_cons_succ,i64_w,i32_w]
     rfl
    refine done_ (by kernel_rfl) ?_;obtain ⟨_,_,_,_⟩:=sqN2 N1_0 N1_2;obtain ⟨_,_,_,_,_,_,_,_⟩:=sqc4 B1;obtain ⟨_,_⟩:=sqN1 N2_0;obtain ⟨_,_,_,_,_,_,_,_⟩:=sqc4 B2
    try go_wp2
    refine sqre #[.int .i64 a1_0,.int .i64 a1_1,.int .i64 a1_2,.int .i64 a1_3] (sqP B2) Tryz.underlying58 ?_;exact sqe HB
   have z0 : (a0_0 == t6 && (a0_1 == t7 && (a0_2 == t8 && (a0_3 == t9)))) = false:=by simpa using c28
   (try (have z1 : decide (a0_0 = t6 && (a0_1 == t7 && (a0_2 == t8 && (a0_3 == t9)))) = false:=by simpa using c28))
   (try (have z2 : (a0_0 == t6 && (a0_1 == t7 && (a0_2 == t8 && (a0_3 == t9)))) = false:=by simpa using c28))
   (try (have z6 : ¬ (a0_0 = t6 && (a0_1 == t7 && (a0_2 == t8 && (a0_3 == t9)))):=by simpa using c28))
   clear c28;replace H:=sqbi H;obtain ⟨⟨t10,t11,t12,t13⟩,A36,H⟩:=H;(try dsimp only at H);replace H:=sqj H;rcases H with ⟨c37,H⟩ | ⟨c37,H⟩
   ·have z3 : (a1_0 == t10 && (a1_1 == t11 && (a1_2 == t12 && (a1_3 == t13)))) = true:=c37
    (try (have z4 : decide (a1_0 = t10 && (a1_1 == t11 && (a1_2 == t12 && (a1_3 == t13)))) = true:=by simpa using c37))
    (try (have z5 : (a1_0 == t10 && (a1_1 == t11 && (a1_2 == t12 && (a1_3 == t13)))) = true:=by simpa using c37))
    clear c37;simp only [Option.some.injEq,Prod.mk.injEq] at H;obtain ⟨rfl,rfl,rfl,rfl⟩:=H
    try go_wp2
    replace B0:=sqdr B0;replace B1:=sqdr B1;replace B2:=sqdr B2;replace HB:=sqdB HB;refine sqst 3 (fun w'=>Ce4 w' gb0 (.int .i64 a0_0) (.int .i64 a0_1) (.int .i64 a0_2) (.int .i64 a0_3)) sqz (fun hHeld=>?_);generalize wc.drew = w38 at B0 B1 B2 HB hHeld ⊢;refine take_ (i:=0) (N:=some 14) (v:=?_) (a':=?_) #[true,false,false] rfl rfl (by kernel_rfl) (fun _ _ _ h=>h) (Or.inl ⟨by rfl,?_⟩) hHeld ?_ ?_;rotate_left
    ·rintro w' ⟨s0,s1,s2,s3⟩
     go_simp
     with_reducible rfl
    rotate_left
    ·simp only [Act.put,List.setIfInBounds_toArray,List.set_cons_zero,List.set_cons_succ,i64_w,i32_w]
     rfl
    refine one_ (i:=1) (N:=some 15) #[true,true,false] rfl rfl (by kernel_rfl) (by decide) (fun K hK=>?_);refine sqGb rfl Tryz.func93 (spec_l10None.calls _ _ _ _ _ A27.out) ?_;intro w39 hb;refine sqM3 B0 B1 B2 hb ?_;clear B0 B1 B2;intro B0 B1 B2;replace HB:=sqs HB hb;(try clear hb);refine hK.out _ _ sqz (fun hHeld=>?_);clear hK K;refine sqnm ?_;refine pure_ (i:=2) (N:=some 16) (v:=?_) (a':=?_) #[true,true,true] rfl rfl (by kernel_rfl) (fun _ _ _ h=>h) (Or.inl ⟨by rfl,?_⟩) ?_ ?_;rotate_left
    ·intro w'
     go_simp
     with_reducible rfl
    rotate_left
    ·simp only [Act.put,List.setIfInBounds_toArray,List.set_cons_zero,List.set_cons_succ,i64_w,i32_w]
     rfl
    refine done_ (by kernel_rfl) ?_
    try go_wp2
    replace B0:=sqdr B0;replace B1:=sqdr B1;replace B2:=sqdr B2;replace HB:=sqdB HB;refine sqst 3 (fun w'=>Ce4 w' gb1 (.int .i64 a1_0) (.int .i64 a1_1) (.int .i64 a1_2) (.int .i64 a1_3)) sqz (fun hHeld=>?_);generalize w39.drew = w40 at B0 B1 B2 HB hHeld ⊢;refine take_ (i:=0) (N:=some 18) (v:=?_) (a':=?_) #[true,false,false] rfl rfl (by kernel_rfl) (fun _ _ _ h=>h) (Or.inl ⟨by rfl,?_⟩) hHeld ?_ ?_;rotate_left
    ·rintro w' ⟨s0,s1,s2,s3⟩
     go_simp
     with_reducible rfl
    rotate_left
    ·simp only [Act.put,List.setIfInBounds_toArray,List.set_cons_zero,List.set_cons_succ,i64_w,i32_w]
     rfl
    refine one_ (i:=1) (N:=some 19) #[true,true,false] rfl rfl (by kernel_rfl) (by decide) (fun K hK=>?_);refine sqGb rfl Tryz.func93 (spec_l10None.calls _ _ _ _ _ A36.out) ?_;intro w41 hb;refine sqM3 B0 B1 B2 hb ?_;clear B0 B1 B2;intro B0 B1 B2;replace HB:=sqs HB hb;(try clear hb);refine hK.out _ _ sqz (fun hHeld=>?_);clear hK K;refine sqnm ?_;refine pure_ (i:=2) (N:=some 20) (v:=?_) (a':=?_) #[true,true,true] rfl rfl (by kernel_rfl) (fun _ _ _ h=>h) (Or.inl ⟨by rfl,?_⟩) ?_ ?_;rotate_left
    ·intro w'
     go_simp
     with_reducible rfl
    rotate_left
    ·simp only [Act.put,List.setIfInBounds_toArray,List.set_cons_zero,List.set_cons_succ,i64_w,i32_w]
     rfl
    refine done_ (by kernel_rfl) ?_;obtain ⟨_,_,_,_⟩:=sqN2 N0_1 N0_2;obtain ⟨_,_,_,_,_,_,_,_⟩:=sqc4 B0;obtain ⟨_,_⟩:=sqN1 N2_1;obtain ⟨_,_,_,_,_,_,_,_⟩:=sqc4 B2
    try go_wp2
    refine sqre #[.int .i64 a0_0,.int .i64 a0_1,.int .i64 a0_2,.int .i64 a0_3] (sqP B2) Tryz.underlying58 ?_;exact sqe HB
   have z3 : (a1_0 == t10 && (a1_1 == t11 && (a1_2 == t12 && (a1_3 == t13)))) = false:=by simpa using c37
   (try (have z4 : decide (a1_0 = t10 && (a1_1 == t11 && (a1_2 == t12 && (a1_3 == t13)))) = false:=by simpa using c37))
   (try (have z5 : (a1_0 == t10 && (a1_1 == t11 && (a1_2 == t12 && (a1_3 == t13)))) = false:=by simpa using c37))
   (try (have z7 : ¬ (a1_0 = t10 && (a1_1 == t11 && (a1_2 == t12 && (a1_3 == t13)))):=by simpa using c37))
   clear c37;replace H:=sqbi H;obtain ⟨⟨t14,t15⟩,A47,H⟩:=H;(try dsimp only at H);replace H:=sqbi H;obtain ⟨⟨t16,t17⟩,A48,H⟩:=H;(try dsimp only at H);replace H:=sqbi H;obtain ⟨⟨t18,t19⟩,A49,H⟩:=H;(try dsimp only at H);replace H:=sqbi H;obtain ⟨⟨t20,t21⟩,A50,H⟩:=H;(try dsimp only at H);replace H:=sqbi H;obtain ⟨⟨t22,t23⟩,A51,H⟩:=H;(try dsimp only at H);replace H:=sqbi H;obtain ⟨⟨t24,t25⟩,A52,H⟩:=H;(try dsimp only at H);replace H:=sqbi H;obtain ⟨⟨t26,t27,t28,t29⟩,A53,H⟩:=H;(try dsimp only at H);simp only [Option.some.injEq,Prod.mk.injEq] at H;obtain ⟨rfl,rfl,rfl,rfl⟩:=H
   try go_wp2
   replace B0:=sqdr B0;replace B1:=sqdr B1;replace B2:=sqdr B2;replace HB:=sqdB HB;refine sqst 3 (fun w'=>Ce4 w' gb0 (.int .i64 a0_0) (.int .i64 a0_1) (.int .i64 a0_2) (.int .i64 a0_3)) sqz (fun hHeld=>?_);generalize wc.drew = w54 at B0 B1 B2 HB hHeld ⊢;refine take_ (i:=0) (N:=some 14) (v:=?_) (a':=?_) #[true,false,false] rfl rfl (by kernel_rfl) (fun _ _ _ h=>h) (Or.inl ⟨by rfl,?_⟩) hHeld ?_ ?_;rotate_left
   ·rintro w' ⟨s0,s1,s2,s3⟩
    go_simp
    with_reducible rfl
   rotate_left
   ·simp only [Act.put,List.setIfInBounds_toArray,List.set_cons_zero,List.set_cons_succ,i64_w,i32_w]
    rfl
   refine one_ (i:=1) (N:=some 15) #[true,true,false] rfl rfl (by kernel_rfl) (by decide) (fun K hK=>?_);refine sqGb rfl Tryz.func93 (spec_l10None.calls _ _ _ _ _ A27.out) ?_;intro w55 hb;refine sqM3 B0 B1 B2 hb ?_;clear B0 B1 B2;intro B0 B1 B2;replace HB:=sqs HB hb;(try clear hb);refine hK.out _ _ sqz (fun hHeld=>?_);clear hK K;refine sqnm ?_;refine pure_ (i:=2) (N:=some 16) (v:=?_) (a':=?_) #[true,true,true] rfl rfl (by kernel_rfl) (fun _ _ _ h=>h) (Or.inl ⟨by rfl,?_⟩) ?_ ?_;rotate_left
   ·intro w'
    go_simp
    with_reducible rfl
   rotate_left
   ·simp only [Act.put,List.setIfInBounds_toArray,List.set_cons_zero,List.set_cons_succ,i64_w,i32_w]
    rfl
   refine done_ (by kernel_rfl) ?_
   try go_wp2
   replace B0:=sqdr B0;replace B1:=sqdr B1;replace B2:=sqdr B2;replace HB:=sqdB HB;refine sqst 3 (fun w'=>Ce4 w' gb1 (.int .i64 a1_0) (.int .i64 a1_1) (.int .i64 a1_2) (.int .i64 a1_3)) sqz (fun hHeld=>?_);generalize w55.drew = w56 at B0 B1 B2 HB hHeld ⊢;refine take_ (i:=0) (N:=some 18) (v:=?_) (a':=?_) #[true,false,false] rfl rfl (by kernel_rfl) (fun _ _ _ h=>h) (Or.inl ⟨by rfl,?_⟩) hHeld ?_ ?_;rotate_left
   ·rintro w' ⟨s0,s1,s2,s3⟩
    go_simp
    with_reducible rfl
   rotate_left
   ·simp only [Act.put,List.setIfInBounds_toArray,List.set_cons_zero,List.set_cons_succ,i64_w,i32_w]
    rfl
   refine one_ (i:=1) (N:=some 19) #[true,true,false] rfl rfl (by kernel_rfl) (by decide) (fun K hK=>?_);refine sqGb rfl Tryz.func93 (spec_l10None.calls _ _ _ _ _ A36.out) ?_;intro w57 hb;refine sqM3 B0 B1 B2 hb ?_;clear B0 B1 B2;intro B0 B1 B2;replace HB:=sqs HB hb;(try clear hb);refine hK.out _ _ sqz (fun hHeld=>?_);clear hK K;refine sqnm ?_;refine pure_ (i:=2) (N:=some 20) (v:=?_) (a':=?_) #[true,true,true] rfl rfl (by kernel_rfl) (fun _ _ _ h=>h) (Or.inl ⟨by rfl,?_⟩) ?_ ?_;rotate_left
   ·intro w'
    go_simp
    with_reducible rfl
   rotate_left
   ·simp only [Act.put,List.setIfInBounds_toArray,List.set_cons_zero,List.set_cons_succ,i64_w,i32_w]
    rfl
   refine done_ (by kernel_rfl) ?_
   try go_wp2
   replace B0:=sqdr B0;replace B1:=sqdr B1;replace B2:=sqdr B2;replace HB:=sqdB HB;refine sqst 12 (fun w'=>Ce4 w' gb0 (.int .i64 a0_0) (.int .i64 a0_1) (.int .i64 a0_2) (.int .i64 a0_3)∧Ce4 w' gb1 (.int .i64 a1_0) (.int .i64 a1_1) (.int .i64 a1_2) (.int .i64 a1_3)) sqz (fun hHeld=>?_);refine with_tabW spec_ValJoin.tab7 spec_ValJoin.bits7 (fun HT_ HW_=>?_);generalize w57.drew = w58 at B0 B1 B2 HB hHeld ⊢;refine sqw HT_ HW_ 0 22 hHeld ?_;refine sqw HT_ HW_ 2 24 hHeld ?_;refine sqw HT_ HW_ 5 27 hHeld ?_;refine sqw HT_ HW_ 7 29 hHeld ?_;refine sqo HT_ 1 23 (fun K hK=>?_);refine sqGb rfl Tryz.func129 (spec_l10Range.calls _ _ _ _ _ _ _ A47.out) ?_;intro w59 hb;refine sqM3 B0 B1 B2 hb ?_;clear B0 B1 B2;intro B0 B1 B2;replace HB:=sqs HB hb;(try clear hb);refine hK.out _ _ sqz (fun hHeld=>?_);clear hK K;refine sqnm ?_;refine sqo HT_ 3 25 (fun K hK=>?_);refine sqGb rfl Tryz.func129 (spec_l10Range.calls _ _ _ _ _ _ _ A48.out) ?_;intro w60 hb;refine sqM3 B0 B1 B2 hb ?_;clear B0 B1 B2;intro B0 B1 B2;replace HB:=sqs HB hb;(try clear hb);refine hK.out _ _ sqz (fun hHeld=>?_);clear hK K;refine sqnm ?_;refine sqo HT_ 4 26 (fun K hK=>?_);refine sqGb rfl Tryz.func175 (spec_RangeJoin.calls _ _ _ _ _ _ _ _ A49.out) ?_;intro w61 hb;refine sqM3 B0 B1 B2 hb ?_;clear B0 B1 B2;intro B0 B1 B2;replace HB:=sqs HB hb;(try clear hb);refine hK.out _ _ sqz (fun hHeld=>?_);clear hK K;refine sqnm ?_;refine sqo HT_ 6 28 (fun K hK=>?_);refine sqGb rfl Tryz.func131 (spec_l10Rest.calls _ _ _ _ _ _ _ A50.out) ?_;intro w62 hb;refine sqM3 B0 B1 B2 hb ?_;clear B0 B1 B2;intro B0 B1 B2;replace HB:=sqs HB hb;(try clear hb);refine hK.out _ _ sqz (fun hHeld=>?_);clear hK K;refine sqnm ?_;refine sqo HT_ 8 30 (fun K hK=>?_);refine sqGb rfl Tryz.func131 (spec_l10Rest.calls _ _ _ _ _ _ _ A51.out) ?_;intro w63 hb;refine sqM3 B0 B1 B2 hb ?_;clear B0 B1 B2;intro B0 B1 B2;replace HB:=sqs HB hb;(try clear hb);refine hK.out _ _ sqz (fun hHeld=>?_);clear hK K;refine sqnm ?_;refine sqo HT_ 9 31 (fun K hK=>?_);refine sqGb rfl Tryz.func174 (spec_RestJoin.calls _ _ _ _ _ _ _ _ A52.out) ?_;intro w64 hb;refine sqM3 B0 B1 B2 hb ?_;clear B0 B1 B2;intro B0 B1 B2;replace HB:=sqs HB hb;(try clear hb);refine hK.out _ _ sqz (fun hHeld=>?_);clear hK K;refine sqnm ?_;refine sqo HT_ 10 32 (fun K hK=>?_);refine sqGb rfl Tryz.func90 (spec_ValMake.calls _ _ _ _ _ _ _ _ _ _ A53.out) ?_;intro w65 hb;refine sqM3 B0 B1 B2 hb ?_;clear B0 B1 B2;intro B0 B1 B2;replace HB:=sqs HB hb;(try clear hb);refine hK.out _ _ sqz (fun hHeld=>?_);clear hK K;refine sqnm ?_;refine sqo0 HT_ 11 (fun K hK=>?_);obtain ⟨_,_,_,_,_,_,_,_⟩:=sqc4 B2;obtain ⟨_,_,_,_⟩:=sqN2 N0_2 N1_2;refine sqsk ?_;refine hK.out _ _ sqzf (fun hHeld=>?_);clear hK K;refine done_ (done_of HT_.out (by kernel_rfl)) ?_
   try go_wp2
   refine sqre #[.int .i64 t26,.int .i64 t27,.int .i64 t28,.int .i64 t29] (sqP B2) Tryz.underlying58 ?_;exact sqe HB

/-! ### spec_l12Val: function 102 -/
theorem spec_l12Val.calls (k : Nat) (a0_0 : Int) (a0_1 : Int) (a0_2 : Int) (a0_3 : Int) (a1_0 : Int) (a1_1 : Int) (a1_2 : Int) (a1_3 : Int) (a2 : Bool) (A3 : Option Addr) (c3 : Nat) (l3 : List Int) (r1 : Int) (r2 : Int) (r3 : Int) (r4 : Int) (w : World) (hr3 : Kd.C (Kd.int .i64) w A3 l3.length l3) (hc3 : l3.length ≤ c3) (h : spec_l12Val.f k a0_0 a0_1 a0_2 a0_3 a1_0 a1_1 a1_2 a1_3 a2 l3 = some (r1,r2,r3,r4)) :
  Calls Tryz.prog 102 #[.agg #[.int .i64 a0_0,.int .i64 a0_1,.int .i64 a0_2,.int .i64 a0_3],.agg #[.int .i64 a1_0,.int .i64 a1_1,.int .i64 a1_2,.int .i64 a1_3],.bool a2,.slice A3 l3.length c3] w fun e w'=>e = .returned (.agg #[.int .i64 r1,.int .i64 r2,.int .i64 r3,.int .i64 r4])∧Below w.heap.size w w':=by
 have hu58:=Tryz.underlying58;have HR3:=Aside0.mk hr3;have HC3:=Aside0.mk hc3;clear hr3 hc3;have HB:=Aside0.mk (Below.refl w.heap.size w);have H:=h;unfold spec_l12Val.f at H;clear h;rcases sqI (a2 = true) with c5 | c5
 ·replace c5:=Bool.eq_false_iff.mpr c5;subst c5;rw [sqff] at H;replace H:=sqbi H;obtain ⟨⟨t0,t1,t2,t3⟩,A17,H⟩:=H;(try dsimp only at H);simp only [Option.some.injEq,Prod.mk.injEq] at H;obtain ⟨rfl,rfl,rfl,rfl⟩:=H;go_enter Tryz.func102,Tryz.ntmps102;go_wp2_with (first | ((with_reducible refine gd 4 rfl ?_);refine sqX 4 #[.int .i64 a0_0,.int .i64 a0_1,.int .i64 a0_2,.int .i64 a0_3] 58 HB ?_;clear HB;intro gb0 hg w18 hb B0 GW0 HB;clear hb hg) | ((with_reducible refine gd 5 rfl ?_);refine sqX 5 #[.int .i64 a1_0,.int .i64 a1_1,.int .i64 a1_2,.int .i64 a1_3] 58 HB ?_;clear HB;intro gb1 hg w19 hb B1 GW1 HB;have N0_1:=sqn B0 hg;have N1_0:=sqm B0 hg;replace B0:=sqb B0 hb;clear hb hg) | ((with_reducible refine gd 8 rfl ?_);refine sqX 8 #[.int .i64 0,.int .i64 0,.int .i64 0,.int .i64 0] 58 HB ?_;clear HB;intro gb2 hg w20 hb B2 GW2 HB;have N0_2:=sqn B0 hg;have N2_0:=sqm B0 hg;have N1_2:=sqn B1 hg;have N2_1:=sqm B1 hg;refine sqM2 B0 B1 hb ?_;clear B0 B1;intro B0 B1;clear hb hg;obtain ⟨_,_,_,_⟩:=sqN2 N0_1 N0_2;obtain ⟨_,_,_,_,_,_,_,_⟩:=sqc4 B0;obtain ⟨_,_⟩:=sqN1 N1_2;obtain ⟨_,_,_,_,_,_,_,_⟩:=sqc4 B1) | ((with_reducible refine gf 163 rfl ?_);refine sqLb rfl (some 16) Tryz.func163 (spec_ValJoin.calls _ _ _ _ _ _ _ _ _ _ _ _ _ _ A17.out) ?_;intro w26 hb;refine sqM3 B0 B1 B2 hb ?_;clear B0 B1 B2;intro B0 B1 B2;replace HB:=sqs HB hb;(try clear hb);obtain ⟨_,_,_,_,_,_,_,_⟩:=sqc4 B2));refine sqre #[.int .i64 t0,.int .i64 t1,.int .i64 t2,.int .i64 t3] (sqP B2) Tryz.underlying58 ?_;exact sqe HB
 subst c5;rw [if_pos rfl] at H;exact nomatch H

end Go.Proofs.YtklkdpcopfjmcaaGreat.PFnExactAbsJoin
