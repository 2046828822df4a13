/- Functions of the program as plain Lean functions, and that calls of them come to what these tell. Conditions: those in each law. -/
import Derived.Test.YtlbheepfmjbpnaaSq
import Derived.Test.YtlbheepfmjbpnaaDFnRangeDo
import Derived.Test.YtlbheepfmjbpnaaQFnRangeDox0
import Derived.Test.YtlbheepfmjbpnaaQFnRangeDox5
import Derived.Test.YtlbheepfmjbpnaaQFnRangeDox11
import Derived.Test.YtlbheepfmjbpnaaQFnRangeDox8
import Derived.Test.YtlbheepfmjbpnaaQFnRangeDox2
namespace Go.Proofs.Ytlbheepfmjbpnaa.PFnRangeDo
open Go.RowKit Go.Proofs.Ytlbheepfmjbpnaa.Sq Go.Proofs.YtlbheepfmjbpnaaW.PrintWords Go.Proofs.YtlbheepfmjbpnaaW.PrintLast Go.Proofs.YtlbheepfmjbpnaaW.PrintMore
attribute [local go_sem] max2_int min2_int max_two min_two max_three min_three max_four min_four   -- for this text's walks alone
set_option linter.unusedVariables false
set_option linter.unusedSimpArgs false

set_option maxHeartbeats 8000000
set_option maxRecDepth 100000
/-! ### impl_rangeBits: function 36 -/
theorem impl_rangeBits.calls (k : Nat) (a0 : Int) (a1_0 : Int) (a1_1 : Int) (a2_0 : Int) (a2_1 : Int) (r1 : Int) (r2 : Int) (w : World) (h : impl_rangeBits.f k a0 a1_0 a1_1 a2_0 a2_1 = some (r1,r2)) :
  Calls Try.prog 36 #[.int .i64 a0,.agg #[.int .i64 a1_0,.int .i64 a1_1],.agg #[.int .i64 a2_0,.int .i64 a2_1]] w fun e w'=>e = .returned (.agg #[.int .i64 r1,.int .i64 r2])∧Below w.heap.size w w':=by
 have hu24:=Try.underlying24;have HB:=Aside0.mk (Below.refl w.heap.size w);have H:=h;unfold impl_rangeBits.f at H;clear h;have HC4:=Aside0.mk H;clear H;go_enter Try.func36,Try.ntmps36;go_upto_region 1 with (first | ((with_reducible refine gd 4 rfl ?_);refine sqX 4 #[.int .i64 a1_0,.int .i64 a1_1] 24 HB ?_;clear HB;intro gb0 hg w5 hb B0 GW0 HB;clear hb hg) | ((with_reducible refine gd 5 rfl ?_);refine sqX 5 #[.int .i64 a2_0,.int .i64 a2_1] 24 HB ?_;clear HB;intro gb1 hg w6 hb B1 GW1 HB;have N0_1:=sqn B0 hg;have N1_0:=sqm B0 hg;replace B0:=sqb B0 hb;clear hb hg) | ((with_reducible refine gd 6 rfl ?_);refine sqX 6 #[.int .i64 0,.int .i64 0] 24 HB ?_;clear HB;intro gb2 hg w7 hb B2 GW2 HB;have N0_2:=sqn B0 hg;have N2_0:=sqm B0 hg;have N1_2:=sqn B1 hg;have N2_1:=sqm B1 hg;refine sqM2 B0 B1 hb ?_;clear B0 B1;intro B0 B1;clear hb hg))
 (try simp only [Act.put,List.setIfInBounds_toArray,List.set_cons_zero,List.set_cons_succ])
 go_cut [14] (fun v14 wc=>∃ (kq : Nat) (x0 : Bool),v14 = .bool x0∧Aside0 (impl_rangeBits.j0 kq a0 x0 a1_0 a1_1 a2_0 a2_1 = some (r1,r2))∧Aside0 (kq ≤ k)∧Aside0 (wc.heap[gb0]? = some (.cells #[.int .i64 a1_0,.int .i64 a1_1] 24 (0,0)))∧Aside0 (wc.heap[gb1]? = some (.cells #[.int .i64 a2_0,.int .i64 a2_1] 24 (0,0)))∧Aside0 (wc.heap[gb2]? = some (.cells #[.int .i64 0,.int .i64 0] 24 (0,0)))∧Aside0 (Below w.heap.size w wc))
 case first =>
  have H:=HC4.out;clear HC4;replace H:=sqbi H;obtain ⟨t0,A8,H⟩:=H;(try dsimp only at H);rcases sqI (t0 = true) with c9 | c9
  ·replace c9:=Bool.eq_false_iff.mpr c9;subst c9;rw [sqff] at H;have H':=Aside0.mk H;clear H;obtain ⟨_,_,_,_⟩:=sqN2 N0_1 N0_2;obtain ⟨_,_,_,_⟩:=sqc2 B0;go_wp2_with (first | ((with_reducible refine gf 74 rfl ?_);refine sqLb rfl (some 10) Try.func74 (impl_Range_single.calls _ _ _ _ A8.out) ?_;intro w21 hb;refine sqM3 B0 B1 B2 hb ?_;clear B0 B1 B2;intro B0 B1 B2;replace HB:=sqs HB hb;(try clear hb)));go_meet
   case rel=>exact ⟨_,(false),sqE,H',⟨sqle⟩,sqk B0,sqk B1,sqk B2,sqh HB⟩
  subst c9;rw [if_pos rfl] at H;replace H:=sqbi H;obtain ⟨t1,A10,H⟩:=H;(try dsimp only at H);have H':=Aside0.mk H;clear H;obtain ⟨_,_,_,_⟩:=sqN2 N0_1 N0_2;obtain ⟨_,_,_,_⟩:=sqc2 B0;go_wp2_with (first | ((with_reducible refine gf 74 rfl ?_);refine sqLb rfl (some 10) Try.func74 (impl_Range_single.calls _ _ _ _ A8.out) ?_;intro w14 hb;refine sqM3 B0 B1 B2 hb ?_;clear B0 B1 B2;intro B0 B1 B2;replace HB:=sqs HB hb;(try clear hb);obtain ⟨_,_⟩:=sqN1 N1_2;obtain ⟨_,_,_,_⟩:=sqc2 B1) | (go_at_call 74;(with_reducible refine (impl_Range_single.calls a2_0 a2_1 t1 _ A10.out).mono ?_);rintro e w17 ⟨rfl,hb⟩;refine sqM3 B0 B1 B2 hb ?_;clear B0 B1 B2;intro B0 B1 B2;replace HB:=sqs HB hb;(try clear hb)));go_meet
  case rel=>exact ⟨_,(t1),sqE,H',⟨sqle⟩,sqk B0,sqk B1,sqk B2,sqh HB⟩
 case rest =>
  clear HC4;obtain ⟨kq,x0,rfl,HA,HJ3,B0,B1,B2,HB⟩:=hcut;cases kq with
  | zero=>exact absurd HA.out (by simp [impl_rangeBits.j0])
  | succ kj3 =>
   have H:=HA.out;clear HA;simp only [impl_rangeBits.j0] at H
   by_cases c22 : x0 = true
   ·subst c22;rw [if_pos rfl] at H;replace H:=sqbi H;obtain ⟨t2,A23,H⟩:=H;(try dsimp only at H);simp only [Option.some.injEq,Prod.mk.injEq] at H;obtain ⟨rfl,rfl⟩:=H;obtain ⟨_,_,_,_⟩:=sqN2 N0_1 N0_2;obtain ⟨_,_,_,_⟩:=sqc2 B0;obtain ⟨_,_⟩:=sqN1 N1_2;obtain ⟨_,_,_,_⟩:=sqc2 B1;go_wp2_with (first | ((with_reducible refine gf 49 rfl ?_);refine sqLq rfl (some 20) Try.func49 (impl_numExact.calls _ _ _ _ _ _ A23.out) ?_;intro nd;(try (rw [drewN_self wc];generalize hq_ : World.drewN wc _ = wc;replace B0:=sqq B0 hq_;replace B1:=sqq B1 hq_;replace B2:=sqq B2 hq_;replace HB:=sqr HB hq_;clear hq_;obtain ⟨zf,zg,zh,zi⟩:=sqc2 B0;obtain ⟨zj,zk,zl,zm⟩:=sqc2 B1;obtain ⟨zn,zo,zp,zq⟩:=sqc2 B2));obtain ⟨_,_,_,_⟩:=sqc2 B2));refine sqre #[.int .i64 t2,.int .i64 t2] (sqP B2) Try.underlying24 ?_;exact sqe HB
   replace c22:=Bool.eq_false_iff.mpr c22;subst c22;rw [sqff] at H;replace H:=sqj H;rcases H with ⟨c30,H⟩ | ⟨c30,H⟩
   ·have z9 : (a0 == 6) = true:=beq_iff_eq.mpr c30;have za : (a0 != 6) = false:=bne_eq_false_iff_eq.mpr c30;clear c30;have HC31:=Aside0.mk H;clear H;go_upto_region 5 with (fail);go_cut [26] (fun v26 wc=>∃ (kq : Nat) (x1 : Bool),v26 = .bool x1∧Aside0 (impl_rangeBits.j1 kq x1 a1_0 a1_1 a2_0 a2_1 = some (r1,r2))∧Aside0 (kq ≤ kj3)∧Aside0 (wc.heap[gb0]? = some (.cells #[.int .i64 a1_0,.int .i64 a1_1] 24 (0,0)))∧Aside0 (wc.heap[gb1]? = some (.cells #[.int .i64 a2_0,.int .i64 a2_1] 24 (0,0)))∧Aside0 (wc.heap[gb2]? = some (.cells #[.int .i64 0,.int .i64 0] 24 (0,0)))∧Aside0 (Below w.heap.size w wc))
    case first =>
     have H:=HC31.out;clear HC31;replace H:=sqi H;rcases H with ⟨c32,H⟩ | ⟨c32,H⟩
     ·have z0 : decide (0 ≤ a1_0) = false:=decide_eq_false c32;clear c32
      (first | rw [z0] | (simp only [i64_w,i32_w];rw [z0]) | skip)
      have H':=Aside0.mk H;clear H;obtain ⟨_,_,_,_⟩:=sqN2 N0_1 N0_2;obtain ⟨_,_,_,_⟩:=sqc2 B0
      go_wp2
      go_meet
      case rel=>exact ⟨_,(false),sqE,H',⟨by have:=HJ3.out;first | omega | exact Nat.le_refl _⟩,sqk B0,sqk B1,sqk B2,sqh HB⟩
     have z0 : decide (0 ≤ a1_0) = true:=decide_eq_true c32;clear c32
     (first | rw [z0] | (simp only [i64_w,i32_w];rw [z0]) | skip)
     have H':=Aside0.mk H;clear H;obtain ⟨_,_,_,_⟩:=sqN2 N0_1 N0_2;obtain ⟨_,_,_,_⟩:=sqc2 B0;obtain ⟨_,_⟩:=sqN1 N1_2;obtain ⟨_,_,_,_⟩:=sqc2 B1
     go_wp2
     go_meet
     case rel=>exact ⟨_,(decide (a2_0 ≥ 0)),sqE,H',⟨by have:=HJ3.out;first | omega | exact Nat.le_refl _⟩,sqk B0,sqk B1,sqk B2,sqh HB⟩
    case rest =>
     clear HC31;obtain ⟨kq,x1,rfl,HA,HJ30,B0,B1,B2,HB⟩:=hcut;cases kq with
     | zero=>exact absurd HA.out (by simp [impl_rangeBits.j1])
     | succ kj30 =>
      have H:=HA.out;clear HA;simp only [impl_rangeBits.j1] at H
      by_cases c41 : x1 = true
      ·subst c41;rw [if_pos rfl] at H;obtain ⟨z5,z3⟩ : ∃ j_ : Int,(mn a1_1 a2_1) = j_:=⟨_,rfl⟩
       replace H : (some (0,z5)) = some (r1,r2):=by first | (rw [z3] at H;exact H) | (simp only [z3] at H ⊢;exact H)
       have zr : (if a2_1 < a1_1 then a2_1 else a1_1) = z5:=z3;simp only [Option.some.injEq,Prod.mk.injEq] at H;obtain ⟨rfl,rfl⟩:=H;obtain ⟨_,_,_,_⟩:=sqN2 N0_1 N0_2;obtain ⟨_,_,_,_⟩:=sqc2 B0;obtain ⟨_,_⟩:=sqN1 N1_2;obtain ⟨_,_,_,_⟩:=sqc2 B1;obtain ⟨_,_,_,_⟩:=sqc2 B2
       go_wp2
       refine sqre #[.int .i64 0,.int .i64 z5] (sqP B2) Try.underlying24 ?_;exact ⟨by first | rfl | (simp [errW_none,errW_some] <;> rfl) | (simp only [← z3];first | rfl | (simp [errW_none,errW_some] <;> rfl)) | (simp [*,errW_none,errW_some] <;> rfl),sqB HB⟩
      replace c41:=Bool.eq_false_iff.mpr c41;subst c41;rw [sqff] at H;replace H:=sqj H;rcases H with ⟨c49,H⟩ | ⟨c49,H⟩
      ·have zb : decide (0 ≤ a1_0) = true:=decide_eq_true c49;clear c49;simp only [Option.some.injEq,Prod.mk.injEq] at H;obtain ⟨rfl,rfl⟩:=H;obtain ⟨_,_,_,_⟩:=sqN2 N0_1 N0_2;obtain ⟨_,_,_,_⟩:=sqc2 B0;obtain ⟨_,_⟩:=sqN1 N2_1;obtain ⟨_,_,_,_⟩:=sqc2 B2
       go_wp2
       refine sqre #[.int .i64 0,.int .i64 a1_1] (sqP B2) Try.underlying24 ?_;exact sqe HB
      have zb : decide (0 ≤ a1_0) = false:=decide_eq_false c49;clear c49;replace H:=sqj H;rcases H with ⟨c55,H⟩ | ⟨c55,H⟩
      ·have zc : decide (0 ≤ a2_0) = true:=decide_eq_true c55;clear c55;simp only [Option.some.injEq,Prod.mk.injEq] at H;obtain ⟨rfl,rfl⟩:=H;obtain ⟨_,_,_,_⟩:=sqN2 N0_1 N0_2;obtain ⟨_,_,_,_⟩:=sqc2 B0;obtain ⟨_,_⟩:=sqN1 N1_2;obtain ⟨_,_,_,_⟩:=sqc2 B1;obtain ⟨_,_,_,_⟩:=sqc2 B2
       go_wp2
       refine sqre #[.int .i64 0,.int .i64 a2_1] (sqP B2) Try.underlying24 ?_;exact sqe HB
      have zc : decide (0 ≤ a2_0) = false:=decide_eq_false c55;clear c55;simp only [Option.some.injEq,Prod.mk.injEq] at H;obtain ⟨rfl,rfl⟩:=H;obtain ⟨_,_,_,_⟩:=sqN2 N0_1 N0_2;obtain ⟨_,_,_,_⟩:=sqc2 B0;obtain ⟨_,_⟩:=sqN1 N1_2;obtain ⟨_,_,_,_⟩:=sqc2 B1;obtain ⟨_,_,_,_⟩:=sqc2 B2
      go_wp2
      refine sqre #[.int .i64 (-2147483648),.int .i64 2147483647] (sqP B2) Try.underlying24 ?_;exact sqe HB
   have z9 : (a0 == 6) = false:=beq_eq_false_iff_ne.mpr c30;have za : (a0 != 6) = true:=bne_iff_ne.mpr c30;have HC68:=Aside0.mk H;clear H;go_upto_region 12 with (fail);go_cut [63] (fun v63 wc=>∃ (kq : Nat) (x2 : Bool),v63 = .bool x2∧Aside0 (impl_rangeBits.j2 kq a0 x2 a1_0 a1_1 a2_0 a2_1 = some (r1,r2))∧Aside0 (kq ≤ kj3)∧Aside0 (wc.heap[gb0]? = some (.cells #[.int .i64 a1_0,.int .i64 a1_1] 24 (0,0)))∧Aside0 (wc.heap[gb1]? = some (.cells #[.int .i64 a2_0,.int .i64 a2_1] 24 (0,0)))∧Aside0 (wc.heap[gb2]? = some (.cells #[.int .i64 0,.int .i64 0] 24 (0,0)))∧Aside0 (Below w.heap.size w wc))
   case first =>
    have H:=HC68.out;clear HC68;replace H:=sqj H;rcases H with ⟨c69,H⟩ | ⟨c69,H⟩
    ·have z1:=decide_eq_true c69;clear c69
     (first | rw [z1] | (simp only [i64_w,i32_w];rw [z1]) | skip)
     have H':=Aside0.mk H;clear H;obtain ⟨_,_,_,_⟩:=sqN2 N0_1 N0_2;obtain ⟨_,_,_,_⟩:=sqc2 B0
     go_wp2
     go_meet
     case rel=>exact ⟨_,(true),sqE,H',⟨by have:=HJ3.out;first | omega | exact Nat.le_refl _⟩,sqk B0,sqk B1,sqk B2,sqh HB⟩
    have z1:=decide_eq_false c69;clear c69
    (first | rw [z1] | (simp only [i64_w,i32_w];rw [z1]) | skip)
    have H':=Aside0.mk H;clear H;obtain ⟨_,_,_,_⟩:=sqN2 N0_1 N0_2;obtain ⟨_,_,_,_⟩:=sqc2 B0;obtain ⟨_,_⟩:=sqN1 N1_2;obtain ⟨_,_,_,_⟩:=sqc2 B1
    go_wp2
    go_meet
    case rel=>exact ⟨_,(decide (a2_0 < 0)),sqE,H',⟨by have:=HJ3.out;first | omega | exact Nat.le_refl _⟩,sqk B0,sqk B1,sqk B2,sqh HB⟩
   case rest =>
    clear HC68;obtain ⟨kq,x2,rfl,HA,HJ67,B0,B1,B2,HB⟩:=hcut;cases kq with
    | zero=>exact absurd HA.out (by simp [impl_rangeBits.j2])
    | succ kj67 =>
     have H:=HA.out;clear HA;simp only [impl_rangeBits.j2] at H
     by_cases c78 : x2 = true
     ·subst c78;rw [if_pos rfl] at H;simp only [Option.some.injEq,Prod.mk.injEq] at H;obtain ⟨rfl,rfl⟩:=H;obtain ⟨_,_,_,_⟩:=sqN2 N2_0 N2_1;obtain ⟨_,_,_,_⟩:=sqc2 B2
      go_wp2
      refine sqre #[.int .i64 (-2147483648),.int .i64 2147483647] (sqP B2) Try.underlying24 ?_;exact sqe HB
     replace c78:=Bool.eq_false_iff.mpr c78;subst c78;rw [sqff] at H;have HC82:=Aside0.mk H;clear H
     go_upto_if 67 with (first | ((with_reducible refine gd 8 rfl ?_);refine sqX 8 #[.int .i64 0,.int .i64 0] 24 HB ?_;clear HB;intro gb3 hg w83 hb B3 GW3 HB;have N0_3:=sqn B0 hg;have N3_0:=sqm B0 hg;have N1_3:=sqn B1 hg;have N3_1:=sqm B1 hg;have N2_3:=sqn B2 hg;have N3_2:=sqm B2 hg;refine sqM3 B0 B1 B2 hb ?_;clear B0 B1 B2;intro B0 B1 B2;clear hb hg;obtain ⟨_,_,_,_,_,_⟩:=sqN3 N3_0 N3_1 N3_2;obtain ⟨_,_,_,_⟩:=sqc2 B3))
     (try simp only [Act.put,List.setIfInBounds_toArray,List.set_cons_zero,List.set_cons_succ])
     go_cut [] (fun wc=>∃ (kq : Nat) (x3 : Int),Aside0 (impl_rangeBits.j3 kq a1_0 a1_1 a2_0 a2_1 x3 0 = some (r1,r2))∧Aside0 (kq ≤ kj67)∧Aside0 (wc.heap[gb0]? = some (.cells #[.int .i64 a1_0,.int .i64 a1_1] 24 (0,0)))∧Aside0 (wc.heap[gb1]? = some (.cells #[.int .i64 a2_0,.int .i64 a2_1] 24 (0,0)))∧Aside0 (wc.heap[gb2]? = some (.cells #[.int .i64 0,.int .i64 0] 24 (0,0)))∧Aside0 (wc.heap[gb3]? = some (.cells #[.int .i64 x3,.int .i64 0] 24 (0,0)))∧Aside0 (Below w.heap.size w wc))
     case first =>
      have H:=HC82.out;clear HC82;replace H:=sqi H;rcases H with ⟨c88,H⟩ | ⟨c88,H⟩
      ·have z2 : (a0 == 7) = false:=beq_eq_false_iff_ne.mpr c88;have zd : (a0 != 7) = true:=bne_iff_ne.mpr c88
       (first | rw [z2] | (simp only [i64_w,i32_w];rw [z2]) | skip)
       have H':=Aside0.mk H;clear H
       go_wp2
       go_meet
       case rel=>exact ⟨_,(0),H',⟨by have:=HJ3.out;have:=HJ67.out;first | omega | exact Nat.le_refl _⟩,⟨sqT B0⟩,⟨sqT B1⟩,⟨sqT B2⟩,⟨sqP B3⟩,sqh HB⟩
      have z2 : (a0 == 7) = true:=beq_iff_eq.mpr c88;have zd : (a0 != 7) = false:=bne_eq_false_iff_eq.mpr c88;clear c88
      (first | rw [z2] | (simp only [i64_w,i32_w];rw [z2]) | skip)
      obtain ⟨z6,z7⟩ : ∃ j_ : Int,(mx a1_0 a2_0) = j_:=⟨_,rfl⟩
      replace H : (impl_rangeBits.j3 kj67 a1_0 a1_1 a2_0 a2_1 z6 0) = some (r1,r2):=by first | (rw [z7] at H;exact H) | (simp only [z7] at H ⊢;exact H)
      have zt : (if a1_0 < a2_0 then a2_0 else a1_0) = z6:=z7;have H':=Aside0.mk H;clear H;obtain ⟨_,_,_,_,_,_⟩:=sqN3 N0_1 N0_2 N0_3;obtain ⟨_,_,_,_⟩:=sqc2 B0;obtain ⟨_,_,_,_⟩:=sqN2 N1_2 N1_3;obtain ⟨_,_,_,_⟩:=sqc2 B1;obtain ⟨_,_⟩:=sqN1 N3_2;obtain ⟨_,_,_,_⟩:=sqc2 B3
      go_wp2
      go_meet
      case rel=>exact ⟨_,(z6),H',⟨by have:=HJ3.out;have:=HJ67.out;first | omega | exact Nat.le_refl _⟩,⟨sqT B0⟩,⟨sqT B1⟩,⟨sqT B2⟩,⟨sqP B3⟩,sqh HB⟩
     case rest =>
      clear HC82;obtain ⟨kq,x3,HA,HJ81,B0,B1,B2,B3,HB⟩:=hcut;cases kq with
      | zero=>exact absurd HA.out (by simp [impl_rangeBits.j3])
      | succ kj81 =>
       have H:=HA.out;clear HA;simp only [impl_rangeBits.j3] at H;have H':=Aside0.mk H;clear H
       go_wp2
       go_loopg [] kj81 (fun kq w'=>∃ (x4 : Int),Aside0 (impl_rangeBits.l0 kq a1_0 a1_1 a2_0 a2_1 x3 x4 = some (r1,r2))∧Aside0 (kq ≤ kj81)∧Aside0 (w'.heap[gb0]? = some (.cells #[.int .i64 a1_0,.int .i64 a1_1] 24 (0,0)))∧Aside0 (w'.heap[gb1]? = some (.cells #[.int .i64 a2_0,.int .i64 a2_1] 24 (0,0)))∧Aside0 (w'.heap[gb2]? = some (.cells #[.int .i64 0,.int .i64 0] 24 (0,0)))∧Aside0 (w'.heap[gb3]? = some (.cells #[.int .i64 x3,.int .i64 x4] 24 (0,0)))∧Aside0 (Below w.heap.size w w'))
       case atStart=>exact ⟨(0),H',⟨Nat.le_refl _⟩,sqk B0,sqk B1,sqk B2,sqk B3,sqh HB⟩
       case round =>
        clear H';obtain ⟨x4,HA,HK4,B0,B1,B2,B3,HB⟩:=hrel;cases gk with
        | zero=>exact absurd HA.out (by simp [impl_rangeBits.l0])
        | succ k4 =>
         have H:=HA.out;clear HA;simp only [impl_rangeBits.l0] at H;obtain ⟨z8,z4⟩ : ∃ j_ : Int,(mx a1_1 a2_1) = j_:=⟨_,rfl⟩
         replace H : (if x4 < (z8) then (impl_rangeBits.l0 k4 a1_0 a1_1 a2_0 a2_1 x3 (wrap64 ((wrap64 (2 * x4)) + 1))) else (some (x3,x4))) = some (r1,r2):=by first | (rw [z4] at H;exact H) | (simp only [z4] at H ⊢;exact H)
         have zu : (if a1_1 < a2_1 then a2_1 else a1_1) = z8:=z4;replace H:=sqj H;rcases H with ⟨c100,H⟩ | ⟨c100,H⟩
         ·have ze:=decide_eq_true c100;clear c100;have H':=Aside0.mk H;clear H;obtain ⟨_,_,_,_,_,_⟩:=sqN3 N3_0 N3_1 N3_2;obtain ⟨_,_,_,_⟩:=sqc2 B3;obtain ⟨_,_,_,_⟩:=sqN2 N0_1 N0_2;obtain ⟨_,_,_,_⟩:=sqc2 B0;obtain ⟨_,_⟩:=sqN1 N1_2;obtain ⟨_,_,_,_⟩:=sqc2 B1
          go_wp2
          go_roundg k4
          case measure=>have:=HJ3.out;have:=HJ67.out;have:=HJ81.out;have:=HK4.out;omega
          case rel=>exact ⟨(wrap64 ((wrap64 (2 * x4)) + 1)),H',⟨by have:=HJ3.out;have:=HJ67.out;have:=HJ81.out;have:=HK4.out;omega⟩,⟨sqT B0⟩,⟨sqT B1⟩,⟨sqT B2⟩,⟨sqP B3⟩,sqh HB⟩
         have ze:=decide_eq_false c100;clear c100;simp only [Option.some.injEq,Prod.mk.injEq] at H;obtain ⟨rfl,rfl⟩:=H;obtain ⟨_,_,_,_,_,_⟩:=sqN3 N3_0 N3_1 N3_2;obtain ⟨_,_,_,_⟩:=sqc2 B3;obtain ⟨_,_,_,_⟩:=sqN2 N0_1 N0_2;obtain ⟨_,_,_,_⟩:=sqc2 B0;obtain ⟨_,_⟩:=sqN1 N1_2;obtain ⟨_,_,_,_⟩:=sqc2 B1;obtain ⟨_,_,_,_⟩:=sqc2 B2
         go_wp2
         refine sqre #[.int .i64 x3,.int .i64 x4] (sqP B2) Try.underlying24 ?_;exact ⟨by first | rfl | (simp [errW_none,errW_some] <;> rfl) | (simp only [← z4];first | rfl | (simp [errW_none,errW_some] <;> rfl)) | (simp [*,errW_none,errW_some] <;> rfl),sqB HB⟩

/-! ### impl_RangeDo: function 6 -/
theorem impl_RangeDo.calls (k : Nat) (a0 : Int) (a1_0 : Int) (a1_1 : Int) (a2_0 : Int) (a2_1 : Int) (r1 : Int) (r2 : Int) (r3 : List Int) (w : World) (h : impl_RangeDo.f k a0 a1_0 a1_1 a2_0 a2_1 = some (r1,r2,r3)) :
  Calls Try.prog 6 #[.int .i64 a0,.agg #[.int .i64 a1_0,.int .i64 a1_1],.agg #[.int .i64 a2_0,.int .i64 a2_1]] w fun e w'=>∃ v2_ : Value,e = .returned (.tuple #[.agg #[.int .i64 r1,.int .i64 r2],v2_])∧Kd.R (Kd.int .i64) 3 w' w.heap.size (fun _=>True) v2_ r3∧Below w.heap.size w w':=by
 have hu24:=Try.underlying24;have HB:=Aside0.mk (Below.refl w.heap.size w);have H:=h;unfold impl_RangeDo.f at H;clear h;have HC4:=Aside0.mk H;clear H;go_enter Try.func6,Try.ntmps6;go_upto_region 1 with (first | ((with_reducible refine gd 4 rfl ?_);refine sqX 4 #[.int .i64 a1_0,.int .i64 a1_1] 24 HB ?_;clear HB;intro gb0 hg w5 hb B0 GW0 HB;clear hb hg) | ((with_reducible refine gd 5 rfl ?_);refine sqX 5 #[.int .i64 a2_0,.int .i64 a2_1] 24 HB ?_;clear HB;intro gb1 hg w6 hb B1 GW1 HB;have N0_1:=sqn B0 hg;have N1_0:=sqm B0 hg;replace B0:=sqb B0 hb;clear hb hg) | ((with_reducible refine gd 6 rfl ?_);refine sqX 6 #[.int .i64 0,.int .i64 0] 24 HB ?_;clear HB;intro gb2 hg w7 hb B2 GW2 HB;have N0_2:=sqn B0 hg;have N2_0:=sqm B0 hg;have N1_2:=sqn B1 hg;have N2_1:=sqm B1 hg;refine sqM2 B0 B1 hb ?_;clear B0 B1;intro B0 B1;clear hb hg))
 (try simp only [Act.put,List.setIfInBounds_toArray,List.set_cons_zero,List.set_cons_succ])
 go_cut [30] (fun v30 wc=>∃ (kq : Nat) (x0 : Bool),v30 = .bool x0∧Aside0 (impl_RangeDo.j0 kq a0 x0 a1_0 a1_1 a2_0 a2_1 = some (r1,r2,r3))∧Aside0 (kq ≤ k)∧Aside0 (wc.heap[gb0]? = some (.cells #[.int .i64 a1_0,.int .i64 a1_1] 24 (0,0)))∧Aside0 (wc.heap[gb1]? = some (.cells #[.int .i64 a2_0,.int .i64 a2_1] 24 (0,0)))∧Aside0 (wc.heap[gb2]? = some (.cells #[.int .i64 0,.int .i64 0] 24 (0,0)))∧Aside0 (Below w.heap.size w wc))
 case first =>
  have H:=HC4.out;clear HC4;replace H:=sqbi H;obtain ⟨t0,A8,H⟩:=H;(try dsimp only at H);rcases sqI (t0 = true) with c9 | c9
  ·replace c9:=Bool.eq_false_iff.mpr c9;subst c9;rw [sqff] at H;have H':=Aside0.mk H;clear H;go_wp2_with (first | ((with_reducible refine gf 27 rfl ?_);refine sqLq rfl (some 11) Try.func27 (impl_numOp.calls _ _ _ A8.out) ?_;intro nd));go_meet
   case rel=>exact ⟨_,(true),sqE,H',⟨sqle⟩,sqk B0,sqk B1,sqk B2,sqh HB⟩
  subst c9;rw [if_pos rfl] at H;replace H:=sqbi H;obtain ⟨t1,A10,H⟩:=H;(try dsimp only at H);rcases sqI (t1 = true) with c11 | c11
  ·replace c11:=Bool.eq_false_iff.mpr c11;subst c11;rw [sqff] at H;have H':=Aside0.mk H;clear H;go_wp2_with (first | ((with_reducible refine gf 27 rfl ?_);refine sqLq rfl (some 11) Try.func27 (impl_numOp.calls _ _ _ A8.out) ?_;intro nd;obtain ⟨_,_,_,_⟩:=sqN2 N0_1 N0_2;obtain ⟨_,_,_,_⟩:=sqc2 B0) | (go_at_call 14;(with_reducible refine (impl_RangeOk.calls a1_0 a1_1 false _ A10.out).mono ?_);rintro e w47 ⟨rfl,hb⟩;refine sqM3 B0 B1 B2 hb ?_;clear B0 B1 B2;intro B0 B1 B2;replace HB:=sqs HB hb;(try clear hb)));go_meet
   case rel=>exact ⟨_,(true),sqE,H',⟨sqle⟩,sqk B0,sqk B1,sqk B2,sqh HB⟩
  subst c11;rw [if_pos rfl] at H;replace H:=sqbi H;obtain ⟨t2,A12,H⟩:=H;(try dsimp only at H);rcases sqI (t2 = true) with c13 | c13
  ·replace c13:=Bool.eq_false_iff.mpr c13;subst c13;rw [sqff] at H;have H':=Aside0.mk H;clear H;go_wp2_with (first | ((with_reducible refine gf 27 rfl ?_);refine sqLq rfl (some 11) Try.func27 (impl_numOp.calls _ _ _ A8.out) ?_;intro nd;obtain ⟨_,_,_,_⟩:=sqN2 N0_1 N0_2;obtain ⟨_,_,_,_⟩:=sqc2 B0) | (go_at_call 14;(with_reducible refine (impl_RangeOk.calls a1_0 a1_1 true _ A10.out).mono ?_);rintro e w40 ⟨rfl,hb⟩;refine sqM3 B0 B1 B2 hb ?_;clear B0 B1 B2;intro B0 B1 B2;replace HB:=sqs HB hb;(try clear hb);obtain ⟨_,_⟩:=sqN1 N1_2;obtain ⟨_,_,_,_⟩:=sqc2 B1) | (go_at_call 14;(with_reducible refine (impl_RangeOk.calls a2_0 a2_1 false _ A12.out).mono ?_);rintro e w43 ⟨rfl,hb⟩;refine sqM3 B0 B1 B2 hb ?_;clear B0 B1 B2;intro B0 B1 B2;replace HB:=sqs HB hb;(try clear hb)));go_meet
   case rel=>exact ⟨_,(true),sqE,H',⟨sqle⟩,sqk B0,sqk B1,sqk B2,sqh HB⟩
  subst c13;rw [if_pos rfl] at H;replace H:=sqbi H;obtain ⟨t3,A14,H⟩:=H;(try dsimp only at H)
  by_cases c15 : t3 = true
  ·subst c15;rw [if_pos rfl] at H;have H':=Aside0.mk H;clear H;go_wp2_with (first | ((with_reducible refine gf 27 rfl ?_);refine sqLq rfl (some 11) Try.func27 (impl_numOp.calls _ _ _ A8.out) ?_;intro nd;obtain ⟨_,_,_,_⟩:=sqN2 N0_1 N0_2;obtain ⟨_,_,_,_⟩:=sqc2 B0) | (go_at_call 14;(with_reducible refine (impl_RangeOk.calls a1_0 a1_1 true _ A10.out).mono ?_);rintro e w19 ⟨rfl,hb⟩;refine sqM3 B0 B1 B2 hb ?_;clear B0 B1 B2;intro B0 B1 B2;replace HB:=sqs HB hb;(try clear hb);obtain ⟨_,_⟩:=sqN1 N1_2;obtain ⟨_,_,_,_⟩:=sqc2 B1) | (go_at_call 14;(with_reducible refine (impl_RangeOk.calls a2_0 a2_1 true _ A12.out).mono ?_);rintro e w22 ⟨rfl,hb⟩;refine sqM3 B0 B1 B2 hb ?_;clear B0 B1 B2;intro B0 B1 B2;replace HB:=sqs HB hb;(try clear hb);obtain ⟨_,_,_,_⟩:=sqc2 B0) | (go_at_call 28;(with_reducible refine (impl_Range_empty.calls a1_0 a1_1 true _ A14.out).mono ?_);rintro e w24 ⟨rfl,hb⟩;refine sqM3 B0 B1 B2 hb ?_;clear B0 B1 B2;intro B0 B1 B2;replace HB:=sqs HB hb;(try clear hb)));go_meet
   case rel=>exact ⟨_,(true),sqE,H',⟨sqle⟩,sqk B0,sqk B1,sqk B2,sqh HB⟩
  replace c15:=Bool.eq_false_iff.mpr c15;subst c15;rw [sqff] at H;replace H:=sqbi H;obtain ⟨t4,A25,H⟩:=H;(try dsimp only at H);have H':=Aside0.mk H;clear H;go_wp2_with (first | ((with_reducible refine gf 27 rfl ?_);refine sqLq rfl (some 11) Try.func27 (impl_numOp.calls _ _ _ A8.out) ?_;intro nd;obtain ⟨_,_,_,_⟩:=sqN2 N0_1 N0_2;obtain ⟨_,_,_,_⟩:=sqc2 B0) | (go_at_call 14;(with_reducible refine (impl_RangeOk.calls a1_0 a1_1 true _ A10.out).mono ?_);rintro e w29 ⟨rfl,hb⟩;refine sqM3 B0 B1 B2 hb ?_;clear B0 B1 B2;intro B0 B1 B2;replace HB:=sqs HB hb;(try clear hb);obtain ⟨_,_⟩:=sqN1 N1_2;obtain ⟨_,_,_,_⟩:=sqc2 B1) | (go_at_call 14;(with_reducible refine (impl_RangeOk.calls a2_0 a2_1 true _ A12.out).mono ?_);rintro e w32 ⟨rfl,hb⟩;refine sqM3 B0 B1 B2 hb ?_;clear B0 B1 B2;intro B0 B1 B2;replace HB:=sqs HB hb;(try clear hb);obtain ⟨_,_,_,_⟩:=sqc2 B0) | (go_at_call 28;(with_reducible refine (impl_Range_empty.calls a1_0 a1_1 false _ A14.out).mono ?_);rintro e w34 ⟨rfl,hb⟩;refine sqM3 B0 B1 B2 hb ?_;clear B0 B1 B2;intro B0 B1 B2;replace HB:=sqs HB hb;(try clear hb);obtain ⟨_,_,_,_⟩:=sqc2 B1) | (go_at_call 28;(with_reducible refine (impl_Range_empty.calls a2_0 a2_1 t4 _ A25.out).mono ?_);rintro e w36 ⟨rfl,hb⟩;refine sqM3 B0 B1 B2 hb ?_;clear B0 B1 B2;intro B0 B1 B2;replace HB:=sqs HB hb;(try clear hb)));go_meet
  case rel=>exact ⟨_,(t4),sqE,H',⟨sqle⟩,sqk B0,sqk B1,sqk B2,sqh HB⟩
 case rest =>
  clear HC4;obtain ⟨kq,x0,rfl,HA,HJ3,B0,B1,B2,HB⟩:=hcut;cases kq with
  | zero=>exact absurd HA.out (by simp [impl_RangeDo.j0])
  | succ kj3 =>
   have H:=HA.out;clear HA;simp only [impl_RangeDo.j0] at H
   by_cases c48 : x0 = true
   ·subst c48;rw [if_pos rfl] at H;replace H:=sqbi H;obtain ⟨⟨t5,t6⟩,A49,H⟩:=H;(try dsimp only at H);simp only [Option.some.injEq,Prod.mk.injEq] at H;obtain ⟨rfl,rfl,rfl⟩:=H;go_wp2_with (first | ((with_reducible refine gf 29 rfl ?_);refine sqLb rfl (some 31) Try.func29 (impl_rangeNone.calls _ _ _ A49.out) ?_;intro w50 hb;refine sqM3 B0 B1 B2 hb ?_;clear B0 B1 B2;intro B0 B1 B2;replace HB:=sqs HB hb;(try clear hb);obtain ⟨_,_,_,_⟩:=sqN2 N2_0 N2_1;obtain ⟨_,_,_,_⟩:=sqc2 B2));refine bodyPost_ret (results_ct rfl _ _ gb2 24 #[.int .i64 t5,.int .i64 t6] (0,0) _ rfl (sqP B2) Try.underlying24 rfl (by kernel_rfl)) rfl ?_;exact ⟨_,sqEw,sqnil,sqB HB⟩
   replace c48:=Bool.eq_false_iff.mpr c48;subst c48;rw [sqff] at H;have HC54:=Aside0.mk H;clear H
   go_upto_if 33 with (fail)
   go_cut [33] (fun v33 wc=>∃ (kq : Nat) (x1 : Bool),v33 = .bool x1∧Aside0 (impl_RangeDo.j1 kq a0 a0 x1 a1_0 a1_1 a2_0 a2_1 = some (r1,r2,r3))∧Aside0 (kq ≤ kj3)∧Aside0 (wc.heap[gb0]? = some (.cells #[.int .i64 a1_0,.int .i64 a1_1] 24 (0,0)))∧Aside0 (wc.heap[gb1]? = some (.cells #[.int .i64 a2_0,.int .i64 a2_1] 24 (0,0)))∧Aside0 (wc.heap[gb2]? = some (.cells #[.int .i64 0,.int .i64 0] 24 (0,0)))∧Aside0 (Below w.heap.size w wc))
   case first =>
    have H:=HC54.out;clear HC54;replace H:=sqj H;rcases H with ⟨c55,H⟩ | ⟨c55,H⟩
    ·have z0 : (a0 == 1) = true:=beq_iff_eq.mpr c55;have z6 : (a0 != 1) = false:=bne_eq_false_iff_eq.mpr c55;clear c55
     (first | rw [z0] | (simp only [i64_w,i32_w];rw [z0]) | skip)
     have H':=Aside0.mk H;clear H
     go_wp2
     go_meet
     case rel=>exact ⟨_,((a0 == 1)),sqE,H',⟨by have:=HJ3.out;first | omega | exact Nat.le_refl _⟩,sqk B0,sqk B1,sqk B2,sqh HB⟩
    have z0 : (a0 == 1) = false:=beq_eq_false_iff_ne.mpr c55;have z6 : (a0 != 1) = true:=bne_iff_ne.mpr c55
    (first | rw [z0] | (simp only [i64_w,i32_w];rw [z0]) | skip)
    replace H:=sqi H;rcases H with ⟨c56,H⟩ | ⟨c56,H⟩
    ·have z7 : (a0 == 2) = false:=beq_eq_false_iff_ne.mpr c56;have z8 : (a0 != 2) = true:=bne_iff_ne.mpr c56;have H':=Aside0.mk H;clear H
     go_wp2
     go_meet
     case rel=>exact ⟨_,((a0 == 3)),sqE,H',⟨by have:=HJ3.out;first | omega | exact Nat.le_refl _⟩,sqk B0,sqk B1,sqk B2,sqh HB⟩
    have z7 : (a0 == 2) = true:=beq_iff_eq.mpr c56;have z8 : (a0 != 2) = false:=bne_eq_false_iff_eq.mpr c56;clear c56;have H':=Aside0.mk H;clear H
    go_wp2
    go_meet
    case rel=>exact ⟨_,((a0 == 2)),sqE,H',⟨by have:=HJ3.out;first | omega | exact Nat.le_refl _⟩,sqk B0,sqk B1,sqk B2,sqh HB⟩
   case rest =>
    clear HC54;obtain ⟨kq,x1,rfl,HA,HJ53,B0,B1,B2,HB⟩:=hcut;cases kq with
    | zero=>exact absurd HA.out (by simp [impl_RangeDo.j1])
    | succ kj53 =>
     have H:=HA.out;clear HA;simp only [impl_RangeDo.j1] at H
     by_cases c57 : x1 = true
     ·subst c57;rw [if_pos rfl] at H;replace H:=sqbi H;obtain ⟨⟨t7,t8⟩,A58,H⟩:=H;(try dsimp only at H);have HC59:=Aside0.mk H;clear H;obtain ⟨_,_,_,_⟩:=sqN2 N0_1 N0_2;obtain ⟨_,_,_,_⟩:=sqc2 B0;obtain ⟨_,_⟩:=sqN1 N1_2;obtain ⟨_,_,_,_⟩:=sqc2 B1;go_upto_region 8 with (first | ((with_reducible refine gf 30 rfl ?_);refine sqLb rfl (some 41) Try.func30 (impl_rangeCorners.calls _ _ _ _ _ _ _ _ _ A58.out) ?_;intro w65 hb;refine sqM3 B0 B1 B2 hb ?_;clear B0 B1 B2;intro B0 B1 B2;replace HB:=sqs HB hb;(try clear hb)))
      (try simp only [Act.put,List.setIfInBounds_toArray,List.set_cons_zero,List.set_cons_succ])
      go_cut [49] (fun v49 wc=>∃ (kq : Nat) (x2 : Bool),v49 = .bool x2∧Aside0 (impl_RangeDo.j2 kq t7 t8 x2 = some (r1,r2,r3))∧Aside0 (kq ≤ kj53)∧Aside0 (wc.heap[gb0]? = some (.cells #[.int .i64 a1_0,.int .i64 a1_1] 24 (0,0)))∧Aside0 (wc.heap[gb1]? = some (.cells #[.int .i64 a2_0,.int .i64 a2_1] 24 (0,0)))∧Aside0 (wc.heap[gb2]? = some (.cells #[.int .i64 0,.int .i64 0] 24 (0,0)))∧Aside0 (Below w.heap.size w wc))
      case first =>
       have H:=HC59.out;clear HC59;replace H:=sqj H;rcases H with ⟨c66,H⟩ | ⟨c66,H⟩
       ·have z1:=decide_eq_true c66;clear c66
        (first | rw [z1] | (simp only [i64_w,i32_w];rw [z1]) | skip)
        have H':=Aside0.mk H;clear H
        go_wp2
        go_meet
        case rel=>exact ⟨_,(true),sqE,H',⟨by have:=HJ3.out;have:=HJ53.out;first | omega | exact Nat.le_refl _⟩,sqk B0,sqk B1,sqk B2,sqh HB⟩
       have z1:=decide_eq_false c66;clear c66
       (first | rw [z1] | (simp only [i64_w,i32_w];rw [z1]) | skip)
       have H':=Aside0.mk H;clear H
       go_wp2
       go_meet
       case rel=>exact ⟨_,(decide (t8 > 2147483647)),sqE,H',⟨by have:=HJ3.out;have:=HJ53.out;first | omega | exact Nat.le_refl _⟩,sqk B0,sqk B1,sqk B2,sqh HB⟩
      case rest =>
       clear HC59;obtain ⟨kq,x2,rfl,HA,HJ58,B0,B1,B2,HB⟩:=hcut;cases kq with
       | zero=>exact absurd HA.out (by simp [impl_RangeDo.j2])
       | succ kj58 =>
        have H:=HA.out;clear HA;simp only [impl_RangeDo.j2] at H;rcases sqI (x2 = true) with c67 | c67
        ·replace c67:=Bool.eq_false_iff.mpr c67;subst c67;rw [sqff] at H;replace H:=sqbi H;obtain ⟨⟨t9,t10⟩,A75,H⟩:=H;(try dsimp only at H);simp only [Option.some.injEq,Prod.mk.injEq] at H;obtain ⟨rfl,rfl,rfl⟩:=H;go_wp2_with (first | ((with_reducible refine gf 31 rfl ?_);refine sqLb rfl (some 56) Try.func31 (impl_rangeFrom.calls _ _ _ _ _ A75.out) ?_;intro w76 hb;refine sqM3 B0 B1 B2 hb ?_;clear B0 B1 B2;intro B0 B1 B2;replace HB:=sqs HB hb;(try clear hb);obtain ⟨_,_,_,_⟩:=sqN2 N2_0 N2_1;obtain ⟨_,_,_,_⟩:=sqc2 B2));refine bodyPost_ret (results_ct rfl _ _ gb2 24 #[.int .i64 t9,.int .i64 t10] (0,0) _ rfl (sqP B2) Try.underlying24 rfl (by kernel_rfl)) rfl ?_;exact ⟨_,sqEw,sqnil,sqB HB⟩
        subst c67;rw [if_pos rfl] at H;replace H:=sqbi H;obtain ⟨⟨t11,t12⟩,A68,H⟩:=H;(try dsimp only at H);obtain ⟨z9,z2⟩ : ∃ y_ : List Int,y_ = (([1] : List Int)):=⟨_,rfl⟩
        replace H : (some (t11,t12,z9)) = some (r1,r2,r3):=by first | (rw [z2];with_reducible exact H) | (have H2_:=(Option.bind_some _ _).symm.trans H;rw [z2];with_reducible exact H2_) | (have H2_:=(Option.bind_some _ _).symm.trans H;with_reducible exact H2_) | with_reducible exact H | (rw [z2];exact H) | exact H
        have z5:=Aside0.mk z2;clear z2;simp only [Option.some.injEq,Prod.mk.injEq] at H;obtain ⟨rfl,rfl,rfl⟩:=H;go_wp2_with (first | ((with_reducible refine gf 31 rfl ?_);refine sqLb rfl (some 52) Try.func31 (impl_rangeFrom.calls _ _ _ _ _ A68.out) ?_;intro w69 hb;refine sqM3 B0 B1 B2 hb ?_;clear B0 B1 B2;intro B0 B1 B2;replace HB:=sqs HB hb;(try clear hb)) | ((with_reducible refine gd 53 rfl ?_);refine Kd.R_lit (Kd.int .i64) _ 3 ?hg (N:=53) ?hd (xs:=([1] : List Int)) (inner:=[.int .i64 1]) (ok:=fun _=>True) (okp:=fun _=>True) ?hr ?hp (fun _ hk=>hk) trivial (Below.refl _ _) (Nat.le_refl _) (by simp) ?_;(case hd=>rfl);(case hg=>rfl);(case hr=>first | (go_simp;done) | (go_simp;rfl));(case hp=>exact (Reps.one (show Kd.M (Kd.int .i64) _ _ _ 1 [.int .i64 1] from rfl) (Reps.none _ _)));intro zm w70 ho71 hb hg_ hnew_;clear hg_ hnew_;(first | rw [← z5.out] at ho71 | (simp only [Int.reduceToNat] at ho71;rw [← z5.out] at ho71));have za:=Aside0.mk (Kd.R_lower ho71 (below_size (sqB HB)));refine sqM3 B0 B1 B2 hb ?_;clear B0 B1 B2;intro B0 B1 B2;replace HB:=sqs HB hb;clear hb ho71;obtain ⟨_,_,_,_⟩:=sqN2 N2_0 N2_1;obtain ⟨_,_,_,_⟩:=sqc2 B2));refine bodyPost_ret (results_ct rfl _ _ gb2 24 #[.int .i64 t11,.int .i64 t12] (0,0) _ rfl (sqP B2) Try.underlying24 rfl (by kernel_rfl)) rfl ?_;exact ⟨_,sqEw,sqF1Rf (sqtyR za B2) (fun _ hk=>trivial),sqB HB⟩
     replace c57:=Bool.eq_false_iff.mpr c57;subst c57;rw [sqff] at H;have HC80:=Aside0.mk H;clear H
     go_upto_if 57 with (fail)
     go_cut [57] (fun v57 wc=>∃ (kq : Nat) (x3 : Bool),v57 = .bool x3∧Aside0 (impl_RangeDo.j3 kq a0 a0 x3 a1_0 a1_1 a2_0 a2_1 = some (r1,r2,r3))∧Aside0 (kq ≤ kj53)∧Aside0 (wc.heap[gb0]? = some (.cells #[.int .i64 a1_0,.int .i64 a1_1] 24 (0,0)))∧Aside0 (wc.heap[gb1]? = some (.cells #[.int .i64 a2_0,.int .i64 a2_1] 24 (0,0)))∧Aside0 (wc.heap[gb2]? = some (.cells #[.int .i64 0,.int .i64 0] 24 (0,0)))∧Aside0 (Below w.heap.size w wc))
     case first =>
      have H:=HC80.out;clear HC80;replace H:=sqj H;rcases H with ⟨c81,H⟩ | ⟨c81,H⟩
      ·have z3 : (a0 == 11) = true:=beq_iff_eq.mpr c81;have zb : (a0 != 11) = false:=bne_eq_false_iff_eq.mpr c81;clear c81
       (first | rw [z3] | (simp only [i64_w,i32_w];rw [z3]) | skip)
       have H':=Aside0.mk H;clear H
       go_wp2
       go_meet
       case rel=>exact ⟨_,((a0 == 11)),sqE,H',⟨by have:=HJ3.out;have:=HJ53.out;first | omega | exact Nat.le_refl _⟩,sqk B0,sqk B1,sqk B2,sqh HB⟩
      have z3 : (a0 == 11) = false:=beq_eq_false_iff_ne.mpr c81;have zb : (a0 != 11) = true:=bne_iff_ne.mpr c81
      (first | rw [z3] | (simp only [i64_w,i32_w];rw [z3]) | skip)
      replace H:=sqi H;rcases H with ⟨c82,H⟩ | ⟨c82,H⟩
      ·have zc : (a0 == 12) = false:=beq_eq_false_iff_ne.mpr c82;have zd : (a0 != 12) = true:=bne_iff_ne.mpr c82;have H':=Aside0.mk H;clear H
       go_wp2
       go_meet
       case rel=>exact ⟨_,((a0 == 13)),sqE,H',⟨by have:=HJ3.out;have:=HJ53.out;first | omega | exact Nat.le_refl _⟩,sqk B0,sqk B1,sqk B2,sqh HB⟩
      have zc : (a0 == 12) = true:=beq_iff_eq.mpr c82;have zd : (a0 != 12) = false:=bne_eq_false_iff_eq.mpr c82;clear c82;have H':=Aside0.mk H;clear H
      go_wp2
      go_meet
      case rel=>exact ⟨_,((a0 == 12)),sqE,H',⟨by have:=HJ3.out;have:=HJ53.out;first | omega | exact Nat.le_refl _⟩,sqk B0,sqk B1,sqk B2,sqh HB⟩
     case rest =>
      clear HC80;obtain ⟨kq,x3,rfl,HA,HJ79,B0,B1,B2,HB⟩:=hcut;cases kq with
      | zero=>exact absurd HA.out (by simp [impl_RangeDo.j3])
      | succ kj79 =>
       have H:=HA.out;clear HA;simp only [impl_RangeDo.j3] at H
       by_cases c83 : x3 = true
       ·subst c83;rw [if_pos rfl] at H;replace H:=sqbi H;obtain ⟨⟨t13,t14⟩,A84,H⟩:=H;(try dsimp only at H);simp only [Option.some.injEq,Prod.mk.injEq] at H;obtain ⟨rfl,rfl,rfl⟩:=H;obtain ⟨_,_,_,_⟩:=sqN2 N0_1 N0_2;obtain ⟨_,_,_,_⟩:=sqc2 B0;obtain ⟨_,_⟩:=sqN1 N1_2;obtain ⟨_,_,_,_⟩:=sqc2 B1;go_wp2_with (first | ((with_reducible refine gf 32 rfl ?_);refine sqLb rfl (some 64) Try.func32 (impl_rangeWrap.calls _ _ _ _ _ _ _ _ _ A84.out) ?_;intro w90 hb;refine sqM3 B0 B1 B2 hb ?_;clear B0 B1 B2;intro B0 B1 B2;replace HB:=sqs HB hb;(try clear hb);obtain ⟨_,_,_,_⟩:=sqc2 B2));refine bodyPost_ret (results_ct rfl _ _ gb2 24 #[.int .i64 t13,.int .i64 t14] (0,0) _ rfl (sqP B2) Try.underlying24 rfl (by kernel_rfl)) rfl ?_;exact ⟨_,sqEw,sqnil,sqB HB⟩
       replace c83:=Bool.eq_false_iff.mpr c83;subst c83;rw [sqff] at H;have HC92:=Aside0.mk H;clear H
       go_upto_if 65 with (fail)
       go_cut [65] (fun v65 wc=>∃ (kq : Nat) (x4 : Bool),v65 = .bool x4∧Aside0 (impl_RangeDo.j4 kq a0 a0 x4 a1_0 a1_1 a2_0 a2_1 = some (r1,r2,r3))∧Aside0 (kq ≤ kj79)∧Aside0 (wc.heap[gb0]? = some (.cells #[.int .i64 a1_0,.int .i64 a1_1] 24 (0,0)))∧Aside0 (wc.heap[gb1]? = some (.cells #[.int .i64 a2_0,.int .i64 a2_1] 24 (0,0)))∧Aside0 (wc.heap[gb2]? = some (.cells #[.int .i64 0,.int .i64 0] 24 (0,0)))∧Aside0 (Below w.heap.size w wc))
       case first =>
        have H:=HC92.out;clear HC92;replace H:=sqi H;rcases H with ⟨c93,H⟩ | ⟨c93,H⟩
        ·have z4 : (a0 == 9) = false:=beq_eq_false_iff_ne.mpr c93;have ze : (a0 != 9) = true:=bne_iff_ne.mpr c93
         (first | rw [z4] | (simp only [i64_w,i32_w];rw [z4]) | skip)
         have H':=Aside0.mk H;clear H
         go_wp2
         go_meet
         case rel=>exact ⟨_,((a0 == 10)),sqE,H',⟨by have:=HJ3.out;have:=HJ53.out;have:=HJ79.out;first | omega | exact Nat.le_refl _⟩,sqk B0,sqk B1,sqk B2,sqh HB⟩
        have z4 : (a0 == 9) = true:=beq_iff_eq.mpr c93;have ze : (a0 != 9) = false:=bne_eq_false_iff_eq.mpr c93;clear c93
        (first | rw [z4] | (simp only [i64_w,i32_w];rw [z4]) | skip)
        have H':=Aside0.mk H;clear H
        go_wp2
        go_meet
        case rel=>exact ⟨_,((a0 == 9)),sqE,H',⟨by have:=HJ3.out;have:=HJ53.out;have:=HJ79.out;first | omega | exact Nat.le_refl _⟩,sqk B0,sqk B1,sqk B2,sqh HB⟩
       case rest =>
        clear HC92;obtain ⟨kq,x4,rfl,HA,HJ91,B0,B1,B2,HB⟩:=hcut;cases kq with
        | zero=>exact absurd HA.out (by simp [impl_RangeDo.j4])
        | succ kj91 =>
         have H:=HA.out;clear HA;simp only [impl_RangeDo.j4] at H
         by_cases c94 : x4 = true
         ·subst c94;rw [if_pos rfl] at H;replace H:=sqbi H;obtain ⟨⟨t15,t16,t17⟩,A95,H⟩:=H;(try dsimp only at H);simp only [Option.some.injEq,Prod.mk.injEq] at H;obtain ⟨rfl,rfl,rfl⟩:=H;obtain ⟨_,_,_,_⟩:=sqN2 N0_1 N0_2;obtain ⟨_,_,_,_⟩:=sqc2 B0;obtain ⟨_,_⟩:=sqN1 N1_2;obtain ⟨_,_,_,_⟩:=sqc2 B1;go_wp2_with (first | ((with_reducible refine gf 33 rfl ?_);refine sqLc rfl (some 71) Try.func33 (impl_rangeShift.calls _ _ _ _ _ _ _ _ _ _ A95.out) ?_;rintro e w101 ⟨zn,rfl,ho0,hb⟩;refine ⟨_,rfl,?_⟩;have zf:=sqRlR ho0 HB;refine sqM3 B0 B1 B2 hb ?_;clear B0 B1 B2;intro B0 B1 B2;replace HB:=sqs HB hb;(try clear hb);(try clear hb2);(try clear hk);(try clear hi);(try clear ho0);obtain ⟨_,_,_,_⟩:=sqc2 B2));refine bodyPost_ret (results_ct rfl _ _ gb2 24 #[.int .i64 t15,.int .i64 t16] (0,0) _ rfl (sqP B2) Try.underlying24 rfl (by kernel_rfl)) rfl ?_;exact ⟨_,sqEw,sqF1Rf (sqtyR zf B2) (fun _ hk=>trivial),sqB HB⟩
         replace c94:=Bool.eq_false_iff.mpr c94;subst c94;rw [sqff] at H;replace H:=sqj H;rcases H with ⟨c103,H⟩ | ⟨c103,H⟩
         ·have zg : (a0 == 4) = true:=beq_iff_eq.mpr c103;have zh : (a0 != 4) = false:=bne_eq_false_iff_eq.mpr c103;clear c103;replace H:=sqbi H;obtain ⟨⟨t18,t19,t20⟩,A104,H⟩:=H;(try dsimp only at H);simp only [Option.some.injEq,Prod.mk.injEq] at H;obtain ⟨rfl,rfl,rfl⟩:=H;obtain ⟨_,_,_,_⟩:=sqN2 N0_1 N0_2;obtain ⟨_,_,_,_⟩:=sqc2 B0;obtain ⟨_,_⟩:=sqN1 N1_2;obtain ⟨_,_,_,_⟩:=sqc2 B1;go_wp2_with (first | ((with_reducible refine gf 34 rfl ?_);refine sqLc rfl (some 78) Try.func34 (impl_rangeDiv.calls _ _ _ _ _ _ _ _ _ A104.out) ?_;rintro e w110 ⟨zo,rfl,ho0,hb⟩;refine ⟨_,rfl,?_⟩;have zi:=sqRlR ho0 HB;refine sqM3 B0 B1 B2 hb ?_;clear B0 B1 B2;intro B0 B1 B2;replace HB:=sqs HB hb;(try clear hb);(try clear hb2);(try clear hk);(try clear hi);(try clear ho0);obtain ⟨_,_,_,_⟩:=sqc2 B2));refine bodyPost_ret (results_ct rfl _ _ gb2 24 #[.int .i64 t18,.int .i64 t19] (0,0) _ rfl (sqP B2) Try.underlying24 rfl (by kernel_rfl)) rfl ?_;exact ⟨_,sqEw,sqF1Rf (sqtyR zi B2) (fun _ hk=>trivial),sqB HB⟩
         have zg : (a0 == 4) = false:=beq_eq_false_iff_ne.mpr c103;have zh : (a0 != 4) = true:=bne_iff_ne.mpr c103;replace H:=sqi H;rcases H with ⟨c112,H⟩ | ⟨c112,H⟩
         ·have zj : (a0 == 5) = false:=beq_eq_false_iff_ne.mpr c112;have zk : (a0 != 5) = true:=bne_iff_ne.mpr c112;replace H:=sqbi H;obtain ⟨⟨t21,t22⟩,A121,H⟩:=H;(try dsimp only at H);simp only [Option.some.injEq,Prod.mk.injEq] at H;obtain ⟨rfl,rfl,rfl⟩:=H;obtain ⟨_,_,_,_⟩:=sqN2 N0_1 N0_2;obtain ⟨_,_,_,_⟩:=sqc2 B0;obtain ⟨_,_⟩:=sqN1 N1_2;obtain ⟨_,_,_,_⟩:=sqc2 B1;go_wp2_with (first | ((with_reducible refine gf 36 rfl ?_);refine sqLb rfl (some 91) Try.func36 (impl_rangeBits.calls _ _ _ _ _ _ _ _ _ A121.out) ?_;intro w127 hb;refine sqM3 B0 B1 B2 hb ?_;clear B0 B1 B2;intro B0 B1 B2;replace HB:=sqs HB hb;(try clear hb);obtain ⟨_,_,_,_⟩:=sqc2 B2));refine bodyPost_ret (results_ct rfl _ _ gb2 24 #[.int .i64 t21,.int .i64 t22] (0,0) _ rfl (sqP B2) Try.underlying24 rfl (by kernel_rfl)) rfl ?_;exact ⟨_,sqEw,sqnil,sqB HB⟩
         have zj : (a0 == 5) = true:=beq_iff_eq.mpr c112;have zk : (a0 != 5) = false:=bne_eq_false_iff_eq.mpr c112;clear c112;replace H:=sqbi H;obtain ⟨⟨t23,t24,t25⟩,A113,H⟩:=H;(try dsimp only at H);simp only [Option.some.injEq,Prod.mk.injEq] at H;obtain ⟨rfl,rfl,rfl⟩:=H;obtain ⟨_,_,_,_⟩:=sqN2 N0_1 N0_2;obtain ⟨_,_,_,_⟩:=sqc2 B0;obtain ⟨_,_⟩:=sqN1 N1_2;obtain ⟨_,_,_,_⟩:=sqc2 B1;go_wp2_with (first | ((with_reducible refine gf 35 rfl ?_);refine sqLc rfl (some 85) Try.func35 (impl_rangeRem.calls _ _ _ _ _ _ _ _ _ A113.out) ?_;rintro e w119 ⟨zp,rfl,ho0,hb⟩;refine ⟨_,rfl,?_⟩;have zl:=sqRlR ho0 HB;refine sqM3 B0 B1 B2 hb ?_;clear B0 B1 B2;intro B0 B1 B2;replace HB:=sqs HB hb;(try clear hb);(try clear hb2);(try clear hk);(try clear hi);(try clear ho0);obtain ⟨_,_,_,_⟩:=sqc2 B2));refine bodyPost_ret (results_ct rfl _ _ gb2 24 #[.int .i64 t23,.int .i64 t24] (0,0) _ rfl (sqP B2) Try.underlying24 rfl (by kernel_rfl)) rfl ?_;exact ⟨_,sqEw,sqF1Rf (sqtyR zl B2) (fun _ hk=>trivial),sqB HB⟩

attribute [local go_sem high] eqA24
/-! ### spec_l1In: function 37 -/
theorem spec_l1In.calls (a0 : Int) (a1 : Int) (a2 : Int) (r : Bool) (w : World) (h : spec_l1In.f a0 a1 a2 = some r) :
  Calls Try.prog 37 #[.int .i64 a0,.int .i64 a1,.int .i64 a2] w fun e w'=>e = .returned (.bool r)∧Drawn0 w w':=by
 have H:=h;unfold spec_l1In.f at H;clear h;replace H:=sqj H;rcases H with ⟨c4,H⟩ | ⟨c4,H⟩
 ·have z0 : decide (a1 ≤ a0) = true:=decide_eq_true c4;clear c4;obtain rfl:=Option.some.inj H;go_enter Try.func37,Try.ntmps37
  go_wp2
  go_ret
  exact ⟨sqE,sqD⟩
 have z0 : decide (a1 ≤ a0) = false:=decide_eq_false c4;clear c4;obtain rfl:=Option.some.inj H;go_enter Try.func37,Try.ntmps37
 go_wp2
 go_ret
 exact ⟨sqE,sqD⟩

/-! ### spec_NumOk: function 45 -/
theorem spec_NumOk.calls (a0 : Int) (r : Bool) (w : World) (h : spec_NumOk.f a0 = some r) :
  Calls Try.prog 45 #[.int .i64 a0] w fun e w'=>e = .returned (.bool r)∧Drawn0 w w':=by
 have H:=h;unfold spec_NumOk.f at H;clear h;replace H:=sqbi H;obtain ⟨t0,A2,H⟩:=H;(try dsimp only at H);obtain rfl:=Option.some.inj H;go_enter Try.func45,Try.ntmps45;go_wp2_with (first | ((with_reducible refine gf 37 rfl ?_);refine sqLq rfl (some 4) Try.func37 (spec_l1In.calls _ _ _ _ _ A2.out) ?_;intro nd))
 go_ret
 exact ⟨sqE,sqD⟩

/-! ### spec_RangeOk: function 9 -/
def spec_RangeOk.T1 : Bool × List (List Nat × List Nat):=(true,[([],[]),([],[]),([0,1],[0,1]),([2,1],[2]),([3],[3]),([4,3],[3,4]),([5,3,3],[3,5]),([6,6,3],[3,6]),([7],[7]),([8,7],[7,8]),([9,7,7],[7,9]),([7,10,3],[3,7,10]),([11,10,3],[3,11]),([12],[12]),([13,12],[12,13]),([12],[12]),([15,12],[12,15]),([14,16,12],[12,14,16]),([12,17,3],[3,12,17]),([3,18],[3,18]),([19,12,0,1,2,3,4,5,6,7,8,9,10,11,12,13,14,15,16,17,18,19],[19])])
def spec_RangeOk.B1 : List Nat:=[0,0,3,7,15,31,63,127,255,511,1023,2047,4095,8191,16383,8191,40959,131071,262143,524287,1048575]
theorem spec_RangeOk.tab1 : rtab .any (opsOf Try.f9 1) = spec_RangeOk.T1:=by kernel_rfl
theorem spec_RangeOk.bits1 : waitsOk spec_RangeOk.T1.2 spec_RangeOk.B1 = true:=by kernel_rfl
theorem spec_RangeOk.calls (a0_0 : Int) (a0_1 : Int) (r : Bool) (w : World) (h : spec_RangeOk.f a0_0 a0_1 = some r) :
  Calls Try.prog 9 #[.agg #[.int .i64 a0_0,.int .i64 a0_1]] w fun e w'=>e = .returned (.bool r)∧Below w.heap.size w w':=by
 have hu24:=Try.underlying24;have HB:=Aside0.mk (Below.refl w.heap.size w);have H:=h;unfold spec_RangeOk.f at H;clear h;replace H:=sqbi H;obtain ⟨⟨t0,t1⟩,A2,H⟩:=H;(try dsimp only at H);replace H:=sqj H;rcases H with ⟨c3,H⟩ | ⟨c3,H⟩
 ·have z0 : (a0_0 == t0 && (a0_1 == t1)) = true:=c3
  (try (have z1 : decide (a0_0 = t0 && (a0_1 == t1)) = true:=by simpa using c3))
  (try (have z2 : (a0_0 == t0 && (a0_1 == t1)) = true:=by simpa using c3))
  clear c3;obtain rfl:=Option.some.inj H;go_enter Try.func9,Try.ntmps9
  try go_wp2_with (first | ((with_reducible refine gd 1 rfl ?_);refine sqX 1 #[.int .i64 a0_0,.int .i64 a0_1] 24 HB ?_;clear HB;intro gb0 hg w4 hb B0 GW0 HB;clear hb hg))
  replace B0:=sqdr B0;replace HB:=sqdB HB;refine sqst 21 (fun w'=>Ce2 w' gb0 (.int .i64 a0_0) (.int .i64 a0_1)) sqz (fun hHeld=>?_);refine with_tabW spec_RangeOk.tab1 spec_RangeOk.bits1 (fun HT_ HW_=>?_);generalize w4.drew = w5 at B0 HB hHeld ⊢;refine sqw HT_ HW_ 0 3 hHeld ?_;refine sqo HT_ 1 4 (fun K hK=>?_);refine sqGb rfl Try.func38 (spec_l8None.calls _ _ _ A2.out) ?_;intro w6 hb;replace B0:=sqb B0 hb;replace HB:=sqs HB hb;(try clear hb);refine hK.out _ _ sqz (fun hHeld=>?_);clear hK K;refine sqnm ?_;refine sqp HT_ 2 5 ?_;refine sqp HT_ 3 6 ?_;refine sqpu HT_ 4 7 ?_;refine sqpu HT_ 5 8 ?_;refine sqpu HT_ 6 9 ?_;refine sqpu HT_ 7 10 ?_;refine sqpu HT_ 8 11 ?_;refine sqpu HT_ 9 12 ?_;refine sqpu HT_ 10 13 ?_;refine sqpu HT_ 11 14 ?_;refine sqpu HT_ 12 15 ?_;refine sqpu HT_ 13 16 ?_;refine sqpu HT_ 14 17 ?_;refine sqpu HT_ 15 18 ?_;refine sqpu HT_ 16 19 ?_;refine sqpu HT_ 17 20 ?_;refine sqpu HT_ 18 21 ?_;refine sqp HT_ 19 22 ?_;refine sqp HT_ 20 2 ?_;refine done_ (done_of HT_.out (by kernel_rfl)) ?_
  try go_wp2
  go_ret
  exact sqe HB
 have z0 : (a0_0 == t0 && (a0_1 == t1)) = false:=by simpa using c3
 (try (have z1 : decide (a0_0 = t0 && (a0_1 == t1)) = false:=by simpa using c3))
 (try (have z2 : (a0_0 == t0 && (a0_1 == t1)) = false:=by simpa using c3))
 (try (have z3 : ¬ (a0_0 = t0 && (a0_1 == t1)):=by simpa using c3))
 clear c3;replace H:=sqbi H;obtain ⟨t2,A7,H⟩:=H;(try dsimp only at H);rcases sqI (t2 = true) with c8 | c8
 ·replace c8:=Bool.eq_false_iff.mpr c8;subst c8;rw [sqff] at H;obtain rfl:=Option.some.inj H;go_enter Try.func9,Try.ntmps9
  try go_wp2_with (first | ((with_reducible refine gd 1 rfl ?_);refine sqX 1 #[.int .i64 a0_0,.int .i64 a0_1] 24 HB ?_;clear HB;intro gb0 hg w17 hb B0 GW0 HB;clear hb hg))
  replace B0:=sqdr B0;replace HB:=sqdB HB;refine sqst 21 (fun w'=>Ce2 w' gb0 (.int .i64 a0_0) (.int .i64 a0_1)) sqz (fun hHeld=>?_);refine with_tabW spec_RangeOk.tab1 spec_RangeOk.bits1 (fun HT_ HW_=>?_);generalize w17.drew = w18 at B0 HB hHeld ⊢;refine sqw HT_ HW_ 0 3 hHeld ?_;refine sqo HT_ 1 4 (fun K hK=>?_);refine sqGb rfl Try.func38 (spec_l8None.calls _ _ _ A2.out) ?_;intro w19 hb;replace B0:=sqb B0 hb;replace HB:=sqs HB hb;(try clear hb);refine hK.out _ _ sqz (fun hHeld=>?_);clear hK K;refine sqnm ?_;refine sqp HT_ 2 5 ?_;refine sqp HT_ 3 6 ?_;refine sqp HT_ 4 7 ?_;refine sqw HT_ HW_ 5 8 hHeld ?_;refine sqo HT_ 6 9 (fun K hK=>?_);refine sqGq rfl Try.func45 (spec_NumOk.calls _ _ _ A7.out) ?_;intro nd;refine hK.out _ _ sqz (fun hHeld=>?_);clear hK K;refine sqnm ?_;refine sqp HT_ 7 10 ?_;refine sqpu HT_ 8 11 ?_;refine sqpu HT_ 9 12 ?_;refine sqpu HT_ 10 13 ?_;refine sqp HT_ 11 14 ?_;refine sqp HT_ 12 15 ?_;refine sqpu HT_ 13 16 ?_;refine sqpu HT_ 14 17 ?_;refine sqpu HT_ 15 18 ?_;refine sqpu HT_ 16 19 ?_;refine sqpu HT_ 17 20 ?_;refine sqp HT_ 18 21 ?_;refine sqp HT_ 19 22 ?_;refine sqp HT_ 20 2 ?_;refine done_ (done_of HT_.out (by kernel_rfl)) ?_
  try go_wp2
  go_ret
  exact sqe HB
 subst c8;rw [if_pos rfl] at H;replace H:=sqbi H;obtain ⟨t3,A9,H⟩:=H;(try dsimp only at H)
 by_cases c10 : t3 = true
 ·subst c10;rw [if_pos rfl] at H;obtain rfl:=Option.some.inj H;go_enter Try.func9,Try.ntmps9
  try go_wp2_with (first | ((with_reducible refine gd 1 rfl ?_);refine sqX 1 #[.int .i64 a0_0,.int .i64 a0_1] 24 HB ?_;clear HB;intro gb0 hg w11 hb B0 GW0 HB;clear hb hg))
  replace B0:=sqdr B0;replace HB:=sqdB HB;refine sqst 21 (fun w'=>Ce2 w' gb0 (.int .i64 a0_0) (.int .i64 a0_1)) sqz (fun hHeld=>?_);refine with_tabW spec_RangeOk.tab1 spec_RangeOk.bits1 (fun HT_ HW_=>?_);generalize w11.drew = w12 at B0 HB hHeld ⊢;refine sqw HT_ HW_ 0 3 hHeld ?_;refine sqo HT_ 1 4 (fun K hK=>?_);refine sqGb rfl Try.func38 (spec_l8None.calls _ _ _ A2.out) ?_;intro w13 hb;replace B0:=sqb B0 hb;replace HB:=sqs HB hb;(try clear hb);refine hK.out _ _ sqz (fun hHeld=>?_);clear hK K;refine sqnm ?_;refine sqp HT_ 2 5 ?_;refine sqp HT_ 3 6 ?_;refine sqp HT_ 4 7 ?_;refine sqw HT_ HW_ 5 8 hHeld ?_;refine sqo HT_ 6 9 (fun K hK=>?_);refine sqGq rfl Try.func45 (spec_NumOk.calls _ _ _ A7.out) ?_;intro nd;refine hK.out _ _ sqz (fun hHeld=>?_);clear hK K;refine sqnm ?_;refine sqp HT_ 7 10 ?_;refine sqp HT_ 8 11 ?_;refine sqw HT_ HW_ 9 12 hHeld ?_;refine sqo HT_ 10 13 (fun K hK=>?_);refine sqGq rfl Try.func45 (spec_NumOk.calls _ _ _ A9.out) ?_;intro nd;refine hK.out _ _ sqz (fun hHeld=>?_);clear hK K;refine sqnm ?_;refine sqp HT_ 11 14 ?_;refine sqp HT_ 12 15 ?_;refine sqp HT_ 13 16 ?_;refine sqp HT_ 15 18 ?_;refine sqw HT_ HW_ 14 17 hHeld ?_;refine sqw HT_ HW_ 16 19 hHeld ?_;refine sqp HT_ 17 20 ?_;refine sqp HT_ 18 21 ?_;refine sqp HT_ 19 22 ?_;refine sqp HT_ 20 2 ?_;refine done_ (done_of HT_.out (by kernel_rfl)) ?_
  try go_wp2
  go_ret
  exact sqe HB
 replace c10:=Bool.eq_false_iff.mpr c10;subst c10;rw [sqff] at H;obtain rfl:=Option.some.inj H;go_enter Try.func9,Try.ntmps9
 try go_wp2_with (first | ((with_reducible refine gd 1 rfl ?_);refine sqX 1 #[.int .i64 a0_0,.int .i64 a0_1] 24 HB ?_;clear HB;intro gb0 hg w14 hb B0 GW0 HB;clear hb hg))
 replace B0:=sqdr B0;replace HB:=sqdB HB;refine sqst 21 (fun w'=>Ce2 w' gb0 (.int .i64 a0_0) (.int .i64 a0_1)) sqz (fun hHeld=>?_);refine with_tabW spec_RangeOk.tab1 spec_RangeOk.bits1 (fun HT_ HW_=>?_);generalize w14.drew = w15 at B0 HB hHeld ⊢;refine sqw HT_ HW_ 0 3 hHeld ?_;refine sqo HT_ 1 4 (fun K hK=>?_);refine sqGb rfl Try.func38 (spec_l8None.calls _ _ _ A2.out) ?_;intro w16 hb;replace B0:=sqb B0 hb;replace HB:=sqs HB hb;(try clear hb);refine hK.out _ _ sqz (fun hHeld=>?_);clear hK K;refine sqnm ?_;refine sqp HT_ 2 5 ?_;refine sqp HT_ 3 6 ?_;refine sqp HT_ 4 7 ?_;refine sqw HT_ HW_ 5 8 hHeld ?_;refine sqo HT_ 6 9 (fun K hK=>?_);refine sqGq rfl Try.func45 (spec_NumOk.calls _ _ _ A7.out) ?_;intro nd;refine hK.out _ _ sqz (fun hHeld=>?_);clear hK K;refine sqnm ?_;refine sqp HT_ 7 10 ?_;refine sqp HT_ 8 11 ?_;refine sqw HT_ HW_ 9 12 hHeld ?_;refine sqo HT_ 10 13 (fun K hK=>?_);refine sqGq rfl Try.func45 (spec_NumOk.calls _ _ _ A9.out) ?_;intro nd;refine hK.out _ _ sqz (fun hHeld=>?_);clear hK K;refine sqnm ?_;refine sqp HT_ 11 14 ?_;refine sqp HT_ 12 15 ?_;refine sqpu HT_ 13 16 ?_;refine sqpu HT_ 14 17 ?_;refine sqpu HT_ 15 18 ?_;refine sqpu HT_ 16 19 ?_;refine sqpu HT_ 17 20 ?_;refine sqp HT_ 18 21 ?_;refine sqp HT_ 19 22 ?_;refine sqp HT_ 20 2 ?_;refine done_ (done_of HT_.out (by kernel_rfl)) ?_
 try go_wp2
 go_ret
 exact sqe HB

attribute [local go_sem high] eqA24
/-! ### spec_RangeMeet: function 41 -/
def spec_RangeMeet.T1 : Bool × List (List Nat × List Nat):=(true,[([],[]),([0],[0]),([1],[1]),([2,1],[2]),([3],[3]),([4,3,3],[3,4]),([5,3],[3,5]),([3,6],[3,6]),([7,5],[7]),([8],[8]),([8,8],[8]),([9,10,8],[8,9,10]),([8,11],[8,11]),([12,10],[12]),([13],[13]),([13,13],[13]),([14,15,13],[13,14,15]),([13,16],[13,16])])
def spec_RangeMeet.B1 : List Nat:=[0,1,3,7,15,31,63,127,255,511,511,2047,4095,8191,16383,16383,65535,131071]
theorem spec_RangeMeet.tab1 : rtab .any (opsOf Try.f41 1) = spec_RangeMeet.T1:=by kernel_rfl
theorem spec_RangeMeet.bits1 : waitsOk spec_RangeMeet.T1.2 spec_RangeMeet.B1 = true:=by kernel_rfl
def spec_RangeMeet.T3 : Bool × List (List Nat × List Nat):=(true,[([],[]),([0],[0]),([],[]),([2],[2]),([1,3],[1,3]),([],[]),([5],[5]),([],[]),([7],[7]),([6,8,4],[6,8]),([4,9,9],[4,9]),([10,10,0,1,2,3,4,5,6,7,8,9,10],[10])])
def spec_RangeMeet.B3 : List Nat:=[0,1,0,4,15,0,32,0,128,511,1023,2047]
theorem spec_RangeMeet.tab3 : rtab .any (opsOf Try.f41 3) = spec_RangeMeet.T3:=by kernel_rfl
theorem spec_RangeMeet.bits3 : waitsOk spec_RangeMeet.T3.2 spec_RangeMeet.B3 = true:=by kernel_rfl
theorem spec_RangeMeet.calls (k : Nat) (a0_0 : Int) (a0_1 : Int) (a1_0 : Int) (a1_1 : Int) (r1 : Int) (r2 : Int) (w : World) (h : spec_RangeMeet.f k a0_0 a0_1 a1_0 a1_1 = some (r1,r2)) :
  Calls Try.prog 41 #[.agg #[.int .i64 a0_0,.int .i64 a0_1],.agg #[.int .i64 a1_0,.int .i64 a1_1]] w fun e w'=>e = .returned (.agg #[.int .i64 r1,.int .i64 r2])∧Below w.heap.size w w':=by
 have hu24:=Try.underlying24;have HB:=Aside0.mk (Below.refl w.heap.size w);have H:=h;unfold spec_RangeMeet.f at H;clear h;have HC3:=Aside0.mk H;clear H;go_enter Try.func41,Try.ntmps41;go_upto_region 1 with (first | ((with_reducible refine gd 2 rfl ?_);refine sqX 2 #[.int .i64 a0_0,.int .i64 a0_1] 24 HB ?_;clear HB;intro gb0 hg w4 hb B0 GW0 HB;clear hb hg) | ((with_reducible refine gd 3 rfl ?_);refine sqX 3 #[.int .i64 a1_0,.int .i64 a1_1] 24 HB ?_;clear HB;intro gb1 hg w5 hb B1 GW1 HB;have N0_1:=sqn B0 hg;have N1_0:=sqm B0 hg;replace B0:=sqb B0 hb;clear hb hg) | ((with_reducible refine gd 4 rfl ?_);refine sqX 4 #[.int .i64 0,.int .i64 0] 24 HB ?_;clear HB;intro gb2 hg w6 hb B2 GW2 HB;have N0_2:=sqn B0 hg;have N2_0:=sqm B0 hg;have N1_2:=sqn B1 hg;have N2_1:=sqm B1 hg;refine sqM2 B0 B1 hb ?_;clear B0 B1;intro B0 B1;clear hb hg))
 (try simp only [Act.put,List.setIfInBounds_toArray,List.set_cons_zero,List.set_cons_succ])
 go_cut [22] (fun v22 wc=>∃ (kq : Nat) (x0 : Bool),v22 = .bool x0∧Aside0 (spec_RangeMeet.j0 kq x0 a0_0 a0_1 a1_0 a1_1 = some (r1,r2))∧Aside0 (kq ≤ k)∧Aside0 (wc.heap[gb0]? = some (.cells #[.int .i64 a0_0,.int .i64 a0_1] 24 (0,0)))∧Aside0 (wc.heap[gb1]? = some (.cells #[.int .i64 a1_0,.int .i64 a1_1] 24 (0,0)))∧Aside0 (wc.heap[gb2]? = some (.cells #[.int .i64 0,.int .i64 0] 24 (0,0)))∧Aside0 (Below w.heap.size w wc))
 case first =>
  have H:=HC3.out;clear HC3;replace H:=sqbi H;obtain ⟨t0,A7,H⟩:=H;(try dsimp only at H);rcases sqI (t0 = true) with c8 | c8
  ·replace c8:=Bool.eq_false_iff.mpr c8;subst c8;rw [sqff] at H;have H':=Aside0.mk H;clear H
   try go_wp2
   replace B0:=sqdr B0;replace B1:=sqdr B1;replace B2:=sqdr B2;replace HB:=sqdB HB;refine sqst 18 (fun w'=>Ce2 w' gb0 (.int .i64 a0_0) (.int .i64 a0_1)) sqz (fun hHeld=>?_);refine with_tabW spec_RangeMeet.tab1 spec_RangeMeet.bits1 (fun HT_ HW_=>?_);generalize w6.drew = w26 at B0 B1 B2 HB hHeld ⊢;refine sqw HT_ HW_ 0 5 hHeld ?_;refine sqo HT_ 1 6 (fun K hK=>?_);refine sqGb rfl Try.func9 (spec_RangeOk.calls _ _ _ _ A7.out) ?_;intro w27 hb;refine sqM3 B0 B1 B2 hb ?_;clear B0 B1 B2;intro B0 B1 B2;replace HB:=sqs HB hb;(try clear hb);refine hK.out _ _ sqz (fun hHeld=>?_);clear hK K;refine sqnm ?_;refine sqp HT_ 2 7 ?_;refine sqp HT_ 3 8 ?_;refine sqpu HT_ 4 9 ?_;refine sqpu HT_ 5 10 ?_;refine sqpu HT_ 6 11 ?_;refine sqp HT_ 7 12 ?_;refine sqp HT_ 8 13 ?_;refine sqpu HT_ 9 14 ?_;refine sqpu HT_ 10 15 ?_;refine sqpu HT_ 11 16 ?_;refine sqp HT_ 12 17 ?_;refine sqp HT_ 13 18 ?_;refine sqpu HT_ 14 19 ?_;refine sqpu HT_ 15 20 ?_;refine sqpu HT_ 16 21 ?_;refine sqp HT_ 17 22 ?_;refine done_ (done_of HT_.out (by kernel_rfl)) ?_
   try go_wp2
   go_meet
   case rel=>exact ⟨_,(true),sqE,H',⟨sqle⟩,sqk B0,sqk B1,sqk B2,sqh HB⟩
  subst c8;rw [if_pos rfl] at H;replace H:=sqbi H;obtain ⟨t1,A9,H⟩:=H;(try dsimp only at H);rcases sqI (t1 = true) with c10 | c10
  ·replace c10:=Bool.eq_false_iff.mpr c10;subst c10;rw [sqff] at H;have H':=Aside0.mk H;clear H
   try go_wp2
   replace B0:=sqdr B0;replace B1:=sqdr B1;replace B2:=sqdr B2;replace HB:=sqdB HB;refine sqst 18 (fun w'=>Ce2 w' gb0 (.int .i64 a0_0) (.int .i64 a0_1)∧Ce2 w' gb1 (.int .i64 a1_0) (.int .i64 a1_1)) sqz (fun hHeld=>?_);refine with_tabW spec_RangeMeet.tab1 spec_RangeMeet.bits1 (fun HT_ HW_=>?_);generalize w6.drew = w23 at B0 B1 B2 HB hHeld ⊢;refine sqw HT_ HW_ 0 5 hHeld ?_;refine sqo HT_ 1 6 (fun K hK=>?_);refine sqGb rfl Try.func9 (spec_RangeOk.calls _ _ _ _ A7.out) ?_;intro w24 hb;refine sqM3 B0 B1 B2 hb ?_;clear B0 B1 B2;intro B0 B1 B2;replace HB:=sqs HB hb;(try clear hb);refine hK.out _ _ sqz (fun hHeld=>?_);clear hK K;refine sqnm ?_;refine sqp HT_ 2 7 ?_;refine sqp HT_ 3 8 ?_;refine sqw HT_ HW_ 4 9 hHeld ?_;refine sqo HT_ 5 10 (fun K hK=>?_);refine sqGb rfl Try.func9 (spec_RangeOk.calls _ _ _ _ A9.out) ?_;intro w25 hb;refine sqM3 B0 B1 B2 hb ?_;clear B0 B1 B2;intro B0 B1 B2;replace HB:=sqs HB hb;(try clear hb);refine hK.out _ _ sqz (fun hHeld=>?_);clear hK K;refine sqnm ?_;refine sqp HT_ 6 11 ?_;refine sqp HT_ 7 12 ?_;refine sqp HT_ 8 13 ?_;refine sqpu HT_ 9 14 ?_;refine sqpu HT_ 10 15 ?_;refine sqpu HT_ 11 16 ?_;refine sqp HT_ 12 17 ?_;refine sqp HT_ 13 18 ?_;refine sqpu HT_ 14 19 ?_;refine sqpu HT_ 15 20 ?_;refine sqpu HT_ 16 21 ?_;refine sqp HT_ 17 22 ?_;refine done_ (done_of HT_.out (by kernel_rfl)) ?_
   try go_wp2
   go_meet
   case rel=>exact ⟨_,(true),sqE,H',⟨sqle⟩,sqk B0,sqk B1,sqk B2,sqh HB⟩
  subst c10;rw [if_pos rfl] at H;replace H:=sqbi H;obtain ⟨⟨t2,t3⟩,A11,H⟩:=H;(try dsimp only at H);replace H:=sqj H;rcases H with ⟨c12,H⟩ | ⟨c12,H⟩
  ·have z0 : (a0_0 == t2 && (a0_1 == t3)) = true:=c12
   (try (have z1 : decide (a0_0 = t2 && (a0_1 == t3)) = true:=by simpa using c12))
   (try (have z2 : (a0_0 == t2 && (a0_1 == t3)) = true:=by simpa using c12))
   clear c12
   (first | rw [z0] | (simp only [i64_w,i32_w];rw [z0]) | skip)
   have H':=Aside0.mk H;clear H
   try go_wp2
   replace B0:=sqdr B0;replace B1:=sqdr B1;replace B2:=sqdr B2;replace HB:=sqdB HB;refine sqst 18 (fun w'=>Ce2 w' gb0 (.int .i64 a0_0) (.int .i64 a0_1)∧Ce2 w' gb1 (.int .i64 a1_0) (.int .i64 a1_1)) sqz (fun hHeld=>?_);refine with_tabW spec_RangeMeet.tab1 spec_RangeMeet.bits1 (fun HT_ HW_=>?_);generalize w6.drew = w13 at B0 B1 B2 HB hHeld ⊢;refine sqw HT_ HW_ 0 5 hHeld ?_;refine sqo HT_ 1 6 (fun K hK=>?_);refine sqGb rfl Try.func9 (spec_RangeOk.calls _ _ _ _ A7.out) ?_;intro w14 hb;refine sqM3 B0 B1 B2 hb ?_;clear B0 B1 B2;intro B0 B1 B2;replace HB:=sqs HB hb;(try clear hb);refine hK.out _ _ sqz (fun hHeld=>?_);clear hK K;refine sqnm ?_;refine sqp HT_ 2 7 ?_;refine sqp HT_ 3 8 ?_;refine sqw HT_ HW_ 4 9 hHeld ?_;refine sqo HT_ 5 10 (fun K hK=>?_);refine sqGb rfl Try.func9 (spec_RangeOk.calls _ _ _ _ A9.out) ?_;intro w15 hb;refine sqM3 B0 B1 B2 hb ?_;clear B0 B1 B2;intro B0 B1 B2;replace HB:=sqs HB hb;(try clear hb);refine hK.out _ _ sqz (fun hHeld=>?_);clear hK K;refine sqnm ?_;refine sqp HT_ 6 11 ?_;refine sqp HT_ 7 12 ?_;refine sqp HT_ 8 13 ?_;refine sqw HT_ HW_ 9 14 hHeld ?_;refine sqo HT_ 10 15 (fun K hK=>?_);refine sqGb rfl Try.func38 (spec_l8None.calls _ _ _ A11.out) ?_;intro w16 hb;refine sqM3 B0 B1 B2 hb ?_;clear B0 B1 B2;intro B0 B1 B2;replace HB:=sqs HB hb;(try clear hb);refine hK.out _ _ sqz (fun hHeld=>?_);clear hK K;refine sqnm ?_;refine sqp HT_ 11 16 ?_;refine sqp HT_ 12 17 ?_;refine sqp HT_ 13 18 ?_;refine sqpu HT_ 14 19 ?_;refine sqpu HT_ 15 20 ?_;refine sqpu HT_ 16 21 ?_;refine sqp HT_ 17 22 ?_;refine done_ (done_of HT_.out (by kernel_rfl)) ?_
   try go_wp2
   go_meet
   case rel=>exact ⟨_,(true),sqE,H',⟨sqle⟩,sqk B0,sqk B1,sqk B2,sqh HB⟩
  have z0 : (a0_0 == t2 && (a0_1 == t3)) = false:=by simpa using c12
  (try (have z1 : decide (a0_0 = t2 && (a0_1 == t3)) = false:=by simpa using c12))
  (try (have z2 : (a0_0 == t2 && (a0_1 == t3)) = false:=by simpa using c12))
  (try (have z3 : ¬ (a0_0 = t2 && (a0_1 == t3)):=by simpa using c12))
  clear c12
  (first | rw [z0] | (simp only [i64_w,i32_w];rw [z0]) | skip)
  replace H:=sqbi H;obtain ⟨⟨t4,t5⟩,A17,H⟩:=H;(try dsimp only at H);have H':=Aside0.mk H;clear H
  try go_wp2
  replace B0:=sqdr B0;replace B1:=sqdr B1;replace B2:=sqdr B2;replace HB:=sqdB HB;refine sqst 18 (fun w'=>Ce2 w' gb0 (.int .i64 a0_0) (.int .i64 a0_1)∧Ce2 w' gb1 (.int .i64 a1_0) (.int .i64 a1_1)) sqz (fun hHeld=>?_);refine with_tabW spec_RangeMeet.tab1 spec_RangeMeet.bits1 (fun HT_ HW_=>?_);generalize w6.drew = w18 at B0 B1 B2 HB hHeld ⊢;refine sqw HT_ HW_ 0 5 hHeld ?_;refine sqo HT_ 1 6 (fun K hK=>?_);refine sqGb rfl Try.func9 (spec_RangeOk.calls _ _ _ _ A7.out) ?_;intro w19 hb;refine sqM3 B0 B1 B2 hb ?_;clear B0 B1 B2;intro B0 B1 B2;replace HB:=sqs HB hb;(try clear hb);refine hK.out _ _ sqz (fun hHeld=>?_);clear hK K;refine sqnm ?_;refine sqp HT_ 2 7 ?_;refine sqp HT_ 3 8 ?_;refine sqw HT_ HW_ 4 9 hHeld ?_;refine sqo HT_ 5 10 (fun K hK=>?_);refine sqGb rfl Try.func9 (spec_RangeOk.calls _ _ _ _ A9.out) ?_;intro w20 hb;refine sqM3 B0 B1 B2 hb ?_;clear B0 B1 B2;intro B0 B1 B2;replace HB:=sqs HB hb;(try clear hb);refine hK.out _ _ sqz (fun hHeld=>?_);clear hK K;refine sqnm ?_;refine sqp HT_ 6 11 ?_;refine sqp HT_ 7 12 ?_;refine sqp HT_ 8 13 ?_;refine sqw HT_ HW_ 9 14 hHeld ?_;refine sqo HT_ 10 15 (fun K hK=>?_);refine sqGb rfl Try.func38 (spec_l8None.calls _ _ _ A11.out) ?_;intro w21 hb;refine sqM3 B0 B1 B2 hb ?_;clear B0 B1 B2;intro B0 B1 B2;replace HB:=sqs HB hb;(try clear hb);refine hK.out _ _ sqz (fun hHeld=>?_);clear hK K;refine sqnm ?_;refine sqp HT_ 11 16 ?_;refine sqp HT_ 12 17 ?_;refine sqp HT_ 13 18 ?_;refine sqw HT_ HW_ 14 19 hHeld ?_;refine sqo HT_ 15 20 (fun K hK=>?_);refine sqGb rfl Try.func38 (spec_l8None.calls _ _ _ A17.out) ?_;intro w22 hb;refine sqM3 B0 B1 B2 hb ?_;clear B0 B1 B2;intro B0 B1 B2;replace HB:=sqs HB hb;(try clear hb);refine hK.out _ _ sqz (fun hHeld=>?_);clear hK K;refine sqnm ?_;refine sqp HT_ 16 21 ?_;refine sqp HT_ 17 22 ?_;refine done_ (done_of HT_.out (by kernel_rfl)) ?_
  try go_wp2
  go_meet
  case rel=>exact ⟨_,((a1_0 == t4 && (a1_1 == t5))),sqE,H',⟨sqle⟩,sqk B0,sqk B1,sqk B2,sqh HB⟩
 case rest =>
  clear HC3;obtain ⟨kq,x0,rfl,HA,HJ2,B0,B1,B2,HB⟩:=hcut;cases kq with
  | zero=>exact absurd HA.out (by simp [spec_RangeMeet.j0])
  | succ kj2 =>
   have H:=HA.out;clear HA;simp only [spec_RangeMeet.j0] at H
   by_cases c28 : x0 = true
   ·subst c28;rw [if_pos rfl] at H;replace H:=sqbi H;obtain ⟨⟨t6,t7⟩,A29,H⟩:=H;(try dsimp only at H);simp only [Option.some.injEq,Prod.mk.injEq] at H;obtain ⟨rfl,rfl⟩:=H;go_wp2_with (first | ((with_reducible refine gf 38 rfl ?_);refine sqLb rfl (some 23) Try.func38 (spec_l8None.calls _ _ _ A29.out) ?_;intro w30 hb;refine sqM3 B0 B1 B2 hb ?_;clear B0 B1 B2;intro B0 B1 B2;replace HB:=sqs HB hb;(try clear hb);obtain ⟨_,_,_,_⟩:=sqN2 N2_0 N2_1;obtain ⟨_,_,_,_⟩:=sqc2 B2));refine sqre #[.int .i64 t6,.int .i64 t7] (sqP B2) Try.underlying24 ?_;exact sqe HB
   replace c28:=Bool.eq_false_iff.mpr c28;subst c28;rw [sqff] at H;replace H:=sqbi H;obtain ⟨t8,A34,H⟩:=H;(try dsimp only at H);replace H:=sqbi H;obtain ⟨t9,A35,H⟩:=H;(try dsimp only at H);replace H:=sqbi H;obtain ⟨⟨t10,t11⟩,A36,H⟩:=H;(try dsimp only at H);simp only [Option.some.injEq,Prod.mk.injEq] at H;obtain ⟨rfl,rfl⟩:=H
   try go_wp2
   replace B0:=sqdr B0;replace B1:=sqdr B1;replace B2:=sqdr B2;replace HB:=sqdB HB;refine sqst 12 (fun w'=>Ce2 w' gb0 (.int .i64 a0_0) (.int .i64 a0_1)∧Ce2 w' gb1 (.int .i64 a1_0) (.int .i64 a1_1)) sqz (fun hHeld=>?_);refine with_tabW spec_RangeMeet.tab3 spec_RangeMeet.bits3 (fun HT_ HW_=>?_);generalize wc.drew = w37 at B0 B1 B2 HB hHeld ⊢;refine sqp HT_ 0 24 ?_;refine sqp HT_ 2 26 ?_;refine sqp HT_ 5 29 ?_;refine sqp HT_ 7 31 ?_;refine sqw HT_ HW_ 1 25 hHeld ?_;refine sqw HT_ HW_ 3 27 hHeld ?_;refine sqw HT_ HW_ 6 30 hHeld ?_;refine sqw HT_ HW_ 8 32 hHeld ?_;refine sqo HT_ 4 28 (fun K hK=>?_);refine sqGq rfl Try.func81 (spec_l8Max.calls _ _ _ _ A34.out) ?_;intro nd;refine hK.out _ _ sqz (fun hHeld=>?_);clear hK K;refine sqnm ?_;refine sqo HT_ 9 33 (fun K hK=>?_);refine sqGq rfl Try.func80 (spec_l8Min.calls _ _ _ _ A35.out) ?_;intro nd;refine hK.out _ _ sqz (fun hHeld=>?_);clear hK K;refine sqnm ?_;refine sqo HT_ 10 34 (fun K hK=>?_);refine sqGb rfl Try.func44 (spec_l8Cut.calls _ _ _ _ _ A36.out) ?_;intro w38 hb;refine sqM3 B0 B1 B2 hb ?_;clear B0 B1 B2;intro B0 B1 B2;replace HB:=sqs HB hb;(try clear hb);refine hK.out _ _ sqz (fun hHeld=>?_);clear hK K;refine sqnm ?_;refine sqo0 HT_ 11 (fun K hK=>?_);obtain ⟨_,_,_,_⟩:=sqc2 B2;obtain ⟨_,_,_,_⟩:=sqN2 N0_2 N1_2;refine sqsk ?_;refine hK.out _ _ sqzf (fun hHeld=>?_);clear hK K;refine done_ (done_of HT_.out (by kernel_rfl)) ?_
   try go_wp2
   refine sqre #[.int .i64 t10,.int .i64 t11] (sqP B2) Try.underlying24 ?_;exact sqe HB

/-! ### spec_l1Bits: function 79 -/
theorem spec_l1Bits.calls (k : Nat) (a0 : Int) (a1 : Int) (a2 : Int) (r : Int) (w : World) (h : spec_l1Bits.f k a0 a1 a2 = some r) :
  Calls Try.prog 79 #[.int .i64 a0,.int .i64 a1,.int .i64 a2] w fun e w'=>e = .returned (.int .i64 r)∧Drawn0 w w':=by
 have H:=h;unfold spec_l1Bits.f at H;clear h;have H':=Aside0.mk H;clear H;go_enter Try.func79,Try.ntmps79
 go_wp2
 go_loopg [7,8] k (fun kq v7 v8 w'=>∃ (x0 : Int) (x1 : Int),v7 = .int .i64 x0∧v8 = .int .i64 x1∧Aside0 (spec_l1Bits.l0 kq a0 a1 a2 x0 x1 = some r)∧Aside0 (kq ≤ k)∧Drawn0 w w')
 case atStart=>exact ⟨(0),(0),sqE,sqE,H',⟨Nat.le_refl _⟩,sqD⟩
 case round =>
  clear H';obtain ⟨x0,x1,rfl,rfl,HA,HK1,⟨m1,rfl⟩⟩:=hrel;cases gk with
  | zero=>exact absurd HA.out (by simp [spec_l1Bits.l0])
  | succ k1 =>
   have H:=HA.out;clear HA;simp only [spec_l1Bits.l0] at H;replace H:=sqi H;rcases H with ⟨c4,H⟩ | ⟨c4,H⟩
   ·have ze:=decide_eq_false c4;clear c4;replace H:=sqbi H;obtain ⟨t0,A23,H⟩:=H;(try dsimp only at H);obtain rfl:=Option.some.inj H;go_wp2_with (first | ((with_reducible refine gf 66 rfl ?_);refine sqLq rfl (some 53) Try.func66 (spec_NumWrap.calls _ _ _ A23.out) ?_;intro nd))
    go_ret
    exact ⟨sqE,sqD⟩
   have ze:=decide_eq_true c4;clear c4;replace H:=sqbi H;obtain ⟨t1,A5,H⟩:=H;(try dsimp only at H);obtain ⟨z0,zb⟩ : ∃ j_ : Int,(IntKind.u64.wrap (x1)) = j_:=⟨_,rfl⟩
   replace H : (if 0 ≤ (z0) then ((spec_l1Mod.f a2 4294967296).bind fun t2=>(if a0 = 7 then (if a0 = 8 then (spec_l1Bits.l0 k1 a0 a1 a2 (wrap64 (x0 + (shl .i64 (Int.tmod (wrap64 ((Int.tmod (shr .i64 t1 (z0)) 2) + (Int.tmod (shr .i64 t2 (z0)) 2))) 2) (z0)))) (wrap64 (x1 + 1))) else (spec_l1Bits.l0 k1 a0 a1 a2 (wrap64 (x0 + (shl .i64 (wrap64 ((wrap64 ((Int.tmod (shr .i64 t1 (z0)) 2) + (Int.tmod (shr .i64 t2 (z0)) 2))) - (wrap64 ((Int.tmod (shr .i64 t1 (z0)) 2) * (Int.tmod (shr .i64 t2 (z0)) 2))))) (z0)))) (wrap64 (x1 + 1)))) else (if a0 = 8 then (spec_l1Bits.l0 k1 a0 a1 a2 (wrap64 (x0 + (shl .i64 (Int.tmod (wrap64 ((Int.tmod (shr .i64 t1 (z0)) 2) + (Int.tmod (shr .i64 t2 (z0)) 2))) 2) (z0)))) (wrap64 (x1 + 1))) else (spec_l1Bits.l0 k1 a0 a1 a2 (wrap64 (x0 + (shl .i64 (wrap64 ((Int.tmod (shr .i64 t1 (z0)) 2) * (Int.tmod (shr .i64 t2 (z0)) 2))) (z0)))) (wrap64 (x1 + 1)))))) else (none)) = some r:=by first | (rw [zb] at H;exact H) | (simp only [zb] at H ⊢;exact H)
   (try rw [zb] at A5)
   replace H:=sqi H;rcases H with ⟨c7,H⟩ | ⟨c7,H⟩
   ·cases H
   have zo:=eq_true c7;have zp:=decide_eq_true c7;clear c7;obtain ⟨z1,za⟩ : ∃ j_ : Int,(shr .i64 t1 (z0)) = j_:=⟨_,rfl⟩
   replace H : ((spec_l1Mod.f a2 4294967296).bind fun t2=>(if a0 = 7 then (if a0 = 8 then (spec_l1Bits.l0 k1 a0 a1 a2 (wrap64 (x0 + (shl .i64 (Int.tmod (wrap64 ((Int.tmod (z1) 2) + (Int.tmod (shr .i64 t2 (z0)) 2))) 2) (z0)))) (wrap64 (x1 + 1))) else (spec_l1Bits.l0 k1 a0 a1 a2 (wrap64 (x0 + (shl .i64 (wrap64 ((wrap64 ((Int.tmod (z1) 2) + (Int.tmod (shr .i64 t2 (z0)) 2))) - (wrap64 ((Int.tmod (z1) 2) * (Int.tmod (shr .i64 t2 (z0)) 2))))) (z0)))) (wrap64 (x1 + 1)))) else (if a0 = 8 then (spec_l1Bits.l0 k1 a0 a1 a2 (wrap64 (x0 + (shl .i64 (Int.tmod (wrap64 ((Int.tmod (z1) 2) + (Int.tmod (shr .i64 t2 (z0)) 2))) 2) (z0)))) (wrap64 (x1 + 1))) else (spec_l1Bits.l0 k1 a0 a1 a2 (wrap64 (x0 + (shl .i64 (wrap64 ((Int.tmod (z1) 2) * (Int.tmod (shr .i64 t2 (z0)) 2))) (z0)))) (wrap64 (x1 + 1)))))) = some r:=by first | (rw [za] at H;exact H) | (simp only [za] at H ⊢;exact H)
   (try rw [za] at A5)
   have zq : (t1 / 2 ^ min (z0).toNat 64) = z1:=za;have zr : (z0) ≤ 64→(t1 / 2 ^ (z0).toNat) = z1:=shr_small za;replace H:=sqbi H;obtain ⟨t2,A9,H⟩:=H;(try dsimp only at H);have zt:=eq_true (sqd : 0 ≤ (z0));obtain ⟨z2,z6⟩ : ∃ j_ : Int,(shr .i64 t2 (z0)) = j_:=⟨_,rfl⟩
   replace H : (if a0 = 7 then (if a0 = 8 then (spec_l1Bits.l0 k1 a0 a1 a2 (wrap64 (x0 + (shl .i64 (Int.tmod (wrap64 ((Int.tmod (z1) 2) + (Int.tmod (z2) 2))) 2) (z0)))) (wrap64 (x1 + 1))) else (spec_l1Bits.l0 k1 a0 a1 a2 (wrap64 (x0 + (shl .i64 (wrap64 ((wrap64 ((Int.tmod (z1) 2) + (Int.tmod (z2) 2))) - (wrap64 ((Int.tmod (z1) 2) * (Int.tmod (z2) 2))))) (z0)))) (wrap64 (x1 + 1)))) else (if a0 = 8 then (spec_l1Bits.l0 k1 a0 a1 a2 (wrap64 (x0 + (shl .i64 (Int.tmod (wrap64 ((Int.tmod (z1) 2) + (Int.tmod (z2) 2))) 2) (z0)))) (wrap64 (x1 + 1))) else (spec_l1Bits.l0 k1 a0 a1 a2 (wrap64 (x0 + (shl .i64 (wrap64 ((Int.tmod (z1) 2) * (Int.tmod (z2) 2))) (z0)))) (wrap64 (x1 + 1))))) = some r:=by first | (rw [z6] at H;exact H) | (simp only [z6] at H ⊢;exact H)
   (try rw [z6] at A5)
   (try rw [z6] at A9)
   have zu : (t2 / 2 ^ min (z0).toNat 64) = z2:=z6;have zv : (z0) ≤ 64→(t2 / 2 ^ (z0).toNat) = z2:=shr_small z6;replace H:=sqj H;rcases H with ⟨c12,H⟩ | ⟨c12,H⟩
   ·have zc : (a0 == 7) = true:=beq_iff_eq.mpr c12;have zf : (a0 != 7) = false:=bne_eq_false_iff_eq.mpr c12;clear c12;replace H:=sqj H;rcases H with ⟨c13,H⟩ | ⟨c13,H⟩
    ·have zd : (a0 == 8) = true:=beq_iff_eq.mpr c13;exact absurd ((beq_iff_eq.mp zc).symm.trans (beq_iff_eq.mp zd)) (by decide)
    have zd : (a0 == 8) = false:=beq_eq_false_iff_ne.mpr c13;have zw : (a0 != 8) = true:=bne_iff_ne.mpr c13;have zx:=eq_true (sqd : 0 ≤ (z0));obtain ⟨z7,z3⟩ : ∃ j_ : Int,(shl .i64 (wrap64 ((wrap64 ((Int.tmod (z1) 2) + (Int.tmod (z2) 2))) - (wrap64 ((Int.tmod (z1) 2) * (Int.tmod (z2) 2))))) (z0)) = j_:=⟨_,rfl⟩
    replace H : (spec_l1Bits.l0 k1 a0 a1 a2 (wrap64 (x0 + (z7))) (wrap64 (x1 + 1))) = some r:=by first | (rw [z3] at H;exact H) | (simp only [z3] at H ⊢;exact H)
    (try rw [z3] at A5)
    (try rw [z3] at A9)
    have zg : (IntKind.i64.wrap ((wrap64 ((wrap64 ((Int.tmod (z1) 2) + (Int.tmod (z2) 2))) - (wrap64 ((Int.tmod (z1) 2) * (Int.tmod (z2) 2))))) * 2 ^ min (z0).toNat 64)) = z7:=z3;have zh : (z0) ≤ 64→(IntKind.i64.wrap ((wrap64 ((wrap64 ((Int.tmod (z1) 2) + (Int.tmod (z2) 2))) - (wrap64 ((Int.tmod (z1) 2) * (Int.tmod (z2) 2))))) * 2 ^ (z0).toNat)) = z7:=shl_small z3;have hji17y : (wrap64 ((wrap64 ((wrap64 ((Int.tmod (z1) 2) + (Int.tmod (z2) 2))) - (wrap64 ((Int.tmod (z1) 2) * (Int.tmod (z2) 2))))) * 2 ^ min (z0).toNat 64)) = z7:=(i64_w _).symm.trans zg
    have hji17x : (z0) ≤ 64→(wrap64 ((wrap64 ((wrap64 ((Int.tmod (z1) 2) + (Int.tmod (z2) 2))) - (wrap64 ((Int.tmod (z1) 2) * (Int.tmod (z2) 2))))) * 2 ^ (z0).toNat)) = z7:=fun h_=>(i64_w _).symm.trans (zh h_)
    have H':=Aside0.mk H;clear H;go_wp2_with (first | ((with_reducible refine gf 88 rfl ?_);refine sqLq rfl (some 17) Try.func88 (spec_l1Mod.calls _ _ _ _ A5.out) ?_;intro nd) | ((with_reducible refine gf 88 rfl ?_);refine sqLq rfl (some 23) Try.func88 (spec_l1Mod.calls _ _ _ _ A9.out) ?_;intro nd));go_roundg k1
    case measure=>have:=HK1.out;omega
    case rel=>exact ⟨(wrap64 (x0 + (z7))),(wrap64 (x1 + 1)),(by first | rfl | (simp;done) | (simp only [← z3] <;> (first | rfl | simp)) | (simp [*];done)),sqE,H',⟨by have:=HK1.out;omega⟩,sqD⟩
   have zc : (a0 == 7) = false:=beq_eq_false_iff_ne.mpr c12;have zf : (a0 != 7) = true:=bne_iff_ne.mpr c12;replace H:=sqi H;rcases H with ⟨c18,H⟩ | ⟨c18,H⟩
   ·have zi : (a0 == 8) = false:=beq_eq_false_iff_ne.mpr c18;have zj : (a0 != 8) = true:=bne_iff_ne.mpr c18;have zy:=eq_true (sqd : 0 ≤ (z0));obtain ⟨z8,z4⟩ : ∃ j_ : Int,(shl .i64 (wrap64 ((Int.tmod (z1) 2) * (Int.tmod (z2) 2))) (z0)) = j_:=⟨_,rfl⟩
    replace H : (spec_l1Bits.l0 k1 a0 a1 a2 (wrap64 (x0 + (z8))) (wrap64 (x1 + 1))) = some r:=by first | (rw [z4] at H;exact H) | (simp only [z4] at H ⊢;exact H)
    (try rw [z4] at A5)
    (try rw [z4] at A9)
    have zk : (IntKind.i64.wrap ((wrap64 ((Int.tmod (z1) 2) * (Int.tmod (z2) 2))) * 2 ^ min (z0).toNat 64)) = z8:=z4;have zl : (z0) ≤ 64→(IntKind.i64.wrap ((wrap64 ((Int.tmod (z1) 2) * (Int.tmod (z2) 2))) * 2 ^ (z0).toNat)) = z8:=shl_small z4;have hji22y : (wrap64 ((wrap64 ((Int.tmod (z1) 2) * (Int.tmod (z2) 2))) * 2 ^ min (z0).toNat 64)) = z8:=(i64_w _).symm.trans zk
    have hji22x : (z0) ≤ 64→(wrap64 ((wrap64 ((Int.tmod (z1) 2) * (Int.tmod (z2) 2))) * 2 ^ (z0).toNat)) = z8:=fun h_=>(i64_w _).symm.trans (zl h_)
    have H':=Aside0.mk H;clear H;go_wp2_with (first | ((with_reducible refine gf 88 rfl ?_);refine sqLq rfl (some 17) Try.func88 (spec_l1Mod.calls _ _ _ _ A5.out) ?_;intro nd) | ((with_reducible refine gf 88 rfl ?_);refine sqLq rfl (some 23) Try.func88 (spec_l1Mod.calls _ _ _ _ A9.out) ?_;intro nd));go_roundg k1
    case measure=>have:=HK1.out;omega
    case rel=>exact ⟨(wrap64 (x0 + (z8))),(wrap64 (x1 + 1)),(by first | rfl | (simp;done) | (simp only [← z4] <;> (first | rfl | simp)) | (simp [*];done)),sqE,H',⟨by have:=HK1.out;omega⟩,sqD⟩
   have zi : (a0 == 8) = true:=beq_iff_eq.mpr c18;have zj : (a0 != 8) = false:=bne_eq_false_iff_eq.mpr c18;clear c18;have zz:=eq_true (sqd : 0 ≤ (z0));obtain ⟨z9,z5⟩ : ∃ j_ : Int,(shl .i64 (Int.tmod (wrap64 ((Int.tmod (z1) 2) + (Int.tmod (z2) 2))) 2) (z0)) = j_:=⟨_,rfl⟩
   replace H : (spec_l1Bits.l0 k1 a0 a1 a2 (wrap64 (x0 + (z9))) (wrap64 (x1 + 1))) = some r:=by first | (rw [z5] at H;exact H) | (simp only [z5] at H ⊢;exact H)
   (try rw [z5] at A5)
   (try rw [z5] at A9)
   have zm : (IntKind.i64.wrap ((Int.tmod (wrap64 ((Int.tmod (z1) 2) + (Int.tmod (z2) 2))) 2) * 2 ^ min (z0).toNat 64)) = z9:=z5;have zn : (z0) ≤ 64→(IntKind.i64.wrap ((Int.tmod (wrap64 ((Int.tmod (z1) 2) + (Int.tmod (z2) 2))) 2) * 2 ^ (z0).toNat)) = z9:=shl_small z5;have hji20y : (wrap64 ((Int.tmod (wrap64 ((Int.tmod (z1) 2) + (Int.tmod (z2) 2))) 2) * 2 ^ min (z0).toNat 64)) = z9:=(i64_w _).symm.trans zm
   have hji20x : (z0) ≤ 64→(wrap64 ((Int.tmod (wrap64 ((Int.tmod (z1) 2) + (Int.tmod (z2) 2))) 2) * 2 ^ (z0).toNat)) = z9:=fun h_=>(i64_w _).symm.trans (zn h_)
   have H':=Aside0.mk H;clear H;go_wp2_with (first | ((with_reducible refine gf 88 rfl ?_);refine sqLq rfl (some 17) Try.func88 (spec_l1Mod.calls _ _ _ _ A5.out) ?_;intro nd) | ((with_reducible refine gf 88 rfl ?_);refine sqLq rfl (some 23) Try.func88 (spec_l1Mod.calls _ _ _ _ A9.out) ?_;intro nd));go_roundg k1
   case measure=>have:=HK1.out;omega
   case rel=>exact ⟨(wrap64 (x0 + (z9))),(wrap64 (x1 + 1)),(by first | rfl | (simp;done) | (simp only [← z5] <;> (first | rfl | simp)) | (simp [*];done)),sqE,H',⟨by have:=HK1.out;omega⟩,sqD⟩

/-! ### spec_l1Floor: function 99 -/
theorem spec_l1Floor.calls (a0 : Int) (a1 : Int) (r : Int) (w : World) (h : spec_l1Floor.f a0 a1 = some r) :
  Calls Try.prog 99 #[.int .i64 a0,.int .i64 a1] w fun e w'=>e = .returned (.int .i64 r)∧Drawn0 w w':=by
 have H:=h;unfold spec_l1Floor.f at H;clear h;replace H:=sqbi H;obtain ⟨t0,A3,H⟩:=H;(try dsimp only at H);replace H:=sqj H;rcases H with ⟨c4,H⟩ | ⟨c4,H⟩
 ·cases H
 have z0 : (a1 == 0) = false:=beq_eq_false_iff_ne.mpr c4;have z1 : (a1 != 0) = true:=bne_iff_ne.mpr c4;obtain rfl:=Option.some.inj H;go_enter Try.func99,Try.ntmps99;go_wp2_with (first | ((with_reducible refine gf 88 rfl ?_);refine sqLq rfl (some 8) Try.func88 (spec_l1Mod.calls _ _ _ _ A3.out) ?_;intro nd))
 go_ret
 exact ⟨sqE,sqD⟩

/-! ### spec_l1Exact: function 65 -/
theorem spec_l1Exact.calls (k : Nat) (a0 : Int) (a1 : Int) (a2 : Int) (r : Int) (w : World) (h : spec_l1Exact.f k a0 a1 a2 = some r) :
  Calls Try.prog 65 #[.int .i64 a0,.int .i64 a1,.int .i64 a2] w fun e w'=>e = .returned (.int .i64 r)∧Drawn0 w w':=by
 have H:=h;unfold spec_l1Exact.f at H;clear h;have HC4:=Aside0.mk H;clear H;go_enter Try.func65,Try.ntmps65;go_upto_region 1 with (fail);go_cut [12] (fun v12 wc=>∃ (kq : Nat) (x0 : Bool),v12 = .bool x0∧Aside0 (spec_l1Exact.j0 kq a0 a1 a2 x0 = some r)∧Aside0 (kq ≤ k)∧Drawn0 w wc)
 case first =>
  have H:=HC4.out;clear HC4;replace H:=sqi H;rcases H with ⟨c5,H⟩ | ⟨c5,H⟩
  ·have z0 : (a0 == 1) = false:=beq_eq_false_iff_ne.mpr c5;have z3 : (a0 != 1) = true:=bne_iff_ne.mpr c5
   (first | rw [z0] | (simp only [i64_w,i32_w];rw [z0]) | skip)
   have H':=Aside0.mk H;clear H
   go_wp2
   go_meet
   case rel=>exact ⟨_,((a0 == 11)),sqE,H',⟨sqle⟩,sqD⟩
  have z0 : (a0 == 1) = true:=beq_iff_eq.mpr c5;have z3 : (a0 != 1) = false:=bne_eq_false_iff_eq.mpr c5;clear c5
  (first | rw [z0] | (simp only [i64_w,i32_w];rw [z0]) | skip)
  have H':=Aside0.mk H;clear H
  go_wp2
  go_meet
  case rel=>exact ⟨_,(true),sqE,H',⟨sqle⟩,sqD⟩
 case rest =>
  clear HC4;obtain ⟨kq,x0,rfl,HA,HJ3,⟨mc3,rfl⟩⟩:=hcut;cases kq with
  | zero=>exact absurd HA.out (by simp [spec_l1Exact.j0])
  | succ kj3 =>
   have H:=HA.out;clear HA;simp only [spec_l1Exact.j0] at H
   by_cases c6 : x0 = true
   ·subst c6;rw [if_pos rfl] at H;obtain rfl:=Option.some.inj H
    go_wp2
    go_ret
    exact ⟨sqE,sqD⟩
   replace c6:=Bool.eq_false_iff.mpr c6;subst c6;rw [sqff] at H;have HC7:=Aside0.mk H;clear H;go_upto_region 3 with (fail);go_cut [21] (fun v21 wc=>∃ (kq : Nat) (x1 : Bool),v21 = .bool x1∧Aside0 (spec_l1Exact.j1 kq a0 a1 a2 x1 = some r)∧Aside0 (kq ≤ kj3)∧Drawn0 w wc)
   case first =>
    have H:=HC7.out;clear HC7;replace H:=sqi H;rcases H with ⟨c8,H⟩ | ⟨c8,H⟩
    ·have z1 : (a0 == 2) = false:=beq_eq_false_iff_ne.mpr c8;have z4 : (a0 != 2) = true:=bne_iff_ne.mpr c8
     (first | rw [z1] | (simp only [i64_w,i32_w];rw [z1]) | skip)
     have H':=Aside0.mk H;clear H
     go_wp2
     go_meet
     case rel=>exact ⟨_,((a0 == 12)),sqE,H',⟨by have:=HJ3.out;first | omega | exact Nat.le_refl _⟩,sqD⟩
    have z1 : (a0 == 2) = true:=beq_iff_eq.mpr c8;have z4 : (a0 != 2) = false:=bne_eq_false_iff_eq.mpr c8;clear c8
    (first | rw [z1] | (simp only [i64_w,i32_w];rw [z1]) | skip)
    have H':=Aside0.mk H;clear H
    go_wp2
    go_meet
    case rel=>exact ⟨_,(true),sqE,H',⟨by have:=HJ3.out;first | omega | exact Nat.le_refl _⟩,sqD⟩
   case rest =>
    clear HC7;obtain ⟨kq,x1,rfl,HA,HJ6,⟨mc6,rfl⟩⟩:=hcut;cases kq with
    | zero=>exact absurd HA.out (by simp [spec_l1Exact.j1])
    | succ kj6 =>
     have H:=HA.out;clear HA;simp only [spec_l1Exact.j1] at H
     by_cases c9 : x1 = true
     ·subst c9;rw [if_pos rfl] at H;obtain rfl:=Option.some.inj H
      go_wp2
      go_ret
      exact ⟨sqE,sqD⟩
     replace c9:=Bool.eq_false_iff.mpr c9;subst c9;rw [sqff] at H;have HC10:=Aside0.mk H;clear H;go_upto_region 5 with (fail);go_cut [30] (fun v30 wc=>∃ (kq : Nat) (x2 : Bool),v30 = .bool x2∧Aside0 (spec_l1Exact.j2 kq a0 a1 a2 x2 = some r)∧Aside0 (kq ≤ kj6)∧Drawn0 w wc)
     case first =>
      have H:=HC10.out;clear HC10;replace H:=sqi H;rcases H with ⟨c11,H⟩ | ⟨c11,H⟩
      ·have z2 : (a0 == 3) = false:=beq_eq_false_iff_ne.mpr c11;have z5 : (a0 != 3) = true:=bne_iff_ne.mpr c11
       (first | rw [z2] | (simp only [i64_w,i32_w];rw [z2]) | skip)
       have H':=Aside0.mk H;clear H
       go_wp2
       go_meet
       case rel=>exact ⟨_,((a0 == 13)),sqE,H',⟨by have:=HJ3.out;have:=HJ6.out;first | omega | exact Nat.le_refl _⟩,sqD⟩
      have z2 : (a0 == 3) = true:=beq_iff_eq.mpr c11;have z5 : (a0 != 3) = false:=bne_eq_false_iff_eq.mpr c11;clear c11
      (first | rw [z2] | (simp only [i64_w,i32_w];rw [z2]) | skip)
      have H':=Aside0.mk H;clear H
      go_wp2
      go_meet
      case rel=>exact ⟨_,(true),sqE,H',⟨by have:=HJ3.out;have:=HJ6.out;first | omega | exact Nat.le_refl _⟩,sqD⟩
     case rest =>
      clear HC10;obtain ⟨kq,x2,rfl,HA,HJ9,⟨mc9,rfl⟩⟩:=hcut;cases kq with
      | zero=>exact absurd HA.out (by simp [spec_l1Exact.j2])
      | succ kj9 =>
       have H:=HA.out;clear HA;simp only [spec_l1Exact.j2] at H
       by_cases c12 : x2 = true
       ·subst c12;rw [if_pos rfl] at H;obtain rfl:=Option.some.inj H
        go_wp2
        go_ret
        exact ⟨sqE,sqD⟩
       replace c12:=Bool.eq_false_iff.mpr c12;subst c12;rw [sqff] at H;replace H:=sqj H;rcases H with ⟨c13,H⟩ | ⟨c13,H⟩
       ·have z6 : (a0 == 4) = true:=beq_iff_eq.mpr c13;have z7 : (a0 != 4) = false:=bne_eq_false_iff_eq.mpr c13;clear c13;replace H:=sqj H;rcases H with ⟨c14,H⟩ | ⟨c14,H⟩
        ·cases H
        have ze : (a2 == 0) = false:=beq_eq_false_iff_ne.mpr c14;have zf : (a2 != 0) = true:=bne_iff_ne.mpr c14;obtain rfl:=Option.some.inj H
        go_wp2
        go_ret
        exact ⟨sqE,sqD⟩
       have z6 : (a0 == 4) = false:=beq_eq_false_iff_ne.mpr c13;have z7 : (a0 != 4) = true:=bne_iff_ne.mpr c13;replace H:=sqj H;rcases H with ⟨c15,H⟩ | ⟨c15,H⟩
       ·have z8 : (a0 == 5) = true:=beq_iff_eq.mpr c15;have z9 : (a0 != 5) = false:=bne_eq_false_iff_eq.mpr c15;clear c15;replace H:=sqj H;rcases H with ⟨c16,H⟩ | ⟨c16,H⟩
        ·cases H
        have zg : (a2 == 0) = false:=beq_eq_false_iff_ne.mpr c16;have zh : (a2 != 0) = true:=bne_iff_ne.mpr c16;obtain rfl:=Option.some.inj H
        go_wp2
        go_ret
        exact ⟨sqE,sqD⟩
       have z8 : (a0 == 5) = false:=beq_eq_false_iff_ne.mpr c15;have z9 : (a0 != 5) = true:=bne_iff_ne.mpr c15;replace H:=sqj H;rcases H with ⟨c17,H⟩ | ⟨c17,H⟩
       ·have za : (a0 == 9) = true:=beq_iff_eq.mpr c17;have zb : (a0 != 9) = false:=bne_eq_false_iff_eq.mpr c17;clear c17;replace H:=sqbi H;obtain ⟨t0,A18,H⟩:=H;(try dsimp only at H);obtain rfl:=Option.some.inj H;go_wp2_with (first | ((with_reducible refine gf 98 rfl ?_);refine sqLq rfl (some 48) Try.func98 (spec_l1Power.calls _ _ _ _ A18.out) ?_;intro nd))
        go_ret
        exact ⟨sqE,sqD⟩
       have za : (a0 == 9) = false:=beq_eq_false_iff_ne.mpr c17;have zb : (a0 != 9) = true:=bne_iff_ne.mpr c17;replace H:=sqi H;rcases H with ⟨c19,H⟩ | ⟨c19,H⟩
       ·have zc : (a0 == 10) = false:=beq_eq_false_iff_ne.mpr c19;have zd : (a0 != 10) = true:=bne_iff_ne.mpr c19;replace H:=sqbi H;obtain ⟨t1,A22,H⟩:=H;(try dsimp only at H);obtain rfl:=Option.some.inj H;go_wp2_with (first | ((with_reducible refine gf 79 rfl ?_);refine sqLq rfl (some 59) Try.func79 (spec_l1Bits.calls _ _ _ _ _ _ A22.out) ?_;intro nd))
        go_ret
        exact ⟨sqE,sqD⟩
       have zc : (a0 == 10) = true:=beq_iff_eq.mpr c19;have zd : (a0 != 10) = false:=bne_eq_false_iff_eq.mpr c19;clear c19;replace H:=sqbi H;obtain ⟨t2,A20,H⟩:=H;(try dsimp only at H);replace H:=sqbi H;obtain ⟨t3,A21,H⟩:=H;(try dsimp only at H);obtain rfl:=Option.some.inj H;go_wp2_with (first | ((with_reducible refine gf 98 rfl ?_);refine sqLq rfl (some 54) Try.func98 (spec_l1Power.calls _ _ _ _ A20.out) ?_;intro nd) | ((with_reducible refine gf 99 rfl ?_);refine sqLq rfl (some 55) Try.func99 (spec_l1Floor.calls _ _ _ _ A21.out) ?_;intro nd))
       go_ret
       exact ⟨sqE,sqD⟩

end Go.Proofs.Ytlbheepfmjbpnaa.PFnRangeDo
