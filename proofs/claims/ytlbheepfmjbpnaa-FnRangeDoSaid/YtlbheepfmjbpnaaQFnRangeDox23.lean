/- Functions of the program as plain Lean functions, and that calls of them come to what these tell. Conditions: those in each law. -/
import Derived.Test.YtlbheepfmjbpnaaSq
import Derived.Test.YtlbheepfmjbpnaaDFnRangeDo
import Derived.Test.YtlbheepfmjbpnaaQFnRangeDox0
import Derived.Test.YtlbheepfmjbpnaaQFnRangeDox2
import Derived.Test.YtlbheepfmjbpnaaQFnRangeDox5
import Derived.Test.YtlbheepfmjbpnaaQFnRangeDox16
import Derived.Test.YtlbheepfmjbpnaaQFnRangeDox20
import Derived.Test.YtlbheepfmjbpnaaQFnRangeDox18
namespace Go.Proofs.Ytlbheepfmjbpnaa.PFnRangeDo
open Go.RowKit Go.Proofs.Ytlbheepfmjbpnaa.Sq Go.Proofs.YtlbheepfmjbpnaaW.PrintWords Go.Proofs.YtlbheepfmjbpnaaW.PrintLast Go.Proofs.YtlbheepfmjbpnaaW.PrintMore
attribute [local go_sem] max2_int min2_int max_two min_two max_three min_three max_four min_four   -- for this text's walks alone
set_option linter.unusedVariables false
set_option linter.unusedSimpArgs false

set_option maxHeartbeats 8000000
set_option maxRecDepth 100000
/-! ### spec_l8Bits: function 40 -/
def spec_l8Bits.T11 : Bool × List (List Nat × List Nat):=(true,[([],[]),([0],[0]),([],[]),([2],[2]),([1,3],[1,3]),([],[]),([5],[5]),([],[]),([7],[7]),([6,8,4],[6,8]),([9,9],[9]),([4,10],[4,10]),([11,10,0,1,2,3,4,5,6,7,8,9,10,11],[11])])
def spec_l8Bits.B11 : List Nat:=[0,1,0,4,15,0,32,0,128,511,1023,2047,4095]
theorem spec_l8Bits.tab11 : rtab .any (opsOf Try.f40 11) = spec_l8Bits.T11:=by kernel_rfl
theorem spec_l8Bits.bits11 : waitsOk spec_l8Bits.T11.2 spec_l8Bits.B11 = true:=by kernel_rfl
theorem spec_l8Bits.calls (k : Nat) (a0 : Int) (a1_0 : Int) (a1_1 : Int) (a2_0 : Int) (a2_1 : Int) (r1 : Int) (r2 : Int) (w : World) (h : spec_l8Bits.f k a0 a1_0 a1_1 a2_0 a2_1 = some (r1,r2)) :
  Calls Try.prog 40 #[.int .i64 a0,.agg #[.int .i64 a1_0,.int .i64 a1_1],.agg #[.int .i64 a2_0,.int .i64 a2_1]] w fun e w'=>e = .returned (.agg #[.int .i64 r1,.int .i64 r2])∧Below w.heap.size w w':=by
 have hu24:=Try.underlying24;have HB:=Aside0.mk (Below.refl w.heap.size w);have H:=h;unfold spec_l8Bits.f at H;clear h;have HC4:=Aside0.mk H;clear H;go_enter Try.func40,Try.ntmps40;go_upto_region 1 with (first | ((with_reducible refine gd 4 rfl ?_);refine sqX 4 #[.int .i64 a1_0,.int .i64 a1_1] 24 HB ?_;clear HB;intro gb0 hg w5 hb B0 GW0 HB;clear hb hg) | ((with_reducible refine gd 5 rfl ?_);refine sqX 5 #[.int .i64 a2_0,.int .i64 a2_1] 24 HB ?_;clear HB;intro gb1 hg w6 hb B1 GW1 HB;have N0_1:=sqn B0 hg;have N1_0:=sqm B0 hg;replace B0:=sqb B0 hb;clear hb hg) | ((with_reducible refine gd 6 rfl ?_);refine sqX 6 #[.int .i64 0,.int .i64 0] 24 HB ?_;clear HB;intro gb2 hg w7 hb B2 GW2 HB;have N0_2:=sqn B0 hg;have N2_0:=sqm B0 hg;have N1_2:=sqn B1 hg;have N2_1:=sqm B1 hg;refine sqM2 B0 B1 hb ?_;clear B0 B1;intro B0 B1;clear hb hg))
 (try simp only [Act.put,List.setIfInBounds_toArray,List.set_cons_zero,List.set_cons_succ])
 go_cut [19] (fun v19 wc=>∃ (kq : Nat) (x0 : Bool),v19 = .bool x0∧Aside0 (spec_l8Bits.j0 kq a0 x0 a1_0 a1_1 a2_0 a2_1 = some (r1,r2))∧Aside0 (kq ≤ k)∧Aside0 (wc.heap[gb0]? = some (.cells #[.int .i64 a1_0,.int .i64 a1_1] 24 (0,0)))∧Aside0 (wc.heap[gb1]? = some (.cells #[.int .i64 a2_0,.int .i64 a2_1] 24 (0,0)))∧Aside0 (wc.heap[gb2]? = some (.cells #[.int .i64 0,.int .i64 0] 24 (0,0)))∧Aside0 (Below w.heap.size w wc))
 case first =>
  have H:=HC4.out;clear HC4;replace H:=sqi H;rcases H with ⟨c8,H⟩ | ⟨c8,H⟩
  ·have z0 : (a1_0 == a1_1) = false:=beq_eq_false_iff_ne.mpr c8;have z6 : (a1_0 != a1_1) = true:=bne_iff_ne.mpr c8
   (first | rw [z0] | (simp only [i64_w,i32_w];rw [z0]) | skip)
   have H':=Aside0.mk H;clear H;obtain ⟨_,_,_,_⟩:=sqN2 N0_1 N0_2;obtain ⟨_,_,_,_⟩:=sqc2 B0
   go_wp2
   go_meet
   case rel=>exact ⟨_,(false),sqE,H',⟨sqle⟩,sqk B0,sqk B1,sqk B2,sqh HB⟩
  have z0 : (a1_0 == a1_1) = true:=beq_iff_eq.mpr c8;have z6 : (a1_0 != a1_1) = false:=bne_eq_false_iff_eq.mpr c8;clear c8
  (first | rw [z0] | (simp only [i64_w,i32_w];rw [z0]) | skip)
  have H':=Aside0.mk H;clear H;obtain ⟨_,_,_,_⟩:=sqN2 N0_1 N0_2;obtain ⟨_,_,_,_⟩:=sqc2 B0;obtain ⟨_,_⟩:=sqN1 N1_2;obtain ⟨_,_,_,_⟩:=sqc2 B1
  go_wp2
  go_meet
  case rel=>exact ⟨_,((a2_0 == a2_1)),sqE,H',⟨sqle⟩,sqk B0,sqk B1,sqk B2,sqh HB⟩
 case rest =>
  clear HC4;obtain ⟨kq,x0,rfl,HA,HJ3,B0,B1,B2,HB⟩:=hcut;cases kq with
  | zero=>exact absurd HA.out (by simp [spec_l8Bits.j0])
  | succ kj3 =>
   have H:=HA.out;clear HA;simp only [spec_l8Bits.j0] at H
   by_cases c17 : x0 = true
   ·subst c17;rw [if_pos rfl] at H;replace H:=sqbi H;obtain ⟨t0,A18,H⟩:=H;(try dsimp only at H);simp only [Option.some.injEq,Prod.mk.injEq] at H;obtain ⟨rfl,rfl⟩:=H;obtain ⟨_,_,_,_⟩:=sqN2 N0_1 N0_2;obtain ⟨_,_,_,_⟩:=sqc2 B0;obtain ⟨_,_⟩:=sqN1 N1_2;obtain ⟨_,_,_,_⟩:=sqc2 B1;go_wp2_with (first | ((with_reducible refine gf 79 rfl ?_);refine sqLq rfl (some 25) Try.func79 (spec_l1Bits.calls _ _ _ _ _ _ A18.out) ?_;intro nd;(try (rw [drewN_self wc];generalize hq_ : World.drewN wc _ = wc;replace B0:=sqq B0 hq_;replace B1:=sqq B1 hq_;replace B2:=sqq B2 hq_;replace HB:=sqr HB hq_;clear hq_;obtain ⟨ze,zf,zg,zh⟩:=sqc2 B0;obtain ⟨zi,zj,zk,zl⟩:=sqc2 B1;obtain ⟨zm,zn,zo,zp⟩:=sqc2 B2));obtain ⟨_,_,_,_⟩:=sqc2 B2));refine sqre #[.int .i64 t0,.int .i64 t0] (sqP B2) Try.underlying24 ?_;exact sqe HB
   replace c17:=Bool.eq_false_iff.mpr c17;subst c17;rw [sqff] at H;have HC25:=Aside0.mk H;clear H;go_upto_region 4 with (fail);go_cut [40] (fun v40 wc=>∃ (kq : Nat) (x1 : Bool),v40 = .bool x1∧Aside0 (spec_l8Bits.j1 kq a0 x1 a1_0 a1_1 a2_0 a2_1 = some (r1,r2))∧Aside0 (kq ≤ kj3)∧Aside0 (wc.heap[gb0]? = some (.cells #[.int .i64 a1_0,.int .i64 a1_1] 24 (0,0)))∧Aside0 (wc.heap[gb1]? = some (.cells #[.int .i64 a2_0,.int .i64 a2_1] 24 (0,0)))∧Aside0 (wc.heap[gb2]? = some (.cells #[.int .i64 0,.int .i64 0] 24 (0,0)))∧Aside0 (Below w.heap.size w wc))
   case first =>
    have H:=HC25.out;clear HC25;replace H:=sqi H;rcases H with ⟨c26,H⟩ | ⟨c26,H⟩
    ·have z1 : (a0 == 6) = false:=beq_eq_false_iff_ne.mpr c26;have z7 : (a0 != 6) = true:=bne_iff_ne.mpr c26
     (first | rw [z1] | (simp only [i64_w,i32_w];rw [z1]) | skip)
     have H':=Aside0.mk H;clear H
     go_wp2
     go_meet
     case rel=>exact ⟨_,(false),sqE,H',⟨by have:=HJ3.out;first | omega | exact Nat.le_refl _⟩,sqk B0,sqk B1,sqk B2,sqh HB⟩
    have z1 : (a0 == 6) = true:=beq_iff_eq.mpr c26;have z7 : (a0 != 6) = false:=bne_eq_false_iff_eq.mpr c26;clear c26
    (first | rw [z1] | (simp only [i64_w,i32_w];rw [z1]) | skip)
    replace H:=sqi H;rcases H with ⟨c27,H⟩ | ⟨c27,H⟩
    ·have z8 : decide (0 ≤ a1_0) = false:=decide_eq_false c27;clear c27;have H':=Aside0.mk H;clear H;obtain ⟨_,_,_,_⟩:=sqN2 N0_1 N0_2;obtain ⟨_,_,_,_⟩:=sqc2 B0
     go_wp2
     go_meet
     case rel=>exact ⟨_,(false),sqE,H',⟨by have:=HJ3.out;first | omega | exact Nat.le_refl _⟩,sqk B0,sqk B1,sqk B2,sqh HB⟩
    have z8 : decide (0 ≤ a1_0) = true:=decide_eq_true c27;clear c27;have H':=Aside0.mk H;clear H;obtain ⟨_,_,_,_⟩:=sqN2 N0_1 N0_2;obtain ⟨_,_,_,_⟩:=sqc2 B0;obtain ⟨_,_⟩:=sqN1 N1_2;obtain ⟨_,_,_,_⟩:=sqc2 B1
    go_wp2
    go_meet
    case rel=>exact ⟨_,(decide (a2_0 ≥ 0)),sqE,H',⟨by have:=HJ3.out;first | omega | exact Nat.le_refl _⟩,sqk B0,sqk B1,sqk B2,sqh HB⟩
   case rest =>
    clear HC25;obtain ⟨kq,x1,rfl,HA,HJ24,B0,B1,B2,HB⟩:=hcut;cases kq with
    | zero=>exact absurd HA.out (by simp [spec_l8Bits.j1])
    | succ kj24 =>
     have H:=HA.out;clear HA;simp only [spec_l8Bits.j1] at H
     by_cases c36 : x1 = true
     ·subst c36;rw [if_pos rfl] at H;replace H:=sqbi H;obtain ⟨t1,A37,H⟩:=H;(try dsimp only at H);simp only [Option.some.injEq,Prod.mk.injEq] at H;obtain ⟨rfl,rfl⟩:=H;obtain ⟨_,_,_,_⟩:=sqN2 N0_1 N0_2;obtain ⟨_,_,_,_⟩:=sqc2 B0;obtain ⟨_,_⟩:=sqN1 N1_2;obtain ⟨_,_,_,_⟩:=sqc2 B1;go_wp2_with (first | ((with_reducible refine gf 80 rfl ?_);refine sqLq rfl (some 45) Try.func80 (spec_l8Min.calls _ _ _ _ A37.out) ?_;intro nd;(try (rw [drewN_self wc];generalize hq_ : World.drewN wc _ = wc;replace B0:=sqq B0 hq_;replace B1:=sqq B1 hq_;replace B2:=sqq B2 hq_;replace HB:=sqr HB hq_;clear hq_;obtain ⟨zq,zr,zt,zu⟩:=sqc2 B0;obtain ⟨zv,zw,zx,zy⟩:=sqc2 B1;obtain ⟨zz,zA,zB,zC⟩:=sqc2 B2));obtain ⟨_,_,_,_⟩:=sqc2 B2));refine sqre #[.int .i64 0,.int .i64 t1] (sqP B2) Try.underlying24 ?_;exact sqe HB
     replace c36:=Bool.eq_false_iff.mpr c36;subst c36;rw [sqff] at H;have HC44:=Aside0.mk H;clear H;go_upto_region 6 with (fail);go_cut [53] (fun v53 wc=>∃ (kq : Nat) (x2 : Bool),v53 = .bool x2∧Aside0 (spec_l8Bits.j2 kq a0 x2 a1_0 a1_1 a2_0 a2_1 = some (r1,r2))∧Aside0 (kq ≤ kj24)∧Aside0 (wc.heap[gb0]? = some (.cells #[.int .i64 a1_0,.int .i64 a1_1] 24 (0,0)))∧Aside0 (wc.heap[gb1]? = some (.cells #[.int .i64 a2_0,.int .i64 a2_1] 24 (0,0)))∧Aside0 (wc.heap[gb2]? = some (.cells #[.int .i64 0,.int .i64 0] 24 (0,0)))∧Aside0 (Below w.heap.size w wc))
     case first =>
      have H:=HC44.out;clear HC44;replace H:=sqi H;rcases H with ⟨c45,H⟩ | ⟨c45,H⟩
      ·have z2 : (a0 == 6) = false:=beq_eq_false_iff_ne.mpr c45;have z9 : (a0 != 6) = true:=bne_iff_ne.mpr c45
       (first | rw [z2] | (simp only [i64_w,i32_w];rw [z2]) | skip)
       have H':=Aside0.mk H;clear H
       go_wp2
       go_meet
       case rel=>exact ⟨_,(false),sqE,H',⟨by have:=HJ3.out;have:=HJ24.out;first | omega | exact Nat.le_refl _⟩,sqk B0,sqk B1,sqk B2,sqh HB⟩
      have z2 : (a0 == 6) = true:=beq_iff_eq.mpr c45;have z9 : (a0 != 6) = false:=bne_eq_false_iff_eq.mpr c45;clear c45
      (first | rw [z2] | (simp only [i64_w,i32_w];rw [z2]) | skip)
      have H':=Aside0.mk H;clear H;obtain ⟨_,_,_,_⟩:=sqN2 N0_1 N0_2;obtain ⟨_,_,_,_⟩:=sqc2 B0
      go_wp2
      go_meet
      case rel=>exact ⟨_,(decide (a1_0 ≥ 0)),sqE,H',⟨by have:=HJ3.out;have:=HJ24.out;first | omega | exact Nat.le_refl _⟩,sqk B0,sqk B1,sqk B2,sqh HB⟩
     case rest =>
      clear HC44;obtain ⟨kq,x2,rfl,HA,HJ43,B0,B1,B2,HB⟩:=hcut;cases kq with
      | zero=>exact absurd HA.out (by simp [spec_l8Bits.j2])
      | succ kj43 =>
       have H:=HA.out;clear HA;simp only [spec_l8Bits.j2] at H
       by_cases c49 : x2 = true
       ·subst c49;rw [if_pos rfl] at H;simp only [Option.some.injEq,Prod.mk.injEq] at H;obtain ⟨rfl,rfl⟩:=H;obtain ⟨_,_,_,_⟩:=sqN2 N0_1 N0_2;obtain ⟨_,_,_,_⟩:=sqc2 B0;obtain ⟨_,_⟩:=sqN1 N2_1;obtain ⟨_,_,_,_⟩:=sqc2 B2
        go_wp2
        refine sqre #[.int .i64 0,.int .i64 a1_1] (sqP B2) Try.underlying24 ?_;exact sqe HB
       replace c49:=Bool.eq_false_iff.mpr c49;subst c49;rw [sqff] at H;have HC55:=Aside0.mk H;clear H;go_upto_region 8 with (fail);go_cut [63] (fun v63 wc=>∃ (kq : Nat) (x3 : Bool),v63 = .bool x3∧Aside0 (spec_l8Bits.j3 kq a0 x3 a1_0 a1_1 a2_0 a2_1 = some (r1,r2))∧Aside0 (kq ≤ kj43)∧Aside0 (wc.heap[gb0]? = some (.cells #[.int .i64 a1_0,.int .i64 a1_1] 24 (0,0)))∧Aside0 (wc.heap[gb1]? = some (.cells #[.int .i64 a2_0,.int .i64 a2_1] 24 (0,0)))∧Aside0 (wc.heap[gb2]? = some (.cells #[.int .i64 0,.int .i64 0] 24 (0,0)))∧Aside0 (Below w.heap.size w wc))
       case first =>
        have H:=HC55.out;clear HC55;replace H:=sqi H;rcases H with ⟨c56,H⟩ | ⟨c56,H⟩
        ·have z3 : (a0 == 6) = false:=beq_eq_false_iff_ne.mpr c56;have za : (a0 != 6) = true:=bne_iff_ne.mpr c56
         (first | rw [z3] | (simp only [i64_w,i32_w];rw [z3]) | skip)
         have H':=Aside0.mk H;clear H
         go_wp2
         go_meet
         case rel=>exact ⟨_,(false),sqE,H',⟨by have:=HJ3.out;have:=HJ24.out;have:=HJ43.out;first | omega | exact Nat.le_refl _⟩,sqk B0,sqk B1,sqk B2,sqh HB⟩
        have z3 : (a0 == 6) = true:=beq_iff_eq.mpr c56;have za : (a0 != 6) = false:=bne_eq_false_iff_eq.mpr c56;clear c56
        (first | rw [z3] | (simp only [i64_w,i32_w];rw [z3]) | skip)
        have H':=Aside0.mk H;clear H;obtain ⟨_,_,_,_⟩:=sqN2 N1_0 N1_2;obtain ⟨_,_,_,_⟩:=sqc2 B1
        go_wp2
        go_meet
        case rel=>exact ⟨_,(decide (a2_0 ≥ 0)),sqE,H',⟨by have:=HJ3.out;have:=HJ24.out;have:=HJ43.out;first | omega | exact Nat.le_refl _⟩,sqk B0,sqk B1,sqk B2,sqh HB⟩
       case rest =>
        clear HC55;obtain ⟨kq,x3,rfl,HA,HJ54,B0,B1,B2,HB⟩:=hcut;cases kq with
        | zero=>exact absurd HA.out (by simp [spec_l8Bits.j3])
        | succ kj54 =>
         have H:=HA.out;clear HA;simp only [spec_l8Bits.j3] at H
         by_cases c60 : x3 = true
         ·subst c60;rw [if_pos rfl] at H;simp only [Option.some.injEq,Prod.mk.injEq] at H;obtain ⟨rfl,rfl⟩:=H;obtain ⟨_,_,_,_⟩:=sqN2 N1_0 N1_2;obtain ⟨_,_,_,_⟩:=sqc2 B1;obtain ⟨_,_⟩:=sqN1 N2_0;obtain ⟨_,_,_,_⟩:=sqc2 B2
          go_wp2
          refine sqre #[.int .i64 0,.int .i64 a2_1] (sqP B2) Try.underlying24 ?_;exact sqe HB
         replace c60:=Bool.eq_false_iff.mpr c60;subst c60;rw [sqff] at H;have HC66:=Aside0.mk H;clear H;go_upto_region 10 with (fail);go_cut [78] (fun v78 wc=>∃ (kq : Nat) (x4 : Bool),v78 = .bool x4∧Aside0 (spec_l8Bits.j4 kq a0 x4 a1_0 a1_1 a2_0 a2_1 = some (r1,r2))∧Aside0 (kq ≤ kj54)∧Aside0 (wc.heap[gb0]? = some (.cells #[.int .i64 a1_0,.int .i64 a1_1] 24 (0,0)))∧Aside0 (wc.heap[gb1]? = some (.cells #[.int .i64 a2_0,.int .i64 a2_1] 24 (0,0)))∧Aside0 (wc.heap[gb2]? = some (.cells #[.int .i64 0,.int .i64 0] 24 (0,0)))∧Aside0 (Below w.heap.size w wc))
         case first =>
          have H:=HC66.out;clear HC66;replace H:=sqi H;rcases H with ⟨c67,H⟩ | ⟨c67,H⟩
          ·have z4 : decide (0 ≤ a1_0) = false:=decide_eq_false c67;clear c67
           (first | rw [z4] | (simp only [i64_w,i32_w];rw [z4]) | skip)
           have H':=Aside0.mk H;clear H;obtain ⟨_,_,_,_⟩:=sqN2 N0_1 N0_2;obtain ⟨_,_,_,_⟩:=sqc2 B0
           go_wp2
           go_meet
           case rel=>exact ⟨_,(false),sqE,H',⟨by have:=HJ3.out;have:=HJ24.out;have:=HJ43.out;have:=HJ54.out;first | omega | exact Nat.le_refl _⟩,sqk B0,sqk B1,sqk B2,sqh HB⟩
          have z4 : decide (0 ≤ a1_0) = true:=decide_eq_true c67;clear c67
          (first | rw [z4] | (simp only [i64_w,i32_w];rw [z4]) | skip)
          replace H:=sqi H;rcases H with ⟨c68,H⟩ | ⟨c68,H⟩
          ·have zb : decide (0 ≤ a2_0) = false:=decide_eq_false c68;clear c68;have H':=Aside0.mk H;clear H;obtain ⟨_,_,_,_⟩:=sqN2 N0_1 N0_2;obtain ⟨_,_,_,_⟩:=sqc2 B0;obtain ⟨_,_⟩:=sqN1 N1_2;obtain ⟨_,_,_,_⟩:=sqc2 B1
           go_wp2
           go_meet
           case rel=>exact ⟨_,(false),sqE,H',⟨by have:=HJ3.out;have:=HJ24.out;have:=HJ43.out;have:=HJ54.out;first | omega | exact Nat.le_refl _⟩,sqk B0,sqk B1,sqk B2,sqh HB⟩
          have zb : decide (0 ≤ a2_0) = true:=decide_eq_true c68;clear c68;have H':=Aside0.mk H;clear H;obtain ⟨_,_,_,_⟩:=sqN2 N0_1 N0_2;obtain ⟨_,_,_,_⟩:=sqc2 B0;obtain ⟨_,_⟩:=sqN1 N1_2;obtain ⟨_,_,_,_⟩:=sqc2 B1
          go_wp2
          go_meet
          case rel=>exact ⟨_,((a0 == 7)),sqE,H',⟨by have:=HJ3.out;have:=HJ24.out;have:=HJ43.out;have:=HJ54.out;first | omega | exact Nat.le_refl _⟩,sqk B0,sqk B1,sqk B2,sqh HB⟩
         case rest =>
          clear HC66;obtain ⟨kq,x4,rfl,HA,HJ65,B0,B1,B2,HB⟩:=hcut;cases kq with
          | zero=>exact absurd HA.out (by simp [spec_l8Bits.j4])
          | succ kj65 =>
           have H:=HA.out;clear HA;simp only [spec_l8Bits.j4] at H
           by_cases c82 : x4 = true
           ·subst c82;rw [if_pos rfl] at H;replace H:=sqbi H;obtain ⟨t2,A83,H⟩:=H;(try dsimp only at H);replace H:=sqbi H;obtain ⟨t3,A84,H⟩:=H;(try dsimp only at H);replace H:=sqbi H;obtain ⟨t4,A85,H⟩:=H;(try dsimp only at H);simp only [Option.some.injEq,Prod.mk.injEq] at H;obtain ⟨rfl,rfl⟩:=H
            try go_wp2
            replace B0:=sqdr B0;replace B1:=sqdr B1;replace B2:=sqdr B2;replace HB:=sqdB HB;refine sqst 13 (fun w'=>Ce2 w' gb0 (.int .i64 a1_0) (.int .i64 a1_1)∧Ce2 w' gb1 (.int .i64 a2_0) (.int .i64 a2_1)) sqz (fun hHeld=>?_);refine with_tabW spec_l8Bits.tab11 spec_l8Bits.bits11 (fun HT_ HW_=>?_);generalize wc.drew = w86 at B0 B1 B2 HB hHeld ⊢;refine sqp HT_ 0 79 ?_;refine sqp HT_ 2 81 ?_;refine sqp HT_ 5 84 ?_;refine sqp HT_ 7 86 ?_;refine sqw HT_ HW_ 1 80 hHeld ?_;refine sqw HT_ HW_ 3 82 hHeld ?_;refine sqw HT_ HW_ 6 85 hHeld ?_;refine sqw HT_ HW_ 8 87 hHeld ?_;refine sqo HT_ 4 83 (fun K hK=>?_);refine sqGq rfl Try.func81 (spec_l8Max.calls _ _ _ _ A83.out) ?_;intro nd;refine hK.out _ _ sqz (fun hHeld=>?_);clear hK K;refine sqnm ?_;refine sqo HT_ 9 88 (fun K hK=>?_);refine sqGq rfl Try.func81 (spec_l8Max.calls _ _ _ _ A84.out) ?_;intro nd;refine hK.out _ _ sqz (fun hHeld=>?_);clear hK K;refine sqnm ?_;refine sqo HT_ 10 89 (fun K hK=>?_);refine sqGq rfl Try.func82 (spec_l8Mask.calls _ _ _ _ A85.out) ?_;intro nd;refine hK.out _ _ sqz (fun hHeld=>?_);clear hK K;refine sqnm ?_;refine sqp HT_ 11 90 ?_;refine sqo0 HT_ 12 (fun K hK=>?_);obtain ⟨_,_,_,_⟩:=sqc2 B2;obtain ⟨_,_,_,_⟩:=sqN2 N0_2 N1_2;refine sqsk ?_;refine hK.out _ _ sqzf (fun hHeld=>?_);clear hK K;refine done_ (done_of HT_.out (by kernel_rfl)) ?_
            try go_wp2
            refine sqre #[.int .i64 t2,.int .i64 t4] (sqP B2) Try.underlying24 ?_;exact sqe HB
           replace c82:=Bool.eq_false_iff.mpr c82;subst c82;rw [sqff] at H;have HC89:=Aside0.mk H;clear H;go_upto_region 12 with (fail);go_cut [102] (fun zc wc=>∃ (kq : Nat) (x5 : Bool),zc = .bool x5∧Aside0 (spec_l8Bits.j5 kq x5 a1_0 a1_1 a2_0 a2_1 = some (r1,r2))∧Aside0 (kq ≤ kj65)∧Aside0 (wc.heap[gb0]? = some (.cells #[.int .i64 a1_0,.int .i64 a1_1] 24 (0,0)))∧Aside0 (wc.heap[gb1]? = some (.cells #[.int .i64 a2_0,.int .i64 a2_1] 24 (0,0)))∧Aside0 (wc.heap[gb2]? = some (.cells #[.int .i64 0,.int .i64 0] 24 (0,0)))∧Aside0 (Below w.heap.size w wc))
           case first =>
            have H:=HC89.out;clear HC89;replace H:=sqi H;rcases H with ⟨c90,H⟩ | ⟨c90,H⟩
            ·have z5 : decide (0 ≤ a1_0) = false:=decide_eq_false c90;clear c90
             (first | rw [z5] | (simp only [i64_w,i32_w];rw [z5]) | skip)
             have H':=Aside0.mk H;clear H;obtain ⟨_,_,_,_⟩:=sqN2 N0_1 N0_2;obtain ⟨_,_,_,_⟩:=sqc2 B0
             go_wp2
             go_meet
             case rel=>exact ⟨_,(false),sqE,H',⟨by have:=HJ3.out;have:=HJ24.out;have:=HJ43.out;have:=HJ54.out;have:=HJ65.out;first | omega | exact Nat.le_refl _⟩,sqk B0,sqk B1,sqk B2,sqh HB⟩
            have z5 : decide (0 ≤ a1_0) = true:=decide_eq_true c90;clear c90
            (first | rw [z5] | (simp only [i64_w,i32_w];rw [z5]) | skip)
            replace H:=sqj H;rcases H with ⟨c91,H⟩ | ⟨c91,H⟩
            ·have zd : decide (0 ≤ a2_0) = true:=decide_eq_true c91;clear c91;have H':=Aside0.mk H;clear H;obtain ⟨_,_,_,_⟩:=sqN2 N0_1 N0_2;obtain ⟨_,_,_,_⟩:=sqc2 B0;obtain ⟨_,_⟩:=sqN1 N1_2;obtain ⟨_,_,_,_⟩:=sqc2 B1
             go_wp2
             go_meet
             case rel=>exact ⟨_,((a0 == 8)),sqE,H',⟨by have:=HJ3.out;have:=HJ24.out;have:=HJ43.out;have:=HJ54.out;have:=HJ65.out;first | omega | exact Nat.le_refl _⟩,sqk B0,sqk B1,sqk B2,sqh HB⟩
            have zd : decide (0 ≤ a2_0) = false:=decide_eq_false c91;clear c91;have H':=Aside0.mk H;clear H;obtain ⟨_,_,_,_⟩:=sqN2 N0_1 N0_2;obtain ⟨_,_,_,_⟩:=sqc2 B0;obtain ⟨_,_⟩:=sqN1 N1_2;obtain ⟨_,_,_,_⟩:=sqc2 B1
            go_wp2
            go_meet
            case rel=>exact ⟨_,(false),sqE,H',⟨by have:=HJ3.out;have:=HJ24.out;have:=HJ43.out;have:=HJ54.out;have:=HJ65.out;first | omega | exact Nat.le_refl _⟩,sqk B0,sqk B1,sqk B2,sqh HB⟩
           case rest =>
            clear HC89;obtain ⟨kq,x5,rfl,HA,HJ88,B0,B1,B2,HB⟩:=hcut;cases kq with
            | zero=>exact absurd HA.out (by simp [spec_l8Bits.j5])
            | succ kj88 =>
             have H:=HA.out;clear HA;simp only [spec_l8Bits.j5] at H;rcases sqI (x5 = true) with c105 | c105
             ·replace c105:=Bool.eq_false_iff.mpr c105;subst c105;rw [sqff] at H;simp only [Option.some.injEq,Prod.mk.injEq] at H;obtain ⟨rfl,rfl⟩:=H;obtain ⟨_,_,_,_⟩:=sqN2 N2_0 N2_1;obtain ⟨_,_,_,_⟩:=sqc2 B2
              go_wp2
              refine sqre #[.int .i64 (-2147483648),.int .i64 2147483647] (sqP B2) Try.underlying24 ?_;exact sqe HB
             subst c105;rw [if_pos rfl] at H;replace H:=sqbi H;obtain ⟨t5,A106,H⟩:=H;(try dsimp only at H);replace H:=sqbi H;obtain ⟨t6,A107,H⟩:=H;(try dsimp only at H);simp only [Option.some.injEq,Prod.mk.injEq] at H;obtain ⟨rfl,rfl⟩:=H;obtain ⟨_,_,_,_⟩:=sqN2 N0_1 N0_2;obtain ⟨_,_,_,_⟩:=sqc2 B0;obtain ⟨_,_⟩:=sqN1 N1_2;obtain ⟨_,_,_,_⟩:=sqc2 B1;go_wp2_with (first | ((with_reducible refine gf 81 rfl ?_);refine sqLq rfl (some 107) Try.func81 (spec_l8Max.calls _ _ _ _ A106.out) ?_;intro nd;(try (rw [drewN_self wc];generalize hq_ : World.drewN wc _ = wc;replace B0:=sqq B0 hq_;replace B1:=sqq B1 hq_;replace B2:=sqq B2 hq_;replace HB:=sqr HB hq_;clear hq_;obtain ⟨zD,zE,zF,zG⟩:=sqc2 B0;obtain ⟨zH,zI,zJ,zK⟩:=sqc2 B1;obtain ⟨zL,zM,zN,zO⟩:=sqc2 B2))) | ((with_reducible refine gf 82 rfl ?_);refine sqLq rfl (some 108) Try.func82 (spec_l8Mask.calls _ _ _ _ A107.out) ?_;intro nd;(try (rw [drewN_self wc];generalize hq_ : World.drewN wc _ = wc;replace B0:=sqq B0 hq_;replace B1:=sqq B1 hq_;replace B2:=sqq B2 hq_;replace HB:=sqr HB hq_;clear hq_;obtain ⟨zP,zQ,zR,zS⟩:=sqc2 B0;obtain ⟨zT,zU,zV,zW⟩:=sqc2 B1;obtain ⟨zX,zY,zZ,j6⟩:=sqc2 B2));obtain ⟨_,_,_,_⟩:=sqc2 B2));refine sqre #[.int .i64 0,.int .i64 t6] (sqP B2) Try.underlying24 ?_;exact sqe HB

/-! ### spec_l8Wrapped: function 43 -/
theorem spec_l8Wrapped.calls (k : Nat) (a0 : Int) (a1 : Int) (r1 : Int) (r2 : Int) (w : World) (h : spec_l8Wrapped.f k a0 a1 = some (r1,r2)) :
  Calls Try.prog 43 #[.int .i64 a0,.int .i64 a1] w fun e w'=>e = .returned (.agg #[.int .i64 r1,.int .i64 r2])∧Below w.heap.size w w':=by
 have hu24:=Try.underlying24;have HB:=Aside0.mk (Below.refl w.heap.size w);have H:=h;unfold spec_l8Wrapped.f at H;clear h;have HC3:=Aside0.mk H;clear H;go_enter Try.func43,Try.ntmps43;go_upto_region 1 with (first | ((with_reducible refine gd 4 rfl ?_);refine sqX 4 #[.int .i64 0,.int .i64 0] 24 HB ?_;clear HB;intro gb0 hg w4 hb B0 GW0 HB;clear hb hg))
 (try simp only [Act.put,List.setIfInBounds_toArray,List.set_cons_zero,List.set_cons_succ])
 go_cut [15] (fun v15 wc=>∃ (kq : Nat) (x0 : Bool),v15 = .bool x0∧Aside0 (spec_l8Wrapped.j0 kq a0 a1 x0 = some (r1,r2))∧Aside0 (kq ≤ k)∧Aside0 (wc.heap[gb0]? = some (.cells #[.int .i64 0,.int .i64 0] 24 (0,0)))∧Aside0 (Below w.heap.size w wc))
 case first =>
  have H:=HC3.out;clear HC3;replace H:=sqj H;rcases H with ⟨c5,H⟩ | ⟨c5,H⟩
  ·have z0 : decide (4294967295 < (wrap64 (a1 - a0))) = true:=decide_eq_true c5;clear c5
   (first | rw [z0] | (simp only [i64_w,i32_w];rw [z0]) | skip)
   have H':=Aside0.mk H;clear H
   go_wp2
   go_meet
   case rel=>exact ⟨_,(true),sqE,H',⟨sqle⟩,sqk B0,sqh HB⟩
  have z0 : decide (4294967295 < (wrap64 (a1 - a0))) = false:=decide_eq_false c5;clear c5
  (first | rw [z0] | (simp only [i64_w,i32_w];rw [z0]) | skip)
  replace H:=sqbi H;obtain ⟨t0,A6,H⟩:=H;(try dsimp only at H);replace H:=sqbi H;obtain ⟨t1,A7,H⟩:=H;(try dsimp only at H);have H':=Aside0.mk H;clear H;go_wp2_with (first | (go_at_call 66;(with_reducible refine (spec_NumWrap.calls a0 t0 _ A6.out).mono ?_);rintro e w' ⟨rfl,⟨nd,rfl⟩⟩) | (go_at_call 66;(with_reducible refine (spec_NumWrap.calls a1 t1 _ A7.out).mono ?_);rintro e w' ⟨rfl,⟨nd,rfl⟩⟩));go_meet
  case rel=>exact ⟨_,(decide (t0 > t1)),sqE,H',⟨sqle⟩,sqk B0,sqh HB⟩
 case rest =>
  clear HC3;obtain ⟨kq,x0,rfl,HA,HJ2,B0,HB⟩:=hcut;cases kq with
  | zero=>exact absurd HA.out (by simp [spec_l8Wrapped.j0])
  | succ kj2 =>
   have H:=HA.out;clear HA;simp only [spec_l8Wrapped.j0] at H
   by_cases c8 : x0 = true
   ·subst c8;rw [if_pos rfl] at H;simp only [Option.some.injEq,Prod.mk.injEq] at H;obtain ⟨rfl,rfl⟩:=H;obtain ⟨_,_,_,_⟩:=sqc2 B0
    go_wp2
    refine sqre #[.int .i64 (-2147483648),.int .i64 2147483647] (sqP B0) Try.underlying24 ?_;exact sqe HB
   replace c8:=Bool.eq_false_iff.mpr c8;subst c8;rw [sqff] at H;replace H:=sqbi H;obtain ⟨t2,A10,H⟩:=H;(try dsimp only at H);replace H:=sqbi H;obtain ⟨t3,A11,H⟩:=H;(try dsimp only at H);simp only [Option.some.injEq,Prod.mk.injEq] at H;obtain ⟨rfl,rfl⟩:=H;go_wp2_with (first | ((with_reducible refine gf 66 rfl ?_);refine sqLq rfl (some 18) Try.func66 (spec_NumWrap.calls _ _ _ A10.out) ?_;intro nd;(try (rw [drewN_self wc];generalize hq_ : World.drewN wc _ = wc;replace B0:=sqq B0 hq_;replace HB:=sqr HB hq_;clear hq_;obtain ⟨z1,z2,z3,z4⟩:=sqc2 B0))) | ((with_reducible refine gf 66 rfl ?_);refine sqLq rfl (some 20) Try.func66 (spec_NumWrap.calls _ _ _ A11.out) ?_;intro nd;(try (rw [drewN_self wc];generalize hq_ : World.drewN wc _ = wc;replace B0:=sqq B0 hq_;replace HB:=sqr HB hq_;clear hq_;obtain ⟨z5,z6,z7,z8⟩:=sqc2 B0));obtain ⟨_,_,_,_⟩:=sqc2 B0));refine sqre #[.int .i64 t2,.int .i64 t3] (sqP B0) Try.underlying24 ?_;exact sqe HB

attribute [local go_sem high] eqA24
/-! ### spec_RangeDo: function 7 -/
def spec_RangeDo.T2 : Bool × List (List Nat × List Nat):=(true,[([],[]),([0],[0]),([1],[1]),([2,1],[2]),([3],[3]),([4,3,3],[3,4]),([5,3],[3,5]),([3,6],[3,6]),([7,5],[7]),([8],[8]),([9,8,8],[8,9]),([10,8],[8,10]),([8,11],[8,11]),([12,10],[12]),([13],[13]),([13,13],[13]),([14,15,13],[13,14,15]),([13,16],[13,16]),([17,15],[17]),([18],[18]),([18,18],[18]),([19,20,18],[18,19,20]),([18,21],[18,21])])
def spec_RangeDo.B2 : List Nat:=[0,1,3,7,15,31,63,127,255,511,1023,2047,4095,8191,16383,16383,65535,131071,262143,524287,524287,2097151,4194303]
theorem spec_RangeDo.tab2 : rtab .any (opsOf Try.f7 2) = spec_RangeDo.T2:=by kernel_rfl
theorem spec_RangeDo.bits2 : waitsOk spec_RangeDo.T2.2 spec_RangeDo.B2 = true:=by kernel_rfl
def spec_RangeDo.T16 : Bool × List (List Nat × List Nat):=(true,[([],[]),([0],[0]),([1],[1]),([2],[2]),([],[]),([4],[4]),([5],[5]),([6],[6]),([3,7],[3,7]),([],[]),([8,8,0,1,2,3,4,5,6,7,8],[8]),([9,10,0,1,2,3,4,5,6,7,8,9,10],[9])])
def spec_RangeDo.B16 : List Nat:=[0,1,3,7,0,16,48,112,255,0,511,2047]
theorem spec_RangeDo.tab16 : rtab .any (opsOf Try.f7 16) = spec_RangeDo.T16:=by kernel_rfl
theorem spec_RangeDo.bits16 : waitsOk spec_RangeDo.T16.2 spec_RangeDo.B16 = true:=by kernel_rfl
def spec_RangeDo.T23 : Bool × List (List Nat × List Nat):=(true,[([],[]),([0],[0]),([1],[1]),([2],[2]),([],[]),([4],[4]),([5],[5]),([6],[6]),([3,7],[3,7]),([],[]),([8,8,0,1,2,3,4,5,6,7,8],[8]),([9,10,0,1,2,3,4,5,6,7,8,9,10],[9])])
def spec_RangeDo.B23 : List Nat:=[0,1,3,7,0,16,48,112,255,0,511,2047]
theorem spec_RangeDo.tab23 : rtab .any (opsOf Try.f7 23) = spec_RangeDo.T23:=by kernel_rfl
theorem spec_RangeDo.bits23 : waitsOk spec_RangeDo.T23.2 spec_RangeDo.B23 = true:=by kernel_rfl
theorem spec_RangeDo.calls (k : Nat) (a0 : Int) (a1_0 : Int) (a1_1 : Int) (a2_0 : Int) (a2_1 : Int) (r1 : Int) (r2 : Int) (r3 : List Int) (w : World) (h : spec_RangeDo.f k a0 a1_0 a1_1 a2_0 a2_1 = some (r1,r2,r3)) :
  Calls Try.prog 7 #[.int .i64 a0,.agg #[.int .i64 a1_0,.int .i64 a1_1],.agg #[.int .i64 a2_0,.int .i64 a2_1]] w fun e w'=>∃ v2_ : Value,e = .returned (.tuple #[.agg #[.int .i64 r1,.int .i64 r2],v2_])∧Kd.R (Kd.int .i64) 3 w' w.heap.size (fun _=>True) v2_ r3∧Below w.heap.size w w':=by
 have hu24:=Try.underlying24;have HB:=Aside0.mk (Below.refl w.heap.size w);have H:=h;unfold spec_RangeDo.f at H;clear h;obtain ⟨z2,z4⟩ : ∃ y_ : List Int,y_ = (([] : List Int)):=⟨_,rfl⟩
 replace H : ((spec_l1In.f a0 1 13).bind fun t0=>(if t0 = true then ((spec_RangeOk.f a1_0 a1_1).bind fun t1=>(if t1 = true then ((spec_RangeOk.f a2_0 a2_1).bind fun t2=>(if t2 = true then ((spec_l8None.f).bind fun bt3=>(if (a1_0 == bt3.1 && (a1_1 == bt3.2)) = true then (spec_RangeDo.j0 k a0 z2 true a1_0 a1_1 a2_0 a2_1) else ((spec_l8None.f).bind fun bt4=>(spec_RangeDo.j0 k a0 z2 (a2_0 == bt4.1 && (a2_1 == bt4.2)) a1_0 a1_1 a2_0 a2_1)))) else (spec_RangeDo.j0 k a0 z2 true a1_0 a1_1 a2_0 a2_1))) else (spec_RangeDo.j0 k a0 z2 true a1_0 a1_1 a2_0 a2_1))) else (spec_RangeDo.j0 k a0 z2 true a1_0 a1_1 a2_0 a2_1))) = some (r1,r2,r3):=by first | (rw [z4];with_reducible exact H) | (have H2_:=(Option.bind_some _ _).symm.trans H;rw [z4];with_reducible exact H2_) | (have H2_:=(Option.bind_some _ _).symm.trans H;with_reducible exact H2_) | with_reducible exact H | (rw [z4];exact H) | exact H
 have zg:=Aside0.mk z4;clear z4;have HC4:=Aside0.mk H;clear H;go_enter Try.func7,Try.ntmps7;go_upto_region 2 with (first | ((with_reducible refine gd 4 rfl ?_);refine sqX 4 #[.int .i64 a1_0,.int .i64 a1_1] 24 HB ?_;clear HB;intro gb0 hg w5 hb B0 GW0 HB;clear hb hg) | ((with_reducible refine gd 5 rfl ?_);refine sqX 5 #[.int .i64 a2_0,.int .i64 a2_1] 24 HB ?_;clear HB;intro gb1 hg w6 hb B1 GW1 HB;have N0_1:=sqn B0 hg;have N1_0:=sqm B0 hg;replace B0:=sqb B0 hb;clear hb hg) | ((with_reducible refine gd 6 rfl ?_);refine sqX 6 #[.int .i64 0,.int .i64 0] 24 HB ?_;clear HB;intro gb2 hg w7 hb B2 GW2 HB;have N0_2:=sqn B0 hg;have N2_0:=sqm B0 hg;have N1_2:=sqn B1 hg;have N2_1:=sqm B1 hg;refine sqM2 B0 B1 hb ?_;clear B0 B1;intro B0 B1;clear hb hg) | ((with_reducible refine gd 12 rfl ?_);refine Kd.R_lit (Kd.int .i64) _ 3 ?hg (N:=12) ?hd (xs:=([] : List Int)) (inner:=[]) (ok:=fun _=>True) (okp:=fun _=>True) ?hr ?hp (fun _ hk=>hk) trivial (Below.refl _ _) (Nat.le_refl _) (by simp) ?_;(case hd=>rfl);(case hg=>rfl);(case hr=>first | (go_simp;done) | (go_simp;rfl));(case hp=>exact (Reps.none _ _));intro z3 w8 ho9 hb hg_ hnew_;clear hg_ hnew_;(first | rw [← zg.out] at ho9 | (simp only [Int.reduceToNat] at ho9;rw [← zg.out] at ho9));have z1:=sqRlR ho9 HB;refine sqM3 B0 B1 B2 hb ?_;clear B0 B1 B2;intro B0 B1 B2;replace HB:=sqs HB hb;clear hb ho9))
 (try simp only [Act.put,List.setIfInBounds_toArray,List.set_cons_zero,List.set_cons_succ])
 go_cut [35] (fun v35 wc=>∃ (kq : Nat) (x0 : Bool),v35 = .bool x0∧Aside0 (spec_RangeDo.j0 kq a0 z2 x0 a1_0 a1_1 a2_0 a2_1 = some (r1,r2,r3))∧Aside0 (kq ≤ k)∧Aside0 (Kd.R (Kd.int .i64) 3 wc w.heap.size (fun _=>True) z3 z2)∧Aside0 (wc.heap[gb0]? = some (.cells #[.int .i64 a1_0,.int .i64 a1_1] 24 (0,0)))∧Aside0 (wc.heap[gb1]? = some (.cells #[.int .i64 a2_0,.int .i64 a2_1] 24 (0,0)))∧Aside0 (wc.heap[gb2]? = some (.cells #[.int .i64 0,.int .i64 0] 24 (0,0)))∧Aside0 (Below w.heap.size w wc))
 case first =>
  have H:=HC4.out;clear HC4;replace H:=sqbi H;obtain ⟨t0,A10,H⟩:=H;(try dsimp only at H);rcases sqI (t0 = true) with c11 | c11
  ·replace c11:=Bool.eq_false_iff.mpr c11;subst c11;rw [sqff] at H;have H':=Aside0.mk H;clear H
   try go_wp2
   replace z1:=sqdrR z1;replace B0:=sqdr B0;replace B1:=sqdr B1;replace B2:=sqdr B2;replace HB:=sqdB HB;refine sqst 23 (fun w'=>True) trivial (fun hHeld=>?_);refine with_tabW spec_RangeDo.tab2 spec_RangeDo.bits2 (fun HT_ HW_=>?_);generalize w8.drew = w33 at z1 B0 B1 B2 HB hHeld ⊢;refine sqp HT_ 0 13 ?_;refine sqo HT_ 1 14 (fun K hK=>?_);refine sqGq rfl Try.func37 (spec_l1In.calls _ _ _ _ _ A10.out) ?_;intro nd;refine hK.out _ _ trivial (fun hHeld=>?_);clear hK K;refine sqnm ?_;refine sqp HT_ 2 15 ?_;refine sqp HT_ 3 16 ?_;refine sqpu HT_ 4 17 ?_;refine sqpu HT_ 5 18 ?_;refine sqpu HT_ 6 19 ?_;refine sqp HT_ 7 20 ?_;refine sqp HT_ 8 21 ?_;refine sqpu HT_ 9 22 ?_;refine sqpu HT_ 10 23 ?_;refine sqpu HT_ 11 24 ?_;refine sqp HT_ 12 25 ?_;refine sqp HT_ 13 26 ?_;refine sqpu HT_ 14 27 ?_;refine sqpu HT_ 15 28 ?_;refine sqpu HT_ 16 29 ?_;refine sqp HT_ 17 30 ?_;refine sqp HT_ 18 31 ?_;refine sqpu HT_ 19 32 ?_;refine sqpu HT_ 20 33 ?_;refine sqpu HT_ 21 34 ?_;refine sqp HT_ 22 35 ?_;refine done_ (done_of HT_.out (by kernel_rfl)) ?_
   try go_wp2
   go_meet
   case rel=>exact ⟨_,(true),sqE,H',⟨sqle⟩,⟨sqy z1.out⟩,sqk B0,sqk B1,sqk B2,sqh HB⟩
  subst c11;rw [if_pos rfl] at H;replace H:=sqbi H;obtain ⟨t1,A12,H⟩:=H;(try dsimp only at H);rcases sqI (t1 = true) with c13 | c13
  ·replace c13:=Bool.eq_false_iff.mpr c13;subst c13;rw [sqff] at H;have H':=Aside0.mk H;clear H
   try go_wp2
   replace z1:=sqdrR z1;replace B0:=sqdr B0;replace B1:=sqdr B1;replace B2:=sqdr B2;replace HB:=sqdB HB;refine sqst 23 (fun w'=>Ce2 w' gb0 (.int .i64 a1_0) (.int .i64 a1_1)) sqz (fun hHeld=>?_);refine with_tabW spec_RangeDo.tab2 spec_RangeDo.bits2 (fun HT_ HW_=>?_);generalize w8.drew = w31 at z1 B0 B1 B2 HB hHeld ⊢;refine sqp HT_ 0 13 ?_;refine sqo HT_ 1 14 (fun K hK=>?_);refine sqGq rfl Try.func37 (spec_l1In.calls _ _ _ _ _ A10.out) ?_;intro nd;refine hK.out _ _ sqz (fun hHeld=>?_);clear hK K;refine sqnm ?_;refine sqp HT_ 2 15 ?_;refine sqp HT_ 3 16 ?_;refine sqw HT_ HW_ 4 17 hHeld ?_;refine sqo HT_ 5 18 (fun K hK=>?_);refine sqGb rfl Try.func9 (spec_RangeOk.calls _ _ _ _ A12.out) ?_;intro w32 hb;replace z1:=sqRbR z1 hb;replace B0:=sqb B0 hb;replace B1:=sqb B1 hb;replace B2:=sqb B2 hb;replace HB:=sqs HB hb;(try clear hb);refine hK.out _ _ sqz (fun hHeld=>?_);clear hK K;refine sqnm ?_;refine sqp HT_ 6 19 ?_;refine sqp HT_ 7 20 ?_;refine sqp HT_ 8 21 ?_;refine sqpu HT_ 9 22 ?_;refine sqpu HT_ 10 23 ?_;refine sqpu HT_ 11 24 ?_;refine sqp HT_ 12 25 ?_;refine sqp HT_ 13 26 ?_;refine sqpu HT_ 14 27 ?_;refine sqpu HT_ 15 28 ?_;refine sqpu HT_ 16 29 ?_;refine sqp HT_ 17 30 ?_;refine sqp HT_ 18 31 ?_;refine sqpu HT_ 19 32 ?_;refine sqpu HT_ 20 33 ?_;refine sqpu HT_ 21 34 ?_;refine sqp HT_ 22 35 ?_;refine done_ (done_of HT_.out (by kernel_rfl)) ?_
   try go_wp2
   go_meet
   case rel=>exact ⟨_,(true),sqE,H',⟨sqle⟩,⟨sqy z1.out⟩,sqk B0,sqk B1,sqk B2,sqh HB⟩
  subst c13;rw [if_pos rfl] at H;replace H:=sqbi H;obtain ⟨t2,A14,H⟩:=H;(try dsimp only at H);rcases sqI (t2 = true) with c15 | c15
  ·replace c15:=Bool.eq_false_iff.mpr c15;subst c15;rw [sqff] at H;have H':=Aside0.mk H;clear H
   try go_wp2
   replace z1:=sqdrR z1;replace B0:=sqdr B0;replace B1:=sqdr B1;replace B2:=sqdr B2;replace HB:=sqdB HB;refine sqst 23 (fun w'=>Ce2 w' gb0 (.int .i64 a1_0) (.int .i64 a1_1)∧Ce2 w' gb1 (.int .i64 a2_0) (.int .i64 a2_1)) sqz (fun hHeld=>?_);refine with_tabW spec_RangeDo.tab2 spec_RangeDo.bits2 (fun HT_ HW_=>?_);generalize w8.drew = w28 at z1 B0 B1 B2 HB hHeld ⊢;refine sqp HT_ 0 13 ?_;refine sqo HT_ 1 14 (fun K hK=>?_);refine sqGq rfl Try.func37 (spec_l1In.calls _ _ _ _ _ A10.out) ?_;intro nd;refine hK.out _ _ sqz (fun hHeld=>?_);clear hK K;refine sqnm ?_;refine sqp HT_ 2 15 ?_;refine sqp HT_ 3 16 ?_;refine sqw HT_ HW_ 4 17 hHeld ?_;refine sqo HT_ 5 18 (fun K hK=>?_);refine sqGb rfl Try.func9 (spec_RangeOk.calls _ _ _ _ A12.out) ?_;intro w29 hb;replace z1:=sqRbR z1 hb;replace B0:=sqb B0 hb;replace B1:=sqb B1 hb;replace B2:=sqb B2 hb;replace HB:=sqs HB hb;(try clear hb);refine hK.out _ _ sqz (fun hHeld=>?_);clear hK K;refine sqnm ?_;refine sqp HT_ 6 19 ?_;refine sqp HT_ 7 20 ?_;refine sqp HT_ 8 21 ?_;refine sqw HT_ HW_ 9 22 hHeld ?_;refine sqo HT_ 10 23 (fun K hK=>?_);refine sqGb rfl Try.func9 (spec_RangeOk.calls _ _ _ _ A14.out) ?_;intro w30 hb;replace z1:=sqRbR z1 hb;replace B0:=sqb B0 hb;replace B1:=sqb B1 hb;replace B2:=sqb B2 hb;replace HB:=sqs HB hb;(try clear hb);refine hK.out _ _ sqz (fun hHeld=>?_);clear hK K;refine sqnm ?_;refine sqp HT_ 11 24 ?_;refine sqp HT_ 12 25 ?_;refine sqp HT_ 13 26 ?_;refine sqpu HT_ 14 27 ?_;refine sqpu HT_ 15 28 ?_;refine sqpu HT_ 16 29 ?_;refine sqp HT_ 17 30 ?_;refine sqp HT_ 18 31 ?_;refine sqpu HT_ 19 32 ?_;refine sqpu HT_ 20 33 ?_;refine sqpu HT_ 21 34 ?_;refine sqp HT_ 22 35 ?_;refine done_ (done_of HT_.out (by kernel_rfl)) ?_
   try go_wp2
   go_meet
   case rel=>exact ⟨_,(true),sqE,H',⟨sqle⟩,⟨sqy z1.out⟩,sqk B0,sqk B1,sqk B2,sqh HB⟩
  subst c15;rw [if_pos rfl] at H;replace H:=sqbi H;obtain ⟨⟨t3,t5⟩,A16,H⟩:=H;(try dsimp only at H);replace H:=sqj H;rcases H with ⟨c17,H⟩ | ⟨c17,H⟩
  ·have z5 : (a1_0 == t3 && (a1_1 == t5)) = true:=c17
   (try (have zj : decide (a1_0 = t3 && (a1_1 == t5)) = true:=by simpa using c17))
   (try (have zk : (a1_0 == t3 && (a1_1 == t5)) = true:=by simpa using c17))
   clear c17
   (first | rw [z5] | (simp only [i64_w,i32_w];rw [z5]) | skip)
   have H':=Aside0.mk H;clear H
   try go_wp2
   replace z1:=sqdrR z1;replace B0:=sqdr B0;replace B1:=sqdr B1;replace B2:=sqdr B2;replace HB:=sqdB HB;refine sqst 23 (fun w'=>Ce2 w' gb0 (.int .i64 a1_0) (.int .i64 a1_1)∧Ce2 w' gb1 (.int .i64 a2_0) (.int .i64 a2_1)) sqz (fun hHeld=>?_);refine with_tabW spec_RangeDo.tab2 spec_RangeDo.bits2 (fun HT_ HW_=>?_);generalize w8.drew = w18 at z1 B0 B1 B2 HB hHeld ⊢;refine sqp HT_ 0 13 ?_;refine sqo HT_ 1 14 (fun K hK=>?_);refine sqGq rfl Try.func37 (spec_l1In.calls _ _ _ _ _ A10.out) ?_;intro nd;refine hK.out _ _ sqz (fun hHeld=>?_);clear hK K;refine sqnm ?_;refine sqp HT_ 2 15 ?_;refine sqp HT_ 3 16 ?_;refine sqw HT_ HW_ 4 17 hHeld ?_;refine sqo HT_ 5 18 (fun K hK=>?_);refine sqGb rfl Try.func9 (spec_RangeOk.calls _ _ _ _ A12.out) ?_;intro w19 hb;replace z1:=sqRbR z1 hb;replace B0:=sqb B0 hb;replace B1:=sqb B1 hb;replace B2:=sqb B2 hb;replace HB:=sqs HB hb;(try clear hb);refine hK.out _ _ sqz (fun hHeld=>?_);clear hK K;refine sqnm ?_;refine sqp HT_ 6 19 ?_;refine sqp HT_ 7 20 ?_;refine sqp HT_ 8 21 ?_;refine sqw HT_ HW_ 9 22 hHeld ?_;refine sqo HT_ 10 23 (fun K hK=>?_);refine sqGb rfl Try.func9 (spec_RangeOk.calls _ _ _ _ A14.out) ?_;intro w20 hb;replace z1:=sqRbR z1 hb;replace B0:=sqb B0 hb;replace B1:=sqb B1 hb;replace B2:=sqb B2 hb;replace HB:=sqs HB hb;(try clear hb);refine hK.out _ _ sqz (fun hHeld=>?_);clear hK K;refine sqnm ?_;refine sqp HT_ 11 24 ?_;refine sqp HT_ 12 25 ?_;refine sqp HT_ 13 26 ?_;refine sqw HT_ HW_ 14 27 hHeld ?_;refine sqo HT_ 15 28 (fun K hK=>?_);refine sqGb rfl Try.func38 (spec_l8None.calls _ _ _ A16.out) ?_;intro w21 hb;replace z1:=sqRbR z1 hb;replace B0:=sqb B0 hb;replace B1:=sqb B1 hb;replace B2:=sqb B2 hb;replace HB:=sqs HB hb;(try clear hb);refine hK.out _ _ sqz (fun hHeld=>?_);clear hK K;refine sqnm ?_;refine sqp HT_ 16 29 ?_;refine sqp HT_ 17 30 ?_;refine sqp HT_ 18 31 ?_;refine sqpu HT_ 19 32 ?_;refine sqpu HT_ 20 33 ?_;refine sqpu HT_ 21 34 ?_;refine sqp HT_ 22 35 ?_;refine done_ (done_of HT_.out (by kernel_rfl)) ?_
   try go_wp2
   go_meet
   case rel=>exact ⟨_,(true),sqE,H',⟨sqle⟩,⟨sqy z1.out⟩,sqk B0,sqk B1,sqk B2,sqh HB⟩
  have z5 : (a1_0 == t3 && (a1_1 == t5)) = false:=by simpa using c17
  (try (have zj : decide (a1_0 = t3 && (a1_1 == t5)) = false:=by simpa using c17))
  (try (have zk : (a1_0 == t3 && (a1_1 == t5)) = false:=by simpa using c17))
  (try (have zw : ¬ (a1_0 = t3 && (a1_1 == t5)):=by simpa using c17))
  clear c17
  (first | rw [z5] | (simp only [i64_w,i32_w];rw [z5]) | skip)
  replace H:=sqbi H;obtain ⟨⟨t4,t6⟩,A22,H⟩:=H;(try dsimp only at H);have H':=Aside0.mk H;clear H
  try go_wp2
  replace z1:=sqdrR z1;replace B0:=sqdr B0;replace B1:=sqdr B1;replace B2:=sqdr B2;replace HB:=sqdB HB;refine sqst 23 (fun w'=>Ce2 w' gb0 (.int .i64 a1_0) (.int .i64 a1_1)∧Ce2 w' gb1 (.int .i64 a2_0) (.int .i64 a2_1)) sqz (fun hHeld=>?_);refine with_tabW spec_RangeDo.tab2 spec_RangeDo.bits2 (fun HT_ HW_=>?_);generalize w8.drew = w23 at z1 B0 B1 B2 HB hHeld ⊢;refine sqp HT_ 0 13 ?_;refine sqo HT_ 1 14 (fun K hK=>?_);refine sqGq rfl Try.func37 (spec_l1In.calls _ _ _ _ _ A10.out) ?_;intro nd;refine hK.out _ _ sqz (fun hHeld=>?_);clear hK K;refine sqnm ?_;refine sqp HT_ 2 15 ?_;refine sqp HT_ 3 16 ?_;refine sqw HT_ HW_ 4 17 hHeld ?_;refine sqo HT_ 5 18 (fun K hK=>?_);refine sqGb rfl Try.func9 (spec_RangeOk.calls _ _ _ _ A12.out) ?_;intro w24 hb;replace z1:=sqRbR z1 hb;replace B0:=sqb B0 hb;replace B1:=sqb B1 hb;replace B2:=sqb B2 hb;replace HB:=sqs HB hb;(try clear hb);refine hK.out _ _ sqz (fun hHeld=>?_);clear hK K;refine sqnm ?_;refine sqp HT_ 6 19 ?_;refine sqp HT_ 7 20 ?_;refine sqp HT_ 8 21 ?_;refine sqw HT_ HW_ 9 22 hHeld ?_;refine sqo HT_ 10 23 (fun K hK=>?_);refine sqGb rfl Try.func9 (spec_RangeOk.calls _ _ _ _ A14.out) ?_;intro w25 hb;replace z1:=sqRbR z1 hb;replace B0:=sqb B0 hb;replace B1:=sqb B1 hb;replace B2:=sqb B2 hb;replace HB:=sqs HB hb;(try clear hb);refine hK.out _ _ sqz (fun hHeld=>?_);clear hK K;refine sqnm ?_;refine sqp HT_ 11 24 ?_;refine sqp HT_ 12 25 ?_;refine sqp HT_ 13 26 ?_;refine sqw HT_ HW_ 14 27 hHeld ?_;refine sqo HT_ 15 28 (fun K hK=>?_);refine sqGb rfl Try.func38 (spec_l8None.calls _ _ _ A16.out) ?_;intro w26 hb;replace z1:=sqRbR z1 hb;replace B0:=sqb B0 hb;replace B1:=sqb B1 hb;replace B2:=sqb B2 hb;replace HB:=sqs HB hb;(try clear hb);refine hK.out _ _ sqz (fun hHeld=>?_);clear hK K;refine sqnm ?_;refine sqp HT_ 16 29 ?_;refine sqp HT_ 17 30 ?_;refine sqp HT_ 18 31 ?_;refine sqw HT_ HW_ 19 32 hHeld ?_;refine sqo HT_ 20 33 (fun K hK=>?_);refine sqGb rfl Try.func38 (spec_l8None.calls _ _ _ A22.out) ?_;intro w27 hb;replace z1:=sqRbR z1 hb;replace B0:=sqb B0 hb;replace B1:=sqb B1 hb;replace B2:=sqb B2 hb;replace HB:=sqs HB hb;(try clear hb);refine hK.out _ _ sqz (fun hHeld=>?_);clear hK K;refine sqnm ?_;refine sqp HT_ 21 34 ?_;refine sqp HT_ 22 35 ?_;refine done_ (done_of HT_.out (by kernel_rfl)) ?_
  try go_wp2
  go_meet
  case rel=>exact ⟨_,((a2_0 == t4 && (a2_1 == t6))),sqE,H',⟨sqle⟩,⟨sqy z1.out⟩,sqk B0,sqk B1,sqk B2,sqh HB⟩
 case rest =>
  clear HC4;obtain ⟨kq,x0,rfl,HA,HJ3,z0,B0,B1,B2,HB⟩:=hcut;cases kq with
  | zero=>exact absurd HA.out (by simp [spec_RangeDo.j0])
  | succ kj3 =>
   have H:=HA.out;clear HA;simp only [spec_RangeDo.j0] at H
   by_cases c34 : x0 = true
   ·subst c34;rw [if_pos rfl] at H;replace H:=sqbi H;obtain ⟨⟨t7,t8⟩,A35,H⟩:=H;(try dsimp only at H);simp only [Option.some.injEq,Prod.mk.injEq] at H;obtain ⟨rfl,rfl,rfl⟩:=H;go_wp2_with (first | ((with_reducible refine gf 38 rfl ?_);refine sqLb rfl (some 36) Try.func38 (spec_l8None.calls _ _ _ A35.out) ?_;intro w36 hb;replace z0:=sqRbR z0 hb;replace B0:=sqb B0 hb;replace B1:=sqb B1 hb;replace B2:=sqb B2 hb;replace HB:=sqs HB hb;(try clear hb);obtain ⟨_,_,_,_⟩:=sqN2 N2_0 N2_1;obtain ⟨_,_,_,_⟩:=sqc2 B2));refine bodyPost_ret (results_ct rfl _ _ gb2 24 #[.int .i64 t7,.int .i64 t8] (0,0) _ rfl (sqP B2) Try.underlying24 rfl (by kernel_rfl)) rfl ?_;exact ⟨_,sqEw,sqF1Rf (sqtyR z0 B2) (fun _ hk=>trivial),sqB HB⟩
   replace c34:=Bool.eq_false_iff.mpr c34;subst c34;rw [sqff] at H;have HC40:=Aside0.mk H;clear H;go_upto_region 4 with (fail);go_cut [43] (fun v43 wc=>∃ (kq : Nat) (x1 : Bool),v43 = .bool x1∧Aside0 (spec_RangeDo.j1 kq a0 z2 x1 a1_0 a1_1 a2_0 a2_1 = some (r1,r2,r3))∧Aside0 (kq ≤ kj3)∧Aside0 (Kd.R (Kd.int .i64) 3 wc w.heap.size (fun _=>True) z3 z2)∧Aside0 (wc.heap[gb0]? = some (.cells #[.int .i64 a1_0,.int .i64 a1_1] 24 (0,0)))∧Aside0 (wc.heap[gb1]? = some (.cells #[.int .i64 a2_0,.int .i64 a2_1] 24 (0,0)))∧Aside0 (wc.heap[gb2]? = some (.cells #[.int .i64 0,.int .i64 0] 24 (0,0)))∧Aside0 (Below w.heap.size w wc))
   case first =>
    have H:=HC40.out;clear HC40;replace H:=sqi H;rcases H with ⟨c41,H⟩ | ⟨c41,H⟩
    ·have z6 : (a0 == 4) = false:=beq_eq_false_iff_ne.mpr c41;have zl : (a0 != 4) = true:=bne_iff_ne.mpr c41
     (first | rw [z6] | (simp only [i64_w,i32_w];rw [z6]) | skip)
     have H':=Aside0.mk H;clear H
     go_wp2
     go_meet
     case rel=>exact ⟨_,((a0 == 5)),sqE,H',⟨by have:=HJ3.out;first | omega | exact Nat.le_refl _⟩,⟨sqy z0.out⟩,sqk B0,sqk B1,sqk B2,sqh HB⟩
    have z6 : (a0 == 4) = true:=beq_iff_eq.mpr c41;have zl : (a0 != 4) = false:=bne_eq_false_iff_eq.mpr c41;clear c41
    (first | rw [z6] | (simp only [i64_w,i32_w];rw [z6]) | skip)
    have H':=Aside0.mk H;clear H
    go_wp2
    go_meet
    case rel=>exact ⟨_,(true),sqE,H',⟨by have:=HJ3.out;first | omega | exact Nat.le_refl _⟩,⟨sqy z0.out⟩,sqk B0,sqk B1,sqk B2,sqh HB⟩
   case rest =>
    clear HC40;obtain ⟨kq,x1,rfl,HA,HJ39,z0,B0,B1,B2,HB⟩:=hcut;cases kq with
    | zero=>exact absurd HA.out (by simp [spec_RangeDo.j1])
    | succ kj39 =>
     have H:=HA.out;clear HA;simp only [spec_RangeDo.j1] at H
     by_cases c42 : x1 = true
     ·subst c42;rw [if_pos rfl] at H;replace H:=sqbi H;obtain ⟨⟨t9,t10,t11⟩,A43,H⟩:=H;(try dsimp only at H);simp only [Option.some.injEq,Prod.mk.injEq] at H;obtain ⟨rfl,rfl,rfl⟩:=H;obtain ⟨_,_,_,_⟩:=sqN2 N0_1 N0_2;obtain ⟨_,_,_,_⟩:=sqc2 B0;obtain ⟨_,_⟩:=sqN1 N1_2;obtain ⟨_,_,_,_⟩:=sqc2 B1;go_wp2_with (first | ((with_reducible refine gf 39 rfl ?_);refine sqLc rfl (some 47) Try.func39 (spec_l8Div.calls _ _ _ _ _ _ _ _ _ _ A43.out) ?_;rintro e w49 ⟨zx,rfl,ho0,hb⟩;refine ⟨_,rfl,?_⟩;have zm:=Aside0.mk (Kd.R_lower (Kd.R_new' ho0 (Kd.R_lt (sqy z0.out))) (below_size (sqB HB)));replace z0:=sqRER z0 ho0 hb;replace B0:=sqb B0 hb;replace B1:=sqb B1 hb;replace B2:=sqb B2 hb;replace HB:=sqs HB hb;(try clear hb);(try clear hb2);(try clear hk);(try clear hi);(try clear ho0);obtain ⟨_,_,_,_⟩:=sqc2 B2));refine bodyPost_ret (results_ct rfl _ _ gb2 24 #[.int .i64 t9,.int .i64 t10] (0,0) _ rfl (sqP B2) Try.underlying24 rfl (by kernel_rfl)) rfl ?_;exact ⟨_,sqEw,sqF1Rf (sqtyR zm B2) (fun _ hk=>trivial),sqB HB⟩
     replace c42:=Bool.eq_false_iff.mpr c42;subst c42;rw [sqff] at H;replace H:=sqbi H;obtain ⟨t12,A51,H⟩:=H;(try dsimp only at H)
     by_cases c52 : t12 = true
     ·subst c52;rw [if_pos rfl] at H;replace H:=sqbi H;obtain ⟨⟨t13,t14⟩,A53,H⟩:=H;(try dsimp only at H);simp only [Option.some.injEq,Prod.mk.injEq] at H;obtain ⟨rfl,rfl,rfl⟩:=H;go_wp2_with (first | ((with_reducible refine gf 37 rfl ?_);refine sqLq rfl (some 51) Try.func37 (spec_l1In.calls _ _ _ _ _ A51.out) ?_;intro nd;(try (rw [drewN_self wc];generalize hq_ : World.drewN wc _ = wc;have n0_ : Aside0 (Kd.R (Kd.int .i64) 3 wc w.heap.size (fun _=>True) z3 z2):=⟨by rw [← hq_];exact (sqy z0.out)⟩;have n1_ : Aside0 (wc.heap[gb0]? = some (.cells #[.int .i64 a1_0,.int .i64 a1_1] 24 (0,0))):=⟨by rw [← hq_];exact (sqt B0.out)⟩;have n2_ : Aside0 (wc.heap[gb1]? = some (.cells #[.int .i64 a2_0,.int .i64 a2_1] 24 (0,0))):=⟨by rw [← hq_];exact (sqt B1.out)⟩;have n3_ : Aside0 (wc.heap[gb2]? = some (.cells #[.int .i64 0,.int .i64 0] 24 (0,0))):=⟨by rw [← hq_];exact (sqt B2.out)⟩;have n4_ : Aside0 (Below w.heap.size w wc):=⟨by rw [← hq_];exact (sqB HB)⟩;clear z0 B0 B1 B2 HB hq_;have z0:=n0_;have B0:=n1_;have B1:=n2_;have B2:=n3_;have HB:=n4_;clear n0_ n1_ n2_ n3_ n4_));obtain ⟨_,_,_,_⟩:=sqN2 N0_1 N0_2;obtain ⟨_,_,_,_⟩:=sqc2 B0;obtain ⟨_,_⟩:=sqN1 N1_2;obtain ⟨_,_,_,_⟩:=sqc2 B1) | ((with_reducible refine gf 40 rfl ?_);refine sqLb rfl (some 55) Try.func40 (spec_l8Bits.calls _ _ _ _ _ _ _ _ _ A53.out) ?_;intro w59 hb;replace z0:=sqRbR z0 hb;replace B0:=sqb B0 hb;replace B1:=sqb B1 hb;replace B2:=sqb B2 hb;replace HB:=sqs HB hb;(try clear hb);obtain ⟨_,_,_,_⟩:=sqc2 B2));refine bodyPost_ret (results_ct rfl _ _ gb2 24 #[.int .i64 t13,.int .i64 t14] (0,0) _ rfl (sqP B2) Try.underlying24 rfl (by kernel_rfl)) rfl ?_;exact ⟨_,sqEw,sqF1Rf (sqtyR z0 B2) (fun _ hk=>trivial),sqB HB⟩
     replace c52:=Bool.eq_false_iff.mpr c52;subst c52;rw [sqff] at H;have HC61:=Aside0.mk H;clear H;go_upto_region 9 with (first | ((with_reducible refine gf 37 rfl ?_);refine sqLq rfl (some 51) Try.func37 (spec_l1In.calls _ _ _ _ _ A51.out) ?_;intro nd;(try (rw [drewN_self wc];generalize hq_ : World.drewN wc _ = wc;have n0_ : Aside0 (Kd.R (Kd.int .i64) 3 wc w.heap.size (fun _=>True) z3 z2):=⟨by rw [← hq_];exact (sqy z0.out)⟩;have n1_ : Aside0 (wc.heap[gb0]? = some (.cells #[.int .i64 a1_0,.int .i64 a1_1] 24 (0,0))):=⟨by rw [← hq_];exact (sqt B0.out)⟩;have n2_ : Aside0 (wc.heap[gb1]? = some (.cells #[.int .i64 a2_0,.int .i64 a2_1] 24 (0,0))):=⟨by rw [← hq_];exact (sqt B1.out)⟩;have n3_ : Aside0 (wc.heap[gb2]? = some (.cells #[.int .i64 0,.int .i64 0] 24 (0,0))):=⟨by rw [← hq_];exact (sqt B2.out)⟩;have n4_ : Aside0 (Below w.heap.size w wc):=⟨by rw [← hq_];exact (sqB HB)⟩;clear z0 B0 B1 B2 HB hq_;have z0:=n0_;have B0:=n1_;have B1:=n2_;have B2:=n3_;have HB:=n4_;clear n0_ n1_ n2_ n3_ n4_));obtain ⟨_,_,_,_⟩:=sqN2 N1_0 N1_2;obtain ⟨_,_,_,_⟩:=sqc2 B1) | ((with_reducible refine gd 9 rfl ?_);refine sqX 9 #[.int .i64 0,.int .i64 0] 24 HB ?_;clear HB;intro gb3 hg w65 hb B3 GW3 HB;replace z0:=sqRbR z0 hb;have N0_3:=sqn B0 hg;have N3_0:=sqm B0 hg;replace B0:=sqb B0 hb;have N1_3:=sqn B1 hg;have N3_1:=sqm B1 hg;replace B1:=sqb B1 hb;have N2_3:=sqn B2 hg;have N3_2:=sqm B2 hg;replace B2:=sqb B2 hb;clear hb hg;obtain ⟨_,_,_,_,_,_⟩:=sqN3 N3_0 N3_1 N3_2;obtain ⟨_,_,_,_⟩:=sqc2 B3))
     (try simp only [Act.put,List.setIfInBounds_toArray,List.set_cons_zero,List.set_cons_succ])
     go_cut [10] (fun v10 wc=>∃ (kq : Nat) (x2 : Bool),v10 = .bool x2∧Aside0 (spec_RangeDo.j2 kq a0 z2 x2 a1_0 a1_1 a2_0 a2_1 a2_0 a2_1 = some (r1,r2,r3))∧Aside0 (kq ≤ kj39)∧Aside0 (Kd.R (Kd.int .i64) 3 wc w.heap.size (fun _=>True) z3 z2)∧Aside0 (wc.heap[gb0]? = some (.cells #[.int .i64 a1_0,.int .i64 a1_1] 24 (0,0)))∧Aside0 (wc.heap[gb1]? = some (.cells #[.int .i64 a2_0,.int .i64 a2_1] 24 (0,0)))∧Aside0 (wc.heap[gb2]? = some (.cells #[.int .i64 0,.int .i64 0] 24 (0,0)))∧Aside0 (wc.heap[gb3]? = some (.cells #[.int .i64 a2_0,.int .i64 a2_1] 24 (0,0)))∧Aside0 (Below w.heap.size w wc))
     case first =>
      have H:=HC61.out;clear HC61;replace H:=sqi H;rcases H with ⟨c70,H⟩ | ⟨c70,H⟩
      ·have z7 : (a0 == 9) = false:=beq_eq_false_iff_ne.mpr c70;have zn : (a0 != 9) = true:=bne_iff_ne.mpr c70
       (first | rw [z7] | (simp only [i64_w,i32_w];rw [z7]) | skip)
       have H':=Aside0.mk H;clear H
       go_wp2
       go_meet
       case rel=>exact ⟨_,((a0 == 10)),sqE,H',⟨by have:=HJ3.out;have:=HJ39.out;first | omega | exact Nat.le_refl _⟩,⟨sqF1Rf (sqtyR z0 B3) (fun _ hk=>trivial)⟩,⟨sqT B0⟩,⟨sqT B1⟩,⟨sqT B2⟩,⟨sqP B3⟩,sqh HB⟩
      have z7 : (a0 == 9) = true:=beq_iff_eq.mpr c70;have zn : (a0 != 9) = false:=bne_eq_false_iff_eq.mpr c70;clear c70
      (first | rw [z7] | (simp only [i64_w,i32_w];rw [z7]) | skip)
      have H':=Aside0.mk H;clear H
      go_wp2
      go_meet
      case rel=>exact ⟨_,(true),sqE,H',⟨by have:=HJ3.out;have:=HJ39.out;first | omega | exact Nat.le_refl _⟩,⟨sqF1Rf (sqtyR z0 B3) (fun _ hk=>trivial)⟩,⟨sqT B0⟩,⟨sqT B1⟩,⟨sqT B2⟩,⟨sqP B3⟩,sqh HB⟩
     case rest =>
      clear HC61;obtain ⟨kq,x2,rfl,HA,HJ60,z0,B0,B1,B2,B3,HB⟩:=hcut;cases kq with
      | zero=>exact absurd HA.out (by simp [spec_RangeDo.j2])
      | succ kj60 =>
       have H:=HA.out;clear HA;simp only [spec_RangeDo.j2] at H;have HC71:=Aside0.mk H;clear H
       go_upto_if 64 with (fail)
       go_cut [] (fun wc=>∃ (kq : Nat) (x3 : Int) (x4 : Int),Aside0 (spec_RangeDo.j3 kq a0 z2 x2 a1_0 a1_1 a2_0 a2_1 x3 x4 = some (r1,r2,r3))∧Aside0 (kq ≤ kj60)∧Aside0 (Kd.R (Kd.int .i64) 3 wc w.heap.size (fun _=>True) z3 z2)∧Aside0 (wc.heap[gb0]? = some (.cells #[.int .i64 a1_0,.int .i64 a1_1] 24 (0,0)))∧Aside0 (wc.heap[gb1]? = some (.cells #[.int .i64 a2_0,.int .i64 a2_1] 24 (0,0)))∧Aside0 (wc.heap[gb2]? = some (.cells #[.int .i64 0,.int .i64 0] 24 (0,0)))∧Aside0 (wc.heap[gb3]? = some (.cells #[.int .i64 x3,.int .i64 x4] 24 (0,0)))∧Aside0 (Below w.heap.size w wc))
       case first =>
        have H:=HC71.out;clear HC71;rcases sqI (x2 = true) with c72 | c72
        ·replace c72:=Bool.eq_false_iff.mpr c72;subst c72;rw [sqff] at H;have H':=Aside0.mk H;clear H
         go_wp2
         go_meet
         case rel=>exact ⟨_,(a2_0),(a2_1),H',⟨by have:=HJ3.out;have:=HJ39.out;have:=HJ60.out;first | omega | exact Nat.le_refl _⟩,⟨sqy z0.out⟩,sqk B0,sqk B1,sqk B2,sqk B3,sqh HB⟩
        subst c72;rw [if_pos rfl] at H;replace H:=sqbi H;obtain ⟨⟨t15,t16⟩,A73,H⟩:=H;(try dsimp only at H);have H':=Aside0.mk H;clear H;obtain ⟨_,_,_,_,_,_⟩:=sqN3 N1_0 N1_2 N1_3;obtain ⟨_,_,_,_⟩:=sqc2 B1;go_wp2_with (first | ((with_reducible refine gf 41 rfl ?_);refine sqLb rfl (some 67) Try.func41 (spec_RangeMeet.calls _ _ _ _ _ _ _ _ A73.out) ?_;intro w78 hb;replace z0:=sqRbR z0 hb;replace B0:=sqb B0 hb;replace B1:=sqb B1 hb;replace B2:=sqb B2 hb;replace B3:=sqb B3 hb;replace HB:=sqs HB hb;(try clear hb);obtain ⟨_,_,_,_⟩:=sqN2 N3_0 N3_2;obtain ⟨_,_,_,_⟩:=sqc2 B3));go_meet
        case rel=>exact ⟨_,(t15),(t16),H',⟨by have:=HJ3.out;have:=HJ39.out;have:=HJ60.out;first | omega | exact Nat.le_refl _⟩,⟨sqF1Rf (sqtyR z0 B3) (fun _ hk=>trivial)⟩,⟨sqT B0⟩,⟨sqT B1⟩,⟨sqT B2⟩,⟨sqP B3⟩,sqh HB⟩
       case rest =>
        clear HC71;obtain ⟨kq,x3,x4,HA,HJ70,z0,B0,B1,B2,B3,HB⟩:=hcut;cases kq with
        | zero=>exact absurd HA.out (by simp [spec_RangeDo.j3])
        | succ kj70 =>
         have H:=HA.out;clear HA;simp only [spec_RangeDo.j3] at H;replace H:=sqbi H;obtain ⟨⟨t17,t18,t19⟩,A82,H⟩:=H;(try dsimp only at H);replace H:=sqbi H;obtain ⟨⟨t20,t21⟩,A83,H⟩:=H;(try dsimp only at H);have HC84:=Aside0.mk H;clear H
         try go_wp2_with (first | ((with_reducible refine gd 69 rfl ?_);refine sqX 69 #[.bool false,.int .i64 0,.int .i64 0] 63 HB ?_;clear HB;intro g579 hg w85 hb2 B9 GW9 HB;have hi : IsS63 w w85 g579 t17 t18 t19:=(by have e:=A82.out;simp only [spec_l8New.f,Option.some.injEq,Prod.mk.injEq] at e;obtain ⟨e1,e2,e3⟩:=e;rw [← e1,← e2,← e3];exact ⟨B9.out,GW9.out⟩);clear B9 GW9 hg;replace z0:=Aside0.mk (Kd.R_below (sqy z0.out) hb2);have HI579:=Aside0.mk (hi);have N4_0:=Aside0.mk (IsS63.ne_blk hi (blk_below (g:=gb0) (o:=.cells #[.int .i64 a1_0,.int .i64 a1_1] 24 (0,0)) (sqt B0.out) hb2) (by decide));have N0_4:=Aside0.mk (Ne.symm (IsS63.ne_blk hi (blk_below (g:=gb0) (o:=.cells #[.int .i64 a1_0,.int .i64 a1_1] 24 (0,0)) (sqt B0.out) hb2) (by decide)));replace B0:=Aside0.mk (blk_below (g:=gb0) (o:=.cells #[.int .i64 a1_0,.int .i64 a1_1] 24 (0,0)) (sqt B0.out) hb2);have N4_1:=Aside0.mk (IsS63.ne_blk hi (blk_below (g:=gb1) (o:=.cells #[.int .i64 a2_0,.int .i64 a2_1] 24 (0,0)) (sqt B1.out) hb2) (by decide));have N1_4:=Aside0.mk (Ne.symm (IsS63.ne_blk hi (blk_below (g:=gb1) (o:=.cells #[.int .i64 a2_0,.int .i64 a2_1] 24 (0,0)) (sqt B1.out) hb2) (by decide)));replace B1:=Aside0.mk (blk_below (g:=gb1) (o:=.cells #[.int .i64 a2_0,.int .i64 a2_1] 24 (0,0)) (sqt B1.out) hb2);have N4_2:=Aside0.mk (IsS63.ne_blk hi (blk_below (g:=gb2) (o:=.cells #[.int .i64 0,.int .i64 0] 24 (0,0)) (sqt B2.out) hb2) (by decide));have N2_4:=Aside0.mk (Ne.symm (IsS63.ne_blk hi (blk_below (g:=gb2) (o:=.cells #[.int .i64 0,.int .i64 0] 24 (0,0)) (sqt B2.out) hb2) (by decide)));replace B2:=Aside0.mk (blk_below (g:=gb2) (o:=.cells #[.int .i64 0,.int .i64 0] 24 (0,0)) (sqt B2.out) hb2);have N4_3:=Aside0.mk (IsS63.ne_blk hi (blk_below (g:=gb3) (o:=.cells #[.int .i64 x3,.int .i64 x4] 24 (0,0)) (sqt B3.out) hb2) (by decide));have N3_4:=Aside0.mk (Ne.symm (IsS63.ne_blk hi (blk_below (g:=gb3) (o:=.cells #[.int .i64 x3,.int .i64 x4] 24 (0,0)) (sqt B3.out) hb2) (by decide)));replace B3:=Aside0.mk (blk_below (g:=gb3) (o:=.cells #[.int .i64 x3,.int .i64 x4] 24 (0,0)) (sqt B3.out) hb2);(try clear hb);(try clear hb2);(try clear hk);(try clear hi)))
         replace z0:=sqdrR z0;replace B0:=sqdr B0;replace B1:=sqdr B1;replace B2:=sqdr B2;replace B3:=sqdr B3;replace HI579:=Aside0.mk (IsS63.drew HI579.out);replace HB:=sqdB HB;refine sqst 3 (fun w'=>Ce2 w' gb3 (.int .i64 x3) (.int .i64 x4)) sqz (fun hHeld=>?_);generalize w85.drew = w86 at z0 B0 B1 B2 B3 HI579 HB hHeld ⊢;refine take_ (i:=0) (N:=some 70) (v:=?_) (a':=?_) #[true,false,false] rfl rfl (by kernel_rfl) (fun _ _ _ h=>h) (Or.inl ⟨by rfl,?_⟩) hHeld ?_ ?_;rotate_left
         ·rintro w' ⟨s0,s1⟩
          go_simp
          with_reducible rfl
         rotate_left
         ·simp only [Act.put,List.setIfInBounds_toArray,List.set_cons_zero,List.set_cons_succ,i64_w,i32_w]
          rfl
         refine one_ (i:=1) (N:=some 71) #[true,true,false] rfl rfl (by kernel_rfl) (by decide) (fun K hK=>?_);refine sqGb rfl Try.func38 (spec_l8None.calls _ _ _ A83.out) ?_;intro w87 hb;replace z0:=sqRbR z0 hb;replace B0:=sqb B0 hb;replace B1:=sqb B1 hb;replace B2:=sqb B2 hb;replace B3:=sqb B3 hb;replace HB:=Aside0.mk (below_step (sqB2 HB (IsS63.ge HI579.out)) hb);replace HI579:=Aside0.mk (IsS63.below (IsS63.mv HI579) hb);(try clear hb);refine hK.out _ _ sqz (fun hHeld=>?_);clear hK K;refine sqnm ?_;refine pure_ (i:=2) (N:=some 72) (v:=?_) (a':=?_) #[true,true,true] rfl rfl (by kernel_rfl) (fun _ _ _ h=>h) (Or.inl ⟨by rfl,?_⟩) ?_ ?_;rotate_left
         ·intro w'
          go_simp
          with_reducible rfl
         rotate_left
         ·simp only [Act.put,List.setIfInBounds_toArray,List.set_cons_zero,List.set_cons_succ,i64_w,i32_w]
          rfl
         refine done_ (by kernel_rfl) ?_
         go_upto_if 72 with (fail)
         go_cut [] (fun wc=>∃ (kq : Nat) (x5 : Bool) (x6 : Int) (x7 : Int),Aside0 (spec_RangeDo.j4 kq a0 z2 x2 a2_0 a2_1 x3 x4 x5 x6 x7 = some (r1,r2,r3))∧Aside0 (kq ≤ kj70)∧Aside0 (Kd.R (Kd.int .i64) 3 wc w.heap.size (fun _=>True) z3 z2)∧Aside0 (wc.heap[gb0]? = some (.cells #[.int .i64 a1_0,.int .i64 a1_1] 24 (0,0)))∧Aside0 (wc.heap[gb1]? = some (.cells #[.int .i64 a2_0,.int .i64 a2_1] 24 (0,0)))∧Aside0 (wc.heap[gb2]? = some (.cells #[.int .i64 0,.int .i64 0] 24 (0,0)))∧Aside0 (wc.heap[gb3]? = some (.cells #[.int .i64 x3,.int .i64 x4] 24 (0,0)))∧Aside0 (IsS63 w wc g579 x5 x6 x7)∧Aside0 (Below w.heap.size w wc))
         case first =>
          have H:=HC84.out;clear HC84;replace H:=sqi H;rcases H with ⟨c88,H⟩ | ⟨c88,H⟩
          ·have z8 : (!(x3 == t20) || (!(x4 == t21))) = false:=by simpa using c88
           clear c88
           (first | rw [z8] | (simp only [i64_w,i32_w];rw [z8]) | skip)
           have H':=Aside0.mk H;clear H
           go_wp2
           go_meet
           case rel=>exact ⟨_,(t17),(t18),(t19),H',⟨by have:=HJ3.out;have:=HJ39.out;have:=HJ60.out;have:=HJ70.out;first | omega | exact Nat.le_refl _⟩,⟨sqy z0.out⟩,sqk B0,sqk B1,sqk B2,sqk B3,⟨IsS63.mv HI579⟩,⟨sqB2 HB (IsS63.ge HI579.out)⟩⟩
          have z8 : (!(x3 == t20) || (!(x4 == t21))) = true:=c88;clear c88
          (first | rw [z8] | (simp only [i64_w,i32_w];rw [z8]) | skip)
          replace H:=sqbi H;obtain ⟨⟨t22,t23,t24⟩,A89,H⟩:=H;(try dsimp only at H);have H':=Aside0.mk H;clear H;obtain ⟨_,_,_,_,_,_,_,_⟩:=sqN4 N0_1 N0_2 N0_3 N0_4;obtain ⟨_,_,_,_⟩:=sqc2 B0;obtain ⟨_,_,_,_,_,_⟩:=sqN3 N3_1 N3_2 N3_4;obtain ⟨_,_,_,_⟩:=sqc2 B3;go_wp2_with (first | ((with_reducible refine gf 42 rfl ?_);refine sqLc rfl (some 77) Try.func42 (spec_l8R_corners.calls _ _ _ _ _ _ _ _ _ _ _ _ _ w _ (IsS63.mv HI579) (sqB2 HB (IsS63.ge HI579.out)) A89.out) ?_;rintro e w99 ⟨rfl,hi,hb,hk⟩;refine ⟨_,rfl,?_⟩;replace z0:=Aside0.mk (Kd.R_mono (Kd.R_keep (IsS63.apart (show IsS63 w _ g579 t17 t18 t19 from by repeat (first | (with_reducible first | exact HI579.out | apply IsS63.alloc | apply IsS63.drewN | apply IsS63.drew | apply IsS63.set_0 | apply IsS63.set_1 | apply IsS63.set_2 | refine IsS63.far ?_ N4_0.out _ | refine IsS63.far ?_ N4_1.out _ | refine IsS63.far ?_ N4_2.out _ | refine IsS63.far ?_ N4_3.out _) | exact HI579.out)) (sqy z0.out) (by decide)) hk (fun _ h=>h.2)) (fun _ h=>h.1));replace B0:=sqkb hk B0 N0_4;replace B1:=sqkb hk B1 N1_4;replace B2:=sqkb hk B2 N2_4;replace B3:=sqkb hk B3 N3_4;replace HB:=Aside0.mk (hb);replace HI579:=Aside0.mk (hi);(try clear hb);(try clear hb2);(try clear hk);(try clear hi)));go_meet
          case rel=>exact ⟨_,(t22),(t23),(t24),H',⟨by have:=HJ3.out;have:=HJ39.out;have:=HJ60.out;have:=HJ70.out;first | omega | exact Nat.le_refl _⟩,⟨sqy z0.out⟩,sqk B0,sqk B1,sqk B2,sqk B3,⟨IsS63.mv HI579⟩,⟨sqB2 HB (IsS63.ge HI579.out)⟩⟩
         case rest =>
          clear HC84;obtain ⟨kq,x5,x6,x7,HA,HJ83,z0,B0,B1,B2,B3,HI579,HB⟩:=hcut;cases kq with
          | zero=>exact absurd HA.out (by simp [spec_RangeDo.j4])
          | succ kj83 =>
           have H:=HA.out;clear HA;simp only [spec_RangeDo.j4] at H;replace H:=sqj H;rcases H with ⟨c100,H⟩ | ⟨c100,H⟩
           ·have zo : decide (11 ≤ a0) = true:=decide_eq_true c100;clear c100;replace H:=sqbi H;obtain ⟨⟨t25,t26⟩,A101,H⟩:=H;(try dsimp only at H);simp only [Option.some.injEq,Prod.mk.injEq] at H;obtain ⟨rfl,rfl,rfl⟩:=H
            try go_wp2
            replace z0:=sqdrR z0;replace B0:=sqdr B0;replace B1:=sqdr B1;replace B2:=sqdr B2;replace B3:=sqdr B3;replace HI579:=Aside0.mk (IsS63.drew HI579.out);replace HB:=sqdB HB;refine sqsT 12 (fun w'=>w'.cell? ⟨g579,0,none⟩ = some (.bool x5)∧w'.cell? ⟨g579,1,none⟩ = some (.int .i64 x6)∧w'.cell? ⟨g579,2,none⟩ = some (.int .i64 x7)) [] ⟨(blk_cell (Aside0.mk HI579.out.1).out 0).trans rfl,(blk_cell (Aside0.mk HI579.out.1).out 1).trans rfl,(blk_cell (Aside0.mk HI579.out.1).out 2).trans rfl⟩ (fun hHeld=>?_);refine with_tabW spec_RangeDo.tab16 spec_RangeDo.bits16 (fun HT_ HW_=>?_);generalize wc.drew = w102 at z0 B0 B1 B2 B3 HI579 HB hHeld ⊢;refine sqp HT_ 0 80 ?_;refine sqp HT_ 1 81 ?_;refine sqp HT_ 2 82 ?_;refine sqp HT_ 4 84 ?_;refine sqp HT_ 5 85 ?_;refine sqp HT_ 6 86 ?_;refine sqp HT_ 9 89 ?_;refine sqw HT_ HW_ 3 83 hHeld ?_;refine sqw HT_ HW_ 7 87 hHeld ?_;refine sqo HT_ 8 88 (fun K hK=>?_);refine sqGb rfl Try.func43 (spec_l8Wrapped.calls _ _ _ _ _ _ A101.out) ?_;intro w103 hb;replace z0:=sqRbR z0 hb;replace B0:=sqb B0 hb;replace B1:=sqb B1 hb;replace B2:=sqb B2 hb;replace B3:=sqb B3 hb;replace HB:=Aside0.mk (below_step (sqB2 HB (IsS63.ge HI579.out)) hb);replace HI579:=Aside0.mk (IsS63.below (IsS63.mv HI579) hb);(try clear hb);refine hK.out _ _ ⟨(blk_cell (Aside0.mk HI579.out.1).out 0).trans rfl,(blk_cell (Aside0.mk HI579.out.1).out 1).trans rfl,(blk_cell (Aside0.mk HI579.out.1).out 2).trans rfl⟩ (fun hHeld=>?_);clear hK K;refine sqnm ?_;refine sqo0 HT_ 10 (fun K hK=>?_);obtain ⟨_,_,_,_⟩:=sqc2 B2;obtain ⟨_,_,_,_,_,_⟩:=sqN3 N0_2 N1_2 N3_2;refine sqsk ?_;have B9:=Aside0.mk HI579.out.1;refine hK.out _ _ sqzf (fun hHeld=>?_);clear hK K;refine sqp HT_ 11 7 ?_;refine done_ (done_of HT_.out (by kernel_rfl)) ?_
            try go_wp2
            refine bodyPost_ret (results_ct rfl _ _ gb2 24 #[.int .i64 t25,.int .i64 t26] (0,0) _ rfl (sqP B2) Try.underlying24 rfl (by kernel_rfl)) rfl ?_;exact ⟨_,sqEw,sqF1Rf (sqtyR z0 B2) (fun _ hk=>trivial),sqB2 HB (IsS63.ge HI579.out)⟩
           have zo : decide (11 ≤ a0) = false:=decide_eq_false c100;clear c100;have zc:=Aside0.mk H;clear H;go_upto_region 17 with (fail);go_cut [107] (fun zp wc=>∃ (kq : Nat) (x8 : Bool),zp = .bool x8∧Aside0 (spec_RangeDo.j5 kq z2 x2 x8 a2_0 a2_1 x3 x4 x5 x6 x7 = some (r1,r2,r3))∧Aside0 (kq ≤ kj83)∧Aside0 (Kd.R (Kd.int .i64) 3 wc w.heap.size (fun _=>True) z3 z2)∧Aside0 (wc.heap[gb0]? = some (.cells #[.int .i64 a1_0,.int .i64 a1_1] 24 (0,0)))∧Aside0 (wc.heap[gb1]? = some (.cells #[.int .i64 a2_0,.int .i64 a2_1] 24 (0,0)))∧Aside0 (wc.heap[gb2]? = some (.cells #[.int .i64 0,.int .i64 0] 24 (0,0)))∧Aside0 (wc.heap[gb3]? = some (.cells #[.int .i64 x3,.int .i64 x4] 24 (0,0)))∧Aside0 (IsS63 w wc g579 x5 x6 x7)∧Aside0 (Below w.heap.size w wc))
           case first =>
            have H:=zc.out;clear zc;rcases sqI (x5 = true) with c107 | c107
            ·replace c107:=Bool.eq_false_iff.mpr c107;subst c107;rw [sqff] at H;have H':=Aside0.mk H;clear H;obtain ⟨HGz111,hgz111⟩:=HI579.out;have zy:=cellS63_0 HGz111;have zz:=cellS63_1 HGz111;have zA:=cellS63_2 HGz111;have zB:=blk_frozen HGz111 0;have zC:=blk_frozen HGz111 1;have zD:=blk_frozen HGz111 2;clear HGz111 hgz111
             go_wp2
             go_meet
             case rel=>exact ⟨_,(false),sqE,H',⟨by have:=HJ3.out;have:=HJ39.out;have:=HJ60.out;have:=HJ70.out;have:=HJ83.out;first | omega | exact Nat.le_refl _⟩,⟨sqy z0.out⟩,sqk B0,sqk B1,sqk B2,sqk B3,⟨IsS63.mv HI579⟩,⟨sqB2 HB (IsS63.ge HI579.out)⟩⟩
            subst c107;rw [if_pos rfl] at H;replace H:=sqj H;rcases H with ⟨c108,H⟩ | ⟨c108,H⟩
            ·have z9:=decide_eq_true c108;clear c108
             (first | rw [z9] | (simp only [i64_w,i32_w];rw [z9]) | skip)
             have H':=Aside0.mk H;clear H;obtain ⟨HGz109,hgz109⟩:=HI579.out;have zE:=cellS63_0 HGz109;have zF:=cellS63_1 HGz109;have zG:=cellS63_2 HGz109;have zH:=blk_frozen HGz109 0;have zI:=blk_frozen HGz109 1;have zJ:=blk_frozen HGz109 2;clear HGz109 hgz109
             go_wp2
             go_meet
             case rel=>exact ⟨_,(true),sqE,H',⟨by have:=HJ3.out;have:=HJ39.out;have:=HJ60.out;have:=HJ70.out;have:=HJ83.out;first | omega | exact Nat.le_refl _⟩,⟨sqy z0.out⟩,sqk B0,sqk B1,sqk B2,sqk B3,⟨IsS63.mv HI579⟩,⟨sqB2 HB (IsS63.ge HI579.out)⟩⟩
            have z9:=decide_eq_false c108;clear c108
            (first | rw [z9] | (simp only [i64_w,i32_w];rw [z9]) | skip)
            have H':=Aside0.mk H;clear H;obtain ⟨HGz110,hgz110⟩:=HI579.out;have zK:=cellS63_0 HGz110;have zL:=cellS63_1 HGz110;have zM:=cellS63_2 HGz110;have zN:=blk_frozen HGz110 0;have zO:=blk_frozen HGz110 1;have zP:=blk_frozen HGz110 2;clear HGz110 hgz110
            go_wp2
            go_meet
            case rel=>exact ⟨_,(decide (x7 > 2147483647)),sqE,H',⟨by have:=HJ3.out;have:=HJ39.out;have:=HJ60.out;have:=HJ70.out;have:=HJ83.out;first | omega | exact Nat.le_refl _⟩,⟨sqy z0.out⟩,sqk B0,sqk B1,sqk B2,sqk B3,⟨IsS63.mv HI579⟩,⟨sqB2 HB (IsS63.ge HI579.out)⟩⟩
           case rest =>
            clear zc;obtain ⟨kq,x8,rfl,HA,HJ105,z0,B0,B1,B2,B3,HI579,HB⟩:=hcut;cases kq with
            | zero=>exact absurd HA.out (by simp [spec_RangeDo.j5])
            | succ kj105 =>
             have H:=HA.out;clear HA;simp only [spec_RangeDo.j5] at H;have zd:=Aside0.mk H;clear H
             go_upto_if 107 with (fail)
             go_cut [8] (fun v8 wc=>∃ (kq : Nat) (x9 : List Int),Aside0 (spec_RangeDo.j6 kq x9 x2 a2_0 a2_1 x3 x4 x5 x6 x7 = some (r1,r2,r3))∧Aside0 (kq ≤ kj105)∧Aside0 (Kd.R (Kd.int .i64) 3 wc w.heap.size (fun _=>True) v8 x9)∧Aside0 (wc.heap[gb0]? = some (.cells #[.int .i64 a1_0,.int .i64 a1_1] 24 (0,0)))∧Aside0 (wc.heap[gb1]? = some (.cells #[.int .i64 a2_0,.int .i64 a2_1] 24 (0,0)))∧Aside0 (wc.heap[gb2]? = some (.cells #[.int .i64 0,.int .i64 0] 24 (0,0)))∧Aside0 (wc.heap[gb3]? = some (.cells #[.int .i64 x3,.int .i64 x4] 24 (0,0)))∧Aside0 (IsS63 w wc g579 x5 x6 x7)∧Aside0 (Below w.heap.size w wc))
             case first =>
              have H:=zd.out;clear zd;rcases sqI (x8 = true) with c113 | c113
              ·replace c113:=Bool.eq_false_iff.mpr c113;subst c113;rw [sqff] at H;have H':=Aside0.mk H;clear H
               go_wp2
               go_meet
               case rel=>exact ⟨_,(z2),H',⟨by have:=HJ3.out;have:=HJ39.out;have:=HJ60.out;have:=HJ70.out;have:=HJ83.out;have:=HJ105.out;first | omega | exact Nat.le_refl _⟩,⟨sqy z0.out⟩,sqk B0,sqk B1,sqk B2,sqk B3,⟨IsS63.mv HI579⟩,⟨sqB2 HB (IsS63.ge HI579.out)⟩⟩
              subst c113;rw [if_pos rfl] at H;replace H:=sqi H;rcases H with ⟨c114,H⟩ | ⟨c114,H⟩
              ·cases H
              have LMc114:=Aside0.mk c114;clear c114;obtain ⟨zh,za⟩ : ∃ y_ : List Int,y_ = (z2 ++ [1]):=⟨_,rfl⟩
              replace H : (spec_RangeDo.j6 kj105 zh x2 a2_0 a2_1 x3 x4 x5 x6 x7) = some (r1,r2,r3):=by first | (rw [za];with_reducible exact H) | (have H2_:=(Option.bind_some _ _).symm.trans H;rw [za];with_reducible exact H2_) | (have H2_:=(Option.bind_some _ _).symm.trans H;with_reducible exact H2_) | with_reducible exact H | (rw [za];exact H) | exact H
              have zq:=Aside0.mk za;clear za;have H':=Aside0.mk H;clear H;go_wp2_with (first | ((with_reducible refine gate_builtin (b:=.append) (xs:=#[.tmp 108,.tmp 109]) rfl ?_);at_builtin;refine Kd.R_append (Kd.int .i64) (w0:=w) w.heap.size rfl (.tmp 108) (.tmp 109) 27 3 (.int .i64 0) 8 rfl Try.underlying27 info3 rfl (by decide) (by omega) z3 z2 1 [.int .i64 1] (fun _=>True) (fun _=>False) rfl rfl ?aP (fun _ hk=>hk.elim) ?aF ?aO ?aB ?aS ?aL ?_;(case aP=>exact rfl);(case aB=>exact (sqB2 HB (IsS63.ge HI579.out)));(case aF=>exact (fun _ _=>trivial));(case aO=>exact (sqy z0.out));(case aS=>exact (below_size (sqB2 HB (IsS63.ge HI579.out))));(case aL=>have:=LMc114.out;omega);intro zQ w115 ho hb hg hat;rw [← zq.out] at ho;replace B0:=Aside0.mk (blk_grown (g:=gb0) (o:=.cells #[.int .i64 a1_0,.int .i64 a1_1] 24 (0,0)) (sqt B0.out) hg (Kd.R_ne z0.out B0.out (by decide)));replace B1:=Aside0.mk (blk_grown (g:=gb1) (o:=.cells #[.int .i64 a2_0,.int .i64 a2_1] 24 (0,0)) (sqt B1.out) hg (Kd.R_ne z0.out B1.out (by decide)));replace B2:=Aside0.mk (blk_grown (g:=gb2) (o:=.cells #[.int .i64 0,.int .i64 0] 24 (0,0)) (sqt B2.out) hg (Kd.R_ne z0.out B2.out (by decide)));replace B3:=Aside0.mk (blk_grown (g:=gb3) (o:=.cells #[.int .i64 x3,.int .i64 x4] 24 (0,0)) (sqt B3.out) hg (Kd.R_ne z0.out B3.out (by decide)));replace HI579:=Aside0.mk (IsS63.grown (IsS63.mv HI579) hg (IsS63.own_ne HI579.out z0.out (by decide)));replace HB:=Aside0.mk (hb);have zr:=Aside0.mk (ho);clear z0;clear ho hb hg hat));go_meet
              case rel=>exact ⟨_,(zh),H',⟨by have:=HJ3.out;have:=HJ39.out;have:=HJ60.out;have:=HJ70.out;have:=HJ83.out;have:=HJ105.out;first | omega | exact Nat.le_refl _⟩,⟨sqy zr.out⟩,sqk B0,sqk B1,sqk B2,sqk B3,⟨IsS63.mv HI579⟩,⟨sqB2 HB (IsS63.ge HI579.out)⟩⟩
             case rest =>
              clear zd;obtain ⟨kq,x9,HA,HJ111,z0,B0,B1,B2,B3,HI579,HB⟩:=hcut;cases kq with
              | zero=>exact absurd HA.out (by simp [spec_RangeDo.j6])
              | succ kj111 =>
               have H:=HA.out;clear HA;simp only [spec_RangeDo.j6] at H;have ze:=Aside0.mk H;clear H;go_upto_region 19 with (fail);go_cut [116] (fun zt wc=>∃ (kq : Nat) (x10 : Bool),zt = .bool x10∧Aside0 (spec_RangeDo.j7 kq x9 x10 x5 x6 x7 = some (r1,r2,r3))∧Aside0 (kq ≤ kj111)∧Aside0 (Kd.R (Kd.int .i64) 3 wc w.heap.size (fun _=>True) u8 x9)∧Aside0 (wc.heap[gb0]? = some (.cells #[.int .i64 a1_0,.int .i64 a1_1] 24 (0,0)))∧Aside0 (wc.heap[gb1]? = some (.cells #[.int .i64 a2_0,.int .i64 a2_1] 24 (0,0)))∧Aside0 (wc.heap[gb2]? = some (.cells #[.int .i64 0,.int .i64 0] 24 (0,0)))∧Aside0 (wc.heap[gb3]? = some (.cells #[.int .i64 x3,.int .i64 x4] 24 (0,0)))∧Aside0 (IsS63 w wc g579 x5 x6 x7)∧Aside0 (Below w.heap.size w wc))
               case first =>
                have H:=ze.out;clear ze;rcases sqI (x2 = true) with c117 | c117
                ·replace c117:=Bool.eq_false_iff.mpr c117;subst c117;rw [sqff] at H;have H':=Aside0.mk H;clear H
                 go_wp2
                 go_meet
                 case rel=>exact ⟨_,(false),sqE,H',⟨by have:=HJ3.out;have:=HJ39.out;have:=HJ60.out;have:=HJ70.out;have:=HJ83.out;have:=HJ105.out;have:=HJ111.out;first | omega | exact Nat.le_refl _⟩,⟨sqy z0.out⟩,sqk B0,sqk B1,sqk B2,sqk B3,⟨IsS63.mv HI579⟩,⟨sqB2 HB (IsS63.ge HI579.out)⟩⟩
                subst c117;rw [if_pos rfl] at H;have H':=Aside0.mk H;clear H;obtain ⟨_,_,_,_,_,_,_,_⟩:=sqN4 N3_0 N3_1 N3_2 N3_4;obtain ⟨_,_,_,_⟩:=sqc2 B3;obtain ⟨_,_,_,_,_,_⟩:=sqN3 N1_0 N1_2 N1_4;obtain ⟨_,_,_,_⟩:=sqc2 B1
                go_wp2
                go_meet
                case rel=>exact ⟨_,((!(x3 == a2_0) || (!(x4 == a2_1)))),sqE,H',⟨by have:=HJ3.out;have:=HJ39.out;have:=HJ60.out;have:=HJ70.out;have:=HJ83.out;have:=HJ105.out;have:=HJ111.out;first | omega | exact Nat.le_refl _⟩,⟨sqy z0.out⟩,sqk B0,sqk B1,sqk B2,sqk B3,⟨IsS63.mv HI579⟩,⟨sqB2 HB (IsS63.ge HI579.out)⟩⟩
               case rest =>
                clear ze;obtain ⟨kq,x10,rfl,HA,HJ115,z0,B0,B1,B2,B3,HI579,HB⟩:=hcut;cases kq with
                | zero=>exact absurd HA.out (by simp [spec_RangeDo.j7])
                | succ kj115 =>
                 have H:=HA.out;clear HA;simp only [spec_RangeDo.j7] at H;have zf:=Aside0.mk H;clear H
                 go_upto_if 116 with (fail)
                 go_cut [8] (fun v8 wc=>∃ (kq : Nat) (x11 : List Int),Aside0 (spec_RangeDo.j8 kq x11 x5 x6 x7 = some (r1,r2,r3))∧Aside0 (kq ≤ kj115)∧Aside0 (Kd.R (Kd.int .i64) 3 wc w.heap.size (fun _=>True) v8 x11)∧Aside0 (wc.heap[gb0]? = some (.cells #[.int .i64 a1_0,.int .i64 a1_1] 24 (0,0)))∧Aside0 (wc.heap[gb1]? = some (.cells #[.int .i64 a2_0,.int .i64 a2_1] 24 (0,0)))∧Aside0 (wc.heap[gb2]? = some (.cells #[.int .i64 0,.int .i64 0] 24 (0,0)))∧Aside0 (wc.heap[gb3]? = some (.cells #[.int .i64 x3,.int .i64 x4] 24 (0,0)))∧Aside0 (IsS63 w wc g579 x5 x6 x7)∧Aside0 (Below w.heap.size w wc))
                 case first =>
                  have H:=zf.out;clear zf;rcases sqI (x10 = true) with c128 | c128
                  ·replace c128:=Bool.eq_false_iff.mpr c128;subst c128;rw [sqff] at H;have H':=Aside0.mk H;clear H
                   go_wp2
                   go_meet
                   case rel=>exact ⟨_,(x9),H',⟨by have:=HJ3.out;have:=HJ39.out;have:=HJ60.out;have:=HJ70.out;have:=HJ83.out;have:=HJ105.out;have:=HJ111.out;have:=HJ115.out;first | omega | exact Nat.le_refl _⟩,⟨sqy z0.out⟩,sqk B0,sqk B1,sqk B2,sqk B3,⟨IsS63.mv HI579⟩,⟨sqB2 HB (IsS63.ge HI579.out)⟩⟩
                  subst c128;rw [if_pos rfl] at H;replace H:=sqi H;rcases H with ⟨c129,H⟩ | ⟨c129,H⟩
                  ·cases H
                  have LMc129:=Aside0.mk c129;clear c129;obtain ⟨zi,zb⟩ : ∃ y_ : List Int,y_ = (x9 ++ [3]):=⟨_,rfl⟩
                  replace H : (spec_RangeDo.j8 kj115 zi x5 x6 x7) = some (r1,r2,r3):=by first | (rw [zb];with_reducible exact H) | (have H2_:=(Option.bind_some _ _).symm.trans H;rw [zb];with_reducible exact H2_) | (have H2_:=(Option.bind_some _ _).symm.trans H;with_reducible exact H2_) | with_reducible exact H | (rw [zb];exact H) | exact H
                  have zu:=Aside0.mk zb;clear zb;have H':=Aside0.mk H;clear H;go_wp2_with (first | ((with_reducible refine gate_builtin (b:=.append) (xs:=#[.tmp 117,.tmp 118]) rfl ?_);at_builtin;refine Kd.R_append (Kd.int .i64) (w0:=w) w.heap.size rfl (.tmp 117) (.tmp 118) 27 3 (.int .i64 0) 8 rfl Try.underlying27 info3 rfl (by decide) (by omega) u8 x9 3 [.int .i64 3] (fun _=>True) (fun _=>False) rfl rfl ?aP (fun _ hk=>hk.elim) ?aF ?aO ?aB ?aS ?aL ?_;(case aP=>exact rfl);(case aB=>exact (sqB2 HB (IsS63.ge HI579.out)));(case aF=>exact (fun _ _=>trivial));(case aO=>exact (sqy z0.out));(case aS=>exact (below_size (sqB2 HB (IsS63.ge HI579.out))));(case aL=>have:=LMc129.out;omega);intro zR w130 ho hb hg hat;rw [← zu.out] at ho;replace B0:=Aside0.mk (blk_grown (g:=gb0) (o:=.cells #[.int .i64 a1_0,.int .i64 a1_1] 24 (0,0)) (sqt B0.out) hg (Kd.R_ne z0.out B0.out (by decide)));replace B1:=Aside0.mk (blk_grown (g:=gb1) (o:=.cells #[.int .i64 a2_0,.int .i64 a2_1] 24 (0,0)) (sqt B1.out) hg (Kd.R_ne z0.out B1.out (by decide)));replace B2:=Aside0.mk (blk_grown (g:=gb2) (o:=.cells #[.int .i64 0,.int .i64 0] 24 (0,0)) (sqt B2.out) hg (Kd.R_ne z0.out B2.out (by decide)));replace B3:=Aside0.mk (blk_grown (g:=gb3) (o:=.cells #[.int .i64 x3,.int .i64 x4] 24 (0,0)) (sqt B3.out) hg (Kd.R_ne z0.out B3.out (by decide)));replace HI579:=Aside0.mk (IsS63.grown (IsS63.mv HI579) hg (IsS63.own_ne HI579.out z0.out (by decide)));replace HB:=Aside0.mk (hb);have zv:=Aside0.mk (ho);clear z0;clear ho hb hg hat));go_meet
                  case rel=>exact ⟨_,(zi),H',⟨by have:=HJ3.out;have:=HJ39.out;have:=HJ60.out;have:=HJ70.out;have:=HJ83.out;have:=HJ105.out;have:=HJ111.out;have:=HJ115.out;first | omega | exact Nat.le_refl _⟩,⟨sqy zv.out⟩,sqk B0,sqk B1,sqk B2,sqk B3,⟨IsS63.mv HI579⟩,⟨sqB2 HB (IsS63.ge HI579.out)⟩⟩
                 case rest =>
                  clear zf;obtain ⟨kq,x11,HA,HJ126,z0,B0,B1,B2,B3,HI579,HB⟩:=hcut;cases kq with
                  | zero=>exact absurd HA.out (by simp [spec_RangeDo.j8])
                  | succ kj126 =>
                   have H:=HA.out;clear HA;simp only [spec_RangeDo.j8] at H;rcases sqI (x5 = true) with c131 | c131
                   ·replace c131:=Bool.eq_false_iff.mpr c131;subst c131;rw [sqff] at H;replace H:=sqbi H;obtain ⟨⟨t27,t28⟩,A138,H⟩:=H;(try dsimp only at H);simp only [Option.some.injEq,Prod.mk.injEq] at H;obtain ⟨rfl,rfl,rfl⟩:=H;obtain ⟨HGz139,hgz139⟩:=HI579.out;have zS:=cellS63_0 HGz139;have zT:=cellS63_1 HGz139;have zU:=cellS63_2 HGz139;have zV:=blk_frozen HGz139 0;have zW:=blk_frozen HGz139 1;have zX:=blk_frozen HGz139 2;clear HGz139 hgz139;go_wp2_with (first | ((with_reducible refine gf 38 rfl ?_);refine sqLb rfl (some 125) Try.func38 (spec_l8None.calls _ _ _ A138.out) ?_;intro w140 hb;replace z0:=sqRbR z0 hb;replace B0:=sqb B0 hb;replace B1:=sqb B1 hb;replace B2:=sqb B2 hb;replace B3:=sqb B3 hb;replace HB:=Aside0.mk (below_step (sqB2 HB (IsS63.ge HI579.out)) hb);replace HI579:=Aside0.mk (IsS63.below (IsS63.mv HI579) hb);(try clear hb);obtain ⟨_,_,_,_,_,_,_,_⟩:=sqN4 N2_0 N2_1 N2_3 N2_4;obtain ⟨_,_,_,_⟩:=sqc2 B2));refine bodyPost_ret (results_ct rfl _ _ gb2 24 #[.int .i64 t27,.int .i64 t28] (0,0) _ rfl (sqP B2) Try.underlying24 rfl (by kernel_rfl)) rfl ?_;exact ⟨_,sqEw,sqF1Rf (sqtyR z0 B2) (fun _ hk=>trivial),sqB2 HB (IsS63.ge HI579.out)⟩
                   subst c131;rw [if_pos rfl] at H;replace H:=sqbi H;obtain ⟨⟨t29,t30⟩,A132,H⟩:=H;(try dsimp only at H);simp only [Option.some.injEq,Prod.mk.injEq] at H;obtain ⟨rfl,rfl,rfl⟩:=H;obtain ⟨HGz133,hgz133⟩:=HI579.out;have zY:=cellS63_0 HGz133;have zZ:=cellS63_1 HGz133;have j9:=cellS63_2 HGz133;have ja:=blk_frozen HGz133 0;have jb:=blk_frozen HGz133 1;have jc:=blk_frozen HGz133 2;clear HGz133 hgz133
                   try go_wp2
                   replace z0:=sqdrR z0;replace B0:=sqdr B0;replace B1:=sqdr B1;replace B2:=sqdr B2;replace B3:=sqdr B3;replace HI579:=Aside0.mk (IsS63.drew HI579.out);replace HB:=sqdB HB;refine sqsT 12 (fun w'=>w'.cell? ⟨g579,0,none⟩ = some (.bool true)∧w'.cell? ⟨g579,1,none⟩ = some (.int .i64 x6)∧w'.cell? ⟨g579,2,none⟩ = some (.int .i64 x7)) [] ⟨(blk_cell (Aside0.mk HI579.out.1).out 0).trans rfl,(blk_cell (Aside0.mk HI579.out.1).out 1).trans rfl,(blk_cell (Aside0.mk HI579.out.1).out 2).trans rfl⟩ (fun hHeld=>?_);refine with_tabW spec_RangeDo.tab23 spec_RangeDo.bits23 (fun HT_ HW_=>?_);generalize wc.drew = w134 at z0 B0 B1 B2 B3 HI579 HB hHeld ⊢;refine sqp HT_ 0 127 ?_;refine sqp HT_ 1 128 ?_;refine sqp HT_ 2 129 ?_;refine sqp HT_ 4 131 ?_;refine sqp HT_ 5 132 ?_;refine sqp HT_ 6 133 ?_;refine sqp HT_ 9 136 ?_;refine sqw HT_ HW_ 3 130 hHeld ?_;refine sqw HT_ HW_ 7 134 hHeld ?_;refine sqo HT_ 8 135 (fun K hK=>?_);refine sqGb rfl Try.func44 (spec_l8Cut.calls _ _ _ _ _ A132.out) ?_;intro w135 hb;replace z0:=sqRbR z0 hb;replace B0:=sqb B0 hb;replace B1:=sqb B1 hb;replace B2:=sqb B2 hb;replace B3:=sqb B3 hb;replace HB:=Aside0.mk (below_step (sqB2 HB (IsS63.ge HI579.out)) hb);replace HI579:=Aside0.mk (IsS63.below (IsS63.mv HI579) hb);(try clear hb);refine hK.out _ _ ⟨(blk_cell (Aside0.mk HI579.out.1).out 0).trans rfl,(blk_cell (Aside0.mk HI579.out.1).out 1).trans rfl,(blk_cell (Aside0.mk HI579.out.1).out 2).trans rfl⟩ (fun hHeld=>?_);clear hK K;refine sqnm ?_;refine sqo0 HT_ 10 (fun K hK=>?_);obtain ⟨_,_,_,_⟩:=sqc2 B2;obtain ⟨_,_,_,_,_,_⟩:=sqN3 N0_2 N1_2 N3_2;refine sqsk ?_;have B9:=Aside0.mk HI579.out.1;refine hK.out _ _ sqzf (fun hHeld=>?_);clear hK K;refine sqp HT_ 11 7 ?_;refine done_ (done_of HT_.out (by kernel_rfl)) ?_
                   try go_wp2
                   refine bodyPost_ret (results_ct rfl _ _ gb2 24 #[.int .i64 t29,.int .i64 t30] (0,0) _ rfl (sqP B2) Try.underlying24 rfl (by kernel_rfl)) rfl ?_;exact ⟨_,sqEw,sqF1Rf (sqtyR z0 B2) (fun _ hk=>trivial),sqB2 HB (IsS63.ge HI579.out)⟩

end Go.Proofs.Ytlbheepfmjbpnaa.PFnRangeDo
