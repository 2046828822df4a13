/- Functions of the program as plain Lean functions, and that calls of them come to what these tell. Conditions: those in each law. -/
import Derived.Test.YtlbheepfmjbpnaaSq
import Derived.Test.YtlbheepfmjbpnaaDFnRangeDo
import Derived.Test.YtlbheepfmjbpnaaQFnRangeDox0
import Derived.Test.YtlbheepfmjbpnaaQFnRangeDox2
import Derived.Test.YtlbheepfmjbpnaaQFnRangeDox5
import Derived.Test.YtlbheepfmjbpnaaQFnRangeDox16
import Derived.Test.YtlbheepfmjbpnaaQFnRangeDox18
namespace Go.Proofs.Ytlbheepfmjbpnaa.PFnRangeDo
open Go.RowKit Go.Proofs.Ytlbheepfmjbpnaa.Sq Go.Proofs.YtlbheepfmjbpnaaW.PrintWords Go.Proofs.YtlbheepfmjbpnaaW.PrintLast Go.Proofs.YtlbheepfmjbpnaaW.PrintMore
attribute [local go_sem] max2_int min2_int max_two min_two max_three min_three max_four min_four   -- for this text's walks alone
set_option linter.unusedVariables false
set_option linter.unusedSimpArgs false

attribute [local go_sem high] eqA24
set_option maxHeartbeats 8000000
set_option maxRecDepth 100000
/-! ### spec_l8Div: function 39 -/
def spec_l8Div.T11 : Bool × List (List Nat × List Nat):=(true,[([],[]),([],[]),([],[]),([2],[2]),([3],[3]),([],[]),([5],[5]),([6],[6]),([1,4,7],[1,4,7]),([0,8,8],[0,8]),([9,9,0,1,2,3,4,5,6,7,8,9],[9])])
def spec_l8Div.B11 : List Nat:=[0,0,0,4,12,0,32,96,254,511,1023]
theorem spec_l8Div.tab11 : rtab .any (opsOf Try.f39 11) = spec_l8Div.T11:=by kernel_rfl
theorem spec_l8Div.bits11 : waitsOk spec_l8Div.T11.2 spec_l8Div.B11 = true:=by kernel_rfl
def spec_l8Div.T13 : Bool × List (List Nat × List Nat):=(true,[([],[]),([],[]),([],[]),([2],[2]),([],[]),([4],[4]),([1,3,5],[1,3,5]),([0,6,6],[0,6]),([7,7,0,1,2,3,4,5,6,7],[7])])
def spec_l8Div.B13 : List Nat:=[0,0,0,4,0,16,62,127,255]
theorem spec_l8Div.tab13 : rtab .any (opsOf Try.f39 13) = spec_l8Div.T13:=by kernel_rfl
theorem spec_l8Div.bits13 : waitsOk spec_l8Div.T13.2 spec_l8Div.B13 = true:=by kernel_rfl
def spec_l8Div.T25 : Bool × List (List Nat × List Nat):=(true,[([],[]),([0],[0]),([1],[1]),([2],[2]),([],[]),([4],[4]),([5],[5]),([6],[6]),([3,7],[3,7]),([],[]),([8,8,0,1,2,3,4,5,6,7,8],[8]),([9,10,0,1,2,3,4,5,6,7,8,9,10],[9])])
def spec_l8Div.B25 : List Nat:=[0,1,3,7,0,16,48,112,255,0,511,2047]
theorem spec_l8Div.tab25 : rtab .any (opsOf Try.f39 25) = spec_l8Div.T25:=by kernel_rfl
theorem spec_l8Div.bits25 : waitsOk spec_l8Div.T25.2 spec_l8Div.B25 = true:=by kernel_rfl
theorem spec_l8Div.calls (k : Nat) (a0 : Int) (a1_0 : Int) (a1_1 : Int) (a2_0 : Int) (a2_1 : Int) (r1 : Int) (r2 : Int) (r3 : List Int) (w : World) (h : spec_l8Div.f k a0 a1_0 a1_1 a2_0 a2_1 = some (r1,r2,r3)) :
  Calls Try.prog 39 #[.int .i64 a0,.agg #[.int .i64 a1_0,.int .i64 a1_1],.agg #[.int .i64 a2_0,.int .i64 a2_1]] w fun e w'=>∃ v2_ : Value,e = .returned (.tuple #[.agg #[.int .i64 r1,.int .i64 r2],v2_])∧Kd.R (Kd.int .i64) 3 w' w.heap.size (fun _=>True) v2_ r3∧Below w.heap.size w w':=by
 have hu24:=Try.underlying24;have HB:=Aside0.mk (Below.refl w.heap.size w);have H:=h;unfold spec_l8Div.f at H;clear h;obtain ⟨z2,z3⟩ : ∃ y_ : List Int,y_ = (([] : List Int)):=⟨_,rfl⟩
 replace H : ((spec_RangeMeet.f k a2_0 a2_1 (-2147483648) (-1)).bind fun bt0=>((spec_RangeMeet.f k a2_0 a2_1 1 2147483647).bind fun bt1=>(if a0 = 4 then (if a1_0 = (-2147483648) then ((spec_RangeHas.f a2_0 a2_1 (-1)).bind fun t2=>(spec_l8Div.j0 k a0 z2 t2 a1_0 a1_1 a2_0 a2_1 bt0.1 bt0.2 bt1.1 bt1.2)) else (spec_l8Div.j0 k a0 z2 false a1_0 a1_1 a2_0 a2_1 bt0.1 bt0.2 bt1.1 bt1.2)) else (spec_l8Div.j0 k a0 z2 false a1_0 a1_1 a2_0 a2_1 bt0.1 bt0.2 bt1.1 bt1.2)))) = some (r1,r2,r3):=by first | (rw [z3];with_reducible exact H) | (have H2_:=(Option.bind_some _ _).symm.trans H;rw [z3];with_reducible exact H2_) | (have H2_:=(Option.bind_some _ _).symm.trans H;with_reducible exact H2_) | with_reducible exact H | (rw [z3];exact H) | exact H
 have zc:=Aside0.mk z3;clear z3;replace H:=sqbi H;obtain ⟨⟨t0,t3⟩,A4,H⟩:=H;(try dsimp only at H);replace H:=sqbi H;obtain ⟨⟨t1,t4⟩,A5,H⟩:=H;(try dsimp only at H);have HC6:=Aside0.mk H;clear H;go_enter Try.func39,Try.ntmps39;go_upto_region 4 with (first | ((with_reducible refine gd 4 rfl ?_);refine sqX 4 #[.int .i64 a1_0,.int .i64 a1_1] 24 HB ?_;clear HB;intro gb0 hg w7 hb B0 GW0 HB;clear hb hg) | ((with_reducible refine gd 5 rfl ?_);refine sqX 5 #[.int .i64 a2_0,.int .i64 a2_1] 24 HB ?_;clear HB;intro gb1 hg w8 hb B1 GW1 HB;have N0_1:=sqn B0 hg;have N1_0:=sqm B0 hg;replace B0:=sqb B0 hb;clear hb hg) | ((with_reducible refine gd 6 rfl ?_);refine sqX 6 #[.int .i64 0,.int .i64 0] 24 HB ?_;clear HB;intro gb2 hg w9 hb B2 GW2 HB;have N0_2:=sqn B0 hg;have N2_0:=sqm B0 hg;have N1_2:=sqn B1 hg;have N2_1:=sqm B1 hg;refine sqM2 B0 B1 hb ?_;clear B0 B1;intro B0 B1;clear hb hg) | ((with_reducible refine gd 14 rfl ?_);refine Kd.R_lit (Kd.int .i64) _ 3 ?hg (N:=14) ?hd (xs:=([] : List Int)) (inner:=[]) (ok:=fun _=>True) (okp:=fun _=>True) ?hr ?hp (fun _ hk=>hk) trivial (Below.refl _ _) (Nat.le_refl _) (by simp) ?_;(case hd=>rfl);(case hg=>rfl);(case hr=>first | (go_simp;done) | (go_simp;rfl));(case hp=>exact (Reps.none _ _));intro zd w10 ho11 hb hg_ hnew_;clear hg_ hnew_;(first | rw [← zc.out] at ho11 | (simp only [Int.reduceToNat] at ho11;rw [← zc.out] at ho11));have z1:=Aside0.mk (Kd.R_lower ho11 (below_size (sqB HB)));refine sqM3 B0 B1 B2 hb ?_;clear B0 B1 B2;intro B0 B1 B2;replace HB:=sqs HB hb;clear hb ho11;obtain ⟨_,_,_,_⟩:=sqN2 N1_0 N1_2;obtain ⟨_,_,_,_⟩:=sqc2 B1) | ((with_reducible refine gf 41 rfl ?_);refine sqLb rfl (some 17) Try.func41 (spec_RangeMeet.calls _ _ _ _ _ _ _ _ A4.out) ?_;intro w15 hb;replace z1:=sqRbR z1 hb;replace B0:=sqb B0 hb;replace B1:=sqb B1 hb;replace B2:=sqb B2 hb;replace HB:=sqs HB hb;(try clear hb)) | ((with_reducible refine gd 9 rfl ?_);refine sqX 9 #[.int .i64 0,.int .i64 0] 24 HB ?_;clear HB;intro gb3 hg w16 hb B3 GW3 HB;replace z1:=sqRbR z1 hb;have N0_3:=sqn B0 hg;have N3_0:=sqm B0 hg;replace B0:=sqb B0 hb;have N1_3:=sqn B1 hg;have N3_1:=sqm B1 hg;replace B1:=sqb B1 hb;have N2_3:=sqn B2 hg;have N3_2:=sqm B2 hg;replace B2:=sqb B2 hb;clear hb hg;obtain ⟨_,_,_,_,_,_⟩:=sqN3 N3_0 N3_1 N3_2;obtain ⟨_,_,_,_⟩:=sqc2 B3;obtain ⟨_,_,_,_⟩:=sqc2 B1) | ((with_reducible refine gf 41 rfl ?_);refine sqLb rfl (some 20) Try.func41 (spec_RangeMeet.calls _ _ _ _ _ _ _ _ A5.out) ?_;intro w22 hb;replace z1:=sqRwR (sqF1R (sqtyR z1 B3)) hb;replace B0:=sqbb B0 hb;replace B1:=sqbb B1 hb;replace B2:=sqbb B2 hb;replace B3:=sqPb (ds:=#[.int .i64 t0,.int .i64 t3]) B3 hb;replace HB:=sqs HB hb;(try clear hb);(try clear hb2);(try clear hk);(try clear hi)) | ((with_reducible refine gd 10 rfl ?_);refine sqX 10 #[.int .i64 0,.int .i64 0] 24 HB ?_;clear HB;intro gb4 hg w23 hb B4 GW4 HB;replace z1:=sqRbR z1 hb;have N0_4:=sqn B0 hg;have N4_0:=sqm B0 hg;replace B0:=sqb B0 hb;have N1_4:=sqn B1 hg;have N4_1:=sqm B1 hg;replace B1:=sqb B1 hb;have N2_4:=sqn B2 hg;have N4_2:=sqm B2 hg;replace B2:=sqb B2 hb;have N3_4:=sqn B3 hg;have N4_3:=sqm B3 hg;replace B3:=sqb B3 hb;clear hb hg;obtain ⟨_,_,_,_,_,_,_,_⟩:=sqN4 N4_0 N4_1 N4_2 N4_3;obtain ⟨_,_,_,_⟩:=sqc2 B4))
 (try simp only [Act.put,List.setIfInBounds_toArray,List.set_cons_zero,List.set_cons_succ])
 go_cut [31] (fun v31 wc=>∃ (kq : Nat) (x0 : Bool),v31 = .bool x0∧Aside0 (spec_l8Div.j0 kq a0 z2 x0 a1_0 a1_1 a2_0 a2_1 t0 t3 t1 t4 = some (r1,r2,r3))∧Aside0 (kq ≤ k)∧Aside0 (Kd.R (Kd.int .i64) 3 wc w.heap.size (fun _=>True) zd z2)∧Aside0 (wc.heap[gb0]? = some (.cells #[.int .i64 a1_0,.int .i64 a1_1] 24 (0,0)))∧Aside0 (wc.heap[gb1]? = some (.cells #[.int .i64 a2_0,.int .i64 a2_1] 24 (0,0)))∧Aside0 (wc.heap[gb2]? = some (.cells #[.int .i64 0,.int .i64 0] 24 (0,0)))∧Aside0 (wc.heap[gb3]? = some (.cells #[.int .i64 t0,.int .i64 t3] 24 (0,0)))∧Aside0 (wc.heap[gb4]? = some (.cells #[.int .i64 t1,.int .i64 t4] 24 (0,0)))∧Aside0 (Below w.heap.size w wc))
 case first =>
  have H:=HC6.out;clear HC6;replace H:=sqi H;rcases H with ⟨c29,H⟩ | ⟨c29,H⟩
  ·have z4 : (a0 == 4) = false:=beq_eq_false_iff_ne.mpr c29;have zg : (a0 != 4) = true:=bne_iff_ne.mpr c29
   (first | rw [z4] | (simp only [i64_w,i32_w];rw [z4]) | skip)
   have H':=Aside0.mk H;clear H
   go_wp2
   go_meet
   case rel=>exact ⟨_,(false),sqE,H',⟨sqle⟩,⟨sqF1Rf (sqtyR z1 B4) (fun _ hk=>trivial)⟩,⟨sqT B0⟩,⟨sqT B1⟩,⟨sqT B2⟩,⟨sqT B3⟩,⟨sqP B4⟩,sqh HB⟩
  have z4 : (a0 == 4) = true:=beq_iff_eq.mpr c29;have zg : (a0 != 4) = false:=bne_eq_false_iff_eq.mpr c29;clear c29
  (first | rw [z4] | (simp only [i64_w,i32_w];rw [z4]) | skip)
  replace H:=sqi H;rcases H with ⟨c30,H⟩ | ⟨c30,H⟩
  ·have zh : (a1_0 == (-2147483648)) = false:=beq_eq_false_iff_ne.mpr c30;have zi : (a1_0 != (-2147483648)) = true:=bne_iff_ne.mpr c30;have H':=Aside0.mk H;clear H;obtain ⟨_,_,_,_,_,_,_,_⟩:=sqN4 N0_1 N0_2 N0_3 N0_4;obtain ⟨_,_,_,_⟩:=sqc2 B0
   go_wp2
   go_meet
   case rel=>exact ⟨_,(false),sqE,H',⟨sqle⟩,⟨sqF1Rf (sqtyR z1 B4) (fun _ hk=>trivial)⟩,⟨sqT B0⟩,⟨sqT B1⟩,⟨sqT B2⟩,⟨sqT B3⟩,⟨sqP B4⟩,sqh HB⟩
  have zh : (a1_0 == (-2147483648)) = true:=beq_iff_eq.mpr c30;have zi : (a1_0 != (-2147483648)) = false:=bne_eq_false_iff_eq.mpr c30;clear c30;replace H:=sqbi H;obtain ⟨t2,A31,H⟩:=H;(try dsimp only at H);have H':=Aside0.mk H;clear H;obtain ⟨_,_,_,_,_,_,_,_⟩:=sqN4 N0_1 N0_2 N0_3 N0_4;obtain ⟨_,_,_,_⟩:=sqc2 B0;obtain ⟨_,_,_,_,_,_⟩:=sqN3 N1_2 N1_3 N1_4;obtain ⟨_,_,_,_⟩:=sqc2 B1;go_wp2_with (first | (go_at_call 67;(with_reducible refine (spec_RangeHas.calls a2_0 a2_1 (-1) t2 _ A31.out).mono ?_);rintro e w41 ⟨rfl,hb⟩;replace z1:=sqRwR (sqF1R (sqtyR z1 B4)) hb;replace B0:=sqbb B0 hb;replace B1:=sqbb B1 hb;replace B2:=sqbb B2 hb;replace B3:=sqbb B3 hb;replace B4:=sqPb (ds:=#[.int .i64 t1,.int .i64 t4]) B4 hb;replace HB:=sqs HB hb;(try clear hb);(try clear hb2);(try clear hk);(try clear hi)));go_meet
  case rel=>exact ⟨_,(t2),sqE,H',⟨sqle⟩,⟨sqy z1.out⟩,sqk B0,sqk B1,sqk B2,sqk B3,sqk B4,sqh HB⟩
 case rest =>
  clear HC6;obtain ⟨kq,x0,rfl,HA,HJ5,z0,B0,B1,B2,B3,B4,HB⟩:=hcut;cases kq with
  | zero=>exact absurd HA.out (by simp [spec_l8Div.j0])
  | succ kj5 =>
   have H:=HA.out;clear HA;simp only [spec_l8Div.j0] at H;have HC47:=Aside0.mk H;clear H
   go_upto_if 31 with (fail)
   go_cut [8] (fun v8 wc=>∃ (kq : Nat) (x1 : List Int),Aside0 (spec_l8Div.j1 kq a0 x1 a1_0 a1_1 a2_0 a2_1 t0 t3 t1 t4 = some (r1,r2,r3))∧Aside0 (kq ≤ kj5)∧Aside0 (Kd.R (Kd.int .i64) 3 wc w.heap.size (fun _=>True) v8 x1)∧Aside0 (wc.heap[gb0]? = some (.cells #[.int .i64 a1_0,.int .i64 a1_1] 24 (0,0)))∧Aside0 (wc.heap[gb1]? = some (.cells #[.int .i64 a2_0,.int .i64 a2_1] 24 (0,0)))∧Aside0 (wc.heap[gb2]? = some (.cells #[.int .i64 0,.int .i64 0] 24 (0,0)))∧Aside0 (wc.heap[gb3]? = some (.cells #[.int .i64 t0,.int .i64 t3] 24 (0,0)))∧Aside0 (wc.heap[gb4]? = some (.cells #[.int .i64 t1,.int .i64 t4] 24 (0,0)))∧Aside0 (Below w.heap.size w wc))
   case first =>
    have H:=HC47.out;clear HC47;rcases sqI (x0 = true) with c48 | c48
    ·replace c48:=Bool.eq_false_iff.mpr c48;subst c48;rw [sqff] at H;have H':=Aside0.mk H;clear H
     go_wp2
     go_meet
     case rel=>exact ⟨_,(z2),H',⟨by have:=HJ5.out;first | omega | exact Nat.le_refl _⟩,⟨sqy z0.out⟩,sqk B0,sqk B1,sqk B2,sqk B3,sqk B4,sqh HB⟩
    subst c48;rw [if_pos rfl] at H;replace H:=sqi H;rcases H with ⟨c49,H⟩ | ⟨c49,H⟩
    ·cases H
    have LMc49:=Aside0.mk c49;clear c49;obtain ⟨ze,z5⟩ : ∃ y_ : List Int,y_ = (z2 ++ [1]):=⟨_,rfl⟩
    replace H : (spec_l8Div.j1 kj5 a0 ze a1_0 a1_1 a2_0 a2_1 t0 t3 t1 t4) = some (r1,r2,r3):=by first | (rw [z5];with_reducible exact H) | (have H2_:=(Option.bind_some _ _).symm.trans H;rw [z5];with_reducible exact H2_) | (have H2_:=(Option.bind_some _ _).symm.trans H;with_reducible exact H2_) | with_reducible exact H | (rw [z5];exact H) | exact H
    have zj:=Aside0.mk z5;clear z5;have H':=Aside0.mk H;clear H;go_wp2_with (first | ((with_reducible refine gate_builtin (b:=.append) (xs:=#[.tmp 32,.tmp 33]) rfl ?_);at_builtin;refine Kd.R_append (Kd.int .i64) (w0:=w) w.heap.size rfl (.tmp 32) (.tmp 33) 27 3 (.int .i64 0) 8 rfl Try.underlying27 info3 rfl (by decide) (by omega) zd z2 1 [.int .i64 1] (fun _=>True) (fun _=>False) rfl rfl ?aP (fun _ hk=>hk.elim) ?aF ?aO ?aB ?aS ?aL ?_;(case aP=>exact rfl);(case aB=>exact (sqB HB));(case aF=>exact (fun _ _=>trivial));(case aO=>exact (sqy z0.out));(case aS=>exact (below_size (sqB HB)));(case aL=>have:=LMc49.out;omega);intro zD w50 ho hb hg hat;rw [← zj.out] at ho;replace B0:=Aside0.mk (blk_grown (g:=gb0) (o:=.cells #[.int .i64 a1_0,.int .i64 a1_1] 24 (0,0)) (sqt B0.out) hg (Kd.R_ne z0.out B0.out (by decide)));replace B1:=Aside0.mk (blk_grown (g:=gb1) (o:=.cells #[.int .i64 a2_0,.int .i64 a2_1] 24 (0,0)) (sqt B1.out) hg (Kd.R_ne z0.out B1.out (by decide)));replace B2:=Aside0.mk (blk_grown (g:=gb2) (o:=.cells #[.int .i64 0,.int .i64 0] 24 (0,0)) (sqt B2.out) hg (Kd.R_ne z0.out B2.out (by decide)));replace B3:=Aside0.mk (blk_grown (g:=gb3) (o:=.cells #[.int .i64 t0,.int .i64 t3] 24 (0,0)) (sqt B3.out) hg (Kd.R_ne z0.out B3.out (by decide)));replace B4:=Aside0.mk (blk_grown (g:=gb4) (o:=.cells #[.int .i64 t1,.int .i64 t4] 24 (0,0)) (sqt B4.out) hg (Kd.R_ne z0.out B4.out (by decide)));replace HB:=Aside0.mk (hb);have zk:=Aside0.mk (ho);clear z0;clear ho hb hg hat));go_meet
    case rel=>exact ⟨_,(ze),H',⟨by have:=HJ5.out;first | omega | exact Nat.le_refl _⟩,⟨sqy zk.out⟩,sqk B0,sqk B1,sqk B2,sqk B3,sqk B4,sqh HB⟩
   case rest =>
    clear HC47;obtain ⟨kq,x1,HA,HJ46,z0,B0,B1,B2,B3,B4,HB⟩:=hcut;cases kq with
    | zero=>exact absurd HA.out (by simp [spec_l8Div.j1])
    | succ kj46 =>
     have H:=HA.out;clear HA;simp only [spec_l8Div.j1] at H;replace H:=sqbi H;obtain ⟨t5,A51,H⟩:=H;(try dsimp only at H);have HC52:=Aside0.mk H;clear H;obtain ⟨_,_,_,_,_,_,_,_⟩:=sqN4 N1_0 N1_2 N1_3 N1_4;obtain ⟨_,_,_,_⟩:=sqc2 B1
     go_upto_if 36 with (first | ((with_reducible refine gf 67 rfl ?_);refine sqLb rfl (some 36) Try.func67 (spec_RangeHas.calls _ _ _ _ _ A51.out) ?_;intro w58 hb;replace z0:=sqRbR z0 hb;replace B0:=sqb B0 hb;replace B1:=sqb B1 hb;replace B2:=sqb B2 hb;replace B3:=sqb B3 hb;replace B4:=sqb B4 hb;replace HB:=sqs HB hb;(try clear hb)))
     (try simp only [Act.put,List.setIfInBounds_toArray,List.set_cons_zero,List.set_cons_succ])
     go_cut [8] (fun v8 wc=>∃ (kq : Nat) (x2 : List Int),Aside0 (spec_l8Div.j2 kq a0 x2 a1_0 a1_1 a2_0 a2_1 t0 t3 t1 t4 = some (r1,r2,r3))∧Aside0 (kq ≤ kj46)∧Aside0 (Kd.R (Kd.int .i64) 3 wc w.heap.size (fun _=>True) v8 x2)∧Aside0 (wc.heap[gb0]? = some (.cells #[.int .i64 a1_0,.int .i64 a1_1] 24 (0,0)))∧Aside0 (wc.heap[gb1]? = some (.cells #[.int .i64 a2_0,.int .i64 a2_1] 24 (0,0)))∧Aside0 (wc.heap[gb2]? = some (.cells #[.int .i64 0,.int .i64 0] 24 (0,0)))∧Aside0 (wc.heap[gb3]? = some (.cells #[.int .i64 t0,.int .i64 t3] 24 (0,0)))∧Aside0 (wc.heap[gb4]? = some (.cells #[.int .i64 t1,.int .i64 t4] 24 (0,0)))∧Aside0 (Below w.heap.size w wc))
     case first =>
      have H:=HC52.out;clear HC52;rcases sqI (t5 = true) with c59 | c59
      ·replace c59:=Bool.eq_false_iff.mpr c59;subst c59;rw [sqff] at H;have H':=Aside0.mk H;clear H
       go_wp2
       go_meet
       case rel=>exact ⟨_,(x1),H',⟨by have:=HJ5.out;have:=HJ46.out;first | omega | exact Nat.le_refl _⟩,⟨sqy z0.out⟩,sqk B0,sqk B1,sqk B2,sqk B3,sqk B4,sqh HB⟩
      subst c59;rw [if_pos rfl] at H;replace H:=sqi H;rcases H with ⟨c60,H⟩ | ⟨c60,H⟩
      ·cases H
      have LMc60:=Aside0.mk c60;clear c60;obtain ⟨zf,z6⟩ : ∃ y_ : List Int,y_ = (x1 ++ [2]):=⟨_,rfl⟩
      replace H : (spec_l8Div.j2 kj46 a0 zf a1_0 a1_1 a2_0 a2_1 t0 t3 t1 t4) = some (r1,r2,r3):=by first | (rw [z6];with_reducible exact H) | (have H2_:=(Option.bind_some _ _).symm.trans H;rw [z6];with_reducible exact H2_) | (have H2_:=(Option.bind_some _ _).symm.trans H;with_reducible exact H2_) | with_reducible exact H | (rw [z6];exact H) | exact H
      have zl:=Aside0.mk z6;clear z6;have H':=Aside0.mk H;clear H;go_wp2_with (first | ((with_reducible refine gate_builtin (b:=.append) (xs:=#[.tmp 37,.tmp 38]) rfl ?_);at_builtin;refine Kd.R_append (Kd.int .i64) (w0:=w) w.heap.size rfl (.tmp 37) (.tmp 38) 27 3 (.int .i64 0) 8 rfl Try.underlying27 info3 rfl (by decide) (by omega) u8 x1 2 [.int .i64 2] (fun _=>True) (fun _=>False) rfl rfl ?aP (fun _ hk=>hk.elim) ?aF ?aO ?aB ?aS ?aL ?_;(case aP=>exact rfl);(case aB=>exact (sqB HB));(case aF=>exact (fun _ _=>trivial));(case aO=>exact (sqy z0.out));(case aS=>exact (below_size (sqB HB)));(case aL=>have:=LMc60.out;omega);intro zE w61 ho hb hg hat;rw [← zl.out] at ho;replace B0:=Aside0.mk (blk_grown (g:=gb0) (o:=.cells #[.int .i64 a1_0,.int .i64 a1_1] 24 (0,0)) (sqt B0.out) hg (Kd.R_ne z0.out B0.out (by decide)));replace B1:=Aside0.mk (blk_grown (g:=gb1) (o:=.cells #[.int .i64 a2_0,.int .i64 a2_1] 24 (0,0)) (sqt B1.out) hg (Kd.R_ne z0.out B1.out (by decide)));replace B2:=Aside0.mk (blk_grown (g:=gb2) (o:=.cells #[.int .i64 0,.int .i64 0] 24 (0,0)) (sqt B2.out) hg (Kd.R_ne z0.out B2.out (by decide)));replace B3:=Aside0.mk (blk_grown (g:=gb3) (o:=.cells #[.int .i64 t0,.int .i64 t3] 24 (0,0)) (sqt B3.out) hg (Kd.R_ne z0.out B3.out (by decide)));replace B4:=Aside0.mk (blk_grown (g:=gb4) (o:=.cells #[.int .i64 t1,.int .i64 t4] 24 (0,0)) (sqt B4.out) hg (Kd.R_ne z0.out B4.out (by decide)));replace HB:=Aside0.mk (hb);have zm:=Aside0.mk (ho);clear z0;clear ho hb hg hat));go_meet
      case rel=>exact ⟨_,(zf),H',⟨by have:=HJ5.out;have:=HJ46.out;first | omega | exact Nat.le_refl _⟩,⟨sqy zm.out⟩,sqk B0,sqk B1,sqk B2,sqk B3,sqk B4,sqh HB⟩
     case rest =>
      clear HC52;obtain ⟨kq,x2,HA,HJ51,z0,B0,B1,B2,B3,B4,HB⟩:=hcut;cases kq with
      | zero=>exact absurd HA.out (by simp [spec_l8Div.j2])
      | succ kj51 =>
       have H:=HA.out;clear HA;simp only [spec_l8Div.j2] at H;replace H:=sqi H;rcases H with ⟨c62,H⟩ | ⟨c62,H⟩
       ·have zn : (a0 == 5) = false:=beq_eq_false_iff_ne.mpr c62;have zo : (a0 != 5) = true:=bne_iff_ne.mpr c62;replace H:=sqbi H;obtain ⟨⟨t6,t7,t8⟩,A271,H⟩:=H;(try dsimp only at H);replace H:=sqbi H;obtain ⟨⟨t9,t10⟩,A272,H⟩:=H;(try dsimp only at H);have za:=Aside0.mk H;clear H
        try go_wp2_with (first | ((with_reducible refine gd 96 rfl ?_);refine sqX 96 #[.bool false,.int .i64 0,.int .i64 0] 63 HB ?_;clear HB;intro g520 hg w274 hb2 B9 GW9 HB;have hi : IsS63 w w274 g520 t6 t7 t8:=(by have e:=A271.out;simp only [spec_l8New.f,Option.some.injEq,Prod.mk.injEq] at e;obtain ⟨e1,e2,e3⟩:=e;rw [← e1,← e2,← e3];exact ⟨B9.out,GW9.out⟩);clear B9 GW9 hg;replace z0:=Aside0.mk (Kd.R_below (sqy z0.out) hb2);have HI520:=Aside0.mk (hi);have N5_0:=Aside0.mk (IsS63.ne_blk hi (blk_below (g:=gb0) (o:=.cells #[.int .i64 a1_0,.int .i64 a1_1] 24 (0,0)) (sqt B0.out) hb2) (by decide));have N0_5:=Aside0.mk (Ne.symm (IsS63.ne_blk hi (blk_below (g:=gb0) (o:=.cells #[.int .i64 a1_0,.int .i64 a1_1] 24 (0,0)) (sqt B0.out) hb2) (by decide)));replace B0:=Aside0.mk (blk_below (g:=gb0) (o:=.cells #[.int .i64 a1_0,.int .i64 a1_1] 24 (0,0)) (sqt B0.out) hb2);have N5_1:=Aside0.mk (IsS63.ne_blk hi (blk_below (g:=gb1) (o:=.cells #[.int .i64 a2_0,.int .i64 a2_1] 24 (0,0)) (sqt B1.out) hb2) (by decide));have N1_5:=Aside0.mk (Ne.symm (IsS63.ne_blk hi (blk_below (g:=gb1) (o:=.cells #[.int .i64 a2_0,.int .i64 a2_1] 24 (0,0)) (sqt B1.out) hb2) (by decide)));replace B1:=Aside0.mk (blk_below (g:=gb1) (o:=.cells #[.int .i64 a2_0,.int .i64 a2_1] 24 (0,0)) (sqt B1.out) hb2);have N5_2:=Aside0.mk (IsS63.ne_blk hi (blk_below (g:=gb2) (o:=.cells #[.int .i64 0,.int .i64 0] 24 (0,0)) (sqt B2.out) hb2) (by decide));have N2_5:=Aside0.mk (Ne.symm (IsS63.ne_blk hi (blk_below (g:=gb2) (o:=.cells #[.int .i64 0,.int .i64 0] 24 (0,0)) (sqt B2.out) hb2) (by decide)));replace B2:=Aside0.mk (blk_below (g:=gb2) (o:=.cells #[.int .i64 0,.int .i64 0] 24 (0,0)) (sqt B2.out) hb2);have N5_3:=Aside0.mk (IsS63.ne_blk hi (blk_below (g:=gb3) (o:=.cells #[.int .i64 t0,.int .i64 t3] 24 (0,0)) (sqt B3.out) hb2) (by decide));have N3_5:=Aside0.mk (Ne.symm (IsS63.ne_blk hi (blk_below (g:=gb3) (o:=.cells #[.int .i64 t0,.int .i64 t3] 24 (0,0)) (sqt B3.out) hb2) (by decide)));replace B3:=Aside0.mk (blk_below (g:=gb3) (o:=.cells #[.int .i64 t0,.int .i64 t3] 24 (0,0)) (sqt B3.out) hb2);have N5_4:=Aside0.mk (IsS63.ne_blk hi (blk_below (g:=gb4) (o:=.cells #[.int .i64 t1,.int .i64 t4] 24 (0,0)) (sqt B4.out) hb2) (by decide));have N4_5:=Aside0.mk (Ne.symm (IsS63.ne_blk hi (blk_below (g:=gb4) (o:=.cells #[.int .i64 t1,.int .i64 t4] 24 (0,0)) (sqt B4.out) hb2) (by decide)));replace B4:=Aside0.mk (blk_below (g:=gb4) (o:=.cells #[.int .i64 t1,.int .i64 t4] 24 (0,0)) (sqt B4.out) hb2);(try clear hb);(try clear hb2);(try clear hk);(try clear hi)))
        replace z0:=sqdrR z0;replace B0:=sqdr B0;replace B1:=sqdr B1;replace B2:=sqdr B2;replace B3:=sqdr B3;replace B4:=sqdr B4;replace HI520:=Aside0.mk (IsS63.drew HI520.out);replace HB:=sqdB HB;refine sqst 3 (fun w'=>Ce2 w' gb3 (.int .i64 t0) (.int .i64 t3)) sqz (fun hHeld=>?_);generalize w274.drew = w275 at z0 B0 B1 B2 B3 B4 HI520 HB hHeld ⊢;refine take_ (i:=0) (N:=some 97) (v:=?_) (a':=?_) #[true,false,false] rfl rfl (by kernel_rfl) (fun _ _ _ h=>h) (Or.inl ⟨by rfl,?_⟩) hHeld ?_ ?_;rotate_left
        ·rintro w' ⟨s0,s1⟩
         go_simp
         with_reducible rfl
        rotate_left
        ·simp only [Act.put,List.setIfInBounds_toArray,List.set_cons_zero,List.set_cons_succ,i64_w,i32_w]
         rfl
        refine one_ (i:=1) (N:=some 98) #[true,true,false] rfl rfl (by kernel_rfl) (by decide) (fun K hK=>?_);refine sqGb rfl Try.func38 (spec_l8None.calls _ _ _ A272.out) ?_;intro w276 hb;replace z0:=sqRbR z0 hb;replace B0:=sqb B0 hb;replace B1:=sqb B1 hb;replace B2:=sqb B2 hb;replace B3:=sqb B3 hb;replace B4:=sqb B4 hb;replace HB:=Aside0.mk (below_step (sqB2 HB (IsS63.ge HI520.out)) hb);replace HI520:=Aside0.mk (IsS63.below (IsS63.mv HI520) hb);(try clear hb);refine hK.out _ _ sqz (fun hHeld=>?_);clear hK K;refine sqnm ?_;refine pure_ (i:=2) (N:=some 99) (v:=?_) (a':=?_) #[true,true,true] rfl rfl (by kernel_rfl) (fun _ _ _ h=>h) (Or.inl ⟨by rfl,?_⟩) ?_ ?_;rotate_left
        ·intro w'
         go_simp
         with_reducible rfl
        rotate_left
        ·simp only [Act.put,List.setIfInBounds_toArray,List.set_cons_zero,List.set_cons_succ,i64_w,i32_w]
         rfl
        refine done_ (by kernel_rfl) ?_
        go_upto_if 99 with (fail)
        go_cut [] (fun wc=>∃ (kq : Nat) (x3 : Bool) (x4 : Int) (x5 : Int),Aside0 (spec_l8Div.j4 kq a0 x2 a1_0 a1_1 t1 t4 x3 x4 x5 = some (r1,r2,r3))∧Aside0 (kq ≤ kj51)∧Aside0 (Kd.R (Kd.int .i64) 3 wc w.heap.size (fun _=>True) u8 x2)∧Aside0 (wc.heap[gb0]? = some (.cells #[.int .i64 a1_0,.int .i64 a1_1] 24 (0,0)))∧Aside0 (wc.heap[gb1]? = some (.cells #[.int .i64 a2_0,.int .i64 a2_1] 24 (0,0)))∧Aside0 (wc.heap[gb2]? = some (.cells #[.int .i64 0,.int .i64 0] 24 (0,0)))∧Aside0 (wc.heap[gb3]? = some (.cells #[.int .i64 t0,.int .i64 t3] 24 (0,0)))∧Aside0 (wc.heap[gb4]? = some (.cells #[.int .i64 t1,.int .i64 t4] 24 (0,0)))∧Aside0 (IsS63 w wc g520 x3 x4 x5)∧Aside0 (Below w.heap.size w wc))
        case first =>
         have H:=za.out;clear za;replace H:=sqi H;rcases H with ⟨c277,H⟩ | ⟨c277,H⟩
         ·have z7 : (!(t0 == t9) || (!(t3 == t10))) = false:=by simpa using c277
          clear c277
          (first | rw [z7] | (simp only [i64_w,i32_w];rw [z7]) | skip)
          have H':=Aside0.mk H;clear H
          go_wp2
          go_meet
          case rel=>exact ⟨_,(t6),(t7),(t8),H',⟨by have:=HJ5.out;have:=HJ46.out;have:=HJ51.out;first | omega | exact Nat.le_refl _⟩,⟨sqy z0.out⟩,sqk B0,sqk B1,sqk B2,sqk B3,sqk B4,⟨IsS63.mv HI520⟩,⟨sqB2 HB (IsS63.ge HI520.out)⟩⟩
         have z7 : (!(t0 == t9) || (!(t3 == t10))) = true:=c277;clear c277
         (first | rw [z7] | (simp only [i64_w,i32_w];rw [z7]) | skip)
         replace H:=sqbi H;obtain ⟨⟨t11,t12,t13⟩,A278,H⟩:=H;(try dsimp only at H);have H':=Aside0.mk H;clear H;obtain ⟨_,_,_,_,_,_,_,_⟩:=sqN4 N0_1 N0_2 N0_3 N0_4;obtain ⟨_,_⟩:=sqN1 N0_5;obtain ⟨_,_,_,_⟩:=sqc2 B0;obtain ⟨_,_,_,_,_,_,_,_⟩:=sqN4 N3_1 N3_2 N3_4 N3_5;obtain ⟨_,_,_,_⟩:=sqc2 B3;go_wp2_with (first | ((with_reducible refine gf 42 rfl ?_);refine sqLc rfl (some 104) Try.func42 (spec_l8R_corners.calls _ _ _ _ _ _ _ _ _ _ _ _ _ w _ (IsS63.mv HI520) (sqB2 HB (IsS63.ge HI520.out)) A278.out) ?_;rintro e w290 ⟨rfl,hi,hb,hk⟩;refine ⟨_,rfl,?_⟩;replace z0:=Aside0.mk (Kd.R_mono (Kd.R_keep (IsS63.apart (show IsS63 w _ g520 t6 t7 t8 from by repeat (first | (with_reducible first | exact HI520.out | apply IsS63.alloc | apply IsS63.drewN | apply IsS63.drew | apply IsS63.set_0 | apply IsS63.set_1 | apply IsS63.set_2 | refine IsS63.far ?_ N5_0.out _ | refine IsS63.far ?_ N5_1.out _ | refine IsS63.far ?_ N5_2.out _ | refine IsS63.far ?_ N5_3.out _ | refine IsS63.far ?_ N5_4.out _) | exact HI520.out)) (sqy z0.out) (by decide)) hk (fun _ h=>h.2)) (fun _ h=>h.1));replace B0:=sqkb hk B0 N0_5;replace B1:=sqkb hk B1 N1_5;replace B2:=sqkb hk B2 N2_5;replace B3:=sqkb hk B3 N3_5;replace B4:=sqkb hk B4 N4_5;replace HB:=Aside0.mk (hb);replace HI520:=Aside0.mk (hi);(try clear hb);(try clear hb2);(try clear hk);(try clear hi)));go_meet
         case rel=>exact ⟨_,(t11),(t12),(t13),H',⟨by have:=HJ5.out;have:=HJ46.out;have:=HJ51.out;first | omega | exact Nat.le_refl _⟩,⟨sqy z0.out⟩,sqk B0,sqk B1,sqk B2,sqk B3,sqk B4,⟨IsS63.mv HI520⟩,⟨sqB2 HB (IsS63.ge HI520.out)⟩⟩
        case rest =>
         clear za;obtain ⟨kq,x3,x4,x5,HA,HJ272,z0,B0,B1,B2,B3,B4,HI520,HB⟩:=hcut;cases kq with
         | zero=>exact absurd HA.out (by simp [spec_l8Div.j4])
         | succ kj272 =>
          have H:=HA.out;clear HA;simp only [spec_l8Div.j4] at H;replace H:=sqbi H;obtain ⟨⟨t14,t15⟩,A291,H⟩:=H;(try dsimp only at H);have zb:=Aside0.mk H;clear H
          try go_wp2
          replace z0:=sqdrR z0;replace B0:=sqdr B0;replace B1:=sqdr B1;replace B2:=sqdr B2;replace B3:=sqdr B3;replace B4:=sqdr B4;replace HI520:=Aside0.mk (IsS63.drew HI520.out);replace HB:=sqdB HB;refine sqst 3 (fun w'=>Ce2 w' gb4 (.int .i64 t1) (.int .i64 t4)) sqz (fun hHeld=>?_);generalize wc.drew = w293 at z0 B0 B1 B2 B3 B4 HI520 HB hHeld ⊢;refine take_ (i:=0) (N:=some 105) (v:=?_) (a':=?_) #[true,false,false] rfl rfl (by kernel_rfl) (fun _ _ _ h=>h) (Or.inl ⟨by rfl,?_⟩) hHeld ?_ ?_;rotate_left
          ·rintro w' ⟨s0,s1⟩
           go_simp
           with_reducible rfl
          rotate_left
          ·simp only [Act.put,List.setIfInBounds_toArray,List.set_cons_zero,List.set_cons_succ,i64_w,i32_w]
           rfl
          refine one_ (i:=1) (N:=some 106) #[true,true,false] rfl rfl (by kernel_rfl) (by decide) (fun K hK=>?_);refine sqGb rfl Try.func38 (spec_l8None.calls _ _ _ A291.out) ?_;intro w294 hb;replace z0:=sqRbR z0 hb;replace B0:=sqb B0 hb;replace B1:=sqb B1 hb;replace B2:=sqb B2 hb;replace B3:=sqb B3 hb;replace B4:=sqb B4 hb;replace HB:=Aside0.mk (below_step (sqB2 HB (IsS63.ge HI520.out)) hb);replace HI520:=Aside0.mk (IsS63.below (IsS63.mv HI520) hb);(try clear hb);refine hK.out _ _ sqz (fun hHeld=>?_);clear hK K;refine sqnm ?_;refine pure_ (i:=2) (N:=some 107) (v:=?_) (a':=?_) #[true,true,true] rfl rfl (by kernel_rfl) (fun _ _ _ h=>h) (Or.inl ⟨by rfl,?_⟩) ?_ ?_;rotate_left
          ·intro w'
           go_simp
           with_reducible rfl
          rotate_left
          ·simp only [Act.put,List.setIfInBounds_toArray,List.set_cons_zero,List.set_cons_succ,i64_w,i32_w]
           rfl
          refine done_ (by kernel_rfl) ?_
          go_upto_if 107 with (fail)
          go_cut [] (fun wc=>∃ (kq : Nat) (x6 : Bool) (x7 : Int) (x8 : Int),Aside0 (spec_l8Div.j5 kq x2 x6 x7 x8 = some (r1,r2,r3))∧Aside0 (kq ≤ kj272)∧Aside0 (Kd.R (Kd.int .i64) 3 wc w.heap.size (fun _=>True) u8 x2)∧Aside0 (wc.heap[gb0]? = some (.cells #[.int .i64 a1_0,.int .i64 a1_1] 24 (0,0)))∧Aside0 (wc.heap[gb1]? = some (.cells #[.int .i64 a2_0,.int .i64 a2_1] 24 (0,0)))∧Aside0 (wc.heap[gb2]? = some (.cells #[.int .i64 0,.int .i64 0] 24 (0,0)))∧Aside0 (wc.heap[gb3]? = some (.cells #[.int .i64 t0,.int .i64 t3] 24 (0,0)))∧Aside0 (wc.heap[gb4]? = some (.cells #[.int .i64 t1,.int .i64 t4] 24 (0,0)))∧Aside0 (IsS63 w wc g520 x6 x7 x8)∧Aside0 (Below w.heap.size w wc))
          case first =>
           have H:=zb.out;clear zb;replace H:=sqi H;rcases H with ⟨c295,H⟩ | ⟨c295,H⟩
           ·have z8 : (!(t1 == t14) || (!(t4 == t15))) = false:=by simpa using c295
            clear c295
            (first | rw [z8] | (simp only [i64_w,i32_w];rw [z8]) | skip)
            have H':=Aside0.mk H;clear H
            go_wp2
            go_meet
            case rel=>exact ⟨_,(x3),(x4),(x5),H',⟨by have:=HJ5.out;have:=HJ46.out;have:=HJ51.out;have:=HJ272.out;first | omega | exact Nat.le_refl _⟩,⟨sqy z0.out⟩,sqk B0,sqk B1,sqk B2,sqk B3,sqk B4,⟨IsS63.mv HI520⟩,⟨sqB2 HB (IsS63.ge HI520.out)⟩⟩
           have z8 : (!(t1 == t14) || (!(t4 == t15))) = true:=c295;clear c295
           (first | rw [z8] | (simp only [i64_w,i32_w];rw [z8]) | skip)
           replace H:=sqbi H;obtain ⟨⟨t16,t17,t18⟩,A296,H⟩:=H;(try dsimp only at H);have H':=Aside0.mk H;clear H;obtain ⟨_,_,_,_,_,_,_,_⟩:=sqN4 N0_1 N0_2 N0_3 N0_4;obtain ⟨_,_⟩:=sqN1 N0_5;obtain ⟨_,_,_,_⟩:=sqc2 B0;obtain ⟨_,_,_,_,_,_,_,_⟩:=sqN4 N4_1 N4_2 N4_3 N4_5;obtain ⟨_,_,_,_⟩:=sqc2 B4;go_wp2_with (first | ((with_reducible refine gf 42 rfl ?_);refine sqLc rfl (some 112) Try.func42 (spec_l8R_corners.calls _ _ _ _ _ _ _ _ _ _ _ _ _ w _ (IsS63.mv HI520) (sqB2 HB (IsS63.ge HI520.out)) A296.out) ?_;rintro e w308 ⟨rfl,hi,hb,hk⟩;refine ⟨_,rfl,?_⟩;replace z0:=Aside0.mk (Kd.R_mono (Kd.R_keep (IsS63.apart (show IsS63 w _ g520 x3 x4 x5 from by repeat (first | (with_reducible first | exact HI520.out | apply IsS63.alloc | apply IsS63.drewN | apply IsS63.drew | apply IsS63.set_0 | apply IsS63.set_1 | apply IsS63.set_2 | refine IsS63.far ?_ N5_0.out _ | refine IsS63.far ?_ N5_1.out _ | refine IsS63.far ?_ N5_2.out _ | refine IsS63.far ?_ N5_3.out _ | refine IsS63.far ?_ N5_4.out _) | exact HI520.out)) (sqy z0.out) (by decide)) hk (fun _ h=>h.2)) (fun _ h=>h.1));replace B0:=sqkb hk B0 N0_5;replace B1:=sqkb hk B1 N1_5;replace B2:=sqkb hk B2 N2_5;replace B3:=sqkb hk B3 N3_5;replace B4:=sqkb hk B4 N4_5;replace HB:=Aside0.mk (hb);replace HI520:=Aside0.mk (hi);(try clear hb);(try clear hb2);(try clear hk);(try clear hi)));go_meet
           case rel=>exact ⟨_,(t16),(t17),(t18),H',⟨by have:=HJ5.out;have:=HJ46.out;have:=HJ51.out;have:=HJ272.out;first | omega | exact Nat.le_refl _⟩,⟨sqy z0.out⟩,sqk B0,sqk B1,sqk B2,sqk B3,sqk B4,⟨IsS63.mv HI520⟩,⟨sqB2 HB (IsS63.ge HI520.out)⟩⟩
          case rest =>
           clear zb;obtain ⟨kq,x6,x7,x8,HA,HJ291,z0,B0,B1,B2,B3,B4,HI520,HB⟩:=hcut;cases kq with
           | zero=>exact absurd HA.out (by simp [spec_l8Div.j5])
           | succ kj291 =>
            have H:=HA.out;clear HA;simp only [spec_l8Div.j5] at H;rcases sqI (x6 = true) with c309 | c309
            ·replace c309:=Bool.eq_false_iff.mpr c309;subst c309;rw [sqff] at H;replace H:=sqbi H;obtain ⟨⟨t19,t20⟩,A316,H⟩:=H;(try dsimp only at H);simp only [Option.some.injEq,Prod.mk.injEq] at H;obtain ⟨rfl,rfl,rfl⟩:=H;obtain ⟨HGz317,hgz317⟩:=HI520.out;have zF:=cellS63_0 HGz317;have zG:=cellS63_1 HGz317;have zH:=cellS63_2 HGz317;have zI:=blk_frozen HGz317 0;have zJ:=blk_frozen HGz317 1;have zK:=blk_frozen HGz317 2;clear HGz317 hgz317;go_wp2_with (first | ((with_reducible refine gf 38 rfl ?_);refine sqLb rfl (some 118) Try.func38 (spec_l8None.calls _ _ _ A316.out) ?_;intro w318 hb;replace z0:=sqRbR z0 hb;replace B0:=sqb B0 hb;replace B1:=sqb B1 hb;replace B2:=sqb B2 hb;replace B3:=sqb B3 hb;replace B4:=sqb B4 hb;replace HB:=Aside0.mk (below_step (sqB2 HB (IsS63.ge HI520.out)) hb);replace HI520:=Aside0.mk (IsS63.below (IsS63.mv HI520) hb);(try clear hb);obtain ⟨_,_,_,_,_,_,_,_⟩:=sqN4 N2_0 N2_1 N2_3 N2_4;obtain ⟨_,_⟩:=sqN1 N2_5;obtain ⟨_,_,_,_⟩:=sqc2 B2));refine bodyPost_ret (results_ct rfl _ _ gb2 24 #[.int .i64 t19,.int .i64 t20] (0,0) _ rfl (sqP B2) Try.underlying24 rfl (by kernel_rfl)) rfl ?_;exact ⟨_,sqEw,sqF1Rf (sqtyR z0 B2) (fun _ hk=>trivial),sqB2 HB (IsS63.ge HI520.out)⟩
            subst c309;rw [if_pos rfl] at H;replace H:=sqbi H;obtain ⟨⟨t21,t22⟩,A310,H⟩:=H;(try dsimp only at H);simp only [Option.some.injEq,Prod.mk.injEq] at H;obtain ⟨rfl,rfl,rfl⟩:=H;obtain ⟨HGz311,hgz311⟩:=HI520.out;have zL:=cellS63_0 HGz311;have zM:=cellS63_1 HGz311;have zN:=cellS63_2 HGz311;have zO:=blk_frozen HGz311 0;have zP:=blk_frozen HGz311 1;have zQ:=blk_frozen HGz311 2;clear HGz311 hgz311
            try go_wp2
            replace z0:=sqdrR z0;replace B0:=sqdr B0;replace B1:=sqdr B1;replace B2:=sqdr B2;replace B3:=sqdr B3;replace B4:=sqdr B4;replace HI520:=Aside0.mk (IsS63.drew HI520.out);replace HB:=sqdB HB;refine sqsT 12 (fun w'=>w'.cell? ⟨g520,0,none⟩ = some (.bool true)∧w'.cell? ⟨g520,1,none⟩ = some (.int .i64 x7)∧w'.cell? ⟨g520,2,none⟩ = some (.int .i64 x8)) [] ⟨(blk_cell (Aside0.mk HI520.out.1).out 0).trans rfl,(blk_cell (Aside0.mk HI520.out.1).out 1).trans rfl,(blk_cell (Aside0.mk HI520.out.1).out 2).trans rfl⟩ (fun hHeld=>?_);refine with_tabW spec_l8Div.tab25 spec_l8Div.bits25 (fun HT_ HW_=>?_);generalize wc.drew = w312 at z0 B0 B1 B2 B3 B4 HI520 HB hHeld ⊢;refine sqp HT_ 0 120 ?_;refine sqp HT_ 1 121 ?_;refine sqp HT_ 2 122 ?_;refine sqp HT_ 4 124 ?_;refine sqp HT_ 5 125 ?_;refine sqp HT_ 6 126 ?_;refine sqp HT_ 9 129 ?_;refine sqw HT_ HW_ 3 123 hHeld ?_;refine sqw HT_ HW_ 7 127 hHeld ?_;refine sqo HT_ 8 128 (fun K hK=>?_);refine sqGb rfl Try.func44 (spec_l8Cut.calls _ _ _ _ _ A310.out) ?_;intro w313 hb;replace z0:=sqRbR z0 hb;replace B0:=sqb B0 hb;replace B1:=sqb B1 hb;replace B2:=sqb B2 hb;replace B3:=sqb B3 hb;replace B4:=sqb B4 hb;replace HB:=Aside0.mk (below_step (sqB2 HB (IsS63.ge HI520.out)) hb);replace HI520:=Aside0.mk (IsS63.below (IsS63.mv HI520) hb);(try clear hb);refine hK.out _ _ ⟨(blk_cell (Aside0.mk HI520.out.1).out 0).trans rfl,(blk_cell (Aside0.mk HI520.out.1).out 1).trans rfl,(blk_cell (Aside0.mk HI520.out.1).out 2).trans rfl⟩ (fun hHeld=>?_);clear hK K;refine sqnm ?_;refine sqo0 HT_ 10 (fun K hK=>?_);obtain ⟨_,_,_,_⟩:=sqc2 B2;obtain ⟨_,_,_,_,_,_,_,_⟩:=sqN4 N0_2 N1_2 N3_2 N4_2;refine sqsk ?_;have B9:=Aside0.mk HI520.out.1;refine hK.out _ _ sqzf (fun hHeld=>?_);clear hK K;refine sqp HT_ 11 7 ?_;refine done_ (done_of HT_.out (by kernel_rfl)) ?_
            try go_wp2
            refine bodyPost_ret (results_ct rfl _ _ gb2 24 #[.int .i64 t21,.int .i64 t22] (0,0) _ rfl (sqP B2) Try.underlying24 rfl (by kernel_rfl)) rfl ?_;exact ⟨_,sqEw,sqF1Rf (sqtyR z0 B2) (fun _ hk=>trivial),sqB2 HB (IsS63.ge HI520.out)⟩
       have zn : (a0 == 5) = true:=beq_iff_eq.mpr c62;have zo : (a0 != 5) = false:=bne_eq_false_iff_eq.mpr c62;clear c62;replace H:=sqbi H;obtain ⟨⟨t23,t24⟩,A63,H⟩:=H;(try dsimp only at H);replace H:=sqbi H;obtain ⟨⟨t25,t26⟩,A64,H⟩:=H;(try dsimp only at H);have HC65:=Aside0.mk H;clear H
       try go_wp2_with (first | ((with_reducible refine gf 38 rfl ?_);refine sqLb rfl (some 42) Try.func38 (spec_l8None.calls _ _ _ A63.out) ?_;intro w66 hb;replace z0:=sqRbR z0 hb;replace B0:=sqb B0 hb;replace B1:=sqb B1 hb;replace B2:=sqb B2 hb;replace B3:=sqb B3 hb;replace B4:=sqb B4 hb;replace HB:=sqs HB hb;(try clear hb)) | ((with_reducible refine gd 11 rfl ?_);refine sqX 11 #[.int .i64 0,.int .i64 0] 24 HB ?_;clear HB;intro gb6 hg w67 hb B6 GW6 HB;replace z0:=sqRbR z0 hb;have N0_6:=sqn B0 hg;have N6_0:=sqm B0 hg;replace B0:=sqb B0 hb;have N1_6:=sqn B1 hg;have N6_1:=sqm B1 hg;replace B1:=sqb B1 hb;have N2_6:=sqn B2 hg;have N6_2:=sqm B2 hg;replace B2:=sqb B2 hb;have N3_6:=sqn B3 hg;have N6_3:=sqm B3 hg;replace B3:=sqb B3 hb;have N4_6:=sqn B4 hg;have N6_4:=sqm B4 hg;replace B4:=sqb B4 hb;clear hb hg;obtain ⟨_,_,_,_,_,_,_,_⟩:=sqN4 N6_0 N6_1 N6_2 N6_3;obtain ⟨_,_⟩:=sqN1 N6_4;obtain ⟨_,_,_,_⟩:=sqc2 B6))
       obtain ⟨w74,hw_⟩ : ∃ w_,w_ = ((w67.setCell ⟨gb6,0,none⟩ (.int .i64 t23)).setCell ⟨gb6,1,none⟩ (.int .i64 t24)):=⟨_,rfl⟩
       replace z0 : Aside0 (Kd.R (Kd.int .i64) 3 w74 w.heap.size (fun _=>True) u8 x2):=by rw [hw_];exact ⟨sqF1Rf (sqtyR z0 B6) (fun _ hk=>trivial)⟩
       replace B0:=sqTe hw_ B0;replace B1:=sqTe hw_ B1;replace B2:=sqTe hw_ B2;replace B3:=sqTe hw_ B3;replace B4:=sqTe hw_ B4
       replace B6 : Aside0 (w74.heap[gb6]? = some (.cells #[.int .i64 t23,.int .i64 t24] 24 (0,0))):=by rw [hw_];exact ⟨sqP B6⟩
       replace HB:=sqhw hw_ HB
       rw [← hw_];clear hw_;replace z0:=sqdrR z0;replace B0:=sqdr B0;replace B1:=sqdr B1;replace B2:=sqdr B2;replace B3:=sqdr B3;replace B4:=sqdr B4;replace B6:=sqdr B6;replace HB:=sqdB HB;refine sqst 3 (fun w'=>Ce2 w' gb3 (.int .i64 t0) (.int .i64 t3)) sqz (fun hHeld=>?_);generalize w74.drew = w75 at z0 B0 B1 B2 B3 B4 B6 HB hHeld ⊢;refine take_ (i:=0) (N:=some 43) (v:=?_) (a':=?_) #[true,false,false] rfl rfl (by kernel_rfl) (fun _ _ _ h=>h) (Or.inl ⟨by rfl,?_⟩) hHeld ?_ ?_;rotate_left
       ·rintro w' ⟨s0,s1⟩
        go_simp
        with_reducible rfl
       rotate_left
       ·simp only [Act.put,List.setIfInBounds_toArray,List.set_cons_zero,List.set_cons_succ,i64_w,i32_w]
        rfl
       refine one_ (i:=1) (N:=some 44) #[true,true,false] rfl rfl (by kernel_rfl) (by decide) (fun K hK=>?_);refine sqGb rfl Try.func38 (spec_l8None.calls _ _ _ A64.out) ?_;intro w76 hb;replace z0:=sqRbR z0 hb;replace B0:=sqb B0 hb;replace B1:=sqb B1 hb;replace B2:=sqb B2 hb;replace B3:=sqb B3 hb;replace B4:=sqb B4 hb;replace B6:=sqb B6 hb;replace HB:=sqs HB hb;(try clear hb);refine hK.out _ _ sqz (fun hHeld=>?_);clear hK K;refine sqnm ?_;refine pure_ (i:=2) (N:=some 45) (v:=?_) (a':=?_) #[true,true,true] rfl rfl (by kernel_rfl) (fun _ _ _ h=>h) (Or.inl ⟨by rfl,?_⟩) ?_ ?_;rotate_left
       ·intro w'
        go_simp
        with_reducible rfl
       rotate_left
       ·simp only [Act.put,List.setIfInBounds_toArray,List.set_cons_zero,List.set_cons_succ,i64_w,i32_w]
        rfl
       refine done_ (by kernel_rfl) ?_
       go_upto_if 45 with (fail)
       go_cut [] (fun wc=>∃ (kq : Nat) (x9 : Int) (x10 : Int),Aside0 (spec_l8Div.j3 kq a0 x2 a1_0 a1_1 a2_0 a2_1 t1 t4 x9 x10 = some (r1,r2,r3))∧Aside0 (kq ≤ kj51)∧Aside0 (Kd.R (Kd.int .i64) 3 wc w.heap.size (fun _=>True) u8 x2)∧Aside0 (wc.heap[gb0]? = some (.cells #[.int .i64 a1_0,.int .i64 a1_1] 24 (0,0)))∧Aside0 (wc.heap[gb1]? = some (.cells #[.int .i64 a2_0,.int .i64 a2_1] 24 (0,0)))∧Aside0 (wc.heap[gb2]? = some (.cells #[.int .i64 0,.int .i64 0] 24 (0,0)))∧Aside0 (wc.heap[gb3]? = some (.cells #[.int .i64 t0,.int .i64 t3] 24 (0,0)))∧Aside0 (wc.heap[gb4]? = some (.cells #[.int .i64 t1,.int .i64 t4] 24 (0,0)))∧Aside0 (wc.heap[gb6]? = some (.cells #[.int .i64 x9,.int .i64 x10] 24 (0,0)))∧Aside0 (Below w.heap.size w wc))
       case first =>
        have H:=HC65.out;clear HC65;replace H:=sqi H;rcases H with ⟨c77,H⟩ | ⟨c77,H⟩
        ·have z9 : (!(t0 == t25) || (!(t3 == t26))) = false:=by simpa using c77
         clear c77
         (first | rw [z9] | (simp only [i64_w,i32_w];rw [z9]) | skip)
         have H':=Aside0.mk H;clear H
         go_wp2
         go_meet
         case rel=>exact ⟨_,(t23),(t24),H',⟨by have:=HJ5.out;have:=HJ46.out;have:=HJ51.out;first | omega | exact Nat.le_refl _⟩,⟨sqy z0.out⟩,sqk B0,sqk B1,sqk B2,sqk B3,sqk B4,sqk B6,sqh HB⟩
        have z9 : (!(t0 == t25) || (!(t3 == t26))) = true:=c77;clear c77
        (first | rw [z9] | (simp only [i64_w,i32_w];rw [z9]) | skip)
        replace H:=sqbi H;obtain ⟨⟨t27,t28⟩,A78,H⟩:=H;(try dsimp only at H);replace H:=sqbi H;obtain ⟨⟨t29,t30⟩,A79,H⟩:=H;(try dsimp only at H);have H':=Aside0.mk H;clear H
        try go_wp2
        replace z0:=sqdrR z0;replace B0:=sqdr B0;replace B1:=sqdr B1;replace B2:=sqdr B2;replace B3:=sqdr B3;replace B4:=sqdr B4;replace B6:=sqdr B6;replace HB:=sqdB HB;refine sqsT 11 (fun w'=>Ce2 w' gb6 (.int .i64 t23) (.int .i64 t24)∧Ce2 w' gb0 (.int .i64 a1_0) (.int .i64 a1_1)∧Ce2 w' gb3 (.int .i64 t0) (.int .i64 t3)) [10] sqz (fun hHeld=>?_);refine with_tabW spec_l8Div.tab11 spec_l8Div.bits11 (fun HT_ HW_=>?_);generalize w76.drew = w80 at z0 B0 B1 B2 B3 B4 B6 HB hHeld ⊢;refine sqp HT_ 2 48 ?_;refine sqp HT_ 5 51 ?_;refine sqw HT_ HW_ 0 46 hHeld ?_;refine sqw HT_ HW_ 1 47 hHeld ?_;refine sqw HT_ HW_ 3 49 hHeld ?_;refine sqp HT_ 4 50 ?_;refine sqw HT_ HW_ 6 52 hHeld ?_;refine sqp HT_ 7 53 ?_;refine sqo HT_ 8 54 (fun K hK=>?_);refine sqGb rfl Try.func78 (spec_l8Rem.calls _ _ _ _ _ _ _ _ A78.out) ?_;intro w81 hb;replace z0:=sqRbR z0 hb;replace B0:=sqb B0 hb;replace B1:=sqb B1 hb;replace B2:=sqb B2 hb;replace B3:=sqb B3 hb;replace B4:=sqb B4 hb;replace B6:=sqb B6 hb;replace HB:=sqs HB hb;(try clear hb);refine hK.out _ _ sqz (fun hHeld=>?_);clear hK K;refine sqnm ?_;refine sqo HT_ 9 55 (fun K hK=>?_);refine sqGb rfl Try.func77 (spec_RangeJoin.calls _ _ _ _ _ _ _ _ A79.out) ?_;intro w82 hb;replace z0:=sqRbR z0 hb;replace B0:=sqb B0 hb;replace B1:=sqb B1 hb;replace B2:=sqb B2 hb;replace B3:=sqb B3 hb;replace B4:=sqb B4 hb;replace B6:=sqb B6 hb;replace HB:=sqs HB hb;(try clear hb);refine hK.out _ _ sqz (fun hHeld=>?_);clear hK K;refine sqnm ?_;refine sqla HT_ 10 none (fun K hK=>?_);obtain ⟨_,_,_,_⟩:=sqc2 B6;obtain ⟨_,_,_,_,_,_,_,_⟩:=sqN4 N0_6 N1_6 N2_6 N3_6;obtain ⟨_,_⟩:=sqN1 N4_6;refine sqsk ?_;refine hK.out _ _ ?_;clear hK K;refine done_ (done_of HT_.out (by kernel_rfl)) ?_
        try go_wp2
        go_meet
        case rel=>exact ⟨_,(t29),(t30),H',⟨by have:=HJ5.out;have:=HJ46.out;have:=HJ51.out;first | omega | exact Nat.le_refl _⟩,⟨sqF1Rf (sqtyR z0 B6) (fun _ hk=>trivial)⟩,⟨sqT B0⟩,⟨sqT B1⟩,⟨sqT B2⟩,⟨sqT B3⟩,⟨sqT B4⟩,⟨sqP B6⟩,sqh HB⟩
       case rest =>
        clear HC65;obtain ⟨kq,x9,x10,HA,HJ64,z0,B0,B1,B2,B3,B4,B6,HB⟩:=hcut;cases kq with
        | zero=>exact absurd HA.out (by simp [spec_l8Div.j3])
        | succ kj64 =>
         have H:=HA.out;clear HA;simp only [spec_l8Div.j3] at H;replace H:=sqbi H;obtain ⟨⟨t31,t32⟩,A85,H⟩:=H;(try dsimp only at H);replace H:=sqi H;rcases H with ⟨c86,H⟩ | ⟨c86,H⟩
         ·have zp : (!(t1 == t31) || (!(t4 == t32))) = false:=by simpa using c86
          clear c86;replace H:=sqi H;rcases H with ⟨c190,H⟩ | ⟨c190,H⟩
          ·have zq : (a1_0 == a1_1) = false:=beq_eq_false_iff_ne.mpr c190;have zr : (a1_0 != a1_1) = true:=bne_iff_ne.mpr c190;simp only [Option.some.injEq,Prod.mk.injEq] at H;obtain ⟨rfl,rfl,rfl⟩:=H
           try go_wp2
           replace z0:=sqdrR z0;replace B0:=sqdr B0;replace B1:=sqdr B1;replace B2:=sqdr B2;replace B3:=sqdr B3;replace B4:=sqdr B4;replace B6:=sqdr B6;replace HB:=sqdB HB;refine sqst 3 (fun w'=>Ce2 w' gb4 (.int .i64 t1) (.int .i64 t4)) sqz (fun hHeld=>?_);generalize wc.drew = w254 at z0 B0 B1 B2 B3 B4 B6 HB hHeld ⊢;refine take_ (i:=0) (N:=some 56) (v:=?_) (a':=?_) #[true,false,false] rfl rfl (by kernel_rfl) (fun _ _ _ h=>h) (Or.inl ⟨by rfl,?_⟩) hHeld ?_ ?_;rotate_left
           ·rintro w' ⟨s0,s1⟩
            go_simp
            with_reducible rfl
           rotate_left
           ·simp only [Act.put,List.setIfInBounds_toArray,List.set_cons_zero,List.set_cons_succ,i64_w,i32_w]
            rfl
           refine one_ (i:=1) (N:=some 57) #[true,true,false] rfl rfl (by kernel_rfl) (by decide) (fun K hK=>?_);refine sqGb rfl Try.func38 (spec_l8None.calls _ _ _ A85.out) ?_;intro w255 hb;replace z0:=sqRbR z0 hb;replace B0:=sqb B0 hb;replace B1:=sqb B1 hb;replace B2:=sqb B2 hb;replace B3:=sqb B3 hb;replace B4:=sqb B4 hb;replace B6:=sqb B6 hb;replace HB:=sqs HB hb;(try clear hb);refine hK.out _ _ sqz (fun hHeld=>?_);clear hK K;refine sqnm ?_;refine pure_ (i:=2) (N:=some 58) (v:=?_) (a':=?_) #[true,true,true] rfl rfl (by kernel_rfl) (fun _ _ _ h=>h) (Or.inl ⟨by rfl,?_⟩) ?_ ?_;rotate_left
           ·intro w'
            go_simp
            with_reducible rfl
           rotate_left
           ·simp only [Act.put,List.setIfInBounds_toArray,List.set_cons_zero,List.set_cons_succ,i64_w,i32_w]
            rfl
           refine done_ (by kernel_rfl) ?_;obtain ⟨_,_,_,_,_,_,_,_⟩:=sqN4 N0_1 N0_2 N0_3 N0_4;obtain ⟨_,_⟩:=sqN1 N0_6;obtain ⟨_,_,_,_⟩:=sqc2 B0;obtain ⟨_,_,_,_,_,_,_,_⟩:=sqN4 N6_1 N6_2 N6_3 N6_4;obtain ⟨_,_,_,_⟩:=sqc2 B6;obtain ⟨_,_,_,_,_,_⟩:=sqN3 N2_1 N2_3 N2_4;obtain ⟨_,_,_,_⟩:=sqc2 B2
           try go_wp2
           refine bodyPost_ret (results_ct rfl _ _ gb2 24 #[.int .i64 x9,.int .i64 x10] (0,0) _ rfl (sqP B2) Try.underlying24 rfl (by kernel_rfl)) rfl ?_;exact ⟨_,sqEw,sqF1Rf (sqtyR z0 B2) (fun _ hk=>trivial),sqB HB⟩
          have zq : (a1_0 == a1_1) = true:=beq_iff_eq.mpr c190;have zr : (a1_0 != a1_1) = false:=bne_eq_false_iff_eq.mpr c190;clear c190;replace H:=sqi H;rcases H with ⟨c191,H⟩ | ⟨c191,H⟩
          ·have zt : (a2_0 == a2_1) = false:=beq_eq_false_iff_ne.mpr c191;have zu : (a2_0 != a2_1) = true:=bne_iff_ne.mpr c191;simp only [Option.some.injEq,Prod.mk.injEq] at H;obtain ⟨rfl,rfl,rfl⟩:=H
           try go_wp2
           replace z0:=sqdrR z0;replace B0:=sqdr B0;replace B1:=sqdr B1;replace B2:=sqdr B2;replace B3:=sqdr B3;replace B4:=sqdr B4;replace B6:=sqdr B6;replace HB:=sqdB HB;refine sqst 3 (fun w'=>Ce2 w' gb4 (.int .i64 t1) (.int .i64 t4)) sqz (fun hHeld=>?_);generalize wc.drew = w234 at z0 B0 B1 B2 B3 B4 B6 HB hHeld ⊢;refine take_ (i:=0) (N:=some 56) (v:=?_) (a':=?_) #[true,false,false] rfl rfl (by kernel_rfl) (fun _ _ _ h=>h) (Or.inl ⟨by rfl,?_⟩) hHeld ?_ ?_;rotate_left
           ·rintro w' ⟨s0,s1⟩
            go_simp
            with_reducible rfl
           rotate_left
           ·simp only [Act.put,List.setIfInBounds_toArray,List.set_cons_zero,List.set_cons_succ,i64_w,i32_w]
            rfl
           refine one_ (i:=1) (N:=some 57) #[true,true,false] rfl rfl (by kernel_rfl) (by decide) (fun K hK=>?_);refine sqGb rfl Try.func38 (spec_l8None.calls _ _ _ A85.out) ?_;intro w235 hb;replace z0:=sqRbR z0 hb;replace B0:=sqb B0 hb;replace B1:=sqb B1 hb;replace B2:=sqb B2 hb;replace B3:=sqb B3 hb;replace B4:=sqb B4 hb;replace B6:=sqb B6 hb;replace HB:=sqs HB hb;(try clear hb);refine hK.out _ _ sqz (fun hHeld=>?_);clear hK K;refine sqnm ?_;refine pure_ (i:=2) (N:=some 58) (v:=?_) (a':=?_) #[true,true,true] rfl rfl (by kernel_rfl) (fun _ _ _ h=>h) (Or.inl ⟨by rfl,?_⟩) ?_ ?_;rotate_left
           ·intro w'
            go_simp
            with_reducible rfl
           rotate_left
           ·simp only [Act.put,List.setIfInBounds_toArray,List.set_cons_zero,List.set_cons_succ,i64_w,i32_w]
            rfl
           refine done_ (by kernel_rfl) ?_;obtain ⟨_,_,_,_,_,_,_,_⟩:=sqN4 N0_1 N0_2 N0_3 N0_4;obtain ⟨_,_⟩:=sqN1 N0_6;obtain ⟨_,_,_,_⟩:=sqc2 B0;obtain ⟨_,_,_,_,_,_,_,_⟩:=sqN4 N1_2 N1_3 N1_4 N1_6;obtain ⟨_,_,_,_⟩:=sqc2 B1;obtain ⟨_,_,_,_,_,_⟩:=sqN3 N6_2 N6_3 N6_4;obtain ⟨_,_,_,_⟩:=sqc2 B6;obtain ⟨_,_,_,_⟩:=sqN2 N2_3 N2_4;obtain ⟨_,_,_,_⟩:=sqc2 B2
           try go_wp2
           refine bodyPost_ret (results_ct rfl _ _ gb2 24 #[.int .i64 x9,.int .i64 x10] (0,0) _ rfl (sqP B2) Try.underlying24 rfl (by kernel_rfl)) rfl ?_;exact ⟨_,sqEw,sqF1Rf (sqtyR z0 B2) (fun _ hk=>trivial),sqB HB⟩
          have zt : (a2_0 == a2_1) = true:=beq_iff_eq.mpr c191;have zu : (a2_0 != a2_1) = false:=bne_eq_false_iff_eq.mpr c191;clear c191;replace H:=sqj H;rcases H with ⟨c192,H⟩ | ⟨c192,H⟩
          ·have zv : (a2_0 == 0) = true:=beq_iff_eq.mpr c192;have zw : (a2_0 != 0) = false:=bne_eq_false_iff_eq.mpr c192;clear c192;simp only [Option.some.injEq,Prod.mk.injEq] at H;obtain ⟨rfl,rfl,rfl⟩:=H
           try go_wp2
           replace z0:=sqdrR z0;replace B0:=sqdr B0;replace B1:=sqdr B1;replace B2:=sqdr B2;replace B3:=sqdr B3;replace B4:=sqdr B4;replace B6:=sqdr B6;replace HB:=sqdB HB;refine sqst 3 (fun w'=>Ce2 w' gb4 (.int .i64 t1) (.int .i64 t4)) sqz (fun hHeld=>?_);generalize wc.drew = w193 at z0 B0 B1 B2 B3 B4 B6 HB hHeld ⊢;refine take_ (i:=0) (N:=some 56) (v:=?_) (a':=?_) #[true,false,false] rfl rfl (by kernel_rfl) (fun _ _ _ h=>h) (Or.inl ⟨by rfl,?_⟩) hHeld ?_ ?_;rotate_left
           ·rintro w' ⟨s0,s1⟩
            go_simp
            with_reducible rfl
           rotate_left
           ·simp only [Act.put,List.setIfInBounds_toArray,List.set_cons_zero,List.set_cons_succ,i64_w,i32_w]
            rfl
           refine one_ (i:=1) (N:=some 57) #[true,true,false] rfl rfl (by kernel_rfl) (by decide) (fun K hK=>?_);refine sqGb rfl Try.func38 (spec_l8None.calls _ _ _ A85.out) ?_;intro w194 hb;replace z0:=sqRbR z0 hb;replace B0:=sqb B0 hb;replace B1:=sqb B1 hb;replace B2:=sqb B2 hb;replace B3:=sqb B3 hb;replace B4:=sqb B4 hb;replace B6:=sqb B6 hb;replace HB:=sqs HB hb;(try clear hb);refine hK.out _ _ sqz (fun hHeld=>?_);clear hK K;refine sqnm ?_;refine pure_ (i:=2) (N:=some 58) (v:=?_) (a':=?_) #[true,true,true] rfl rfl (by kernel_rfl) (fun _ _ _ h=>h) (Or.inl ⟨by rfl,?_⟩) ?_ ?_;rotate_left
           ·intro w'
            go_simp
            with_reducible rfl
           rotate_left
           ·simp only [Act.put,List.setIfInBounds_toArray,List.set_cons_zero,List.set_cons_succ,i64_w,i32_w]
            rfl
           refine done_ (by kernel_rfl) ?_;obtain ⟨_,_,_,_,_,_,_,_⟩:=sqN4 N0_1 N0_2 N0_3 N0_4;obtain ⟨_,_⟩:=sqN1 N0_6;obtain ⟨_,_,_,_⟩:=sqc2 B0;obtain ⟨_,_,_,_,_,_,_,_⟩:=sqN4 N1_2 N1_3 N1_4 N1_6;obtain ⟨_,_,_,_⟩:=sqc2 B1;obtain ⟨_,_,_,_,_,_⟩:=sqN3 N6_2 N6_3 N6_4;obtain ⟨_,_,_,_⟩:=sqc2 B6;obtain ⟨_,_,_,_⟩:=sqN2 N2_3 N2_4;obtain ⟨_,_,_,_⟩:=sqc2 B2
           try go_wp2
           refine bodyPost_ret (results_ct rfl _ _ gb2 24 #[.int .i64 x9,.int .i64 x10] (0,0) _ rfl (sqP B2) Try.underlying24 rfl (by kernel_rfl)) rfl ?_;exact ⟨_,sqEw,sqF1Rf (sqtyR z0 B2) (fun _ hk=>trivial),sqB HB⟩
          have zv : (a2_0 == 0) = false:=beq_eq_false_iff_ne.mpr c192;have zw : (a2_0 != 0) = true:=bne_iff_ne.mpr c192;replace H:=sqbi H;obtain ⟨t33,A213,H⟩:=H;(try dsimp only at H);simp only [Option.some.injEq,Prod.mk.injEq] at H;obtain ⟨rfl,rfl,rfl⟩:=H
          try go_wp2
          replace z0:=sqdrR z0;replace B0:=sqdr B0;replace B1:=sqdr B1;replace B2:=sqdr B2;replace B3:=sqdr B3;replace B4:=sqdr B4;replace B6:=sqdr B6;replace HB:=sqdB HB;refine sqst 3 (fun w'=>Ce2 w' gb4 (.int .i64 t1) (.int .i64 t4)) sqz (fun hHeld=>?_);generalize wc.drew = w214 at z0 B0 B1 B2 B3 B4 B6 HB hHeld ⊢;refine take_ (i:=0) (N:=some 56) (v:=?_) (a':=?_) #[true,false,false] rfl rfl (by kernel_rfl) (fun _ _ _ h=>h) (Or.inl ⟨by rfl,?_⟩) hHeld ?_ ?_;rotate_left
          ·rintro w' ⟨s0,s1⟩
           go_simp
           with_reducible rfl
          rotate_left
          ·simp only [Act.put,List.setIfInBounds_toArray,List.set_cons_zero,List.set_cons_succ,i64_w,i32_w]
           rfl
          refine one_ (i:=1) (N:=some 57) #[true,true,false] rfl rfl (by kernel_rfl) (by decide) (fun K hK=>?_);refine sqGb rfl Try.func38 (spec_l8None.calls _ _ _ A85.out) ?_;intro w215 hb;replace z0:=sqRbR z0 hb;replace B0:=sqb B0 hb;replace B1:=sqb B1 hb;replace B2:=sqb B2 hb;replace B3:=sqb B3 hb;replace B4:=sqb B4 hb;replace B6:=sqb B6 hb;replace HB:=sqs HB hb;(try clear hb);refine hK.out _ _ sqz (fun hHeld=>?_);clear hK K;refine sqnm ?_;refine pure_ (i:=2) (N:=some 58) (v:=?_) (a':=?_) #[true,true,true] rfl rfl (by kernel_rfl) (fun _ _ _ h=>h) (Or.inl ⟨by rfl,?_⟩) ?_ ?_;rotate_left
          ·intro w'
           go_simp
           with_reducible rfl
          rotate_left
          ·simp only [Act.put,List.setIfInBounds_toArray,List.set_cons_zero,List.set_cons_succ,i64_w,i32_w]
           rfl
          refine done_ (by kernel_rfl) ?_;obtain ⟨_,_,_,_,_,_,_,_⟩:=sqN4 N0_1 N0_2 N0_3 N0_4;obtain ⟨_,_⟩:=sqN1 N0_6;obtain ⟨_,_,_,_⟩:=sqc2 B0;obtain ⟨_,_,_,_,_,_,_,_⟩:=sqN4 N1_2 N1_3 N1_4 N1_6;obtain ⟨_,_,_,_⟩:=sqc2 B1
          try go_wp2_with (first | ((with_reducible refine gf 65 rfl ?_);refine sqLq rfl (some 89) Try.func65 (spec_l1Exact.calls _ _ _ _ _ _ A213.out) ?_;intro nd;(try (rw [drewN_self w215];generalize hq_ : World.drewN w215 _ = w215;have n0_ : Aside0 (Kd.R (Kd.int .i64) 3 w215 w.heap.size (fun _=>True) u8 x2):=⟨by rw [← hq_];exact (sqy z0.out)⟩;have n1_ : Aside0 (w215.heap[gb0]? = some (.cells #[.int .i64 a1_0,.int .i64 a1_1] 24 (0,0))):=⟨by rw [← hq_];exact (sqt B0.out)⟩;have n2_ : Aside0 (w215.heap[gb1]? = some (.cells #[.int .i64 a2_0,.int .i64 a2_1] 24 (0,0))):=⟨by rw [← hq_];exact (sqt B1.out)⟩;have n3_ : Aside0 (w215.heap[gb2]? = some (.cells #[.int .i64 0,.int .i64 0] 24 (0,0))):=⟨by rw [← hq_];exact (sqt B2.out)⟩;have n4_ : Aside0 (w215.heap[gb3]? = some (.cells #[.int .i64 t0,.int .i64 t3] 24 (0,0))):=⟨by rw [← hq_];exact (sqt B3.out)⟩;have n5_ : Aside0 (w215.heap[gb4]? = some (.cells #[.int .i64 t1,.int .i64 t4] 24 (0,0))):=⟨by rw [← hq_];exact (sqt B4.out)⟩;have n6_ : Aside0 (w215.heap[gb6]? = some (.cells #[.int .i64 x9,.int .i64 x10] 24 (0,0))):=⟨by rw [← hq_];exact (sqt B6.out)⟩;have n7_ : Aside0 (Below w.heap.size w w215):=⟨by rw [← hq_];exact (sqB HB)⟩;clear z0 B0 B1 B2 B3 B4 B6 HB hq_;have z0:=n0_;have B0:=n1_;have B1:=n2_;have B2:=n3_;have B3:=n4_;have B4:=n5_;have B6:=n6_;have HB:=n7_;clear n0_ n1_ n2_ n3_ n4_ n5_ n6_ n7_));obtain ⟨_,_,_,_,_,_⟩:=sqN3 N6_2 N6_3 N6_4;obtain ⟨_,_,_,_⟩:=sqc2 B6;obtain ⟨_,_,_,_⟩:=sqN2 N2_3 N2_4;obtain ⟨_,_,_,_⟩:=sqc2 B2))
          refine bodyPost_ret (results_ct rfl _ _ gb2 24 #[.int .i64 t33,.int .i64 t33] (0,0) _ rfl (sqP B2) Try.underlying24 rfl (by kernel_rfl)) rfl ?_;exact ⟨_,sqEw,sqF2Rf (sqtyR ⟨sqtyR z0 B6⟩ B2) (fun _ hk=>trivial),sqB HB⟩
         have zp : (!(t1 == t31) || (!(t4 == t32))) = true:=c86;clear c86;replace H:=sqbi H;obtain ⟨⟨t34,t35⟩,A87,H⟩:=H;(try dsimp only at H);replace H:=sqbi H;obtain ⟨⟨t36,t37⟩,A88,H⟩:=H;(try dsimp only at H);replace H:=sqi H;rcases H with ⟨c89,H⟩ | ⟨c89,H⟩
         ·have zx : (a1_0 == a1_1) = false:=beq_eq_false_iff_ne.mpr c89;have zy : (a1_0 != a1_1) = true:=bne_iff_ne.mpr c89;simp only [Option.some.injEq,Prod.mk.injEq] at H;obtain ⟨rfl,rfl,rfl⟩:=H
          try go_wp2
          replace z0:=sqdrR z0;replace B0:=sqdr B0;replace B1:=sqdr B1;replace B2:=sqdr B2;replace B3:=sqdr B3;replace B4:=sqdr B4;replace B6:=sqdr B6;replace HB:=sqdB HB;refine sqst 3 (fun w'=>Ce2 w' gb4 (.int .i64 t1) (.int .i64 t4)) sqz (fun hHeld=>?_);generalize wc.drew = w168 at z0 B0 B1 B2 B3 B4 B6 HB hHeld ⊢;refine take_ (i:=0) (N:=some 56) (v:=?_) (a':=?_) #[true,false,false] rfl rfl (by kernel_rfl) (fun _ _ _ h=>h) (Or.inl ⟨by rfl,?_⟩) hHeld ?_ ?_;rotate_left
          ·rintro w' ⟨s0,s1⟩
           go_simp
           with_reducible rfl
          rotate_left
          ·simp only [Act.put,List.setIfInBounds_toArray,List.set_cons_zero,List.set_cons_succ,i64_w,i32_w]
           rfl
          refine one_ (i:=1) (N:=some 57) #[true,true,false] rfl rfl (by kernel_rfl) (by decide) (fun K hK=>?_);refine sqGb rfl Try.func38 (spec_l8None.calls _ _ _ A85.out) ?_;intro w169 hb;replace z0:=sqRbR z0 hb;replace B0:=sqb B0 hb;replace B1:=sqb B1 hb;replace B2:=sqb B2 hb;replace B3:=sqb B3 hb;replace B4:=sqb B4 hb;replace B6:=sqb B6 hb;replace HB:=sqs HB hb;(try clear hb);refine hK.out _ _ sqz (fun hHeld=>?_);clear hK K;refine sqnm ?_;refine pure_ (i:=2) (N:=some 58) (v:=?_) (a':=?_) #[true,true,true] rfl rfl (by kernel_rfl) (fun _ _ _ h=>h) (Or.inl ⟨by rfl,?_⟩) ?_ ?_;rotate_left
          ·intro w'
           go_simp
           with_reducible rfl
          rotate_left
          ·simp only [Act.put,List.setIfInBounds_toArray,List.set_cons_zero,List.set_cons_succ,i64_w,i32_w]
           rfl
          refine done_ (by kernel_rfl) ?_
          try go_wp2
          replace z0:=sqdrR z0;replace B0:=sqdr B0;replace B1:=sqdr B1;replace B2:=sqdr B2;replace B3:=sqdr B3;replace B4:=sqdr B4;replace B6:=sqdr B6;replace HB:=sqdB HB;refine sqsT 9 (fun w'=>Ce2 w' gb6 (.int .i64 x9) (.int .i64 x10)∧Ce2 w' gb0 (.int .i64 a1_0) (.int .i64 a1_1)∧Ce2 w' gb4 (.int .i64 t1) (.int .i64 t4)) [8] sqz (fun hHeld=>?_);refine with_tabW spec_l8Div.tab13 spec_l8Div.bits13 (fun HT_ HW_=>?_);generalize w169.drew = w170 at z0 B0 B1 B2 B3 B4 B6 HB hHeld ⊢;refine sqp HT_ 2 61 ?_;refine sqp HT_ 4 63 ?_;refine sqw HT_ HW_ 0 59 hHeld ?_;refine sqw HT_ HW_ 1 60 hHeld ?_;refine sqw HT_ HW_ 3 62 hHeld ?_;refine sqw HT_ HW_ 5 64 hHeld ?_;refine sqo HT_ 6 65 (fun K hK=>?_);refine sqGb rfl Try.func78 (spec_l8Rem.calls _ _ _ _ _ _ _ _ A87.out) ?_;intro w171 hb;replace z0:=sqRbR z0 hb;replace B0:=sqb B0 hb;replace B1:=sqb B1 hb;replace B2:=sqb B2 hb;replace B3:=sqb B3 hb;replace B4:=sqb B4 hb;replace B6:=sqb B6 hb;replace HB:=sqs HB hb;(try clear hb);refine hK.out _ _ sqz (fun hHeld=>?_);clear hK K;refine sqnm ?_;refine sqo HT_ 7 66 (fun K hK=>?_);refine sqGb rfl Try.func77 (spec_RangeJoin.calls _ _ _ _ _ _ _ _ A88.out) ?_;intro w172 hb;replace z0:=sqRbR z0 hb;replace B0:=sqb B0 hb;replace B1:=sqb B1 hb;replace B2:=sqb B2 hb;replace B3:=sqb B3 hb;replace B4:=sqb B4 hb;replace B6:=sqb B6 hb;replace HB:=sqs HB hb;(try clear hb);refine hK.out _ _ sqz (fun hHeld=>?_);clear hK K;refine sqnm ?_;refine sqla HT_ 8 none (fun K hK=>?_);obtain ⟨_,_,_,_⟩:=sqc2 B6;obtain ⟨_,_,_,_,_,_,_,_⟩:=sqN4 N0_6 N1_6 N2_6 N3_6;obtain ⟨_,_⟩:=sqN1 N4_6;refine sqsk ?_;refine hK.out _ _ ?_;clear hK K;refine done_ (done_of HT_.out (by kernel_rfl)) ?_;obtain ⟨_,_,_,_,_,_,_,_⟩:=sqN4 N0_1 N0_2 N0_3 N0_4;obtain ⟨_,_⟩:=sqN1 N0_6;obtain ⟨_,_,_,_⟩:=sqc2 B0;obtain ⟨_,_,_,_,_,_,_,_⟩:=sqN4 N6_1 N6_2 N6_3 N6_4;obtain ⟨_,_,_,_⟩:=sqc2 B6;obtain ⟨_,_,_,_,_,_⟩:=sqN3 N2_1 N2_3 N2_4;obtain ⟨_,_,_,_⟩:=sqc2 B2
          try go_wp2
          refine bodyPost_ret (results_ct rfl _ _ gb2 24 #[.int .i64 t36,.int .i64 t37] (0,0) _ rfl (sqP B2) Try.underlying24 rfl (by kernel_rfl)) rfl ?_;exact ⟨_,sqEw,sqF2Rf (sqtyR ⟨sqtyR z0 B6⟩ B2) (fun _ hk=>trivial),sqB HB⟩
         have zx : (a1_0 == a1_1) = true:=beq_iff_eq.mpr c89;have zy : (a1_0 != a1_1) = false:=bne_eq_false_iff_eq.mpr c89;clear c89;replace H:=sqi H;rcases H with ⟨c90,H⟩ | ⟨c90,H⟩
         ·have zz : (a2_0 == a2_1) = false:=beq_eq_false_iff_ne.mpr c90;have zA : (a2_0 != a2_1) = true:=bne_iff_ne.mpr c90;simp only [Option.some.injEq,Prod.mk.injEq] at H;obtain ⟨rfl,rfl,rfl⟩:=H
          try go_wp2
          replace z0:=sqdrR z0;replace B0:=sqdr B0;replace B1:=sqdr B1;replace B2:=sqdr B2;replace B3:=sqdr B3;replace B4:=sqdr B4;replace B6:=sqdr B6;replace HB:=sqdB HB;refine sqst 3 (fun w'=>Ce2 w' gb4 (.int .i64 t1) (.int .i64 t4)) sqz (fun hHeld=>?_);generalize wc.drew = w143 at z0 B0 B1 B2 B3 B4 B6 HB hHeld ⊢;refine take_ (i:=0) (N:=some 56) (v:=?_) (a':=?_) #[true,false,false] rfl rfl (by kernel_rfl) (fun _ _ _ h=>h) (Or.inl ⟨by rfl,?_⟩) hHeld ?_ ?_;rotate_left
          ·rintro w' ⟨s0,s1⟩
           go_simp
           with_reducible rfl
          rotate_left
          ·simp only [Act.put,List.setIfInBounds_toArray,List.set_cons_zero,List.set_cons_succ,i64_w,i32_w]
           rfl
          refine one_ (i:=1) (N:=some 57) #[true,true,false] rfl rfl (by kernel_rfl) (by decide) (fun K hK=>?_);refine sqGb rfl Try.func38 (spec_l8None.calls _ _ _ A85.out) ?_;intro w144 hb;replace z0:=sqRbR z0 hb;replace B0:=sqb B0 hb;replace B1:=sqb B1 hb;replace B2:=sqb B2 hb;replace B3:=sqb B3 hb;replace B4:=sqb B4 hb;replace B6:=sqb B6 hb;replace HB:=sqs HB hb;(try clear hb);refine hK.out _ _ sqz (fun hHeld=>?_);clear hK K;refine sqnm ?_;refine pure_ (i:=2) (N:=some 58) (v:=?_) (a':=?_) #[true,true,true] rfl rfl (by kernel_rfl) (fun _ _ _ h=>h) (Or.inl ⟨by rfl,?_⟩) ?_ ?_;rotate_left
          ·intro w'
           go_simp
           with_reducible rfl
          rotate_left
          ·simp only [Act.put,List.setIfInBounds_toArray,List.set_cons_zero,List.set_cons_succ,i64_w,i32_w]
           rfl
          refine done_ (by kernel_rfl) ?_
          try go_wp2
          replace z0:=sqdrR z0;replace B0:=sqdr B0;replace B1:=sqdr B1;replace B2:=sqdr B2;replace B3:=sqdr B3;replace B4:=sqdr B4;replace B6:=sqdr B6;replace HB:=sqdB HB;refine sqsT 9 (fun w'=>Ce2 w' gb6 (.int .i64 x9) (.int .i64 x10)∧Ce2 w' gb0 (.int .i64 a1_0) (.int .i64 a1_1)∧Ce2 w' gb4 (.int .i64 t1) (.int .i64 t4)) [8] sqz (fun hHeld=>?_);refine with_tabW spec_l8Div.tab13 spec_l8Div.bits13 (fun HT_ HW_=>?_);generalize w144.drew = w145 at z0 B0 B1 B2 B3 B4 B6 HB hHeld ⊢;refine sqp HT_ 2 61 ?_;refine sqp HT_ 4 63 ?_;refine sqw HT_ HW_ 0 59 hHeld ?_;refine sqw HT_ HW_ 1 60 hHeld ?_;refine sqw HT_ HW_ 3 62 hHeld ?_;refine sqw HT_ HW_ 5 64 hHeld ?_;refine sqo HT_ 6 65 (fun K hK=>?_);refine sqGb rfl Try.func78 (spec_l8Rem.calls _ _ _ _ _ _ _ _ A87.out) ?_;intro w146 hb;replace z0:=sqRbR z0 hb;replace B0:=sqb B0 hb;replace B1:=sqb B1 hb;replace B2:=sqb B2 hb;replace B3:=sqb B3 hb;replace B4:=sqb B4 hb;replace B6:=sqb B6 hb;replace HB:=sqs HB hb;(try clear hb);refine hK.out _ _ sqz (fun hHeld=>?_);clear hK K;refine sqnm ?_;refine sqo HT_ 7 66 (fun K hK=>?_);refine sqGb rfl Try.func77 (spec_RangeJoin.calls _ _ _ _ _ _ _ _ A88.out) ?_;intro w147 hb;replace z0:=sqRbR z0 hb;replace B0:=sqb B0 hb;replace B1:=sqb B1 hb;replace B2:=sqb B2 hb;replace B3:=sqb B3 hb;replace B4:=sqb B4 hb;replace B6:=sqb B6 hb;replace HB:=sqs HB hb;(try clear hb);refine hK.out _ _ sqz (fun hHeld=>?_);clear hK K;refine sqnm ?_;refine sqla HT_ 8 none (fun K hK=>?_);obtain ⟨_,_,_,_⟩:=sqc2 B6;obtain ⟨_,_,_,_,_,_,_,_⟩:=sqN4 N0_6 N1_6 N2_6 N3_6;obtain ⟨_,_⟩:=sqN1 N4_6;refine sqsk ?_;refine hK.out _ _ ?_;clear hK K;refine done_ (done_of HT_.out (by kernel_rfl)) ?_;obtain ⟨_,_,_,_,_,_,_,_⟩:=sqN4 N0_1 N0_2 N0_3 N0_4;obtain ⟨_,_⟩:=sqN1 N0_6;obtain ⟨_,_,_,_⟩:=sqc2 B0;obtain ⟨_,_,_,_,_,_,_,_⟩:=sqN4 N1_2 N1_3 N1_4 N1_6;obtain ⟨_,_,_,_⟩:=sqc2 B1;obtain ⟨_,_,_,_,_,_⟩:=sqN3 N6_2 N6_3 N6_4;obtain ⟨_,_,_,_⟩:=sqc2 B6;obtain ⟨_,_,_,_⟩:=sqN2 N2_3 N2_4;obtain ⟨_,_,_,_⟩:=sqc2 B2
          try go_wp2
          refine bodyPost_ret (results_ct rfl _ _ gb2 24 #[.int .i64 t36,.int .i64 t37] (0,0) _ rfl (sqP B2) Try.underlying24 rfl (by kernel_rfl)) rfl ?_;exact ⟨_,sqEw,sqF2Rf (sqtyR ⟨sqtyR z0 B6⟩ B2) (fun _ hk=>trivial),sqB HB⟩
         have zz : (a2_0 == a2_1) = true:=beq_iff_eq.mpr c90;have zA : (a2_0 != a2_1) = false:=bne_eq_false_iff_eq.mpr c90;clear c90;replace H:=sqj H;rcases H with ⟨c91,H⟩ | ⟨c91,H⟩
         ·have zB : (a2_0 == 0) = true:=beq_iff_eq.mpr c91;have zC : (a2_0 != 0) = false:=bne_eq_false_iff_eq.mpr c91;clear c91;simp only [Option.some.injEq,Prod.mk.injEq] at H;obtain ⟨rfl,rfl,rfl⟩:=H
          try go_wp2
          replace z0:=sqdrR z0;replace B0:=sqdr B0;replace B1:=sqdr B1;replace B2:=sqdr B2;replace B3:=sqdr B3;replace B4:=sqdr B4;replace B6:=sqdr B6;replace HB:=sqdB HB;refine sqst 3 (fun w'=>Ce2 w' gb4 (.int .i64 t1) (.int .i64 t4)) sqz (fun hHeld=>?_);generalize wc.drew = w92 at z0 B0 B1 B2 B3 B4 B6 HB hHeld ⊢;refine take_ (i:=0) (N:=some 56) (v:=?_) (a':=?_) #[true,false,false] rfl rfl (by kernel_rfl) (fun _ _ _ h=>h) (Or.inl ⟨by rfl,?_⟩) hHeld ?_ ?_;rotate_left
          ·rintro w' ⟨s0,s1⟩
           go_simp
           with_reducible rfl
          rotate_left
          ·simp only [Act.put,List.setIfInBounds_toArray,List.set_cons_zero,List.set_cons_succ,i64_w,i32_w]
           rfl
          refine one_ (i:=1) (N:=some 57) #[true,true,false] rfl rfl (by kernel_rfl) (by decide) (fun K hK=>?_);refine sqGb rfl Try.func38 (spec_l8None.calls _ _ _ A85.out) ?_;intro w93 hb;replace z0:=sqRbR z0 hb;replace B0:=sqb B0 hb;replace B1:=sqb B1 hb;replace B2:=sqb B2 hb;replace B3:=sqb B3 hb;replace B4:=sqb B4 hb;replace B6:=sqb B6 hb;replace HB:=sqs HB hb;(try clear hb);refine hK.out _ _ sqz (fun hHeld=>?_);clear hK K;refine sqnm ?_;refine pure_ (i:=2) (N:=some 58) (v:=?_) (a':=?_) #[true,true,true] rfl rfl (by kernel_rfl) (fun _ _ _ h=>h) (Or.inl ⟨by rfl,?_⟩) ?_ ?_;rotate_left
          ·intro w'
           go_simp
           with_reducible rfl
          rotate_left
          ·simp only [Act.put,List.setIfInBounds_toArray,List.set_cons_zero,List.set_cons_succ,i64_w,i32_w]
           rfl
          refine done_ (by kernel_rfl) ?_
          try go_wp2
          replace z0:=sqdrR z0;replace B0:=sqdr B0;replace B1:=sqdr B1;replace B2:=sqdr B2;replace B3:=sqdr B3;replace B4:=sqdr B4;replace B6:=sqdr B6;replace HB:=sqdB HB;refine sqsT 9 (fun w'=>Ce2 w' gb6 (.int .i64 x9) (.int .i64 x10)∧Ce2 w' gb0 (.int .i64 a1_0) (.int .i64 a1_1)∧Ce2 w' gb4 (.int .i64 t1) (.int .i64 t4)) [8] sqz (fun hHeld=>?_);refine with_tabW spec_l8Div.tab13 spec_l8Div.bits13 (fun HT_ HW_=>?_);generalize w93.drew = w94 at z0 B0 B1 B2 B3 B4 B6 HB hHeld ⊢;refine sqp HT_ 2 61 ?_;refine sqp HT_ 4 63 ?_;refine sqw HT_ HW_ 0 59 hHeld ?_;refine sqw HT_ HW_ 1 60 hHeld ?_;refine sqw HT_ HW_ 3 62 hHeld ?_;refine sqw HT_ HW_ 5 64 hHeld ?_;refine sqo HT_ 6 65 (fun K hK=>?_);refine sqGb rfl Try.func78 (spec_l8Rem.calls _ _ _ _ _ _ _ _ A87.out) ?_;intro w95 hb;replace z0:=sqRbR z0 hb;replace B0:=sqb B0 hb;replace B1:=sqb B1 hb;replace B2:=sqb B2 hb;replace B3:=sqb B3 hb;replace B4:=sqb B4 hb;replace B6:=sqb B6 hb;replace HB:=sqs HB hb;(try clear hb);refine hK.out _ _ sqz (fun hHeld=>?_);clear hK K;refine sqnm ?_;refine sqo HT_ 7 66 (fun K hK=>?_);refine sqGb rfl Try.func77 (spec_RangeJoin.calls _ _ _ _ _ _ _ _ A88.out) ?_;intro w96 hb;replace z0:=sqRbR z0 hb;replace B0:=sqb B0 hb;replace B1:=sqb B1 hb;replace B2:=sqb B2 hb;replace B3:=sqb B3 hb;replace B4:=sqb B4 hb;replace B6:=sqb B6 hb;replace HB:=sqs HB hb;(try clear hb);refine hK.out _ _ sqz (fun hHeld=>?_);clear hK K;refine sqnm ?_;refine sqla HT_ 8 none (fun K hK=>?_);obtain ⟨_,_,_,_⟩:=sqc2 B6;obtain ⟨_,_,_,_,_,_,_,_⟩:=sqN4 N0_6 N1_6 N2_6 N3_6;obtain ⟨_,_⟩:=sqN1 N4_6;refine sqsk ?_;refine hK.out _ _ ?_;clear hK K;refine done_ (done_of HT_.out (by kernel_rfl)) ?_;obtain ⟨_,_,_,_,_,_,_,_⟩:=sqN4 N0_1 N0_2 N0_3 N0_4;obtain ⟨_,_⟩:=sqN1 N0_6;obtain ⟨_,_,_,_⟩:=sqc2 B0;obtain ⟨_,_,_,_,_,_,_,_⟩:=sqN4 N1_2 N1_3 N1_4 N1_6;obtain ⟨_,_,_,_⟩:=sqc2 B1;obtain ⟨_,_,_,_,_,_⟩:=sqN3 N6_2 N6_3 N6_4;obtain ⟨_,_,_,_⟩:=sqc2 B6;obtain ⟨_,_,_,_⟩:=sqN2 N2_3 N2_4;obtain ⟨_,_,_,_⟩:=sqc2 B2
          try go_wp2
          refine bodyPost_ret (results_ct rfl _ _ gb2 24 #[.int .i64 t36,.int .i64 t37] (0,0) _ rfl (sqP B2) Try.underlying24 rfl (by kernel_rfl)) rfl ?_;exact ⟨_,sqEw,sqF2Rf (sqtyR ⟨sqtyR z0 B6⟩ B2) (fun _ hk=>trivial),sqB HB⟩
         have zB : (a2_0 == 0) = false:=beq_eq_false_iff_ne.mpr c91;have zC : (a2_0 != 0) = true:=bne_iff_ne.mpr c91;replace H:=sqbi H;obtain ⟨t38,A117,H⟩:=H;(try dsimp only at H);simp only [Option.some.injEq,Prod.mk.injEq] at H;obtain ⟨rfl,rfl,rfl⟩:=H
         try go_wp2
         replace z0:=sqdrR z0;replace B0:=sqdr B0;replace B1:=sqdr B1;replace B2:=sqdr B2;replace B3:=sqdr B3;replace B4:=sqdr B4;replace B6:=sqdr B6;replace HB:=sqdB HB;refine sqst 3 (fun w'=>Ce2 w' gb4 (.int .i64 t1) (.int .i64 t4)) sqz (fun hHeld=>?_);generalize wc.drew = w118 at z0 B0 B1 B2 B3 B4 B6 HB hHeld ⊢;refine take_ (i:=0) (N:=some 56) (v:=?_) (a':=?_) #[true,false,false] rfl rfl (by kernel_rfl) (fun _ _ _ h=>h) (Or.inl ⟨by rfl,?_⟩) hHeld ?_ ?_;rotate_left
         ·rintro w' ⟨s0,s1⟩
          go_simp
          with_reducible rfl
         rotate_left
         ·simp only [Act.put,List.setIfInBounds_toArray,List.set_cons_zero,List.set_cons_succ,i64_w,i32_w]
          rfl
         refine one_ (i:=1) (N:=some 57) #[true,true,false] rfl rfl (by kernel_rfl) (by decide) (fun K hK=>?_);refine sqGb rfl Try.func38 (spec_l8None.calls _ _ _ A85.out) ?_;intro w119 hb;replace z0:=sqRbR z0 hb;replace B0:=sqb B0 hb;replace B1:=sqb B1 hb;replace B2:=sqb B2 hb;replace B3:=sqb B3 hb;replace B4:=sqb B4 hb;replace B6:=sqb B6 hb;replace HB:=sqs HB hb;(try clear hb);refine hK.out _ _ sqz (fun hHeld=>?_);clear hK K;refine sqnm ?_;refine pure_ (i:=2) (N:=some 58) (v:=?_) (a':=?_) #[true,true,true] rfl rfl (by kernel_rfl) (fun _ _ _ h=>h) (Or.inl ⟨by rfl,?_⟩) ?_ ?_;rotate_left
         ·intro w'
          go_simp
          with_reducible rfl
         rotate_left
         ·simp only [Act.put,List.setIfInBounds_toArray,List.set_cons_zero,List.set_cons_succ,i64_w,i32_w]
          rfl
         refine done_ (by kernel_rfl) ?_
         try go_wp2
         replace z0:=sqdrR z0;replace B0:=sqdr B0;replace B1:=sqdr B1;replace B2:=sqdr B2;replace B3:=sqdr B3;replace B4:=sqdr B4;replace B6:=sqdr B6;replace HB:=sqdB HB;refine sqsT 9 (fun w'=>Ce2 w' gb6 (.int .i64 x9) (.int .i64 x10)∧Ce2 w' gb0 (.int .i64 a1_0) (.int .i64 a1_1)∧Ce2 w' gb4 (.int .i64 t1) (.int .i64 t4)) [8] sqz (fun hHeld=>?_);refine with_tabW spec_l8Div.tab13 spec_l8Div.bits13 (fun HT_ HW_=>?_);generalize w119.drew = w120 at z0 B0 B1 B2 B3 B4 B6 HB hHeld ⊢;refine sqp HT_ 2 61 ?_;refine sqp HT_ 4 63 ?_;refine sqw HT_ HW_ 0 59 hHeld ?_;refine sqw HT_ HW_ 1 60 hHeld ?_;refine sqw HT_ HW_ 3 62 hHeld ?_;refine sqw HT_ HW_ 5 64 hHeld ?_;refine sqo HT_ 6 65 (fun K hK=>?_);refine sqGb rfl Try.func78 (spec_l8Rem.calls _ _ _ _ _ _ _ _ A87.out) ?_;intro w121 hb;replace z0:=sqRbR z0 hb;replace B0:=sqb B0 hb;replace B1:=sqb B1 hb;replace B2:=sqb B2 hb;replace B3:=sqb B3 hb;replace B4:=sqb B4 hb;replace B6:=sqb B6 hb;replace HB:=sqs HB hb;(try clear hb);refine hK.out _ _ sqz (fun hHeld=>?_);clear hK K;refine sqnm ?_;refine sqo HT_ 7 66 (fun K hK=>?_);refine sqGb rfl Try.func77 (spec_RangeJoin.calls _ _ _ _ _ _ _ _ A88.out) ?_;intro w122 hb;replace z0:=sqRbR z0 hb;replace B0:=sqb B0 hb;replace B1:=sqb B1 hb;replace B2:=sqb B2 hb;replace B3:=sqb B3 hb;replace B4:=sqb B4 hb;replace B6:=sqb B6 hb;replace HB:=sqs HB hb;(try clear hb);refine hK.out _ _ sqz (fun hHeld=>?_);clear hK K;refine sqnm ?_;refine sqla HT_ 8 none (fun K hK=>?_);obtain ⟨_,_,_,_⟩:=sqc2 B6;obtain ⟨_,_,_,_,_,_,_,_⟩:=sqN4 N0_6 N1_6 N2_6 N3_6;obtain ⟨_,_⟩:=sqN1 N4_6;refine sqsk ?_;refine hK.out _ _ ?_;clear hK K;refine done_ (done_of HT_.out (by kernel_rfl)) ?_;obtain ⟨_,_,_,_,_,_,_,_⟩:=sqN4 N0_1 N0_2 N0_3 N0_4;obtain ⟨_,_⟩:=sqN1 N0_6;obtain ⟨_,_,_,_⟩:=sqc2 B0;obtain ⟨_,_,_,_,_,_,_,_⟩:=sqN4 N1_2 N1_3 N1_4 N1_6;obtain ⟨_,_,_,_⟩:=sqc2 B1
         obtain ⟨wz,hw_⟩ : ∃ w_,w_ = ((w122.setCell ⟨gb6,0,none⟩ (.int .i64 t36)).setCell ⟨gb6,1,none⟩ (.int .i64 t37)):=⟨_,rfl⟩;replace z0 : Aside0 (Kd.R (Kd.int .i64) 3 wz w.heap.size (fun _=>True) u8 x2):=⟨by rw [hw_];exact sqF1Rf (sqtyR z0 B6) (fun _ hk=>trivial)⟩
         replace B0:=sqTe hw_ B0;replace B1:=sqTe hw_ B1;replace B2:=sqTe hw_ B2;replace B3:=sqTe hw_ B3;replace B4:=sqTe hw_ B4
         replace B6 : Aside0 (wz.heap[gb6]? = some (.cells #[.int .i64 t36,.int .i64 t37] 24 (0,0))):=by rw [hw_];exact ⟨sqP B6⟩
         replace HB:=sqhw hw_ HB
         rw [← hw_];clear hw_;obtain ⟨_,_,_,_,_,_,_,_⟩:=sqN4 N0_1 N0_2 N0_3 N0_4;obtain ⟨_,_⟩:=sqN1 N0_6;obtain ⟨_,_,_,_⟩:=sqc2 B0;obtain ⟨_,_,_,_,_,_,_,_⟩:=sqN4 N1_2 N1_3 N1_4 N1_6;obtain ⟨_,_,_,_⟩:=sqc2 B1
         try go_wp2_with (first | ((with_reducible refine gf 65 rfl ?_);refine sqLq rfl (some 89) Try.func65 (spec_l1Exact.calls _ _ _ _ _ _ A117.out) ?_;intro nd;obtain ⟨_,_,_,_,_,_⟩:=sqN3 N6_2 N6_3 N6_4;obtain ⟨_,_,_,_⟩:=sqc2 B6;obtain ⟨_,_,_,_⟩:=sqN2 N2_3 N2_4;obtain ⟨_,_,_,_⟩:=sqc2 B2))
         refine bodyPost_ret (results_ct rfl _ _ gb2 24 #[.int .i64 t38,.int .i64 t38] (0,0) _ rfl (sqP B2) Try.underlying24 rfl (by kernel_rfl)) rfl ?_;exact ⟨_,sqEw,sqF2Rf (sqtyR ⟨sqtyR ⟨(Kd.R_drewN z0.out nd : Kd.R (Kd.int .i64) 3 (wz.drewN nd) w.heap.size (fun _=>True) u8 x2)⟩ ⟨blk_drewN B6.out nd⟩⟩ ⟨blk_drewN B2.out nd⟩) (fun _ hk=>trivial),sqB HB⟩

/-! ### spec_l8Mask: function 82 -/
theorem spec_l8Mask.calls (k : Nat) (a0 : Int) (r : Int) (w : World) (h : spec_l8Mask.f k a0 = some r) :
  Calls Try.prog 82 #[.int .i64 a0] w fun e w'=>e = .returned (.int .i64 r)∧Drawn0 w w':=by
 have H:=h;unfold spec_l8Mask.f at H;clear h;have H':=Aside0.mk H;clear H;go_enter Try.func82,Try.ntmps82
 go_wp2
 go_loopg [3] k (fun kq v3 w'=>∃ (x0 : Int),v3 = .int .i64 x0∧Aside0 (spec_l8Mask.l0 kq a0 x0 = some r)∧Aside0 (kq ≤ k)∧Drawn0 w w')
 case atStart=>exact ⟨(0),sqE,H',⟨Nat.le_refl _⟩,sqD⟩
 case round =>
  clear H';obtain ⟨x0,rfl,HA,HK1,⟨m1,rfl⟩⟩:=hrel;cases gk with
  | zero=>exact absurd HA.out (by simp [spec_l8Mask.l0])
  | succ k1 =>
   have H:=HA.out;clear HA;simp only [spec_l8Mask.l0] at H;replace H:=sqi H;rcases H with ⟨c2,H⟩ | ⟨c2,H⟩
   ·have z0:=decide_eq_false c2;clear c2;obtain rfl:=Option.some.inj H
    go_wp2
    go_ret
    exact ⟨sqE,sqD⟩
   have z0:=decide_eq_true c2;clear c2;have H':=Aside0.mk H;clear H
   go_wp2
   go_roundg k1
   case measure=>have:=HK1.out;omega
   case rel=>exact ⟨(wrap64 ((wrap64 (2 * x0)) + 1)),sqE,H',⟨by have:=HK1.out;omega⟩,sqD⟩

end Go.Proofs.Ytlbheepfmjbpnaa.PFnRangeDo
