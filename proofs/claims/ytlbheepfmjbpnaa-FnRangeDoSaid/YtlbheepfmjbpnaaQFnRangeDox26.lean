/- Functions of the program as plain Lean functions, and that calls of them come to what these tell. Conditions: those in each law. -/
import Derived.Test.YtlbheepfmjbpnaaSq
import Derived.Test.YtlbheepfmjbpnaaDFnRangeDo
import Derived.Test.YtlbheepfmjbpnaaQFnRangeDox0
import Derived.Test.YtlbheepfmjbpnaaQFnRangeDox2
import Derived.Test.YtlbheepfmjbpnaaQFnRangeDox5
import Derived.Test.YtlbheepfmjbpnaaQFnRangeDox8
import Derived.Test.YtlbheepfmjbpnaaQFnRangeDox16
import Derived.Test.YtlbheepfmjbpnaaQFnRangeDox23
import Derived.Test.YtlbheepfmjbpnaaQFnRangeDox25
namespace Go.Proofs.Ytlbheepfmjbpnaa.PFnRangeDo
open Go.RowKit Go.Proofs.Ytlbheepfmjbpnaa.Sq Go.Proofs.YtlbheepfmjbpnaaW.PrintWords Go.Proofs.YtlbheepfmjbpnaaW.PrintLast Go.Proofs.YtlbheepfmjbpnaaW.PrintMore
attribute [local go_sem] max2_int min2_int max_two min_two max_three min_three max_four min_four   -- for this text's walks alone
set_option linter.unusedVariables false
set_option linter.unusedSimpArgs false

attribute [local go_sem high] eqA24
set_option maxHeartbeats 8000000
set_option maxRecDepth 100000
/-! ### laws_FnRangeDo: function 3 -/
theorem laws_FnRangeDo.calls (k : Nat) (A0 : Option Addr) (c0 : Nat) (l0 : List Int) (r : Bool) (w : World) (hr0 : Kd.C (Kd.int .u8) w A0 l0.length l0) (hc0 : l0.length ≤ c0) (h : laws_FnRangeDo.f k l0 = some r) (hr_ : r = true:=by rfl) :
  Calls Try.prog 3 #[.slice A0 l0.length c0] w fun e w'=>e = .returned (.bool r)∧Below w.heap.size w w':=by
 subst hr_;have hu24:=Try.underlying24;have HR0:=Aside0.mk hr0;have HC0:=Aside0.mk hc0;clear hr0 hc0;have HB:=Aside0.mk (Below.refl w.heap.size w);have H:=h;unfold laws_FnRangeDo.f at H;clear h;replace H:=sqj H;rcases H with ⟨c2,H⟩ | ⟨c2,H⟩
 ·have z9 : decide (1048576 < (l0.length : Int)) = true:=decide_eq_true c2;have za : decide (1048576 < l0.length) = true:=decide_eq_true (by omega);clear c2;clear H;go_enter Try.func3,Try.ntmps3
  go_wp2
  go_ret
  exact sqe HB
 have z9 : decide (1048576 < (l0.length : Int)) = false:=decide_eq_false c2;have za : decide (1048576 < l0.length) = false:=decide_eq_false (by omega);clear c2;replace H:=sqbi H;obtain ⟨⟨t0,t1,t2,t3,t4⟩,A3,H⟩:=H;(try dsimp only at H);replace H:=sqbi H;obtain ⟨⟨t5,t6,t7⟩,A4,H⟩:=H;(try dsimp only at H);replace H:=sqbi H;obtain ⟨⟨t8,t9,t10⟩,A5,H⟩:=H;(try dsimp only at H);have HC6:=Aside0.mk H;clear H;go_enter Try.func3,Try.ntmps3;go_upto_region 6 with (first | ((with_reducible refine gf 5 rfl ?_);refine sqLb rfl (some 20) Try.func5 (spec_DrawRangeDo.calls _ _ _ _ _ _ _ _ _ _ (sqC HR0.out) HC0.out A3.out) ?_;intro w7 hb;replace HB:=sqs HB hb;(try clear hb)) | ((with_reducible refine gd 4 rfl ?_);(try (refine gate_guard (by rfl) ?_;dsimp only));refine sqX 4 #[.int .i64 0,.int .i64 0] 24 HB ?_;clear HB;intro gb0 hg w8 hb B0 GW0 HB;clear hb hg) | ((with_reducible refine gd 5 rfl ?_);(try (refine gate_guard (by rfl) ?_;dsimp only));refine sqX 5 #[.int .i64 0,.int .i64 0] 24 HB ?_;clear HB;intro gb1 hg w9 hb B1 GW1 HB;have N0_1:=sqn B0 hg;have N1_0:=sqm B0 hg;replace B0:=sqb B0 hb;clear hb hg;obtain ⟨_,_⟩:=sqN1 N0_1;obtain ⟨_,_,_,_⟩:=sqc2 B0;obtain ⟨_,_,_,_⟩:=sqc2 B1) | ((with_reducible refine gf 6 rfl ?_);refine sqLc rfl (some 28) Try.func6 (impl_RangeDo.calls _ _ _ _ _ _ _ _ _ _ A4.out) ?_;rintro e w13 ⟨z6,rfl,ho0,hb⟩;refine ⟨_,rfl,?_⟩;have z2:=sqRlR ho0 HB;replace B0:=sqPb (ds:=#[.int .i64 t1,.int .i64 t2]) B0 hb;replace B1:=sqPb (ds:=#[.int .i64 t3,.int .i64 t4]) B1 hb;replace HB:=sqs HB hb;(try clear hb);(try clear hb2);(try clear hk);(try clear hi);(try clear ho0)) | ((with_reducible refine gd 6 rfl ?_);(try (refine gate_guard (by rfl) ?_;dsimp only));refine sqX 6 #[.int .i64 0,.int .i64 0] 24 HB ?_;clear HB;intro gb2 hg w14 hb B2 GW2 HB;replace z2:=sqRbR z2 hb;have N0_2:=sqn B0 hg;have N2_0:=sqm B0 hg;replace B0:=sqb B0 hb;have N1_2:=sqn B1 hg;have N2_1:=sqm B1 hg;replace B1:=sqb B1 hb;clear hb hg;obtain ⟨_,_,_,_⟩:=sqN2 N2_0 N2_1;obtain ⟨_,_,_,_⟩:=sqc2 B2;obtain ⟨_,_,_,_⟩:=sqc2 B0;obtain ⟨_,_,_,_⟩:=sqc2 B1) | ((with_reducible refine gf 7 rfl ?_);refine sqLc rfl (some 35) Try.func7 (spec_RangeDo.calls _ _ _ _ _ _ _ _ _ _ A5.out) ?_;rintro e w20 ⟨zp,rfl,ho0,hb⟩;refine ⟨_,rfl,?_⟩;have z3:=Aside0.mk (Kd.R_lower (Kd.R_new' ho0 (Kd.R_lt (sqF1R (sqtyR z2 B2)))) (below_size (sqB HB)));replace z2:=Aside0.mk (Kd.R_elder' (sqF1R (sqtyR z2 B2)) (Kd.R_base ho0) hb);replace B0:=sqbb B0 hb;replace B1:=sqbb B1 hb;replace B2:=sqPb (ds:=#[.int .i64 t5,.int .i64 t6]) B2 hb;replace HB:=sqs HB hb;(try clear hb);(try clear hb2);(try clear hk);(try clear hi);(try clear ho0)) | ((with_reducible refine gd 8 rfl ?_);(try (refine gate_guard (by rfl) ?_;dsimp only));refine sqX 8 #[.int .i64 0,.int .i64 0] 24 HB ?_;clear HB;intro gb3 hg w21 hb B3 GW3 HB;replace z2:=sqRbR z2 hb;replace z3:=sqRbR z3 hb;have N0_3:=sqn B0 hg;have N3_0:=sqm B0 hg;replace B0:=sqb B0 hb;have N1_3:=sqn B1 hg;have N3_1:=sqm B1 hg;replace B1:=sqb B1 hb;have N2_3:=sqn B2 hg;have N3_2:=sqm B2 hg;replace B2:=sqb B2 hb;clear hb hg;obtain ⟨_,_,_,_,_,_⟩:=sqN3 N3_0 N3_1 N3_2;obtain ⟨_,_,_,_⟩:=sqc2 B3))
 (try simp only [Act.put,List.setIfInBounds_toArray,List.set_cons_zero,List.set_cons_succ])
 go_cut [46] (fun v46 wc=>∃ (kq : Nat) (x0 : Bool),v46 = .bool x0∧Aside0 (laws_FnRangeDo.j0 kq l0 t0 t7 x0 t1 t2 t3 t4 t5 t6 = some true)∧Aside0 (kq ≤ k)∧Aside0 (Kd.R (Kd.int .i64) 3 wc w.heap.size (fun _=>True) z6 t7)∧Aside0 (wc.heap[gb0]? = some (.cells #[.int .i64 t1,.int .i64 t2] 24 (0,0)))∧Aside0 (wc.heap[gb1]? = some (.cells #[.int .i64 t3,.int .i64 t4] 24 (0,0)))∧Aside0 (wc.heap[gb2]? = some (.cells #[.int .i64 t5,.int .i64 t6] 24 (0,0)))∧Aside0 (wc.heap[gb3]? = some (.cells #[.int .i64 t8,.int .i64 t9] 24 (0,0)))∧Aside0 (Below w.heap.size w wc))
 case first =>
  as_aux_lemma =>
  have H:=HC6.out;clear HC6;replace H:=sqj H;rcases H with ⟨c26,H⟩ | ⟨c26,H⟩
  ·have z4 : (!(t5 == t8) || (!(t6 == t9))) = true:=c26;clear c26
   (first | rw [z4] | (simp only [i64_w,i32_w];rw [z4]) | skip)
   have H':=Aside0.mk H;clear H;obtain ⟨_,_,_,_,_,_⟩:=sqN3 N2_0 N2_1 N2_3;obtain ⟨_,_,_,_⟩:=sqc2 B2;obtain ⟨_,_,_,_⟩:=sqN2 N3_0 N3_1;obtain ⟨_,_,_,_⟩:=sqc2 B3
   go_wp2
   go_meet
   case rel=>exact ⟨_,(true),sqE,H',⟨sqle⟩,⟨sqF1Rf (sqtyR z2 B3) (fun _ hk=>trivial)⟩,⟨sqT B0⟩,⟨sqT B1⟩,⟨sqT B2⟩,⟨sqP B3⟩,sqh HB⟩
  have z4 : (!(t5 == t8) || (!(t6 == t9))) = false:=by simpa using c26
  clear c26
  (first | rw [z4] | (simp only [i64_w,i32_w];rw [z4]) | skip)
  replace H:=sqbi H;obtain ⟨t11,A34,H⟩:=H;(try dsimp only at H);have H':=Aside0.mk H;clear H;obtain ⟨_,_,_,_,_,_⟩:=sqN3 N2_0 N2_1 N2_3;obtain ⟨_,_,_,_⟩:=sqc2 B2;obtain ⟨_,_,_,_⟩:=sqN2 N3_0 N3_1;obtain ⟨_,_,_,_⟩:=sqc2 B3;obtain ⟨zb,z7,zc⟩:=Kd.R_slice z2.out;subst zc;obtain ⟨zd,z8,ze⟩:=Kd.R_slice z3.out;subst ze;go_wp2_with (first | (go_at_call 8;(with_reducible refine (laws_sameInts.calls k _ _ t7 _ _ t10 t11 _ ?side1 ?side2 ?side3 ?side4 A34.out).mono ?_);(case side1=>refine (Kd.R_reads' (e:=3) (base:=w.heap.size) (ok:=fun k_=>(True∧some k_≠(.slice zd t10.length z8 : Value).ownBlock)) (n:=t7.length) (c:=z7) ?_).2.2;exact (sqF1R (sqtyR z2 B3)));(case side2=>exact (Kd.R_reads' z2.out).2.1);(case side3=>refine (Kd.R_reads' (e:=3) (base:=w.heap.size) (ok:=fun k_=>(True∧some k_≠(.slice zb t7.length z7 : Value).ownBlock)) (n:=t10.length) (c:=z8) ?_).2.2;exact (sqF1R (sqtyR z3 B3)));(case side4=>exact (Kd.R_reads' z3.out).2.1);rintro e w' ⟨rfl,⟨nd,rfl⟩⟩));go_meet
  case rel=>exact ⟨_,(!t11),sqE,H',⟨sqle⟩,⟨sqF1Rf (sqtyR z2 B3) (fun _ hk=>trivial)⟩,⟨sqT B0⟩,⟨sqT B1⟩,⟨sqT B2⟩,⟨sqP B3⟩,sqh HB⟩
 case rest =>
  as_aux_lemma =>
  clear HC6;obtain ⟨kq,x0,rfl,HA,HJ5,z1,B0,B1,B2,B3,HB⟩:=hcut;cases kq with
  | zero=>exact absurd HA.out (by simp [laws_FnRangeDo.j0])
  | succ kj5 =>
   have H:=HA.out;clear HA;simp only [laws_FnRangeDo.j0] at H
   by_cases c44 : x0 = true
   ·subst c44;rw [if_pos rfl] at H;exact absurd (Option.some.inj H) (by decide)
   replace c44:=Bool.eq_false_iff.mpr c44;subst c44;rw [sqff] at H;have HC45:=Aside0.mk H;clear H;go_upto_region 8 with (fail);go_cut [76] (fun v76 wc=>∃ (kq : Nat) (x1 : Bool),v76 = .bool x1∧Aside0 (laws_FnRangeDo.j1 kq l0 t0 t7 x1 t1 t2 t3 t4 t5 t6 = some true)∧Aside0 (kq ≤ kj5)∧Aside0 (Kd.R (Kd.int .i64) 3 wc w.heap.size (fun _=>True) z6 t7)∧Aside0 (wc.heap[gb0]? = some (.cells #[.int .i64 t1,.int .i64 t2] 24 (0,0)))∧Aside0 (wc.heap[gb1]? = some (.cells #[.int .i64 t3,.int .i64 t4] 24 (0,0)))∧Aside0 (wc.heap[gb2]? = some (.cells #[.int .i64 t5,.int .i64 t6] 24 (0,0)))∧Aside0 (wc.heap[gb3]? = some (.cells #[.int .i64 t8,.int .i64 t9] 24 (0,0)))∧Aside0 (Below w.heap.size w wc))
   case first =>
    as_aux_lemma =>
    have H:=HC45.out;clear HC45;replace H:=sqbi H;obtain ⟨t12,A46,H⟩:=H;(try dsimp only at H);rcases sqI (t12 = true) with c47 | c47
    ·replace c47:=Bool.eq_false_iff.mpr c47;subst c47;rw [sqff] at H;have H':=Aside0.mk H;clear H;obtain ⟨_,_,_,_,_,_⟩:=sqN3 N0_1 N0_2 N0_3;obtain ⟨_,_,_,_⟩:=sqc2 B0;go_wp2_with (first | ((with_reducible refine gf 9 rfl ?_);refine sqLb rfl (some 48) Try.func9 (spec_RangeOk.calls _ _ _ _ A46.out) ?_;intro w109 hb;replace z1:=sqRbR z1 hb;replace B0:=sqb B0 hb;replace B1:=sqb B1 hb;replace B2:=sqb B2 hb;replace B3:=sqb B3 hb;replace HB:=sqs HB hb;(try clear hb)));go_meet
     case rel=>exact ⟨_,(true),sqE,H',⟨by have:=HJ5.out;first | omega | exact Nat.le_refl _⟩,⟨sqy z1.out⟩,sqk B0,sqk B1,sqk B2,sqk B3,sqh HB⟩
    subst c47;rw [if_pos rfl] at H;replace H:=sqbi H;obtain ⟨t13,A48,H⟩:=H;(try dsimp only at H);rcases sqI (t13 = true) with c49 | c49
    ·replace c49:=Bool.eq_false_iff.mpr c49;subst c49;rw [sqff] at H;have H':=Aside0.mk H;clear H;obtain ⟨_,_,_,_,_,_⟩:=sqN3 N0_1 N0_2 N0_3;obtain ⟨_,_,_,_⟩:=sqc2 B0;go_wp2_with (first | ((with_reducible refine gf 9 rfl ?_);refine sqLb rfl (some 48) Try.func9 (spec_RangeOk.calls _ _ _ _ A46.out) ?_;intro w100 hb;replace z1:=sqRbR z1 hb;replace B0:=sqb B0 hb;replace B1:=sqb B1 hb;replace B2:=sqb B2 hb;replace B3:=sqb B3 hb;replace HB:=sqs HB hb;(try clear hb);obtain ⟨_,_,_,_⟩:=sqN2 N1_2 N1_3;obtain ⟨_,_,_,_⟩:=sqc2 B1) | (go_at_call 9;(with_reducible refine (spec_RangeOk.calls t3 t4 false _ A48.out).mono ?_);rintro e w104 ⟨rfl,hb⟩;replace z1:=sqRbR z1 hb;replace B0:=sqb B0 hb;replace B1:=sqb B1 hb;replace B2:=sqb B2 hb;replace B3:=sqb B3 hb;replace HB:=sqs HB hb;(try clear hb)));go_meet
     case rel=>exact ⟨_,(true),sqE,H',⟨by have:=HJ5.out;first | omega | exact Nat.le_refl _⟩,⟨sqy z1.out⟩,sqk B0,sqk B1,sqk B2,sqk B3,sqh HB⟩
    subst c49;rw [if_pos rfl] at H;replace H:=sqj H;rcases H with ⟨c50,H⟩ | ⟨c50,H⟩
    ·have z5 : decide (t2 < t1) = true:=decide_eq_true c50;clear c50
     (first | rw [z5] | (simp only [i64_w,i32_w];rw [z5]) | skip)
     have H':=Aside0.mk H;clear H;obtain ⟨_,_,_,_,_,_⟩:=sqN3 N0_1 N0_2 N0_3;obtain ⟨_,_,_,_⟩:=sqc2 B0;go_wp2_with (first | ((with_reducible refine gf 9 rfl ?_);refine sqLb rfl (some 48) Try.func9 (spec_RangeOk.calls _ _ _ _ A46.out) ?_;intro w55 hb;replace z1:=sqRbR z1 hb;replace B0:=sqb B0 hb;replace B1:=sqb B1 hb;replace B2:=sqb B2 hb;replace B3:=sqb B3 hb;replace HB:=sqs HB hb;(try clear hb);obtain ⟨_,_,_,_⟩:=sqN2 N1_2 N1_3;obtain ⟨_,_,_,_⟩:=sqc2 B1) | (go_at_call 9;(with_reducible refine (spec_RangeOk.calls t3 t4 true _ A48.out).mono ?_);rintro e w59 ⟨rfl,hb⟩;replace z1:=sqRbR z1 hb;replace B0:=sqb B0 hb;replace B1:=sqb B1 hb;replace B2:=sqb B2 hb;replace B3:=sqb B3 hb;replace HB:=sqs HB hb;(try clear hb);obtain ⟨_,_,_,_⟩:=sqc2 B0));go_meet
     case rel=>exact ⟨_,(true),sqE,H',⟨by have:=HJ5.out;first | omega | exact Nat.le_refl _⟩,⟨sqy z1.out⟩,sqk B0,sqk B1,sqk B2,sqk B3,sqh HB⟩
    have z5 : decide (t2 < t1) = false:=decide_eq_false c50;clear c50
    (first | rw [z5] | (simp only [i64_w,i32_w];rw [z5]) | skip)
    replace H:=sqj H;rcases H with ⟨c61,H⟩ | ⟨c61,H⟩
    ·have zf : decide (t4 < t3) = true:=decide_eq_true c61;clear c61;have H':=Aside0.mk H;clear H;obtain ⟨_,_,_,_,_,_⟩:=sqN3 N0_1 N0_2 N0_3;obtain ⟨_,_,_,_⟩:=sqc2 B0;go_wp2_with (first | ((with_reducible refine gf 9 rfl ?_);refine sqLb rfl (some 48) Try.func9 (spec_RangeOk.calls _ _ _ _ A46.out) ?_;intro w66 hb;replace z1:=sqRbR z1 hb;replace B0:=sqb B0 hb;replace B1:=sqb B1 hb;replace B2:=sqb B2 hb;replace B3:=sqb B3 hb;replace HB:=sqs HB hb;(try clear hb);obtain ⟨_,_,_,_⟩:=sqN2 N1_2 N1_3;obtain ⟨_,_,_,_⟩:=sqc2 B1) | (go_at_call 9;(with_reducible refine (spec_RangeOk.calls t3 t4 true _ A48.out).mono ?_);rintro e w70 ⟨rfl,hb⟩;replace z1:=sqRbR z1 hb;replace B0:=sqb B0 hb;replace B1:=sqb B1 hb;replace B2:=sqb B2 hb;replace B3:=sqb B3 hb;replace HB:=sqs HB hb;(try clear hb);obtain ⟨_,_,_,_⟩:=sqc2 B0;obtain ⟨_,_,_,_⟩:=sqc2 B1));go_meet
     case rel=>exact ⟨_,(true),sqE,H',⟨by have:=HJ5.out;first | omega | exact Nat.le_refl _⟩,⟨sqy z1.out⟩,sqk B0,sqk B1,sqk B2,sqk B3,sqh HB⟩
    have zf : decide (t4 < t3) = false:=decide_eq_false c61;clear c61;replace H:=sqj H;rcases H with ⟨c73,H⟩ | ⟨c73,H⟩
    ·have zg:=decide_eq_true c73;clear c73;have H':=Aside0.mk H;clear H;obtain ⟨_,_,_,_,_,_⟩:=sqN3 N0_1 N0_2 N0_3;obtain ⟨_,_,_,_⟩:=sqc2 B0;go_wp2_with (first | ((with_reducible refine gf 9 rfl ?_);refine sqLb rfl (some 48) Try.func9 (spec_RangeOk.calls _ _ _ _ A46.out) ?_;intro w78 hb;replace z1:=sqRbR z1 hb;replace B0:=sqb B0 hb;replace B1:=sqb B1 hb;replace B2:=sqb B2 hb;replace B3:=sqb B3 hb;replace HB:=sqs HB hb;(try clear hb);obtain ⟨_,_,_,_⟩:=sqN2 N1_2 N1_3;obtain ⟨_,_,_,_⟩:=sqc2 B1) | (go_at_call 9;(with_reducible refine (spec_RangeOk.calls t3 t4 true _ A48.out).mono ?_);rintro e w82 ⟨rfl,hb⟩;replace z1:=sqRbR z1 hb;replace B0:=sqb B0 hb;replace B1:=sqb B1 hb;replace B2:=sqb B2 hb;replace B3:=sqb B3 hb;replace HB:=sqs HB hb;(try clear hb);obtain ⟨_,_,_,_⟩:=sqc2 B0;obtain ⟨_,_,_,_⟩:=sqc2 B1));go_meet
     case rel=>exact ⟨_,(true),sqE,H',⟨by have:=HJ5.out;first | omega | exact Nat.le_refl _⟩,⟨sqy z1.out⟩,sqk B0,sqk B1,sqk B2,sqk B3,sqh HB⟩
    have zg:=decide_eq_false c73;clear c73;have H':=Aside0.mk H;clear H;obtain ⟨_,_,_,_,_,_⟩:=sqN3 N0_1 N0_2 N0_3;obtain ⟨_,_,_,_⟩:=sqc2 B0;go_wp2_with (first | ((with_reducible refine gf 9 rfl ?_);refine sqLb rfl (some 48) Try.func9 (spec_RangeOk.calls _ _ _ _ A46.out) ?_;intro w89 hb;replace z1:=sqRbR z1 hb;replace B0:=sqb B0 hb;replace B1:=sqb B1 hb;replace B2:=sqb B2 hb;replace B3:=sqb B3 hb;replace HB:=sqs HB hb;(try clear hb);obtain ⟨_,_,_,_⟩:=sqN2 N1_2 N1_3;obtain ⟨_,_,_,_⟩:=sqc2 B1) | (go_at_call 9;(with_reducible refine (spec_RangeOk.calls t3 t4 true _ A48.out).mono ?_);rintro e w93 ⟨rfl,hb⟩;replace z1:=sqRbR z1 hb;replace B0:=sqb B0 hb;replace B1:=sqb B1 hb;replace B2:=sqb B2 hb;replace B3:=sqb B3 hb;replace HB:=sqs HB hb;(try clear hb);obtain ⟨_,_,_,_⟩:=sqc2 B0;obtain ⟨_,_,_,_⟩:=sqc2 B1));go_meet
    case rel=>exact ⟨_,(decide (t0 > 13)),sqE,H',⟨by have:=HJ5.out;first | omega | exact Nat.le_refl _⟩,⟨sqy z1.out⟩,sqk B0,sqk B1,sqk B2,sqk B3,sqh HB⟩
   case rest =>
    as_aux_lemma =>
    clear HC45;obtain ⟨kq,x1,rfl,HA,HJ44,z1,B0,B1,B2,B3,HB⟩:=hcut;cases kq with
    | zero=>exact absurd HA.out (by simp [laws_FnRangeDo.j1])
    | succ kj44 =>
     have H:=HA.out;clear HA;simp only [laws_FnRangeDo.j1] at H
     by_cases c110 : x1 = true
     ·subst c110;rw [if_pos rfl] at H;replace H:=sqi H;rcases H with ⟨c111,H⟩ | ⟨c111,H⟩
      ·have zh : (t5 == 1 && (t6 == 0)) = false:=by simpa using c111
       (try (have zi : decide (t5 = 1 && (t6 == 0)) = false:=by simpa using c111))
       (try (have zj : (t5 == 1 && (t6 == 0)) = false:=by simpa using c111))
       (try (have zq : ¬ (t5 = 1 && (t6 == 0)):=by simpa using c111))
       clear c111;exact absurd (Option.some.inj H) (by decide)
      have zh : (t5 == 1 && (t6 == 0)) = true:=c111
      (try (have zi : decide (t5 = 1 && (t6 == 0)) = true:=by simpa using c111))
      (try (have zj : (t5 == 1 && (t6 == 0)) = true:=by simpa using c111))
      clear c111
      (first | (obtain rfl:=Option.some.inj H) | (have ht_ : (_ == _) = true:=Option.some.inj H;clear H) | (have ht_:=of_decide_eq_true (Option.some.inj H);clear H) | clear H)
      obtain ⟨_,_,_,_,_,_⟩:=sqN3 N2_0 N2_1 N2_3;obtain ⟨_,_,_,_⟩:=sqc2 B2;obtain ⟨zr,zt,zk⟩:=Kd.R_slice z1.out;subst zk
      go_wp2
      go_ret
      exact sqe HB
     replace c110:=Bool.eq_false_iff.mpr c110;subst c110;rw [sqff] at H;have H':=Aside0.mk H;clear H
     go_wp2
     go_loopg [10] kj44 (fun kq v10 w'=>∃ (x2 : Int),v10 = .int .i64 x2∧Aside0 (laws_FnRangeDo.l0 kq l0 t0 t7 x2 t1 t2 t3 t4 t5 t6 = some true)∧Aside0 (kq ≤ kj44)∧Aside0 (Kd.R (Kd.int .i64) 3 w' w.heap.size (fun _=>True) z6 t7)∧Aside0 (w'.heap[gb0]? = some (.cells #[.int .i64 t1,.int .i64 t2] 24 (0,0)))∧Aside0 (w'.heap[gb1]? = some (.cells #[.int .i64 t3,.int .i64 t4] 24 (0,0)))∧Aside0 (w'.heap[gb2]? = some (.cells #[.int .i64 t5,.int .i64 t6] 24 (0,0)))∧Aside0 (w'.heap[gb3]? = some (.cells #[.int .i64 t8,.int .i64 t9] 24 (0,0)))∧Aside0 (Below w.heap.size w w'))
     case atStart=>exact ⟨(0),sqE,H',⟨Nat.le_refl _⟩,⟨sqy z1.out⟩,sqk B0,sqk B1,sqk B2,sqk B3,sqh HB⟩
     case round =>
      clear H';obtain ⟨x2,rfl,HA,HK3,z1,B0,B1,B2,B3,HB⟩:=hrel;cases gk with
      | zero=>exact absurd HA.out (by simp [laws_FnRangeDo.l0])
      | succ k3 =>
       have H:=HA.out;clear HA;simp only [laws_FnRangeDo.l0] at H;replace H:=sqi H;rcases H with ⟨c121,H⟩ | ⟨c121,H⟩
       ·have zl:=decide_eq_false c121;clear c121;replace H:=sqbi H;obtain ⟨t14,A174,H⟩:=H;(try dsimp only at H)
        (first | (obtain rfl:=Option.some.inj H) | (have ht_ : (_ == _) = true:=Option.some.inj H;clear H) | (have ht_:=of_decide_eq_true (Option.some.inj H);clear H) | clear H)
        obtain ⟨_,_,_,_,_,_⟩:=sqN3 N2_0 N2_1 N2_3;obtain ⟨_,_,_,_⟩:=sqc2 B2;go_wp2_with (first | ((with_reducible refine gf 14 rfl ?_);refine sqLb rfl (some 124) Try.func14 (impl_RangeOk.calls _ _ _ _ A174.out) ?_;intro w179 hb;replace z1:=sqRbR z1 hb;replace B0:=sqb B0 hb;replace B1:=sqb B1 hb;replace B2:=sqb B2 hb;replace B3:=sqb B3 hb;replace HB:=sqs HB hb;(try clear hb)))
        go_ret
        exact sqe HB
       have zl:=decide_eq_true c121;clear c121;replace H:=sqbi H;obtain ⟨t15,A122,H⟩:=H;(try dsimp only at H);replace H:=sqbi H;obtain ⟨t16,A123,H⟩:=H;(try dsimp only at H);replace H:=sqbi H;obtain ⟨⟨t17,t18⟩,A124,H⟩:=H;(try dsimp only at H);replace H:=sqi H;rcases H with ⟨c125,H⟩ | ⟨c125,H⟩
       ·have zm : (t18 == 0) = false:=beq_eq_false_iff_ne.mpr c125;have zn : (t18 != 0) = true:=bne_iff_ne.mpr c125;replace H:=sqbi H;obtain ⟨t19,A152,H⟩:=H;(try dsimp only at H);rcases sqI (t19 = true) with c153 | c153
        ·replace c153:=Bool.eq_false_iff.mpr c153;subst c153;rw [sqff] at H;exact absurd (Option.some.inj H) (by decide)
        subst c153;rw [if_pos rfl] at H;have H':=Aside0.mk H;clear H;obtain ⟨_,_,_,_,_,_⟩:=sqN3 N0_1 N0_2 N0_3;obtain ⟨_,_,_,_⟩:=sqc2 B0;go_wp2_with (first | ((with_reducible refine gf 10 rfl ?_);refine sqLb rfl (some 92) Try.func10 (laws_within.calls _ _ _ _ _ _ _ _ _ (sqC (Kd.C_below HR0.out HB.out)) HC0.out A122.out) ?_;intro w158 hb;replace z1:=sqRbR z1 hb;replace B0:=sqb B0 hb;replace B1:=sqb B1 hb;replace B2:=sqb B2 hb;replace B3:=sqb B3 hb;replace HB:=sqs HB hb;(try clear hb);obtain ⟨_,_,_,_⟩:=sqN2 N1_2 N1_3;obtain ⟨_,_,_,_⟩:=sqc2 B1) | ((with_reducible refine gf 10 rfl ?_);refine sqLb rfl (some 97) Try.func10 (laws_within.calls _ _ _ _ _ _ _ _ _ (sqC (Kd.C_below HR0.out HB.out)) HC0.out A123.out) ?_;intro w162 hb;replace z1:=sqRbR z1 hb;replace B0:=sqb B0 hb;replace B1:=sqb B1 hb;replace B2:=sqb B2 hb;replace B3:=sqb B3 hb;replace HB:=sqs HB hb;(try clear hb)) | ((with_reducible refine gf 11 rfl ?_);refine sqLq rfl (some 102) Try.func11 (impl_NumDo.calls _ _ _ _ _ _ _ A124.out) ?_;intro nd;obtain ⟨zu,zv,zo⟩:=Kd.R_slice z1.out;subst zo) | (go_at_call 13;(with_reducible refine (laws_has.calls k3 _ _ t7 t18 true _ ?side1 ?side2 A152.out).mono ?_);(case side1=>exact sqC (Kd.R_reads' z1.out).2.2);(case side2=>exact (Kd.R_reads' z1.out).2.1);rintro e w' ⟨rfl,⟨nd,rfl⟩⟩));go_roundg k3
        case measure=>have:=HJ5.out;have:=HJ44.out;have:=HK3.out;omega
        case rel=>exact ⟨(wrap64 (x2 + 1)),sqE,H',⟨by have:=HJ5.out;have:=HJ44.out;have:=HK3.out;omega⟩,⟨sqy z1.out⟩,sqk B0,sqk B1,sqk B2,sqk B3,sqh HB⟩
       have zm : (t18 == 0) = true:=beq_iff_eq.mpr c125;have zn : (t18 != 0) = false:=bne_eq_false_iff_eq.mpr c125;clear c125;replace H:=sqbi H;obtain ⟨t20,A126,H⟩:=H;(try dsimp only at H);rcases sqI (t20 = true) with c127 | c127
       ·replace c127:=Bool.eq_false_iff.mpr c127;subst c127;rw [sqff] at H;exact absurd (Option.some.inj H) (by decide)
       subst c127;rw [if_pos rfl] at H;have H':=Aside0.mk H;clear H;obtain ⟨_,_,_,_,_,_⟩:=sqN3 N0_1 N0_2 N0_3;obtain ⟨_,_,_,_⟩:=sqc2 B0;go_wp2_with (first | ((with_reducible refine gf 10 rfl ?_);refine sqLb rfl (some 92) Try.func10 (laws_within.calls _ _ _ _ _ _ _ _ _ (sqC (Kd.C_below HR0.out HB.out)) HC0.out A122.out) ?_;intro w132 hb;replace z1:=sqRbR z1 hb;replace B0:=sqb B0 hb;replace B1:=sqb B1 hb;replace B2:=sqb B2 hb;replace B3:=sqb B3 hb;replace HB:=sqs HB hb;(try clear hb);obtain ⟨_,_,_,_⟩:=sqN2 N1_2 N1_3;obtain ⟨_,_,_,_⟩:=sqc2 B1) | ((with_reducible refine gf 10 rfl ?_);refine sqLb rfl (some 97) Try.func10 (laws_within.calls _ _ _ _ _ _ _ _ _ (sqC (Kd.C_below HR0.out HB.out)) HC0.out A123.out) ?_;intro w136 hb;replace z1:=sqRbR z1 hb;replace B0:=sqb B0 hb;replace B1:=sqb B1 hb;replace B2:=sqb B2 hb;replace B3:=sqb B3 hb;replace HB:=sqs HB hb;(try clear hb)) | ((with_reducible refine gf 11 rfl ?_);refine sqLq rfl (some 102) Try.func11 (impl_NumDo.calls _ _ _ _ _ _ _ A124.out) ?_;intro nd;obtain ⟨_,_⟩:=sqN1 N2_3;obtain ⟨_,_,_,_⟩:=sqc2 B2) | (go_at_call 12;(with_reducible refine (impl_RangeHas.calls t5 t6 t17 true _ A126.out).mono ?_);rintro e w139 ⟨rfl,hb⟩;replace z1:=sqRbR z1 hb;replace B0:=sqb B0 hb;replace B1:=sqb B1 hb;replace B2:=sqb B2 hb;replace B3:=sqb B3 hb;replace HB:=sqs HB hb;(try clear hb)));go_roundg k3
       case measure=>have:=HJ5.out;have:=HJ44.out;have:=HK3.out;omega
       case rel=>exact ⟨(wrap64 (x2 + 1)),sqE,H',⟨by have:=HJ5.out;have:=HJ44.out;have:=HK3.out;omega⟩,⟨sqy z1.out⟩,sqk B0,sqk B1,sqk B2,sqk B3,sqh HB⟩

/-- THE ONE PURE STATEMENT of laws_FnRangeDo: yours. -/
theorem laws_FnRangeDo.walk (P : laws_FnRangeDo.Pure) (a0 : Option Addr) (len0 cap0 : Nat) (z0 : List Int) (w : World) (w0 : (a0 = none∧len0 = 0∧cap0 = 0∧z0 = [])∨∃ x,a0 = some x∧len0 ≤ cap0∧cap0 ≤ maxLen∧z0.length = cap0∧(∀ i,i < z0.length→w.cell? (x.add i) = some (.int .u8 (z0.getD i 0)))∧∀ n ∈ z0,(Lit.int .u8 n).wf = true) (y0 : len0 * 1 ≤ 140737488351232) :
  Calls Try.prog 3 #[.slice a0 len0 cap0] w fun e w'=>e = .returned (.bool true)∧Below w.heap.size w w':=by
 obtain ⟨l0,rfl,hr0,hm0,hw0,hc0⟩:=ReadsInt.ofRowC w0;obtain ⟨k,h⟩:=P l0 hm0 y0 hw0;refine (laws_FnRangeDo.calls k _ _ l0 true w (Kd.C_of_reads (d:=(0 : Int)) (h1:=fun _=>rfl) hr0) hc0 h).mono ?_;rintro e w' ⟨rfl,hd⟩;exact ⟨rfl,hd⟩

end Go.Proofs.Ytlbheepfmjbpnaa.PFnRangeDo
