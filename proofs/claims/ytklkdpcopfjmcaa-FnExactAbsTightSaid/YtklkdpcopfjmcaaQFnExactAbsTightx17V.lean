/- Functions of the program as plain Lean functions, and that calls of them come to what these tell. Conditions: those in each law. -/
import Derived.Test.YtklkdpcopfjmcaaSqV
import Derived.Test.YtklkdpcopfjmcaaDFnExactAbsTightV
import Derived.Test.YtklkdpcopfjmcaaQFnExactAbsTightx0V
import Derived.Test.YtklkdpcopfjmcaaQFnExactAbsTightx8V
import Derived.Test.YtklkdpcopfjmcaaQFnExactAbsTightx11V
import Derived.Test.YtklkdpcopfjmcaaQFnExactAbsTightx13V
namespace Go.Proofs.Ytklkdpcopfjmcaa.PFnExactAbsTight
open Go.RowKit Go.Proofs.Ytklkdpcopfjmcaa.Sq Go.Proofs.YtklkdpcopfjmcaaW.PrintWords Go.Proofs.YtklkdpcopfjmcaaW.PrintLast Go.Proofs.YtklkdpcopfjmcaaW.PrintMore
attribute [local go_sem] max2_int min2_int max_two min_two max_three min_three max_four min_four   -- for this text's walks alone
set_option linter.unusedVariables false
set_option linter.unusedSimpArgs false

set_option maxHeartbeats 8000000
set_option maxRecDepth 100000
/-! ### spec_l11C: function 67 -/
theorem spec_l11C.calls (a0 : Int) (r : Bool) (w : World) (h : spec_l11C.f a0 = some r) :
  Calls Try.prog 67 #[.int .i64 a0] w fun e w'=>e = .returned (.bool r)∧Drawn0 w w':=by
 have H:=h;unfold spec_l11C.f at H;clear h;replace H:=sqbi H;obtain ⟨t0,A2,H⟩:=H;(try dsimp only at H);obtain rfl:=Option.some.inj H;go_enter Try.func67,Try.ntmps67;go_wp2_with (first | ((with_reducible refine gf 66 rfl ?_);refine sqLq rfl (some 4) Try.func66 (spec_l1In.calls _ _ _ _ _ A2.out) ?_;intro nd))
 go_ret
 exact ⟨sqE,sqD⟩

/-! ### spec_l11Put: function 69 -/
theorem spec_l11Put.calls (a0_0 : Int) (P0_1_ : Nat→Prop) (u9000_ : Value) (l0_1 : List Int) (a1 : Int) (a2 : Int) (a3 : Int) (r : List Int) (w0 w : World) (hB : Below w0.heap.size w0 w) (ho0_1 : Kd.R (Kd.int .i64) 3 w w0.heap.size P0_1_ u9000_ l0_1) (h : spec_l11Put.f a0_0 l0_1 a1 a2 a3 = some r) :
  Calls Try.prog 69 #[.agg #[.int .i64 a0_0,u9000_],.int .i64 a1,.int .i64 a2,.int .i64 a3] w fun e w'=>e = .returned (.tuple #[])∧Kd.R (Kd.int .i64) 3 w' w0.heap.size (fun k_=>(P0_1_ k_∨w.heap.size ≤ k_)) u9000_ r∧Below w0.heap.size w0 w'∧Kept w w' (fun k_=>P0_1_ k_):=by
 have hu32:=Try.underlying32;have z0:=Aside0.mk (show Kd.R (Kd.int .i64) 3 w w0.heap.size (fun k_=>(P0_1_ k_∨w.heap.size ≤ k_)) u9000_ l0_1 from Kd.R_mono ho0_1 (fun k_ hk=>(.inl hk)));have HK:=Aside0.mk (Kept.refl w (fun k_=>P0_1_ k_));have HW0:=Aside0.mk hB.size;have HB:=Aside0.mk hB;clear hB;have H:=h;unfold spec_l11Put.f at H;clear h;obtain ⟨z1,z3⟩ : ∃ j_ : Int,(wrap64 ((wrap64 (a1 * (wrap64 (a0_0 + 1)))) + a2)) = j_:=⟨_,rfl⟩
 replace H : (if 0 ≤ (z1) then (if (z1) < (l0_1.length : Int) then (some (l0_1.set ((z1) : Int).toNat a3)) else (none)) else (none)) = some r:=by first | (rw [z3] at H;exact H) | (simp only [z3] at H ⊢;exact H)
 have ze : (IntKind.i64.wrap ((wrap64 (a1 * (wrap64 (a0_0 + 1)))) + a2)) = z1:=(i64_w _).trans z3;replace H:=sqi H;rcases H with ⟨c6,H⟩ | ⟨c6,H⟩
 ·cases H
 have zf:=decide_eq_true c6;clear c6;replace H:=sqi H;rcases H with ⟨c7,H⟩ | ⟨c7,H⟩
 ·cases H
 have zg:=decide_eq_true c7;clear c7;obtain ⟨z6,z2⟩ : ∃ y_ : List Int,y_ = (l0_1.set ((z1) : Int).toNat a3):=⟨_,rfl⟩
 replace H : (some z6) = some r:=by first | (rw [z2];with_reducible exact H) | (have H2_:=(Option.bind_some _ _).symm.trans H;rw [z2];with_reducible exact H2_) | (have H2_:=(Option.bind_some _ _).symm.trans H;with_reducible exact H2_) | with_reducible exact H | (rw [z2];exact H) | exact H
 have z9:=Aside0.mk z2;clear z2;obtain rfl:=Option.some.inj H;obtain ⟨za,z4,zb⟩:=Kd.R_slice z0.out;subst zb;go_enter Try.func69,Try.ntmps69;go_wp2_with (first | ((with_reducible refine gd 4 rfl ?_);refine sqx 4 #[.int .i64 a0_0,.slice za l0_1.length z4] 32 ?_;intro gb0 hg w10 hbox hb;replace z0:=sqRbR z0 hb;have B0:=Aside0.mk (hbox);have GW0:=Aside0.mk ((by rw [hg];exact (by first | exact HK.out.1 | exact (show Kept w _ (fun k_=>P0_1_ k_) from by repeat (first | (with_reducible first | exact HK.out | apply Kept.alloc | apply Kept.drewN | apply Kept.drew) | exact HK.out)).1) : w.heap.size ≤ gb0));replace HK:=Aside0.mk (Kept.below (S:=(fun k_=>P0_1_ k_)) (by repeat (first | (with_reducible first | exact HK.out | apply Kept.alloc | apply Kept.drewN | apply Kept.drew) | exact HK.out)) hb);have GE0:=Aside0.mk ((by rw [hg];exact (below_size (sqB HB)) : w0.heap.size ≤ gb0));replace HB:=sqs HB hb;clear hb hbox hg;obtain ⟨_,_,_,_⟩:=sqc2 B0;have p8 : 0 ≤ ((z1) : Int):=sqd;have q8 : ((z1) : Int) < ((l0_1.length : Int) : Int):=sqd;obtain ⟨go8,zh,z7,gb1,zc,zi,z8⟩:=Kd.R_form z0.out (by omega);(first | cases z7 | (injection z7 with ea_ en_ ec_;(first | subst ea_ | (injection ea_ with ea_;subst ea_));subst ec_;clear en_));have zd:=Aside0.mk gb1;have zj:=Aside0.mk z8;clear gb1 zc z8;have HMgo8:=Aside0.mk (show (P0_1_ go8∨w.heap.size ≤ go8) from (z0.out.1 _ rfl));obtain ⟨zk,zl⟩:=Kd.R_celln 0 z0.out ((z1) : Int) p8 q8;replace p8:=eq_true p8;replace q8:=eq_true q8;obtain ⟨hy12_,hz12_⟩:=Kd.R_celln 0 z0.out ((z1) : Int) sqd sqd;have z5:=Kd.R_putg z0.out ((z1) : Int) a3) | ((with_reducible refine gate_store (t:=3) (p:=18) rfl ?_);refine store_event (t:=3) (p:=18) (v:=?vo_w13) (w1:=(w10.setCell ⟨go8,((z1) : Int).toNat,none⟩ (.int .i64 a3))) ?hg ?ho ?hn ?hr ?_;(case ho=>rfl);(case hg=>rfl);(case hn=>rfl);(case hr=>first | (go_simp;done) | (go_simp;rfl));intro w13 hw;have hg : w10.grownBy w13 (some go8):=(by rw [hw];exact z5.2);have hp_ : Kd.R (Kd.int .i64) 3 w13 w0.heap.size (fun k_=>(P0_1_ k_∨w.heap.size ≤ k_)) (.slice (some ⟨go8,0,none⟩) l0_1.length z4) z6:=(by rw [hw,z9.out];exact z5.1);clear z5;replace B0:=Aside0.mk (blk_grown (g:=gb0) (o:=.cells #[.int .i64 a0_0,.slice (some ⟨go8,0,none⟩) l0_1.length z4] 32 (0,0)) (sqt B0.out) hg (Kd.R_ne z0.out B0.out (by decide)));replace HB:=Aside0.mk ((by rw [hw];exact below_set (HB.out) zd.out : Below w0.heap.size w0 w13));replace HK:=Aside0.mk (Kept.of_grown (S:=(fun k_=>P0_1_ k_)) hg (by repeat (first | (with_reducible first | exact HK.out | apply Kept.alloc | apply Kept.drewN | apply Kept.drew | refine Kept.setCell ?_ (.inr GW0.out) _) | exact HK.out)) (fun k_ e_=>(z0.out.1 k_ e_)));replace z0:=Aside0.mk (hp_);clear hg hw hp_))
 first | go_end0 | ((try simp only [Exit.inBlock,Exit.then]);refine bodyPost_ret (results_none rfl _ _ _) rfl ?_)
 exact ⟨by first | rfl | (simp [errW_none,errW_some] <;> rfl) | (simp only [← z3];first | rfl | (simp [errW_none,errW_some] <;> rfl)) | (simp [*,errW_none,errW_some] <;> rfl),sqy z0.out,by repeat (first | (with_reducible first | exact HB.out | apply below_alloc | apply pw_below_drewN | apply below_drew1 | refine below_set ?_ GE0.out) | exact HB.out),by repeat (first | (with_reducible first | exact HK.out | apply Kept.alloc | apply Kept.drewN | apply Kept.drew | refine Kept.setCell ?_ (.inr GW0.out) _) | exact HK.out)⟩

/-! ### spec_GapsCut: function 21 -/
theorem spec_GapsCut.calls (k : Nat) (a0_0 : Int) (A0_1 : Option Addr) (c0_1 : Nat) (l0_1 : List Int) (a1 : Int) (a2 : Int) (a3 : Int) (r1 : Int) (r2 : List Int) (w : World) (hr0_1 : Kd.C (Kd.int .i64) w A0_1 l0_1.length l0_1) (hc0_1 : l0_1.length ≤ c0_1) (h : spec_GapsCut.f k a0_0 l0_1 a1 a2 a3 = some (r1,r2)) :
  Calls Try.prog 21 #[.agg #[.int .i64 a0_0,.slice A0_1 l0_1.length c0_1],.int .i64 a1,.int .i64 a2,.int .i64 a3] w fun e w'=>∃ v1_ : Value,e = .returned (.agg #[.int .i64 r1,v1_])∧Kd.R (Kd.int .i64) 3 w' w.heap.size (fun _=>True) v1_ r2∧Below w.heap.size w w':=by
 have hu32:=Try.underlying32;have HR0_1:=Aside0.mk hr0_1;have HC0_1:=Aside0.mk hc0_1;clear hr0_1 hc0_1;have HB:=Aside0.mk (Below.refl w.heap.size w);have H:=h;unfold spec_GapsCut.f at H;clear h;have HC5:=Aside0.mk H;clear H;go_enter Try.func21,Try.ntmps21;go_upto_region 1 with (first | ((with_reducible refine gd 4 rfl ?_);refine sqX 4 #[.int .i64 a0_0,.slice A0_1 l0_1.length c0_1] 32 HB ?_;clear HB;intro gb0 hg w6 hb B0 GW0 HB;clear hb hg) | ((with_reducible refine gd 8 rfl ?_);refine sqX 8 #[.int .i64 0,.slice none 0 0] 32 HB ?_;clear HB;intro gb1 hg w7 hb B1 GW1 HB;have N0_1:=sqn B0 hg;have N1_0:=sqm B0 hg;replace B0:=sqb B0 hb;clear hb hg))
 (try simp only [Act.put,List.setIfInBounds_toArray,List.set_cons_zero,List.set_cons_succ])
 go_cut [36] (fun v36 wc=>∃ (kq : Nat) (x0 : Bool),v36 = .bool x0∧Aside0 (spec_GapsCut.j0 kq a1 a2 a3 x0 a0_0 l0_1 = some (r1,r2))∧Aside0 (kq ≤ k)∧Aside0 (wc.heap[gb0]? = some (.cells #[.int .i64 a0_0,(.slice A0_1 l0_1.length c0_1)] 32 (0,0)))∧Aside0 (wc.heap[gb1]? = some (.cells #[.int .i64 0,(.slice none 0 0)] 32 (0,0)))∧Aside0 (Below w.heap.size w wc))
 case first =>
  have H:=HC5.out;clear HC5;replace H:=sqbi H;obtain ⟨t0,A8,H⟩:=H;(try dsimp only at H);rcases sqI (t0 = true) with c9 | c9
  ·replace c9:=Bool.eq_false_iff.mpr c9;subst c9;rw [sqff] at H;have H':=Aside0.mk H;clear H;obtain ⟨_,_⟩:=sqN1 N0_1;obtain ⟨_,_,_,_⟩:=sqc2 B0;go_wp2_with (first | ((with_reducible refine gf 63 rfl ?_);refine sqLb rfl (some 11) Try.func63 (spec_GapsOk.calls _ _ _ _ _ _ _ (sqC (Kd.C_below HR0_1.out HB.out)) HC0_1.out A8.out) ?_;intro w34 hb;refine sqM2 B0 B1 hb ?_;clear B0 B1;intro B0 B1;replace HB:=sqs HB hb;(try clear hb)));go_meet
   case rel=>exact ⟨_,(true),sqE,H',⟨sqle⟩,sqk B0,sqk B1,sqh HB⟩
  subst c9;rw [if_pos rfl] at H;replace H:=sqbi H;obtain ⟨t1,A10,H⟩:=H;(try dsimp only at H);rcases sqI (t1 = true) with c11 | c11
  ·replace c11:=Bool.eq_false_iff.mpr c11;subst c11;rw [sqff] at H;have H':=Aside0.mk H;clear H;obtain ⟨_,_⟩:=sqN1 N0_1;obtain ⟨_,_,_,_⟩:=sqc2 B0;go_wp2_with (first | ((with_reducible refine gf 63 rfl ?_);refine sqLb rfl (some 11) Try.func63 (spec_GapsOk.calls _ _ _ _ _ _ _ (sqC (Kd.C_below HR0_1.out HB.out)) HC0_1.out A8.out) ?_;intro w30 hb;refine sqM2 B0 B1 hb ?_;clear B0 B1;intro B0 B1;replace HB:=sqs HB hb;(try clear hb);obtain ⟨_,_,_,_⟩:=sqc2 B0) | (go_at_call 66;(with_reducible refine (spec_l1In.calls a1 0 a0_0 false _ A10.out).mono ?_);rintro e w' ⟨rfl,⟨nd,rfl⟩⟩));go_meet
   case rel=>exact ⟨_,(true),sqE,H',⟨sqle⟩,sqk B0,sqk B1,sqh HB⟩
  subst c11;rw [if_pos rfl] at H;replace H:=sqbi H;obtain ⟨t2,A12,H⟩:=H;(try dsimp only at H);rcases sqI (t2 = true) with c13 | c13
  ·replace c13:=Bool.eq_false_iff.mpr c13;subst c13;rw [sqff] at H;have H':=Aside0.mk H;clear H;obtain ⟨_,_⟩:=sqN1 N0_1;obtain ⟨_,_,_,_⟩:=sqc2 B0;go_wp2_with (first | ((with_reducible refine gf 63 rfl ?_);refine sqLb rfl (some 11) Try.func63 (spec_GapsOk.calls _ _ _ _ _ _ _ (sqC (Kd.C_below HR0_1.out HB.out)) HC0_1.out A8.out) ?_;intro w26 hb;refine sqM2 B0 B1 hb ?_;clear B0 B1;intro B0 B1;replace HB:=sqs HB hb;(try clear hb);obtain ⟨_,_,_,_⟩:=sqc2 B0) | (go_at_call 66;(with_reducible refine (spec_l1In.calls a1 0 a0_0 true _ A10.out).mono ?_);rintro e w' ⟨rfl,⟨nd,rfl⟩⟩) | (go_at_call 66;(with_reducible refine (spec_l1In.calls a2 0 a0_0 false _ A12.out).mono ?_);rintro e w' ⟨rfl,⟨nd,rfl⟩⟩));go_meet
   case rel=>exact ⟨_,(true),sqE,H',⟨sqle⟩,sqk B0,sqk B1,sqh HB⟩
  subst c13;rw [if_pos rfl] at H;replace H:=sqj H;rcases H with ⟨c14,H⟩ | ⟨c14,H⟩
  ·have z1 : (a1 == a2) = true:=beq_iff_eq.mpr c14;have z7 : (a1 != a2) = false:=bne_eq_false_iff_eq.mpr c14;clear c14
   (first | rw [z1] | (simp only [i64_w,i32_w];rw [z1]) | skip)
   have H':=Aside0.mk H;clear H;obtain ⟨_,_⟩:=sqN1 N0_1;obtain ⟨_,_,_,_⟩:=sqc2 B0;go_wp2_with (first | ((with_reducible refine gf 63 rfl ?_);refine sqLb rfl (some 11) Try.func63 (spec_GapsOk.calls _ _ _ _ _ _ _ (sqC (Kd.C_below HR0_1.out HB.out)) HC0_1.out A8.out) ?_;intro w17 hb;refine sqM2 B0 B1 hb ?_;clear B0 B1;intro B0 B1;replace HB:=sqs HB hb;(try clear hb);obtain ⟨_,_,_,_⟩:=sqc2 B0) | (go_at_call 66;(with_reducible refine (spec_l1In.calls a1 0 a0_0 true _ A10.out).mono ?_);rintro e w' ⟨rfl,⟨nd,rfl⟩⟩) | (go_at_call 66;(with_reducible refine (spec_l1In.calls a2 0 a0_0 true _ A12.out).mono ?_);rintro e w' ⟨rfl,⟨nd,rfl⟩⟩));go_meet
   case rel=>exact ⟨_,(true),sqE,H',⟨sqle⟩,sqk B0,sqk B1,sqh HB⟩
  have z1 : (a1 == a2) = false:=beq_eq_false_iff_ne.mpr c14;have z7 : (a1 != a2) = true:=bne_iff_ne.mpr c14
  (first | rw [z1] | (simp only [i64_w,i32_w];rw [z1]) | skip)
  replace H:=sqbi H;obtain ⟨t3,A19,H⟩:=H;(try dsimp only at H);have H':=Aside0.mk H;clear H;obtain ⟨_,_⟩:=sqN1 N0_1;obtain ⟨_,_,_,_⟩:=sqc2 B0;go_wp2_with (first | ((with_reducible refine gf 63 rfl ?_);refine sqLb rfl (some 11) Try.func63 (spec_GapsOk.calls _ _ _ _ _ _ _ (sqC (Kd.C_below HR0_1.out HB.out)) HC0_1.out A8.out) ?_;intro w22 hb;refine sqM2 B0 B1 hb ?_;clear B0 B1;intro B0 B1;replace HB:=sqs HB hb;(try clear hb);obtain ⟨_,_,_,_⟩:=sqc2 B0) | (go_at_call 66;(with_reducible refine (spec_l1In.calls a1 0 a0_0 true _ A10.out).mono ?_);rintro e w' ⟨rfl,⟨nd,rfl⟩⟩) | (go_at_call 66;(with_reducible refine (spec_l1In.calls a2 0 a0_0 true _ A12.out).mono ?_);rintro e w' ⟨rfl,⟨nd,rfl⟩⟩) | (go_at_call 67;(with_reducible refine (spec_l11C.calls a3 t3 _ A19.out).mono ?_);rintro e w' ⟨rfl,⟨nd,rfl⟩⟩));go_meet
  case rel=>exact ⟨_,(!t3),sqE,H',⟨sqle⟩,sqk B0,sqk B1,sqh HB⟩
 case rest =>
  clear HC5;obtain ⟨kq,x0,rfl,HA,HJ4,B0,B1,HB⟩:=hcut;cases kq with
  | zero=>exact absurd HA.out (by simp [spec_GapsCut.j0])
  | succ kj4 =>
   have H:=HA.out;clear HA;simp only [spec_GapsCut.j0] at H
   by_cases c35 : x0 = true
   ·subst c35;rw [if_pos rfl] at H;simp only [Option.some.injEq,Prod.mk.injEq] at H;obtain ⟨rfl,rfl⟩:=H;obtain ⟨_,_⟩:=sqN1 N1_0;obtain ⟨_,_,_,_⟩:=sqc2 B1
    go_wp2
    refine sqre #[.int .i64 0,.slice none 0 0] (sqP B1) Try.underlying32 ?_;exact ⟨_,sqEw,sqnil,sqB HB⟩
   replace c35:=Bool.eq_false_iff.mpr c35;subst c35;rw [sqff] at H;replace H:=sqbi H;obtain ⟨⟨t4,t5⟩,A38,H⟩:=H;(try dsimp only at H);replace H:=sqbi H;obtain ⟨t6,A39,H⟩:=H;(try dsimp only at H);replace H:=sqi H;rcases H with ⟨c40,H⟩ | ⟨c40,H⟩
   ·have z8:=decide_eq_false c40;clear c40;simp only [Option.some.injEq,Prod.mk.injEq] at H;obtain ⟨rfl,rfl⟩:=H;obtain ⟨_,_⟩:=sqN1 N0_1;obtain ⟨_,_,_,_⟩:=sqc2 B0;go_wp2_with (first | ((with_reducible refine gf 64 rfl ?_);refine sqLc rfl (some 39) Try.func64 (spec_l11Copy.calls _ _ _ _ _ _ _ _ (sqC (Kd.C_below HR0_1.out HB.out)) HC0_1.out A38.out) ?_;rintro e w58 ⟨z9,rfl,ho0,hb⟩;refine ⟨_,rfl,?_⟩;have z0:=sqRlR ho0 HB;refine sqM2 B0 B1 hb ?_;clear B0 B1;intro B0 B1;replace HB:=sqs HB hb;(try clear hb);(try clear hb2);(try clear hk);(try clear hi);(try clear ho0)) | ((with_reducible refine gd 9 rfl ?_);refine sqX 9 #[.int .i64 0,.slice none 0 0] 32 HB ?_;clear HB;intro gb2 hg w59 hb B2 GW2 HB;replace z0:=sqRbR z0 hb;have N0_2:=sqn B0 hg;have N2_0:=sqm B0 hg;replace B0:=sqb B0 hb;have N1_2:=sqn B1 hg;have N2_1:=sqm B1 hg;replace B1:=sqb B1 hb;clear hb hg;obtain ⟨_,_,_,_⟩:=sqN2 N2_0 N2_1;obtain ⟨_,_,_,_⟩:=sqc2 B2;obtain ⟨z4,z5,za⟩:=Kd.R_slice z0.out;subst za;obtain ⟨_,_,_,_⟩:=sqc2 B0) | ((with_reducible refine gf 68 rfl ?_);refine sqLb rfl (some 44) Try.func68 (spec_l11At.calls _ _ _ _ _ _ _ _ (Kd.C_below HR0_1.out (sqB HB)) HC0_1.out A39.out) ?_;intro w65 hb;replace z0:=sqRwR (sqF1R (sqtyR z0 B2)) hb;replace B0:=sqbb B0 hb;replace B1:=sqbb B1 hb;replace B2:=sqPb (ds:=#[.int .i64 t4,.slice z4 t5.length z5]) B2 hb;replace HB:=sqs HB hb;(try clear hb);(try clear hb2);(try clear hk);(try clear hi);obtain ⟨_,_,_,_⟩:=sqc2 B2;obtain ⟨_,_,_,_⟩:=sqc2 B1));refine sqre #[.int .i64 t4,.slice z4 t5.length z5] (sqP B1) Try.underlying32 ?_;exact ⟨_,sqEw,sqF1Rf (sqtyR z0 B1) (fun _ hk=>trivial),sqB HB⟩
   have z8:=decide_eq_true c40;clear c40;replace H:=sqbi H;obtain ⟨t7,A41,H⟩:=H;(try dsimp only at H);simp only [Option.some.injEq,Prod.mk.injEq] at H;obtain ⟨rfl,rfl⟩:=H;obtain ⟨_,_⟩:=sqN1 N0_1;obtain ⟨_,_,_,_⟩:=sqc2 B0;go_wp2_with (first | ((with_reducible refine gf 64 rfl ?_);refine sqLc rfl (some 39) Try.func64 (spec_l11Copy.calls _ _ _ _ _ _ _ _ (sqC (Kd.C_below HR0_1.out HB.out)) HC0_1.out A38.out) ?_;rintro e w44 ⟨z9,rfl,ho0,hb⟩;refine ⟨_,rfl,?_⟩;have z0:=sqRlR ho0 HB;refine sqM2 B0 B1 hb ?_;clear B0 B1;intro B0 B1;replace HB:=sqs HB hb;(try clear hb);(try clear hb2);(try clear hk);(try clear hi);(try clear ho0)) | ((with_reducible refine gd 9 rfl ?_);refine sqX 9 #[.int .i64 0,.slice none 0 0] 32 HB ?_;clear HB;intro gb2 hg w45 hb B2 GW2 HB;replace z0:=sqRbR z0 hb;have N0_2:=sqn B0 hg;have N2_0:=sqm B0 hg;replace B0:=sqb B0 hb;have N1_2:=sqn B1 hg;have N2_1:=sqm B1 hg;replace B1:=sqb B1 hb;clear hb hg;obtain ⟨_,_,_,_⟩:=sqN2 N2_0 N2_1;obtain ⟨_,_,_,_⟩:=sqc2 B2;obtain ⟨z2,z3,zb⟩:=Kd.R_slice z0.out;subst zb;obtain ⟨_,_,_,_⟩:=sqc2 B0) | ((with_reducible refine gf 68 rfl ?_);refine sqLb rfl (some 44) Try.func68 (spec_l11At.calls _ _ _ _ _ _ _ _ (Kd.C_below HR0_1.out (sqB HB)) HC0_1.out A39.out) ?_;intro w51 hb;replace z0:=sqRwR (sqF1R (sqtyR z0 B2)) hb;replace B0:=sqbb B0 hb;replace B1:=sqbb B1 hb;replace B2:=sqPb (ds:=#[.int .i64 t4,.slice z2 t5.length z3]) B2 hb;replace HB:=sqs HB hb;(try clear hb);(try clear hb2);(try clear hk);(try clear hi);obtain ⟨_,_,_,_⟩:=sqc2 B2) | ((with_reducible refine gf 69 rfl ?_);refine sqLc rfl (some 50) Try.func69 (spec_l11Put.calls t4 (fun k_=>some k_ = (.slice z2 t5.length z3 : Value).ownBlock) (.slice z2 t5.length z3) t5 a1 a2 a3 t7 w _ (sqB HB) (Kd.R_tight rfl z0.out) A41.out) ?_;rintro e w53 ⟨rfl,z6,hb,hkp⟩;refine ⟨_,rfl,?_⟩;replace B0:=Aside0.mk (blk_kept (sqt B0.out) hkp (fun hs_=>(fun e_=>(Kd.R_ne z0.out B0.out (by decide)) e_) hs_));replace B1:=Aside0.mk (blk_kept (sqt B1.out) hkp (fun hs_=>(fun e_=>(Kd.R_ne z0.out B1.out (by decide)) e_) hs_));replace B2:=Aside0.mk (blk_kept (sqt B2.out) hkp (fun hs_=>(fun e_=>(Kd.R_ne z0.out B2.out (by decide)) e_) hs_));replace z0:=Aside0.mk (Kd.R_reok rfl z6 (fun k_ e_=>z0.out.1 k_ e_));replace HB:=Aside0.mk (hb);(try clear hb);(try clear hkp);(try clear z6);obtain ⟨_,_,_,_⟩:=sqc2 B2;obtain ⟨_,_,_,_⟩:=sqc2 B1));refine sqre #[.int .i64 t4,.slice z2 t5.length z3] (sqP B1) Try.underlying32 ?_;exact ⟨_,sqEw,sqF1Rf (sqtyR z0 B1) (fun _ hk=>trivial),sqB HB⟩

/-! ### spec_l11Add: function 70 -/
theorem spec_l11Add.calls (a0 : Int) (a1 : Int) (r : Int) (w : World) (h : spec_l11Add.f a0 a1 = some r) :
  Calls Try.prog 70 #[.int .i64 a0,.int .i64 a1] w fun e w'=>e = .returned (.int .i64 r)∧Drawn0 w w':=by
 have H:=h;unfold spec_l11Add.f at H;clear h;replace H:=sqj H;rcases H with ⟨c3,H⟩ | ⟨c3,H⟩
 ·have z0 : decide (1099511627776 ≤ a0) = true:=decide_eq_true c3;clear c3;obtain rfl:=Option.some.inj H;go_enter Try.func70,Try.ntmps70
  go_wp2
  go_ret
  exact ⟨sqE,sqD⟩
 have z0 : decide (1099511627776 ≤ a0) = false:=decide_eq_false c3;clear c3;replace H:=sqj H;rcases H with ⟨c4,H⟩ | ⟨c4,H⟩
 ·have z1 : decide (1099511627776 ≤ a1) = true:=decide_eq_true c4;clear c4;obtain rfl:=Option.some.inj H;go_enter Try.func70,Try.ntmps70
  go_wp2
  go_ret
  exact ⟨sqE,sqD⟩
 have z1 : decide (1099511627776 ≤ a1) = false:=decide_eq_false c4;clear c4;replace H:=sqj H;rcases H with ⟨c5,H⟩ | ⟨c5,H⟩
 ·have z2 : decide (1099511627776 ≤ (wrap64 (a0 + a1))) = true:=decide_eq_true c5;clear c5;obtain rfl:=Option.some.inj H;go_enter Try.func70,Try.ntmps70
  go_wp2
  go_ret
  exact ⟨sqE,sqD⟩
 have z2 : decide (1099511627776 ≤ (wrap64 (a0 + a1))) = false:=decide_eq_false c5;clear c5;obtain rfl:=Option.some.inj H;go_enter Try.func70,Try.ntmps70
 go_wp2
 go_ret
 exact ⟨sqE,sqD⟩

/-! ### spec_GapsClose: function 22 -/
def spec_GapsClose.T13 : Bool × List (List Nat × List Nat):=(true,[([],[]),([],[]),([],[]),([0,1,2],[0,1,2]),([],[]),([],[]),([],[]),([4,5,6,3],[4,5,6]),([3,7,7],[3,7]),([8,8,0,1,2,3,4,5,6,7,8],[8])])
def spec_GapsClose.B13 : List Nat:=[0,0,0,7,0,0,0,127,255,511]
theorem spec_GapsClose.tab13 : rtab .any (opsOf Try.f22 13) = spec_GapsClose.T13:=by kernel_rfl
theorem spec_GapsClose.bits13 : waitsOk spec_GapsClose.T13.2 spec_GapsClose.B13 = true:=by kernel_rfl
theorem spec_GapsClose.calls (k : Nat) (a0_0 : Int) (A0_1 : Option Addr) (c0_1 : Nat) (l0_1 : List Int) (r1 : Int) (r2 : List Int) (r3 : Bool) (w : World) (hr0_1 : Kd.C (Kd.int .i64) w A0_1 l0_1.length l0_1) (hc0_1 : l0_1.length ≤ c0_1) (h : spec_GapsClose.f k a0_0 l0_1 = some (r1,r2,r3)) :
  Calls Try.prog 22 #[.agg #[.int .i64 a0_0,.slice A0_1 l0_1.length c0_1]] w fun e w'=>∃ v1_ : Value,e = .returned (.tuple #[.agg #[.int .i64 r1,v1_],.bool r3])∧Kd.R (Kd.int .i64) 3 w' w.heap.size (fun _=>True) v1_ r2∧Below w.heap.size w w':=by
 have hu32:=Try.underlying32;have HR0_1:=Aside0.mk hr0_1;have HC0_1:=Aside0.mk hc0_1;clear hr0_1 hc0_1;have HB:=Aside0.mk (Below.refl w.heap.size w);have H:=h;unfold spec_GapsClose.f at H;clear h;replace H:=sqbi H;obtain ⟨t0,A2,H⟩:=H;(try dsimp only at H);rcases sqI (t0 = true) with c3 | c3
 ·replace c3:=Bool.eq_false_iff.mpr c3;subst c3;rw [sqff] at H;simp only [Option.some.injEq,Prod.mk.injEq] at H;obtain ⟨rfl,rfl,rfl⟩:=H;go_enter Try.func22,Try.ntmps22;go_wp2_with (first | ((with_reducible refine gd 1 rfl ?_);refine sqX 1 #[.int .i64 a0_0,.slice A0_1 l0_1.length c0_1] 32 HB ?_;clear HB;intro gb0 hg w100 hb B0 GW0 HB;clear hb hg) | ((with_reducible refine gd 2 rfl ?_);refine sqX 2 #[.int .i64 0,.slice none 0 0] 32 HB ?_;clear HB;intro gb1 hg w101 hb B1 GW1 HB;have N0_1:=sqn B0 hg;have N1_0:=sqm B0 hg;replace B0:=sqb B0 hb;clear hb hg;obtain ⟨_,_⟩:=sqN1 N0_1;obtain ⟨_,_,_,_⟩:=sqc2 B0) | ((with_reducible refine gf 63 rfl ?_);refine sqLb rfl (some 11) Try.func63 (spec_GapsOk.calls _ _ _ _ _ _ _ (sqC (Kd.C_below HR0_1.out HB.out)) HC0_1.out A2.out) ?_;intro w104 hb;refine sqM2 B0 B1 hb ?_;clear B0 B1;intro B0 B1;replace HB:=sqs HB hb;(try clear hb);obtain ⟨_,_,_,_⟩:=sqc2 B1));refine bodyPost_ret (results_ct rfl _ _ gb1 32 #[.int .i64 0,.slice none 0 0] (0,0) _ rfl (sqP B1) Try.underlying32 rfl (by kernel_rfl)) rfl ?_;exact ⟨_,sqEw,sqnil,sqB HB⟩
 subst c3;rw [if_pos rfl] at H;replace H:=sqbi H;obtain ⟨⟨t1,t2⟩,A4,H⟩:=H;(try dsimp only at H);have H':=Aside0.mk H;clear H;go_enter Try.func22,Try.ntmps22;go_wp2_with (first | ((with_reducible refine gd 1 rfl ?_);refine sqX 1 #[.int .i64 a0_0,.slice A0_1 l0_1.length c0_1] 32 HB ?_;clear HB;intro gb0 hg w5 hb B0 GW0 HB;clear hb hg) | ((with_reducible refine gd 2 rfl ?_);refine sqX 2 #[.int .i64 0,.slice none 0 0] 32 HB ?_;clear HB;intro gb1 hg w6 hb B1 GW1 HB;have N0_1:=sqn B0 hg;have N1_0:=sqm B0 hg;replace B0:=sqb B0 hb;clear hb hg;obtain ⟨_,_⟩:=sqN1 N0_1;obtain ⟨_,_,_,_⟩:=sqc2 B0) | ((with_reducible refine gf 63 rfl ?_);refine sqLb rfl (some 11) Try.func63 (spec_GapsOk.calls _ _ _ _ _ _ _ (sqC (Kd.C_below HR0_1.out HB.out)) HC0_1.out A2.out) ?_;intro w9 hb;refine sqM2 B0 B1 hb ?_;clear B0 B1;intro B0 B1;replace HB:=sqs HB hb;(try clear hb);obtain ⟨_,_,_,_⟩:=sqc2 B0) | ((with_reducible refine gf 64 rfl ?_);refine sqLc rfl (some 15) Try.func64 (spec_l11Copy.calls _ _ _ _ _ _ _ _ (sqC (Kd.C_below HR0_1.out HB.out)) HC0_1.out A4.out) ?_;rintro e w11 ⟨zE,rfl,ho0,hb⟩;refine ⟨_,rfl,?_⟩;have z8:=sqRlR ho0 HB;refine sqM2 B0 B1 hb ?_;clear B0 B1;intro B0 B1;replace HB:=sqs HB hb;(try clear hb);(try clear hb2);(try clear hk);(try clear hi);(try clear ho0)) | ((with_reducible refine gd 4 rfl ?_);refine sqX 4 #[.int .i64 0,.slice none 0 0] 32 HB ?_;clear HB;intro gb2 hg w12 hb B2 GW2 HB;replace z8:=sqRbR z8 hb;have N0_2:=sqn B0 hg;have N2_0:=sqm B0 hg;replace B0:=sqb B0 hb;have N1_2:=sqn B1 hg;have N2_1:=sqm B1 hg;replace B1:=sqb B1 hb;clear hb hg;obtain ⟨_,_,_,_⟩:=sqN2 N2_0 N2_1;obtain ⟨_,_,_,_⟩:=sqc2 B2;obtain ⟨zj,zk,zl⟩:=Kd.R_slice z8.out;subst zl))
 go_loopg [5] k (fun kq v5 w'=>∃ (x0 : Int) (x1 : List Int) (z1 : Value),v5 = .int .i64 x0∧Aside0 (spec_GapsClose.l0 kq x0 a0_0 l0_1 t1 x1 = some (r1,r2,r3))∧Aside0 (kq ≤ k)∧Aside0 (Kd.R (Kd.int .i64) 3 w' w.heap.size (fun _=>True) z1 x1)∧Aside0 (w'.heap[gb0]? = some (.cells #[.int .i64 a0_0,(.slice A0_1 l0_1.length c0_1)] 32 (0,0)))∧Aside0 (w'.heap[gb1]? = some (.cells #[.int .i64 0,(.slice none 0 0)] 32 (0,0)))∧Aside0 (w'.heap[gb2]? = some (.cells #[.int .i64 t1,z1] 32 (0,0)))∧Aside0 (Below w.heap.size w w'))
 case atStart=>exact ⟨(0),(t2),(.slice zj t2.length zk),sqE,H',⟨Nat.le_refl _⟩,⟨sqF1Rf (sqtyR z8 B2) (fun _ hk=>trivial)⟩,⟨sqT B0⟩,⟨sqT B1⟩,⟨sqP B2⟩,sqh HB⟩
 case round =>
  clear H';obtain ⟨x0,x1,z1,rfl,HA,HK1,z0,B0,B1,B2,HB⟩:=hrel;cases gk with
  | zero=>exact absurd HA.out (by simp [spec_GapsClose.l0])
  | succ k1 =>
   have H:=HA.out;clear HA;simp only [spec_GapsClose.l0] at H;replace H:=sqi H;rcases H with ⟨c17,H⟩ | ⟨c17,H⟩
   ·have zm:=decide_eq_false c17;clear c17;have H':=Aside0.mk H;clear H;obtain ⟨_,_,_,_⟩:=sqN2 N0_1 N0_2;obtain ⟨_,_,_,_⟩:=sqc2 B0
    go_wp2
    go_loopg [9] k1 (fun kq v9 w'=>∃ (x2 : Int) (x3 : Int),v9 = .int .i64 x2∧Aside0 (spec_GapsClose.l3 kq x2 a0_0 l0_1 t1 x1 = some (r1,r2,r3))∧Aside0 (kq ≤ k1)∧Aside0 (Kd.R (Kd.int .i64) 3 w' w.heap.size (fun _=>True) z1 x1)∧Aside0 (w'.heap[gb0]? = some (.cells #[.int .i64 a0_0,(.slice A0_1 l0_1.length c0_1)] 32 (0,0)))∧Aside0 (w'.heap[gb1]? = some (.cells #[.int .i64 x3,(.slice none 0 0)] 32 (0,0)))∧Aside0 (w'.heap[gb2]? = some (.cells #[.int .i64 t1,z1] 32 (0,0)))∧Aside0 (Below w.heap.size w w'))
    case atStart=>exact ⟨(0),(0),sqE,H',⟨Nat.le_refl _⟩,⟨sqy z0.out⟩,sqk B0,sqk B1,sqk B2,sqh HB⟩
    case round =>
     clear H';obtain ⟨x2,x3,rfl,HA,HK2,z0,B0,B1,B2,HB⟩:=hrel;cases gk with
     | zero=>exact absurd HA.out (by simp [spec_GapsClose.l3])
     | succ k2 =>
      have H:=HA.out;clear HA;simp only [spec_GapsClose.l3] at H;replace H:=sqi H;rcases H with ⟨c63,H⟩ | ⟨c63,H⟩
      ·have zn:=decide_eq_false c63;clear c63;simp only [Option.some.injEq,Prod.mk.injEq] at H;obtain ⟨rfl,rfl,rfl⟩:=H;obtain ⟨_,_,_,_⟩:=sqN2 N2_0 N2_1;obtain ⟨_,_,_,_⟩:=sqc2 B2;obtain ⟨zo,zp,zq⟩:=Kd.R_slice z0.out;subst zq;obtain ⟨_,_⟩:=sqN1 N1_0;obtain ⟨_,_,_,_⟩:=sqc2 B1
       go_wp2
       refine bodyPost_ret (results_ct rfl _ _ gb1 32 #[.int .i64 t1,.slice zo x1.length zp] (0,0) _ rfl (sqP B1) Try.underlying32 rfl (by kernel_rfl)) rfl ?_;exact ⟨_,sqEw,sqF1Rf (sqtyR z0 B1) (fun _ hk=>trivial),sqB HB⟩
      have zn:=decide_eq_true c63;clear c63;replace H:=sqi H;rcases H with ⟨c64,H⟩ | ⟨c64,H⟩
      ·cases H
      have zF:=decide_eq_true c64;clear c64;replace H:=sqj H;rcases H with ⟨c65,H⟩ | ⟨c65,H⟩
      ·have zr:=decide_eq_true c65;clear c65;simp only [Option.some.injEq,Prod.mk.injEq] at H;obtain ⟨rfl,rfl,rfl⟩:=H;obtain ⟨_,_,_,_⟩:=sqN2 N2_0 N2_1;obtain ⟨_,_,_,_⟩:=sqc2 B2;obtain ⟨zG,zH,zt⟩:=Kd.R_slice z0.out;subst zt;have z2 : 0 ≤ (x2 : Int):=sqd;have z3 : x2 < (x1.length : Int):=sqd;obtain ⟨z7,z4,zb⟩:=Kd.at_int (Kd.R_reads' z0.out).2.2 x2 z2 z3;cases z4;replace z2:=eq_true z2;replace z3:=eq_true z3;obtain ⟨_,_⟩:=sqN1 N1_0;obtain ⟨_,_,_,_⟩:=sqc2 B1
       go_wp2
       refine bodyPost_ret (results_ct rfl _ _ gb1 32 #[.int .i64 0,.slice none 0 0] (0,0) _ rfl (sqP B1) Try.underlying32 rfl (by kernel_rfl)) rfl ?_;exact ⟨_,sqEw,sqnil,sqB HB⟩
      have zr:=decide_eq_false c65;clear c65;replace H:=sqj H;rcases H with ⟨c72,H⟩ | ⟨c72,H⟩
      ·cases H
      have zI : ((wrap64 (a0_0 + 2)) == 0) = false:=beq_eq_false_iff_ne.mpr c72;have zJ : ((wrap64 (a0_0 + 2)) != 0) = true:=bne_iff_ne.mpr c72;replace H:=sqi H;rcases H with ⟨c73,H⟩ | ⟨c73,H⟩
      ·have zu : ((Int.tmod x2 (wrap64 (a0_0 + 2))) == 0) = false:=beq_eq_false_iff_ne.mpr c73;have zv : ((Int.tmod x2 (wrap64 (a0_0 + 2))) != 0) = true:=bne_iff_ne.mpr c73;have H':=Aside0.mk H;clear H;obtain ⟨_,_,_,_⟩:=sqN2 N2_0 N2_1;obtain ⟨_,_,_,_⟩:=sqc2 B2;obtain ⟨zK,zL,zw⟩:=Kd.R_slice z0.out;subst zw;have z2 : 0 ≤ (x2 : Int):=sqd;have z3 : x2 < (x1.length : Int):=sqd;obtain ⟨z7,z4,zb⟩:=Kd.at_int (Kd.R_reads' z0.out).2.2 x2 z2 z3;cases z4;replace z2:=eq_true z2;replace z3:=eq_true z3;obtain ⟨_,_⟩:=sqN1 N0_1;obtain ⟨_,_,_,_⟩:=sqc2 B0
       go_wp2
       go_roundg k2
       case measure=>have:=HK1.out;have:=HK2.out;omega
       case rel=>exact ⟨(wrap64 (x2 + 1)),(x3),sqE,H',⟨by have:=HK1.out;have:=HK2.out;omega⟩,⟨sqy z0.out⟩,sqk B0,sqk B1,sqk B2,sqh HB⟩
      have zu : ((Int.tmod x2 (wrap64 (a0_0 + 2))) == 0) = true:=beq_iff_eq.mpr c73;have zv : ((Int.tmod x2 (wrap64 (a0_0 + 2))) != 0) = false:=bne_eq_false_iff_eq.mpr c73;clear c73;replace H:=sqi H;rcases H with ⟨c74,H⟩ | ⟨c74,H⟩
      ·have zx:=decide_eq_false c74;clear c74;have H':=Aside0.mk H;clear H;obtain ⟨_,_,_,_⟩:=sqN2 N2_0 N2_1;obtain ⟨_,_,_,_⟩:=sqc2 B2;obtain ⟨zM,zN,zy⟩:=Kd.R_slice z0.out;subst zy;have z2 : 0 ≤ (x2 : Int):=sqd;have z3 : x2 < (x1.length : Int):=sqd;obtain ⟨z7,z4,zb⟩:=Kd.at_int (Kd.R_reads' z0.out).2.2 x2 z2 z3;cases z4;replace z2:=eq_true z2;replace z3:=eq_true z3;obtain ⟨_,_⟩:=sqN1 N0_1;obtain ⟨_,_,_,_⟩:=sqc2 B0;have z5 : 0 ≤ (x2 : Int):=sqd;have z6 : x2 < (x1.length : Int):=sqd;obtain ⟨zc,zd,zz⟩:=Kd.at_int (Kd.R_reads' z0.out).2.2 x2 z5 z6;obtain rfl : z7 = zc:=(by injection zd);replace z5:=eq_true z5;replace z6:=eq_true z6
       go_wp2
       go_roundg k2
       case measure=>have:=HK1.out;have:=HK2.out;omega
       case rel=>exact ⟨(wrap64 (x2 + 1)),(x3),sqE,H',⟨by have:=HK1.out;have:=HK2.out;omega⟩,⟨sqy z0.out⟩,sqk B0,sqk B1,sqk B2,sqh HB⟩
      have zx:=decide_eq_true c74;clear c74;simp only [Option.some.injEq,Prod.mk.injEq] at H;obtain ⟨rfl,rfl,rfl⟩:=H;obtain ⟨_,_,_,_⟩:=sqN2 N2_0 N2_1;obtain ⟨_,_,_,_⟩:=sqc2 B2;obtain ⟨zO,zP,zA⟩:=Kd.R_slice z0.out;subst zA;have z2 : 0 ≤ (x2 : Int):=sqd;have z3 : x2 < (x1.length : Int):=sqd;obtain ⟨z7,z4,zb⟩:=Kd.at_int (Kd.R_reads' z0.out).2.2 x2 z2 z3;cases z4;replace z2:=eq_true z2;replace z3:=eq_true z3;obtain ⟨_,_⟩:=sqN1 N0_1;obtain ⟨_,_,_,_⟩:=sqc2 B0;have z5 : 0 ≤ (x2 : Int):=sqd;have z6 : x2 < (x1.length : Int):=sqd;obtain ⟨zc,zd,zz⟩:=Kd.at_int (Kd.R_reads' z0.out).2.2 x2 z5 z6;obtain rfl : z7 = zc:=(by injection zd);replace z5:=eq_true z5;replace z6:=eq_true z6;obtain ⟨_,_,_,_⟩:=sqc2 B1
      go_wp2
      refine bodyPost_ret (results_ct rfl _ _ gb1 32 #[.int .i64 0,.slice none 0 0] (0,0) _ rfl (sqP B1) Try.underlying32 rfl (by kernel_rfl)) rfl ?_;exact ⟨_,sqEw,sqnil,sqB HB⟩
   have zm:=decide_eq_true c17;clear c17;have H':=Aside0.mk H;clear H;obtain ⟨_,_,_,_⟩:=sqN2 N0_1 N0_2;obtain ⟨_,_,_,_⟩:=sqc2 B0
   go_wp2
   go_loopg [6] k1 (fun kq v6 w'=>∃ (x4 : Int) (x5 : List Int) (z1 : Value),v6 = .int .i64 x4∧Aside0 (spec_GapsClose.l1 kq x0 x4 a0_0 l0_1 t1 x5 = some (r1,r2,r3))∧Aside0 (kq ≤ k1)∧Aside0 (Kd.R (Kd.int .i64) 3 w' w.heap.size (fun _=>True) z1 x5)∧Aside0 (w'.heap[gb0]? = some (.cells #[.int .i64 a0_0,(.slice A0_1 l0_1.length c0_1)] 32 (0,0)))∧Aside0 (w'.heap[gb1]? = some (.cells #[.int .i64 0,(.slice none 0 0)] 32 (0,0)))∧Aside0 (w'.heap[gb2]? = some (.cells #[.int .i64 t1,z1] 32 (0,0)))∧Aside0 (Below w.heap.size w w'))
   case atStart=>exact ⟨(0),(x1),(z1),sqE,H',⟨Nat.le_refl _⟩,⟨sqy z0.out⟩,sqk B0,sqk B1,sqk B2,sqh HB⟩
   case round =>
    clear H';obtain ⟨x4,x5,z1,rfl,HA,HK2,z0,B0,B1,B2,HB⟩:=hrel;cases gk with
    | zero=>exact absurd HA.out (by simp [spec_GapsClose.l1])
    | succ k2 =>
     have H:=HA.out;clear HA;simp only [spec_GapsClose.l1] at H;replace H:=sqi H;rcases H with ⟨c21,H⟩ | ⟨c21,H⟩
     ·have zB:=decide_eq_false c21;clear c21;have H':=Aside0.mk H;clear H;obtain ⟨_,_,_,_⟩:=sqN2 N0_1 N0_2;obtain ⟨_,_,_,_⟩:=sqc2 B0
      go_wp2
      go_roundg k2
      case measure=>have:=HK1.out;have:=HK2.out;omega
      case rel=>exact ⟨(wrap64 (x0 + 1)),(x5),(z1),sqE,H',⟨by have:=HK1.out;have:=HK2.out;omega⟩,⟨sqy z0.out⟩,sqk B0,sqk B1,sqk B2,sqh HB⟩
     have zB:=decide_eq_true c21;clear c21;have H':=Aside0.mk H;clear H;obtain ⟨_,_,_,_⟩:=sqN2 N0_1 N0_2;obtain ⟨_,_,_,_⟩:=sqc2 B0
     go_wp2
     go_loopg [7] k2 (fun kq v7 w'=>∃ (x6 : Int) (x7 : List Int) (z1 : Value),v7 = .int .i64 x6∧Aside0 (spec_GapsClose.l2 kq x0 x4 x6 a0_0 l0_1 t1 x7 = some (r1,r2,r3))∧Aside0 (kq ≤ k2)∧Aside0 (Kd.R (Kd.int .i64) 3 w' w.heap.size (fun _=>True) z1 x7)∧Aside0 (w'.heap[gb0]? = some (.cells #[.int .i64 a0_0,(.slice A0_1 l0_1.length c0_1)] 32 (0,0)))∧Aside0 (w'.heap[gb1]? = some (.cells #[.int .i64 0,(.slice none 0 0)] 32 (0,0)))∧Aside0 (w'.heap[gb2]? = some (.cells #[.int .i64 t1,z1] 32 (0,0)))∧Aside0 (Below w.heap.size w w'))
     case atStart=>exact ⟨(0),(x5),(z1),sqE,H',⟨Nat.le_refl _⟩,⟨sqy z0.out⟩,sqk B0,sqk B1,sqk B2,sqh HB⟩
     case round =>
      clear H';obtain ⟨x6,x7,z1,rfl,HA,HK3,z0,B0,B1,B2,HB⟩:=hrel;cases gk with
      | zero=>exact absurd HA.out (by simp [spec_GapsClose.l2])
      | succ k3 =>
       have H:=HA.out;clear HA;simp only [spec_GapsClose.l2] at H;replace H:=sqi H;rcases H with ⟨c25,H⟩ | ⟨c25,H⟩
       ·have zC:=decide_eq_false c25;clear c25;have H':=Aside0.mk H;clear H;obtain ⟨_,_,_,_⟩:=sqN2 N0_1 N0_2;obtain ⟨_,_,_,_⟩:=sqc2 B0
        go_wp2
        go_roundg k3
        case measure=>have:=HK1.out;have:=HK2.out;have:=HK3.out;omega
        case rel=>exact ⟨(wrap64 (x4 + 1)),(x7),(z1),sqE,H',⟨by have:=HK1.out;have:=HK2.out;have:=HK3.out;omega⟩,⟨sqy z0.out⟩,sqk B0,sqk B1,sqk B2,sqh HB⟩
       have zC:=decide_eq_true c25;clear c25;replace H:=sqbi H;obtain ⟨t3,A26,H⟩:=H;(try dsimp only at H);replace H:=sqbi H;obtain ⟨t4,A27,H⟩:=H;(try dsimp only at H);replace H:=sqbi H;obtain ⟨t5,A28,H⟩:=H;(try dsimp only at H);replace H:=sqbi H;obtain ⟨t6,A29,H⟩:=H;(try dsimp only at H);replace H:=sqi H;rcases H with ⟨c30,H⟩ | ⟨c30,H⟩
       ·have zD:=decide_eq_false c30;clear c30;have H':=Aside0.mk H;clear H;obtain ⟨_,_,_,_⟩:=sqN2 N0_1 N0_2;obtain ⟨_,_,_,_⟩:=sqc2 B0
        try go_wp2
        replace z0:=sqdrR z0;replace B0:=sqdr B0;replace B1:=sqdr B1;replace B2:=sqdr B2;replace HB:=sqdB HB;obtain ⟨ze,zf,zg⟩:=Kd.R_slice z0.out
        (first | subst zg | (injection zg with f1_ f2_ f3_;have f4_:=f1_.symm;have f5_:=f3_.symm;clear f1_ f2_ f3_;subst f4_;subst f5_))
        refine sqst 10 (fun w'=>Ce2 w' gb2 (.int .i64 t1) (.slice ze x7.length zf)) sqz (fun hHeld=>?_);refine with_tabW spec_GapsClose.tab13 spec_GapsClose.bits13 (fun HT_ HW_=>?_);generalize wr.drew = w47 at z0 B0 B1 B2 HB hHeld ⊢;refine sqp HT_ 1 35 ?_;refine sqp HT_ 2 36 ?_;refine sqp HT_ 5 39 ?_;refine sqp HT_ 6 40 ?_;refine sqw HT_ HW_ 0 34 hHeld ?_;refine sqw HT_ HW_ 4 38 hHeld ?_;refine sqo HT_ 3 37 (fun K hK=>?_);refine sqGb rfl Try.func68 (spec_l11At.calls _ _ _ _ _ _ _ _ (sqC (Kd.R_reads' z0.out).2.2) ((Kd.R_reads' z0.out).2.1) A26.out) ?_;intro w49 hb;replace z0:=sqRbR z0 hb;replace B0:=sqb B0 hb;replace B1:=sqb B1 hb;replace B2:=sqb B2 hb;replace HB:=sqs HB hb;(try clear hb);refine hK.out _ _ sqz (fun hHeld=>?_);clear hK K;refine sqnm ?_;refine sqo HT_ 7 41 (fun K hK=>?_);refine sqGb rfl Try.func68 (spec_l11At.calls _ _ _ _ _ _ _ _ (sqC (Kd.R_reads' z0.out).2.2) ((Kd.R_reads' z0.out).2.1) A27.out) ?_;intro w50 hb;replace z0:=sqRbR z0 hb;replace B0:=sqb B0 hb;replace B1:=sqb B1 hb;replace B2:=sqb B2 hb;replace HB:=sqs HB hb;(try clear hb);refine hK.out _ _ sqz (fun hHeld=>?_);clear hK K;refine sqnm ?_;refine sqo HT_ 8 42 (fun K hK=>?_);refine sqGq rfl Try.func70 (spec_l11Add.calls _ _ _ _ A28.out) ?_;intro nd;refine hK.out _ _ sqz (fun hHeld=>?_);clear hK K;refine sqnm ?_;refine sqp HT_ 9 8 ?_;refine done_ (done_of HT_.out (by kernel_rfl)) ?_;obtain ⟨_,_⟩:=sqN1 N2_1;obtain ⟨_,_,_,_⟩:=sqc2 B2
        try go_wp2_with (first | ((with_reducible refine gf 68 rfl ?_);refine sqLb rfl (some 47) Try.func68 (spec_l11At.calls _ _ _ _ _ _ _ _ (sqC (Kd.R_reads' z0.out).2.2) ((Kd.R_reads' z0.out).2.1) A29.out) ?_;intro w53 hb;replace z0:=sqRbR z0 hb;replace B0:=sqb B0 hb;replace B1:=sqb B1 hb;replace B2:=sqb B2 hb;replace HB:=sqs HB hb;(try clear hb)))
        go_roundg k3
        case measure=>have:=HK1.out;have:=HK2.out;have:=HK3.out;omega
        case rel=>exact ⟨(wrap64 (x6 + 1)),(x7),(.slice ze x7.length zf),sqE,H',⟨by have:=HK1.out;have:=HK2.out;have:=HK3.out;omega⟩,⟨sqy z0.out⟩,sqk B0,sqk B1,sqk B2,sqh HB⟩
       have zD:=decide_eq_true c30;clear c30;replace H:=sqbi H;obtain ⟨t7,A31,H⟩:=H;(try dsimp only at H);have H':=Aside0.mk H;clear H;obtain ⟨_,_,_,_⟩:=sqN2 N0_1 N0_2;obtain ⟨_,_,_,_⟩:=sqc2 B0
       try go_wp2
       replace z0:=sqdrR z0;replace B0:=sqdr B0;replace B1:=sqdr B1;replace B2:=sqdr B2;replace HB:=sqdB HB;obtain ⟨z9,za,zh⟩:=Kd.R_slice z0.out
       (first | subst zh | (injection zh with f1_ f2_ f3_;have f4_:=f1_.symm;have f5_:=f3_.symm;clear f1_ f2_ f3_;subst f4_;subst f5_))
       refine sqst 10 (fun w'=>Ce2 w' gb2 (.int .i64 t1) (.slice z9 x7.length za)) sqz (fun hHeld=>?_);refine with_tabW spec_GapsClose.tab13 spec_GapsClose.bits13 (fun HT_ HW_=>?_);generalize wr.drew = w35 at z0 B0 B1 B2 HB hHeld ⊢;refine sqp HT_ 1 35 ?_;refine sqp HT_ 2 36 ?_;refine sqp HT_ 5 39 ?_;refine sqp HT_ 6 40 ?_;refine sqw HT_ HW_ 0 34 hHeld ?_;refine sqw HT_ HW_ 4 38 hHeld ?_;refine sqo HT_ 3 37 (fun K hK=>?_);refine sqGb rfl Try.func68 (spec_l11At.calls _ _ _ _ _ _ _ _ (sqC (Kd.R_reads' z0.out).2.2) ((Kd.R_reads' z0.out).2.1) A26.out) ?_;intro w37 hb;replace z0:=sqRbR z0 hb;replace B0:=sqb B0 hb;replace B1:=sqb B1 hb;replace B2:=sqb B2 hb;replace HB:=sqs HB hb;(try clear hb);refine hK.out _ _ sqz (fun hHeld=>?_);clear hK K;refine sqnm ?_;refine sqo HT_ 7 41 (fun K hK=>?_);refine sqGb rfl Try.func68 (spec_l11At.calls _ _ _ _ _ _ _ _ (sqC (Kd.R_reads' z0.out).2.2) ((Kd.R_reads' z0.out).2.1) A27.out) ?_;intro w38 hb;replace z0:=sqRbR z0 hb;replace B0:=sqb B0 hb;replace B1:=sqb B1 hb;replace B2:=sqb B2 hb;replace HB:=sqs HB hb;(try clear hb);refine hK.out _ _ sqz (fun hHeld=>?_);clear hK K;refine sqnm ?_;refine sqo HT_ 8 42 (fun K hK=>?_);refine sqGq rfl Try.func70 (spec_l11Add.calls _ _ _ _ A28.out) ?_;intro nd;refine hK.out _ _ sqz (fun hHeld=>?_);clear hK K;refine sqnm ?_;refine sqp HT_ 9 8 ?_;refine done_ (done_of HT_.out (by kernel_rfl)) ?_;obtain ⟨_,_⟩:=sqN1 N2_1;obtain ⟨_,_,_,_⟩:=sqc2 B2
       try go_wp2_with (first | ((with_reducible refine gf 68 rfl ?_);refine sqLb rfl (some 47) Try.func68 (spec_l11At.calls _ _ _ _ _ _ _ _ (sqC (Kd.R_reads' z0.out).2.2) ((Kd.R_reads' z0.out).2.1) A29.out) ?_;intro w41 hb;replace z0:=sqRbR z0 hb;replace B0:=sqb B0 hb;replace B1:=sqb B1 hb;replace B2:=sqb B2 hb;replace HB:=sqs HB hb;(try clear hb);obtain ⟨_,_,_,_⟩:=sqc2 B2) | ((with_reducible refine gf 69 rfl ?_);refine sqLc rfl (some 53) Try.func69 (spec_l11Put.calls t1 (fun k_=>some k_ = (.slice z9 x7.length za : Value).ownBlock) (.slice z9 x7.length za) x7 x4 x6 t5 t7 w _ (sqB HB) (Kd.R_tight rfl z0.out) A31.out) ?_;rintro e w43 ⟨rfl,zi,hb,hkp⟩;refine ⟨_,rfl,?_⟩;replace B0:=Aside0.mk (blk_kept (sqt B0.out) hkp (fun hs_=>(fun e_=>(Kd.R_ne z0.out B0.out (by decide)) e_) hs_));replace B1:=Aside0.mk (blk_kept (sqt B1.out) hkp (fun hs_=>(fun e_=>(Kd.R_ne z0.out B1.out (by decide)) e_) hs_));replace B2:=Aside0.mk (blk_kept (sqt B2.out) hkp (fun hs_=>(fun e_=>(Kd.R_ne z0.out B2.out (by decide)) e_) hs_));replace z0:=Aside0.mk (Kd.R_reok rfl zi (fun k_ e_=>z0.out.1 k_ e_));replace HB:=Aside0.mk (hb);(try clear hb);(try clear hkp);(try clear zi)))
       go_roundg k3
       case measure=>have:=HK1.out;have:=HK2.out;have:=HK3.out;omega
       case rel=>exact ⟨(wrap64 (x6 + 1)),(t7),(.slice z9 x7.length za),sqE,H',⟨by have:=HK1.out;have:=HK2.out;have:=HK3.out;omega⟩,⟨sqy z0.out⟩,sqk B0,sqk B1,sqk B2,sqh HB⟩

/-! ### spec_RestHas: function 123 -/
theorem spec_RestHas.calls (k : Nat) (a0_0 : Int) (a0_1 : Int) (a1 : Int) (r : Bool) (w : World) (h : spec_RestHas.f k a0_0 a0_1 a1 = some r) :
  Calls Try.prog 123 #[.agg #[.int .i64 a0_0,.int .i64 a0_1],.int .i64 a1] w fun e w'=>e = .returned (.bool r)∧Below w.heap.size w w':=by
 have hu60:=Try.underlying60;have HB:=Aside0.mk (Below.refl w.heap.size w);have H:=h;unfold spec_RestHas.f at H;clear h;have HC3:=Aside0.mk H;clear H;go_enter Try.func123,Try.ntmps123;go_upto_region 1 with (first | ((with_reducible refine gd 2 rfl ?_);refine sqX 2 #[.int .i64 a0_0,.int .i64 a0_1] 60 HB ?_;clear HB;intro gb0 hg w4 hb B0 GW0 HB;clear hb hg))
 repeat (go_quiet (first | ((with_reducible refine gd 2 rfl ?_);refine sqX 2 #[.int .i64 a0_0,.int .i64 a0_1] 60 HB ?_;clear HB;intro gb0 hg w4 hb B0 GW0 HB;clear hb hg));go_upto_region 1 with (first | ((with_reducible refine gd 2 rfl ?_);refine sqX 2 #[.int .i64 a0_0,.int .i64 a0_1] 60 HB ?_;clear HB;intro gb0 hg w4 hb B0 GW0 HB;clear hb hg)))
 (try simp only [Act.put,List.setIfInBounds_toArray,List.set_cons_zero,List.set_cons_succ])
 go_cut [12] (fun v12 wc=>∃ (kq : Nat) (x0 : Bool),v12 = .bool x0∧Aside0 (spec_RestHas.j0 kq a1 x0 a0_0 a0_1 = some r)∧Aside0 (kq ≤ k)∧Aside0 (wc.heap[gb0]? = some (.cells #[.int .i64 a0_0,.int .i64 a0_1] 60 (0,0)))∧Aside0 (Below w.heap.size w wc))
 case first =>
  have H:=HC3.out;clear HC3;replace H:=sqbi H;obtain ⟨t0,A5,H⟩:=H;(try dsimp only at H);rcases sqI (t0 = true) with c6 | c6
  ·replace c6:=Bool.eq_false_iff.mpr c6;subst c6;rw [sqff] at H;have H':=Aside0.mk H;clear H;obtain ⟨z2,z3,z4,z5⟩:=sqc2 B0;go_wp2_with (first | (go_at_call 77;(with_reducible refine (spec_RestOk.calls a0_0 a0_1 false _ A5.out).mono ?_);rintro e w11 ⟨rfl,hb⟩;replace B0:=sqb B0 hb;replace HB:=sqs HB hb;(try clear hb)))
   repeat (go_quiet (first | (go_at_call 77;(with_reducible refine (spec_RestOk.calls a0_0 a0_1 false _ A5.out).mono ?_);rintro e w11 ⟨rfl,hb⟩;replace B0:=sqb B0 hb;replace HB:=sqs HB hb;(try clear hb)));try go_wp2_with (first | (go_at_call 77;(with_reducible refine (spec_RestOk.calls a0_0 a0_1 false _ A5.out).mono ?_);rintro e w11 ⟨rfl,hb⟩;replace B0:=sqb B0 hb;replace HB:=sqs HB hb;(try clear hb))))
   go_meet
   case rel=>exact ⟨_,(true),sqE,H',⟨sqle⟩,sqk B0,sqh HB⟩
  subst c6;rw [if_pos rfl] at H;replace H:=sqbi H;obtain ⟨t1,A7,H⟩:=H;(try dsimp only at H);have H':=Aside0.mk H;clear H;obtain ⟨z6,z7,z8,z9⟩:=sqc2 B0;go_wp2_with (first | (go_at_call 77;(with_reducible refine (spec_RestOk.calls a0_0 a0_1 true _ A5.out).mono ?_);rintro e w9 ⟨rfl,hb⟩;replace B0:=sqb B0 hb;replace HB:=sqs HB hb;(try clear hb)) | (go_at_call 127;(with_reducible refine (spec_NumOk.calls a1 t1 _ A7.out).mono ?_);rintro e w' ⟨rfl,⟨nd,rfl⟩⟩;(try exact sqdd)))
  repeat (go_quiet (first | (go_at_call 77;(with_reducible refine (spec_RestOk.calls a0_0 a0_1 true _ A5.out).mono ?_);rintro e w9 ⟨rfl,hb⟩;replace B0:=sqb B0 hb;replace HB:=sqs HB hb;(try clear hb)) | (go_at_call 127;(with_reducible refine (spec_NumOk.calls a1 t1 _ A7.out).mono ?_);rintro e w' ⟨rfl,⟨nd,rfl⟩⟩;(try exact sqdd)));try go_wp2_with (first | (go_at_call 77;(with_reducible refine (spec_RestOk.calls a0_0 a0_1 true _ A5.out).mono ?_);rintro e w9 ⟨rfl,hb⟩;replace B0:=sqb B0 hb;replace HB:=sqs HB hb;(try clear hb)) | (go_at_call 127;(with_reducible refine (spec_NumOk.calls a1 t1 _ A7.out).mono ?_);rintro e w' ⟨rfl,⟨nd,rfl⟩⟩;(try exact sqdd))))
  go_meet
  case rel=>exact ⟨_,(!t1),sqE,H',⟨sqle⟩,sqk B0,sqh HB⟩
 case rest =>
  clear HC3;obtain ⟨kq,x0,rfl,HA,HJ2,B0,HB⟩:=hcut;cases kq with
  | zero=>exact absurd HA.out (by simp [spec_RestHas.j0])
  | succ kj2 =>
   have H:=HA.out;clear HA;simp only [spec_RestHas.j0] at H
   by_cases c12 : x0 = true
   ·subst c12;rw [if_pos rfl] at H;obtain rfl:=Option.some.inj H
    go_wp2
    repeat (go_quiet (fail);try go_wp2)
    go_ret
    exact sqe HB
   replace c12:=Bool.eq_false_iff.mpr c12;subst c12;rw [sqff] at H;replace H:=sqj H;rcases H with ⟨c13,H⟩ | ⟨c13,H⟩
   ·have z0 : (a0_0 == 0) = true:=beq_iff_eq.mpr c13;have z1 : (a0_0 != 0) = false:=bne_eq_false_iff_eq.mpr c13;clear c13;obtain rfl:=Option.some.inj H;obtain ⟨za,zb,zc,zd⟩:=sqc2 B0
    go_wp2
    repeat (go_quiet (fail);try go_wp2)
    go_ret
    exact sqe HB
   have z0 : (a0_0 == 0) = false:=beq_eq_false_iff_ne.mpr c13;have z1 : (a0_0 != 0) = true:=bne_iff_ne.mpr c13;replace H:=sqbi H;obtain ⟨t2,A15,H⟩:=H;(try dsimp only at H);obtain rfl:=Option.some.inj H;obtain ⟨ze,zf,zg,zh⟩:=sqc2 B0;go_wp2_with (first | (go_at_call 81;(with_reducible refine (spec_l1Mod.calls a1 a0_0 t2 _ A15.out).mono ?_);rintro e w' ⟨rfl,⟨nd,rfl⟩⟩;(try exact sqdd)))
   repeat (go_quiet (first | (go_at_call 81;(with_reducible refine (spec_l1Mod.calls a1 a0_0 t2 _ A15.out).mono ?_);rintro e w' ⟨rfl,⟨nd,rfl⟩⟩;(try exact sqdd)));try go_wp2_with (first | (go_at_call 81;(with_reducible refine (spec_l1Mod.calls a1 a0_0 t2 _ A15.out).mono ?_);rintro e w' ⟨rfl,⟨nd,rfl⟩⟩;(try exact sqdd))))
   go_ret
   exact sqe HB

/-! ### spec_l9Gcd: function 124 -/
theorem spec_l9Gcd.calls (k : Nat) (a0 : Int) (a1 : Int) (r : Int) (w : World) (h : spec_l9Gcd.f k a0 a1 = some r) :
  Calls Try.prog 124 #[.int .i64 a0,.int .i64 a1] w fun e w'=>e = .returned (.int .i64 r)∧Drawn0 w w':=by
 have H:=h;unfold spec_l9Gcd.f at H;clear h;have HC3:=Aside0.mk H;clear H;go_enter Try.func124,Try.ntmps124
 go_upto_if 7 with (fail)
 go_cut [0] (fun v0 wc=>∃ (kq : Nat) (x0 : Int),v0 = .int .i64 x0∧Aside0 (spec_l9Gcd.j0 kq x0 a1 = some r)∧Aside0 (kq ≤ k)∧Drawn0 w wc)
 case first =>
  have H:=HC3.out;clear HC3;replace H:=sqi H;rcases H with ⟨c4,H⟩ | ⟨c4,H⟩
  ·have z0:=decide_eq_false c4;clear c4
   (first | rw [z0] | (simp only [i64_w,i32_w];rw [z0]) | skip)
   have H':=Aside0.mk H;clear H
   go_wp2
   go_meet
   case rel=>exact ⟨_,(a0),sqE,H',⟨sqle⟩,sqD⟩
  have z0:=decide_eq_true c4;clear c4
  (first | rw [z0] | (simp only [i64_w,i32_w];rw [z0]) | skip)
  have H':=Aside0.mk H;clear H
  go_wp2
  go_meet
  case rel=>exact ⟨_,(wrap64 (-a0)),sqE,H',⟨sqle⟩,sqD⟩
 case rest =>
  clear HC3;obtain ⟨kq,x0,rfl,HA,HJ2,⟨mc2,rfl⟩⟩:=hcut;cases kq with
  | zero=>exact absurd HA.out (by simp [spec_l9Gcd.j0])
  | succ kj2 =>
   have H:=HA.out;clear HA;simp only [spec_l9Gcd.j0] at H;have HC5:=Aside0.mk H;clear H
   go_upto_if 11 with (fail)
   go_cut [1] (fun v1 wc=>∃ (kq : Nat) (x1 : Int),v1 = .int .i64 x1∧Aside0 (spec_l9Gcd.j1 kq x0 x1 = some r)∧Aside0 (kq ≤ kj2)∧Drawn0 w wc)
   case first =>
    have H:=HC5.out;clear HC5;replace H:=sqi H;rcases H with ⟨c6,H⟩ | ⟨c6,H⟩
    ·have z1:=decide_eq_false c6;clear c6
     (first | rw [z1] | (simp only [i64_w,i32_w];rw [z1]) | skip)
     have H':=Aside0.mk H;clear H
     go_wp2
     go_meet
     case rel=>exact ⟨_,(a1),sqE,H',⟨by have:=HJ2.out;first | omega | exact Nat.le_refl _⟩,sqD⟩
    have z1:=decide_eq_true c6;clear c6
    (first | rw [z1] | (simp only [i64_w,i32_w];rw [z1]) | skip)
    have H':=Aside0.mk H;clear H
    go_wp2
    go_meet
    case rel=>exact ⟨_,(wrap64 (-a1)),sqE,H',⟨by have:=HJ2.out;first | omega | exact Nat.le_refl _⟩,sqD⟩
   case rest =>
    clear HC5;obtain ⟨kq,x1,rfl,HA,HJ4,⟨mc4,rfl⟩⟩:=hcut;cases kq with
    | zero=>exact absurd HA.out (by simp [spec_l9Gcd.j1])
    | succ kj4 =>
     have H:=HA.out;clear HA;simp only [spec_l9Gcd.j1] at H;have H':=Aside0.mk H;clear H
     go_wp2
     go_loopg [0,1] kj4 (fun kq v0 v1 w'=>∃ (x2 : Int) (x3 : Int),v0 = .int .i64 x2∧v1 = .int .i64 x3∧Aside0 (spec_l9Gcd.l0 kq x2 x3 = some r)∧Aside0 (kq ≤ kj4)∧Drawn0 w w')
     case atStart=>exact ⟨(x0),(x1),sqE,sqE,H',⟨Nat.le_refl _⟩,sqD⟩
     case round =>
      clear H';obtain ⟨x2,x3,rfl,rfl,HA,HK3,⟨m3,rfl⟩⟩:=hrel;cases gk with
      | zero=>exact absurd HA.out (by simp [spec_l9Gcd.l0])
      | succ k3 =>
       have H:=HA.out;clear HA;simp only [spec_l9Gcd.l0] at H;replace H:=sqj H;rcases H with ⟨c7,H⟩ | ⟨c7,H⟩
       ·have z2 : (x3 == 0) = true:=beq_iff_eq.mpr c7;have z3 : (x3 != 0) = false:=bne_eq_false_iff_eq.mpr c7;clear c7;obtain rfl:=Option.some.inj H
        go_wp2
        go_ret
        exact ⟨sqE,sqD⟩
       have z2 : (x3 == 0) = false:=beq_eq_false_iff_ne.mpr c7;have z3 : (x3 != 0) = true:=bne_iff_ne.mpr c7;have H':=Aside0.mk H;clear H
       go_wp2
       go_roundg k3
       case measure=>have:=HJ2.out;have:=HJ4.out;have:=HK3.out;omega
       case rel=>exact ⟨(x3),(Int.tmod x2 x3),sqE,sqE,H',⟨by have:=HJ2.out;have:=HJ4.out;have:=HK3.out;omega⟩,sqD⟩

/-! ### spec_RestMeet: function 72 -/
theorem spec_RestMeet.calls (k : Nat) : ∀ (a0_0 : Int) (a0_1 : Int) (a1_0 : Int) (a1_1 : Int) (r1 : Int) (r2 : Int) (r3 : Bool) (w : World) (h : spec_RestMeet.f k a0_0 a0_1 a1_0 a1_1 = some (r1,r2,r3)),
  Calls Try.prog 72 #[.agg #[.int .i64 a0_0,.int .i64 a0_1],.agg #[.int .i64 a1_0,.int .i64 a1_1]] w fun e w'=>e = .returned (.tuple #[.agg #[.int .i64 r1,.int .i64 r2],.bool r3])∧Below w.heap.size w w':=by
 induction k using Nat.strongRecOn with
 | _ k ih =>
 intro a0_0 a0_1 a1_0 a1_1 r1 r2 r3 w h;cases k with
 | zero=>exact absurd h (by simp [spec_RestMeet.f])
 | succ k =>
 simp only [spec_RestMeet.f] at h;have hu60:=Try.underlying60;have HB:=Aside0.mk (Below.refl w.heap.size w);have H:=h;unfold spec_RestMeet.f at H;clear h;have HC3:=Aside0.mk H;clear H;go_enter Try.func72,Try.ntmps72;go_upto_region 1 with (first | ((with_reducible refine gd 2 rfl ?_);refine sqX 2 #[.int .i64 a0_0,.int .i64 a0_1] 60 HB ?_;clear HB;intro gb0 hg w4 hb B0 GW0 HB;clear hb hg) | ((with_reducible refine gd 3 rfl ?_);refine sqX 3 #[.int .i64 a1_0,.int .i64 a1_1] 60 HB ?_;clear HB;intro gb1 hg w5 hb B1 GW1 HB;have N0_1:=sqn B0 hg;have N1_0:=sqm B0 hg;replace B0:=sqb B0 hb;clear hb hg) | ((with_reducible refine gd 4 rfl ?_);refine sqX 4 #[.int .i64 0,.int .i64 0] 60 HB ?_;clear HB;intro gb2 hg w6 hb B2 GW2 HB;have N0_2:=sqn B0 hg;have N2_0:=sqm B0 hg;have N1_2:=sqn B1 hg;have N2_1:=sqm B1 hg;refine sqM2 B0 B1 hb ?_;clear B0 B1;intro B0 B1;clear hb hg))
 repeat (go_quiet (first | ((with_reducible refine gd 2 rfl ?_);refine sqX 2 #[.int .i64 a0_0,.int .i64 a0_1] 60 HB ?_;clear HB;intro gb0 hg w4 hb B0 GW0 HB;clear hb hg) | ((with_reducible refine gd 3 rfl ?_);refine sqX 3 #[.int .i64 a1_0,.int .i64 a1_1] 60 HB ?_;clear HB;intro gb1 hg w5 hb B1 GW1 HB;have N0_1:=sqn B0 hg;have N1_0:=sqm B0 hg;replace B0:=sqb B0 hb;clear hb hg) | ((with_reducible refine gd 4 rfl ?_);refine sqX 4 #[.int .i64 0,.int .i64 0] 60 HB ?_;clear HB;intro gb2 hg w6 hb B2 GW2 HB;have N0_2:=sqn B0 hg;have N2_0:=sqm B0 hg;have N1_2:=sqn B1 hg;have N2_1:=sqm B1 hg;refine sqM2 B0 B1 hb ?_;clear B0 B1;intro B0 B1;clear hb hg));go_upto_region 1 with (first | ((with_reducible refine gd 2 rfl ?_);refine sqX 2 #[.int .i64 a0_0,.int .i64 a0_1] 60 HB ?_;clear HB;intro gb0 hg w4 hb B0 GW0 HB;clear hb hg) | ((with_reducible refine gd 3 rfl ?_);refine sqX 3 #[.int .i64 a1_0,.int .i64 a1_1] 60 HB ?_;clear HB;intro gb1 hg w5 hb B1 GW1 HB;have N0_1:=sqn B0 hg;have N1_0:=sqm B0 hg;replace B0:=sqb B0 hb;clear hb hg) | ((with_reducible refine gd 4 rfl ?_);refine sqX 4 #[.int .i64 0,.int .i64 0] 60 HB ?_;clear HB;intro gb2 hg w6 hb B2 GW2 HB;have N0_2:=sqn B0 hg;have N2_0:=sqm B0 hg;have N1_2:=sqn B1 hg;have N2_1:=sqm B1 hg;refine sqM2 B0 B1 hb ?_;clear B0 B1;intro B0 B1;clear hb hg)))
 (try simp only [Act.put,List.setIfInBounds_toArray,List.set_cons_zero,List.set_cons_succ])
 go_cut [16] (fun v16 wc=>∃ (kq : Nat) (x0 : Bool),v16 = .bool x0∧Aside0 (spec_RestMeet.j0 kq x0 a0_0 a0_1 a1_0 a1_1 = some (r1,r2,r3))∧Aside0 (kq ≤ k)∧Aside0 (wc.heap[gb0]? = some (.cells #[.int .i64 a0_0,.int .i64 a0_1] 60 (0,0)))∧Aside0 (wc.heap[gb1]? = some (.cells #[.int .i64 a1_0,.int .i64 a1_1] 60 (0,0)))∧Aside0 (wc.heap[gb2]? = some (.cells #[.int .i64 0,.int .i64 0] 60 (0,0)))∧Aside0 (Below w.heap.size w wc))
 case first =>
  have H:=HC3.out;clear HC3;replace H:=sqbi H;obtain ⟨t0,A7,H⟩:=H;(try dsimp only at H);rcases sqI (t0 = true) with c8 | c8
  ·replace c8:=Bool.eq_false_iff.mpr c8;subst c8;rw [sqff] at H;have H':=Aside0.mk H;clear H;obtain ⟨hnb17,hnc17,hnb18,hnc18⟩:=sqN2 N0_1 N0_2;obtain ⟨zP,zQ,zR,zS⟩:=sqc2 B0;go_wp2_with (first | (go_at_call 77;(with_reducible refine (spec_RestOk.calls a0_0 a0_1 false _ A7.out).mono ?_);rintro e w20 ⟨rfl,hb⟩;refine sqM3 B0 B1 B2 hb ?_;clear B0 B1 B2;intro B0 B1 B2;replace HB:=sqs HB hb;(try clear hb)))
   repeat (go_quiet (first | (go_at_call 77;(with_reducible refine (spec_RestOk.calls a0_0 a0_1 false _ A7.out).mono ?_);rintro e w20 ⟨rfl,hb⟩;refine sqM3 B0 B1 B2 hb ?_;clear B0 B1 B2;intro B0 B1 B2;replace HB:=sqs HB hb;(try clear hb)));try go_wp2_with (first | (go_at_call 77;(with_reducible refine (spec_RestOk.calls a0_0 a0_1 false _ A7.out).mono ?_);rintro e w20 ⟨rfl,hb⟩;refine sqM3 B0 B1 B2 hb ?_;clear B0 B1 B2;intro B0 B1 B2;replace HB:=sqs HB hb;(try clear hb))))
   go_meet
   case rel=>exact ⟨_,(true),sqE,H',⟨sqle⟩,sqk B0,sqk B1,sqk B2,sqh HB⟩
  subst c8;rw [if_pos rfl] at H;replace H:=sqbi H;obtain ⟨t1,A9,H⟩:=H;(try dsimp only at H);have H':=Aside0.mk H;clear H;obtain ⟨hnb10,hnc10,hnb11,hnc11⟩:=sqN2 N0_1 N0_2;obtain ⟨zT,zU,zV,zW⟩:=sqc2 B0;go_wp2_with (first | (go_at_call 77;(with_reducible refine (spec_RestOk.calls a0_0 a0_1 true _ A7.out).mono ?_);rintro e w13 ⟨rfl,hb⟩;refine sqM3 B0 B1 B2 hb ?_;clear B0 B1 B2;intro B0 B1 B2;replace HB:=sqs HB hb;(try clear hb);obtain ⟨hnb14,hnc14⟩:=sqN1 N1_2;obtain ⟨z0,z1,z2,z3⟩:=sqc2 B1) | (go_at_call 77;(with_reducible refine (spec_RestOk.calls a1_0 a1_1 t1 _ A9.out).mono ?_);rintro e w16 ⟨rfl,hb⟩;refine sqM3 B0 B1 B2 hb ?_;clear B0 B1 B2;intro B0 B1 B2;replace HB:=sqs HB hb;(try clear hb)))
  repeat (go_quiet (first | (go_at_call 77;(with_reducible refine (spec_RestOk.calls a0_0 a0_1 true _ A7.out).mono ?_);rintro e w13 ⟨rfl,hb⟩;refine sqM3 B0 B1 B2 hb ?_;clear B0 B1 B2;intro B0 B1 B2;replace HB:=sqs HB hb;(try clear hb);obtain ⟨hnb14,hnc14⟩:=sqN1 N1_2;obtain ⟨z0,z1,z2,z3⟩:=sqc2 B1) | (go_at_call 77;(with_reducible refine (spec_RestOk.calls a1_0 a1_1 t1 _ A9.out).mono ?_);rintro e w16 ⟨rfl,hb⟩;refine sqM3 B0 B1 B2 hb ?_;clear B0 B1 B2;intro B0 B1 B2;replace HB:=sqs HB hb;(try clear hb)));try go_wp2_with (first | (go_at_call 77;(with_reducible refine (spec_RestOk.calls a0_0 a0_1 true _ A7.out).mono ?_);rintro e w13 ⟨rfl,hb⟩;refine sqM3 B0 B1 B2 hb ?_;clear B0 B1 B2;intro B0 B1 B2;replace HB:=sqs HB hb;(try clear hb);obtain ⟨hnb14,hnc14⟩:=sqN1 N1_2;obtain ⟨z0,z1,z2,z3⟩:=sqc2 B1) | (go_at_call 77;(with_reducible refine (spec_RestOk.calls a1_0 a1_1 t1 _ A9.out).mono ?_);rintro e w16 ⟨rfl,hb⟩;refine sqM3 B0 B1 B2 hb ?_;clear B0 B1 B2;intro B0 B1 B2;replace HB:=sqs HB hb;(try clear hb))))
  go_meet
  case rel=>exact ⟨_,(!t1),sqE,H',⟨sqle⟩,sqk B0,sqk B1,sqk B2,sqh HB⟩
 case rest =>
  clear HC3;obtain ⟨kq,x0,rfl,HA,HJ2,B0,B1,B2,HB⟩:=hcut;cases kq with
  | zero=>exact absurd HA.out (by simp [spec_RestMeet.j0])
  | succ kj2 =>
   have H:=HA.out;clear HA;simp only [spec_RestMeet.j0] at H
   by_cases c21 : x0 = true
   ·subst c21;rw [if_pos rfl] at H;simp only [Option.some.injEq,Prod.mk.injEq] at H;obtain ⟨rfl,rfl,rfl⟩:=H;obtain ⟨hnb22,hnc22,hnb23,hnc23⟩:=sqN2 N2_0 N2_1;obtain ⟨zX,zY,zZ,j1⟩:=sqc2 B2
    go_wp2
    repeat (go_quiet (fail);try go_wp2)
    refine bodyPost_ret (results_ct rfl _ _ gb2 60 #[.int .i64 0,.int .i64 0] (0,0) _ rfl (sqP B2) Try.underlying60 rfl (by kernel_rfl)) rfl ?_;exact sqe HB
   replace c21:=Bool.eq_false_iff.mpr c21;subst c21;rw [sqff] at H;replace H:=sqj H;rcases H with ⟨c25,H⟩ | ⟨c25,H⟩
   ·have zF : (a0_0 == 0) = true:=beq_iff_eq.mpr c25;have zG : (a0_0 != 0) = false:=bne_eq_false_iff_eq.mpr c25;clear c25;replace H:=sqbi H;obtain ⟨t2,A26,H⟩:=H;(try dsimp only at H);rcases sqI (t2 = true) with c27 | c27
    ·replace c27:=Bool.eq_false_iff.mpr c27;subst c27;rw [sqff] at H;simp only [Option.some.injEq,Prod.mk.injEq] at H;obtain ⟨rfl,rfl,rfl⟩:=H;obtain ⟨hnb36,hnc36,hnb37,hnc37⟩:=sqN2 N0_1 N0_2;obtain ⟨j2,j3,j4,j5⟩:=sqc2 B0;obtain ⟨hnb39,hnc39⟩:=sqN1 N1_2;obtain ⟨j6,j7,j8,j9⟩:=sqc2 B1;go_wp2_with (first | (go_at_call 123;(with_reducible refine (spec_RestHas.calls kj2 a1_0 a1_1 a0_1 false _ A26.out).mono ?_);rintro e w41 ⟨rfl,hb⟩;refine sqM3 B0 B1 B2 hb ?_;clear B0 B1 B2;intro B0 B1 B2;replace HB:=sqs HB hb;(try clear hb);obtain ⟨z4,z5,z6,z7⟩:=sqc2 B2))
     repeat (go_quiet (first | (go_at_call 123;(with_reducible refine (spec_RestHas.calls kj2 a1_0 a1_1 a0_1 false _ A26.out).mono ?_);rintro e w41 ⟨rfl,hb⟩;refine sqM3 B0 B1 B2 hb ?_;clear B0 B1 B2;intro B0 B1 B2;replace HB:=sqs HB hb;(try clear hb);obtain ⟨z4,z5,z6,z7⟩:=sqc2 B2));try go_wp2_with (first | (go_at_call 123;(with_reducible refine (spec_RestHas.calls kj2 a1_0 a1_1 a0_1 false _ A26.out).mono ?_);rintro e w41 ⟨rfl,hb⟩;refine sqM3 B0 B1 B2 hb ?_;clear B0 B1 B2;intro B0 B1 B2;replace HB:=sqs HB hb;(try clear hb);obtain ⟨z4,z5,z6,z7⟩:=sqc2 B2)))
     refine bodyPost_ret (results_ct rfl _ _ gb2 60 #[.int .i64 0,.int .i64 0] (0,0) _ rfl (sqP B2) Try.underlying60 rfl (by kernel_rfl)) rfl ?_;exact sqe HB
    subst c27;rw [if_pos rfl] at H;simp only [Option.some.injEq,Prod.mk.injEq] at H;obtain ⟨rfl,rfl,rfl⟩:=H;obtain ⟨hnb28,hnc28,hnb29,hnc29⟩:=sqN2 N0_1 N0_2;obtain ⟨ja,jb,jc,jd⟩:=sqc2 B0;obtain ⟨hnb31,hnc31⟩:=sqN1 N1_2;obtain ⟨je,jf,jg,jh⟩:=sqc2 B1;go_wp2_with (first | (go_at_call 123;(with_reducible refine (spec_RestHas.calls kj2 a1_0 a1_1 a0_1 true _ A26.out).mono ?_);rintro e w33 ⟨rfl,hb⟩;refine sqM3 B0 B1 B2 hb ?_;clear B0 B1 B2;intro B0 B1 B2;replace HB:=sqs HB hb;(try clear hb);obtain ⟨z8,z9,za,zb⟩:=sqc2 B0;obtain ⟨zc,zd,ze,zf⟩:=sqc2 B2))
    repeat (go_quiet (first | (go_at_call 123;(with_reducible refine (spec_RestHas.calls kj2 a1_0 a1_1 a0_1 true _ A26.out).mono ?_);rintro e w33 ⟨rfl,hb⟩;refine sqM3 B0 B1 B2 hb ?_;clear B0 B1 B2;intro B0 B1 B2;replace HB:=sqs HB hb;(try clear hb);obtain ⟨z8,z9,za,zb⟩:=sqc2 B0;obtain ⟨zc,zd,ze,zf⟩:=sqc2 B2));try go_wp2_with (first | (go_at_call 123;(with_reducible refine (spec_RestHas.calls kj2 a1_0 a1_1 a0_1 true _ A26.out).mono ?_);rintro e w33 ⟨rfl,hb⟩;refine sqM3 B0 B1 B2 hb ?_;clear B0 B1 B2;intro B0 B1 B2;replace HB:=sqs HB hb;(try clear hb);obtain ⟨z8,z9,za,zb⟩:=sqc2 B0;obtain ⟨zc,zd,ze,zf⟩:=sqc2 B2)))
    refine bodyPost_ret (results_ct rfl _ _ gb2 60 #[.int .i64 a0_0,.int .i64 a0_1] (0,0) _ rfl (sqP B2) Try.underlying60 rfl (by kernel_rfl)) rfl ?_;exact sqe HB
   have zF : (a0_0 == 0) = false:=beq_eq_false_iff_ne.mpr c25;have zG : (a0_0 != 0) = true:=bne_iff_ne.mpr c25;replace H:=sqj H;rcases H with ⟨c43,H⟩ | ⟨c43,H⟩
   ·have zH : (a1_0 == 0) = true:=beq_iff_eq.mpr c43;have zI : (a1_0 != 0) = false:=bne_eq_false_iff_eq.mpr c43;clear c43;replace H:=sqbi H;obtain ⟨⟨t3,t4,t5⟩,A44,H⟩:=H;(try dsimp only at H);simp only [Option.some.injEq,Prod.mk.injEq] at H;obtain ⟨rfl,rfl,rfl⟩:=H;obtain ⟨hnb45,hnc45,hnb46,hnc46⟩:=sqN2 N0_1 N0_2;obtain ⟨ji,jj,jk,jl⟩:=sqc2 B0;obtain ⟨hnb48,hnc48⟩:=sqN1 N1_2;obtain ⟨jm,jn,jo,jp⟩:=sqc2 B1;go_wp2_with (first | (go_at_call 72;(with_reducible refine (ih kj2 (by have:=HJ2.out;omega) a1_0 a1_1 a0_0 a0_1 t3 t4 t5 _ A44.out).mono ?_);rintro e w50 ⟨rfl,hb⟩;refine sqM3 B0 B1 B2 hb ?_;clear B0 B1 B2;intro B0 B1 B2;replace HB:=sqs HB hb;(try clear hb);obtain ⟨zg,zh,zi,zj⟩:=sqc2 B2))
    repeat (go_quiet (first | (go_at_call 72;(with_reducible refine (ih kj2 (by have:=HJ2.out;omega) a1_0 a1_1 a0_0 a0_1 t3 t4 t5 _ A44.out).mono ?_);rintro e w50 ⟨rfl,hb⟩;refine sqM3 B0 B1 B2 hb ?_;clear B0 B1 B2;intro B0 B1 B2;replace HB:=sqs HB hb;(try clear hb);obtain ⟨zg,zh,zi,zj⟩:=sqc2 B2));try go_wp2_with (first | (go_at_call 72;(with_reducible refine (ih kj2 (by have:=HJ2.out;omega) a1_0 a1_1 a0_0 a0_1 t3 t4 t5 _ A44.out).mono ?_);rintro e w50 ⟨rfl,hb⟩;refine sqM3 B0 B1 B2 hb ?_;clear B0 B1 B2;intro B0 B1 B2;replace HB:=sqs HB hb;(try clear hb);obtain ⟨zg,zh,zi,zj⟩:=sqc2 B2)))
    refine bodyPost_ret (results_ct rfl _ _ gb2 60 #[.int .i64 t3,.int .i64 t4] (0,0) _ rfl (sqP B2) Try.underlying60 rfl (by kernel_rfl)) rfl ?_;exact sqe HB
   have zH : (a1_0 == 0) = false:=beq_eq_false_iff_ne.mpr c43;have zI : (a1_0 != 0) = true:=bne_iff_ne.mpr c43;replace H:=sqbi H;obtain ⟨t6,A52,H⟩:=H;(try dsimp only at H);replace H:=sqbi H;obtain ⟨t7,A53,H⟩:=H;(try dsimp only at H);replace H:=sqi H;rcases H with ⟨c54,H⟩ | ⟨c54,H⟩
   ·have zJ : (t7 == 0) = false:=beq_eq_false_iff_ne.mpr c54;have zK : (t7 != 0) = true:=bne_iff_ne.mpr c54;simp only [Option.some.injEq,Prod.mk.injEq] at H;obtain ⟨rfl,rfl,rfl⟩:=H;obtain ⟨hnb87,hnc87,hnb88,hnc88⟩:=sqN2 N0_1 N0_2;obtain ⟨jq,jr,js,jt⟩:=sqc2 B0;obtain ⟨hnb90,hnc90⟩:=sqN1 N1_2;obtain ⟨ju,jv,jw,jx⟩:=sqc2 B1;go_wp2_with (first | (go_at_call 124;(with_reducible refine (spec_l9Gcd.calls kj2 a0_0 a1_0 t6 _ A52.out).mono ?_);rintro e w' ⟨rfl,⟨nd,rfl⟩⟩;(try exact sqdd)) | (go_at_call 81;(with_reducible refine (spec_l1Mod.calls (wrap64 (a0_1 - a1_1)) t6 t7 _ A53.out).mono ?_);rintro e w' ⟨rfl,⟨nd,rfl⟩⟩;(try exact sqdd);obtain ⟨zk,zl,zm,zn⟩:=sqc2 B2))
    repeat (go_quiet (first | (go_at_call 124;(with_reducible refine (spec_l9Gcd.calls kj2 a0_0 a1_0 t6 _ A52.out).mono ?_);rintro e w' ⟨rfl,⟨nd,rfl⟩⟩;(try exact sqdd)) | (go_at_call 81;(with_reducible refine (spec_l1Mod.calls (wrap64 (a0_1 - a1_1)) t6 t7 _ A53.out).mono ?_);rintro e w' ⟨rfl,⟨nd,rfl⟩⟩;(try exact sqdd);obtain ⟨zk,zl,zm,zn⟩:=sqc2 B2));try go_wp2_with (first | (go_at_call 124;(with_reducible refine (spec_l9Gcd.calls kj2 a0_0 a1_0 t6 _ A52.out).mono ?_);rintro e w' ⟨rfl,⟨nd,rfl⟩⟩;(try exact sqdd)) | (go_at_call 81;(with_reducible refine (spec_l1Mod.calls (wrap64 (a0_1 - a1_1)) t6 t7 _ A53.out).mono ?_);rintro e w' ⟨rfl,⟨nd,rfl⟩⟩;(try exact sqdd);obtain ⟨zk,zl,zm,zn⟩:=sqc2 B2)))
    refine bodyPost_ret (results_ct rfl _ _ gb2 60 #[.int .i64 0,.int .i64 0] (0,0) _ rfl (sqP B2) Try.underlying60 rfl (by kernel_rfl)) rfl ?_;exact sqe HB
   have zJ : (t7 == 0) = true:=beq_iff_eq.mpr c54;have zK : (t7 != 0) = false:=bne_eq_false_iff_eq.mpr c54;clear c54;replace H:=sqj H;rcases H with ⟨c55,H⟩ | ⟨c55,H⟩
   ·cases H
   have jy : (t6 == 0) = false:=beq_eq_false_iff_ne.mpr c55;have jz : (t6 != 0) = true:=bne_iff_ne.mpr c55;replace H:=sqj H;rcases H with ⟨c56,H⟩ | ⟨c56,H⟩
   ·have zL : decide (65536 < (wrap64 ((wrap64 (Int.tdiv a0_0 t6)) * a1_0))) = true:=decide_eq_true c56;clear c56;replace H:=sqj H;rcases H with ⟨c57,H⟩ | ⟨c57,H⟩
    ·have zM : decide (a0_0 < a1_0) = true:=decide_eq_true c57;clear c57;simp only [Option.some.injEq,Prod.mk.injEq] at H;obtain ⟨rfl,rfl,rfl⟩:=H;obtain ⟨hnb58,hnc58,hnb59,hnc59⟩:=sqN2 N0_1 N0_2;obtain ⟨jA,jB,jC,jD⟩:=sqc2 B0;obtain ⟨hnb61,hnc61⟩:=sqN1 N1_2;obtain ⟨jE,jF,jG,jH⟩:=sqc2 B1;go_wp2_with (first | (go_at_call 124;(with_reducible refine (spec_l9Gcd.calls kj2 a0_0 a1_0 t6 _ A52.out).mono ?_);rintro e w' ⟨rfl,⟨nd,rfl⟩⟩;(try exact sqdd)) | (go_at_call 81;(with_reducible refine (spec_l1Mod.calls (wrap64 (a0_1 - a1_1)) t6 t7 _ A53.out).mono ?_);rintro e w' ⟨rfl,⟨nd,rfl⟩⟩;(try exact sqdd);obtain ⟨zo,zp,zq,zr⟩:=sqc2 B2))
     repeat (go_quiet (first | (go_at_call 124;(with_reducible refine (spec_l9Gcd.calls kj2 a0_0 a1_0 t6 _ A52.out).mono ?_);rintro e w' ⟨rfl,⟨nd,rfl⟩⟩;(try exact sqdd)) | (go_at_call 81;(with_reducible refine (spec_l1Mod.calls (wrap64 (a0_1 - a1_1)) t6 t7 _ A53.out).mono ?_);rintro e w' ⟨rfl,⟨nd,rfl⟩⟩;(try exact sqdd);obtain ⟨zo,zp,zq,zr⟩:=sqc2 B2));try go_wp2_with (first | (go_at_call 124;(with_reducible refine (spec_l9Gcd.calls kj2 a0_0 a1_0 t6 _ A52.out).mono ?_);rintro e w' ⟨rfl,⟨nd,rfl⟩⟩;(try exact sqdd)) | (go_at_call 81;(with_reducible refine (spec_l1Mod.calls (wrap64 (a0_1 - a1_1)) t6 t7 _ A53.out).mono ?_);rintro e w' ⟨rfl,⟨nd,rfl⟩⟩;(try exact sqdd);obtain ⟨zo,zp,zq,zr⟩:=sqc2 B2)))
     refine bodyPost_ret (results_ct rfl _ _ gb2 60 #[.int .i64 a1_0,.int .i64 a1_1] (0,0) _ rfl (sqP B2) Try.underlying60 rfl (by kernel_rfl)) rfl ?_;exact sqe HB
    have zM : decide (a0_0 < a1_0) = false:=decide_eq_false c57;clear c57;simp only [Option.some.injEq,Prod.mk.injEq] at H;obtain ⟨rfl,rfl,rfl⟩:=H;obtain ⟨hnb64,hnc64,hnb65,hnc65⟩:=sqN2 N0_1 N0_2;obtain ⟨jI,jJ,jK,jL⟩:=sqc2 B0;obtain ⟨hnb67,hnc67⟩:=sqN1 N1_2;obtain ⟨jM,jN,jO,jP⟩:=sqc2 B1;go_wp2_with (first | (go_at_call 124;(with_reducible refine (spec_l9Gcd.calls kj2 a0_0 a1_0 t6 _ A52.out).mono ?_);rintro e w' ⟨rfl,⟨nd,rfl⟩⟩;(try exact sqdd)) | (go_at_call 81;(with_reducible refine (spec_l1Mod.calls (wrap64 (a0_1 - a1_1)) t6 t7 _ A53.out).mono ?_);rintro e w' ⟨rfl,⟨nd,rfl⟩⟩;(try exact sqdd);obtain ⟨zt,zu,zv,zw⟩:=sqc2 B2))
    repeat (go_quiet (first | (go_at_call 124;(with_reducible refine (spec_l9Gcd.calls kj2 a0_0 a1_0 t6 _ A52.out).mono ?_);rintro e w' ⟨rfl,⟨nd,rfl⟩⟩;(try exact sqdd)) | (go_at_call 81;(with_reducible refine (spec_l1Mod.calls (wrap64 (a0_1 - a1_1)) t6 t7 _ A53.out).mono ?_);rintro e w' ⟨rfl,⟨nd,rfl⟩⟩;(try exact sqdd);obtain ⟨zt,zu,zv,zw⟩:=sqc2 B2));try go_wp2_with (first | (go_at_call 124;(with_reducible refine (spec_l9Gcd.calls kj2 a0_0 a1_0 t6 _ A52.out).mono ?_);rintro e w' ⟨rfl,⟨nd,rfl⟩⟩;(try exact sqdd)) | (go_at_call 81;(with_reducible refine (spec_l1Mod.calls (wrap64 (a0_1 - a1_1)) t6 t7 _ A53.out).mono ?_);rintro e w' ⟨rfl,⟨nd,rfl⟩⟩;(try exact sqdd);obtain ⟨zt,zu,zv,zw⟩:=sqc2 B2)))
    refine bodyPost_ret (results_ct rfl _ _ gb2 60 #[.int .i64 a0_0,.int .i64 a0_1] (0,0) _ rfl (sqP B2) Try.underlying60 rfl (by kernel_rfl)) rfl ?_;exact sqe HB
   have zL : decide (65536 < (wrap64 ((wrap64 (Int.tdiv a0_0 t6)) * a1_0))) = false:=decide_eq_false c56;clear c56;have H':=Aside0.mk H;clear H;obtain ⟨hnb70,hnc70,hnb71,hnc71⟩:=sqN2 N0_1 N0_2;obtain ⟨jQ,jR,jS,jT⟩:=sqc2 B0;obtain ⟨hnb73,hnc73⟩:=sqN1 N1_2;obtain ⟨jU,jV,jW,jX⟩:=sqc2 B1;go_wp2_with (first | (go_at_call 124;(with_reducible refine (spec_l9Gcd.calls kj2 a0_0 a1_0 t6 _ A52.out).mono ?_);rintro e w' ⟨rfl,⟨nd,rfl⟩⟩;(try exact sqdd)) | (go_at_call 81;(with_reducible refine (spec_l1Mod.calls (wrap64 (a0_1 - a1_1)) t6 t7 _ A53.out).mono ?_);rintro e w' ⟨rfl,⟨nd,rfl⟩⟩;(try exact sqdd)))
   repeat (go_quiet (first | (go_at_call 124;(with_reducible refine (spec_l9Gcd.calls kj2 a0_0 a1_0 t6 _ A52.out).mono ?_);rintro e w' ⟨rfl,⟨nd,rfl⟩⟩;(try exact sqdd)) | (go_at_call 81;(with_reducible refine (spec_l1Mod.calls (wrap64 (a0_1 - a1_1)) t6 t7 _ A53.out).mono ?_);rintro e w' ⟨rfl,⟨nd,rfl⟩⟩;(try exact sqdd)));try go_wp2_with (first | (go_at_call 124;(with_reducible refine (spec_l9Gcd.calls kj2 a0_0 a1_0 t6 _ A52.out).mono ?_);rintro e w' ⟨rfl,⟨nd,rfl⟩⟩;(try exact sqdd)) | (go_at_call 81;(with_reducible refine (spec_l1Mod.calls (wrap64 (a0_1 - a1_1)) t6 t7 _ A53.out).mono ?_);rintro e w' ⟨rfl,⟨nd,rfl⟩⟩;(try exact sqdd))))
   go_loopg [8] kj2 (fun kq v8 w'=>∃ (x1 : Int),v8 = .int .i64 x1∧Aside0 (spec_RestMeet.l0 kq (wrap64 ((wrap64 (Int.tdiv a0_0 t6)) * a1_0)) x1 a0_0 a0_1 a1_0 a1_1 = some (r1,r2,r3))∧Aside0 (kq ≤ kj2)∧Aside0 (w'.heap[gb0]? = some (.cells #[.int .i64 a0_0,.int .i64 a0_1] 60 (0,0)))∧Aside0 (w'.heap[gb1]? = some (.cells #[.int .i64 a1_0,.int .i64 a1_1] 60 (0,0)))∧Aside0 (w'.heap[gb2]? = some (.cells #[.int .i64 0,.int .i64 0] 60 (0,0)))∧Aside0 (Below w.heap.size w w'))
   case atStart=>exact ⟨(a0_1),sqE,H',⟨Nat.le_refl _⟩,sqk B0,sqk B1,sqk B2,sqh HB⟩
   case round =>
    clear H';obtain ⟨x1,rfl,HA,HK2,B0,B1,B2,HB⟩:=hrel;cases gk with
    | zero=>exact absurd HA.out (by simp [spec_RestMeet.l0])
    | succ k2 =>
     have H:=HA.out;clear HA;simp only [spec_RestMeet.l0] at H;replace H:=sqbi H;obtain ⟨t8,A75,H⟩:=H;(try dsimp only at H);replace H:=sqi H;rcases H with ⟨c76,H⟩ | ⟨c76,H⟩
     ·have zN : (t8 == a1_1) = false:=beq_eq_false_iff_ne.mpr c76;have zO : (t8 != a1_1) = true:=bne_iff_ne.mpr c76;have H':=Aside0.mk H;clear H;obtain ⟨hnb82,hnc82,hnb83,hnc83⟩:=sqN2 N1_0 N1_2;obtain ⟨jY,jZ,k0,k1⟩:=sqc2 B1;go_wp2_with (first | (go_at_call 81;(with_reducible refine (spec_l1Mod.calls x1 a1_0 t8 _ A75.out).mono ?_);rintro e w' ⟨rfl,⟨nd,rfl⟩⟩;(try exact sqdd);obtain ⟨hnb85,hnc85⟩:=sqN1 N0_2;obtain ⟨zx,zy,zz,zA⟩:=sqc2 B0))
      repeat (go_quiet (first | (go_at_call 81;(with_reducible refine (spec_l1Mod.calls x1 a1_0 t8 _ A75.out).mono ?_);rintro e w' ⟨rfl,⟨nd,rfl⟩⟩;(try exact sqdd);obtain ⟨hnb85,hnc85⟩:=sqN1 N0_2;obtain ⟨zx,zy,zz,zA⟩:=sqc2 B0));try go_wp2_with (first | (go_at_call 81;(with_reducible refine (spec_l1Mod.calls x1 a1_0 t8 _ A75.out).mono ?_);rintro e w' ⟨rfl,⟨nd,rfl⟩⟩;(try exact sqdd);obtain ⟨hnb85,hnc85⟩:=sqN1 N0_2;obtain ⟨zx,zy,zz,zA⟩:=sqc2 B0)))
      go_roundg k2
      case measure=>have:=HJ2.out;have:=HK2.out;omega
      case rel=>exact ⟨(wrap64 (x1 + a0_0)),sqE,H',⟨by have:=HJ2.out;have:=HK2.out;omega⟩,sqk B0,sqk B1,sqk B2,sqh HB⟩
     have zN : (t8 == a1_1) = true:=beq_iff_eq.mpr c76;have zO : (t8 != a1_1) = false:=bne_eq_false_iff_eq.mpr c76;clear c76;simp only [Option.some.injEq,Prod.mk.injEq] at H;obtain ⟨rfl,rfl,rfl⟩:=H;obtain ⟨hnb77,hnc77,hnb78,hnc78⟩:=sqN2 N1_0 N1_2;obtain ⟨k3,k4,k5,k6⟩:=sqc2 B1;go_wp2_with (first | (go_at_call 81;(with_reducible refine (spec_l1Mod.calls x1 a1_0 t8 _ A75.out).mono ?_);rintro e w' ⟨rfl,⟨nd,rfl⟩⟩;(try exact sqdd);obtain ⟨hnb80,hnc80⟩:=sqN1 N2_0;obtain ⟨zB,zC,zD,zE⟩:=sqc2 B2))
     repeat (go_quiet (first | (go_at_call 81;(with_reducible refine (spec_l1Mod.calls x1 a1_0 t8 _ A75.out).mono ?_);rintro e w' ⟨rfl,⟨nd,rfl⟩⟩;(try exact sqdd);obtain ⟨hnb80,hnc80⟩:=sqN1 N2_0;obtain ⟨zB,zC,zD,zE⟩:=sqc2 B2));try go_wp2_with (first | (go_at_call 81;(with_reducible refine (spec_l1Mod.calls x1 a1_0 t8 _ A75.out).mono ?_);rintro e w' ⟨rfl,⟨nd,rfl⟩⟩;(try exact sqdd);obtain ⟨hnb80,hnc80⟩:=sqN1 N2_0;obtain ⟨zB,zC,zD,zE⟩:=sqc2 B2)))
     refine bodyPost_ret (results_ct rfl _ _ gb2 60 #[.int .i64 (wrap64 ((wrap64 (Int.tdiv a0_0 t6)) * a1_0)),.int .i64 x1] (0,0) _ rfl (sqP B2) Try.underlying60 rfl (by kernel_rfl)) rfl ?_;exact sqe HB

/-! ### spec_l8Max: function 125 -/
theorem spec_l8Max.calls (a0 : Int) (a1 : Int) (r : Int) (w : World) (h : spec_l8Max.f a0 a1 = some r) :
  Calls Try.prog 125 #[.int .i64 a0,.int .i64 a1] w fun e w'=>e = .returned (.int .i64 r)∧Drawn0 w w':=by
 have H:=h;unfold spec_l8Max.f at H;clear h;replace H:=sqj H;rcases H with ⟨c3,H⟩ | ⟨c3,H⟩
 ·have z0 : decide (a1 < a0) = true:=decide_eq_true c3;clear c3;obtain rfl:=Option.some.inj H;go_enter Try.func125,Try.ntmps125
  go_wp2
  go_ret
  exact ⟨sqE,sqD⟩
 have z0 : decide (a1 < a0) = false:=decide_eq_false c3;clear c3;obtain rfl:=Option.some.inj H;go_enter Try.func125,Try.ntmps125
 go_wp2
 go_ret
 exact ⟨sqE,sqD⟩

/-! ### spec_l8Min: function 126 -/
theorem spec_l8Min.calls (a0 : Int) (a1 : Int) (r : Int) (w : World) (h : spec_l8Min.f a0 a1 = some r) :
  Calls Try.prog 126 #[.int .i64 a0,.int .i64 a1] w fun e w'=>e = .returned (.int .i64 r)∧Drawn0 w w':=by
 have H:=h;unfold spec_l8Min.f at H;clear h;replace H:=sqj H;rcases H with ⟨c3,H⟩ | ⟨c3,H⟩
 ·have z0:=decide_eq_true c3;clear c3;obtain rfl:=Option.some.inj H;go_enter Try.func126,Try.ntmps126
  go_wp2
  go_ret
  exact ⟨sqE,sqD⟩
 have z0:=decide_eq_false c3;clear c3;obtain rfl:=Option.some.inj H;go_enter Try.func126,Try.ntmps126
 go_wp2
 go_ret
 exact ⟨sqE,sqD⟩

/-! ### spec_l8Cut: function 82 -/
theorem spec_l8Cut.calls (a0 : Int) (a1 : Int) (r1 : Int) (r2 : Int) (w : World) (h : spec_l8Cut.f a0 a1 = some (r1,r2)) :
  Calls Try.prog 82 #[.int .i64 a0,.int .i64 a1] w fun e w'=>e = .returned (.agg #[.int .i64 r1,.int .i64 r2])∧Below w.heap.size w w':=by
 have hu57:=Try.underlying57;have HB:=Aside0.mk (Below.refl w.heap.size w);have H:=h;unfold spec_l8Cut.f at H;clear h;replace H:=sqbi H;obtain ⟨t0,A3,H⟩:=H;(try dsimp only at H);replace H:=sqbi H;obtain ⟨t1,A4,H⟩:=H;(try dsimp only at H);replace H:=sqi H;rcases H with ⟨c5,H⟩ | ⟨c5,H⟩
 ·have z0 : decide (t1 < t0) = false:=decide_eq_false c5;clear c5;simp only [Option.some.injEq,Prod.mk.injEq] at H;obtain ⟨rfl,rfl⟩:=H;go_enter Try.func82,Try.ntmps82;go_wp2_with (first | ((with_reducible refine gd 4 rfl ?_);refine sqX 4 #[.int .i64 0,.int .i64 0] 57 HB ?_;clear HB;intro gb0 hg w10 hb B0 GW0 HB;clear hb hg) | ((with_reducible refine gf 125 rfl ?_);refine sqLq rfl (some 8) Try.func125 (spec_l8Max.calls _ _ _ _ A3.out) ?_;intro nd;(try (rw [drewN_self w10];generalize hq_ : World.drewN w10 _ = w10;replace B0:=sqq B0 hq_;replace HB:=sqr HB hq_;clear hq_;obtain ⟨z1,z2,z3,z4⟩:=sqc2 B0))) | ((with_reducible refine gf 126 rfl ?_);refine sqLq rfl (some 10) Try.func126 (spec_l8Min.calls _ _ _ _ A4.out) ?_;intro nd;(try (rw [drewN_self w10];generalize hq_ : World.drewN w10 _ = w10;replace B0:=sqq B0 hq_;replace HB:=sqr HB hq_;clear hq_;obtain ⟨z5,z6,z7,z8⟩:=sqc2 B0));obtain ⟨_,_,_,_⟩:=sqc2 B0));refine sqre #[.int .i64 t0,.int .i64 t1] (sqP B0) Try.underlying57 ?_;exact sqe HB
 have z0 : decide (t1 < t0) = true:=decide_eq_true c5;clear c5;replace H:=sqbi H;obtain ⟨⟨t2,t3⟩,A6,H⟩:=H;(try dsimp only at H);simp only [Option.some.injEq,Prod.mk.injEq] at H;obtain ⟨rfl,rfl⟩:=H;go_enter Try.func82,Try.ntmps82;go_wp2_with (first | ((with_reducible refine gd 4 rfl ?_);refine sqX 4 #[.int .i64 0,.int .i64 0] 57 HB ?_;clear HB;intro gb0 hg w7 hb B0 GW0 HB;clear hb hg) | ((with_reducible refine gf 125 rfl ?_);refine sqLq rfl (some 8) Try.func125 (spec_l8Max.calls _ _ _ _ A3.out) ?_;intro nd;(try (rw [drewN_self w7];generalize hq_ : World.drewN w7 _ = w7;replace B0:=sqq B0 hq_;replace HB:=sqr HB hq_;clear hq_;obtain ⟨z9,za,zb,zc⟩:=sqc2 B0))) | ((with_reducible refine gf 126 rfl ?_);refine sqLq rfl (some 10) Try.func126 (spec_l8Min.calls _ _ _ _ A4.out) ?_;intro nd;(try (rw [drewN_self w7];generalize hq_ : World.drewN w7 _ = w7;replace B0:=sqq B0 hq_;replace HB:=sqr HB hq_;clear hq_;obtain ⟨zd,ze,zf,zg⟩:=sqc2 B0))) | ((with_reducible refine gf 78 rfl ?_);refine sqLb rfl (some 14) Try.func78 (spec_l8None.calls _ _ _ A6.out) ?_;intro w8 hb;replace B0:=sqb B0 hb;replace HB:=sqs HB hb;(try clear hb);obtain ⟨_,_,_,_⟩:=sqc2 B0));refine sqre #[.int .i64 t2,.int .i64 t3] (sqP B0) Try.underlying57 ?_;exact sqe HB

end Go.Proofs.Ytklkdpcopfjmcaa.PFnExactAbsTight
