/- Functions of the program as plain Lean functions, and that calls of them come to what these tell. Conditions: those in each law. -/
import Derived.Test.YtklkdpcopfjmcaaGreatSqV
import Derived.Test.YtklkdpcopfjmcaaGreatDFnExactAbsJoinV
import Derived.Test.YtklkdpcopfjmcaaGreatQFnExactAbsJoinx0V
namespace Go.Proofs.YtklkdpcopfjmcaaGreat.PFnExactAbsJoin
open Go.RowKit Go.Proofs.YtklkdpcopfjmcaaGreat.Sq Go.Proofs.YtklkdpcopfjmcaaGreatW.PrintWords Go.Proofs.YtklkdpcopfjmcaaGreatW.PrintLast Go.Proofs.YtklkdpcopfjmcaaGreatW.PrintMore
attribute [local go_sem] max2_int min2_int max_two min_two max_three min_three max_four min_four   -- for this text's walks alone
set_option linter.unusedVariables false
set_option linter.unusedSimpArgs false

set_option maxHeartbeats 8000000
set_option maxRecDepth 100000
/-! ### laws_markIntS: function 19 -/
theorem laws_markIntS.calls (k : Nat) (P0_ : Nat→Prop) (u9000_ : Value) (l0 : List Int) (a1 : Int) (r1 : Int) (r2 : List Int) (w0 w : World) (hB : Below w0.heap.size w0 w) (ho0 : Kd.R (Kd.int .i64) 3 w w0.heap.size P0_ u9000_ l0) (h : laws_markIntS.f k l0 a1 = some (r1,r2)) :
  Calls Tryz.prog 19 #[u9000_,.int .i64 a1] w fun e w'=>e = .returned (.int .i64 r1)∧Kd.R (Kd.int .i64) 3 w' w0.heap.size (fun k_=>(P0_ k_∨w.heap.size ≤ k_)) u9000_ r2∧Below w0.heap.size w0 w'∧Kept w w' (fun k_=>P0_ k_):=by
 have z6:=Aside0.mk (show Kd.R (Kd.int .i64) 3 w w0.heap.size (fun k_=>(P0_ k_∨w.heap.size ≤ k_)) u9000_ l0 from Kd.R_mono ho0 (fun k_ hk=>(.inl hk)));have HK:=Aside0.mk (Kept.refl w (fun k_=>P0_ k_));have HW0:=Aside0.mk hB.size;have HB:=Aside0.mk hB;clear hB;have H:=h;unfold laws_markIntS.f at H;clear h;have H':=Aside0.mk H;clear H;go_enter Tryz.func19,Tryz.ntmps19
 go_wp2
 go_loopg [1,5] k (fun kq v1 v5 w'=>∃ (x0 : List Int) (x1 : Int) (x2 : Int),v1 = .int .i64 x1∧v5 = .int .i64 x2∧Aside0 (laws_markIntS.l0 kq x0 x1 x2 = some (r1,r2))∧Aside0 (kq ≤ k)∧Aside0 (Kd.R (Kd.int .i64) 3 w' w0.heap.size (fun k_=>(P0_ k_∨w.heap.size ≤ k_)) u9000_ x0)∧Aside0 (Kept w w' (fun k_=>P0_ k_))∧Aside0 (Below w0.heap.size w0 w'))
 case atStart=>exact ⟨(l0),(a1),(0),sqE,sqE,H',⟨Nat.le_refl _⟩,⟨sqy z6.out⟩,⟨by repeat (first | (with_reducible first | exact HK.out | apply Kept.alloc | apply Kept.drewN | apply Kept.drew) | exact HK.out)⟩,sqh HB⟩
 case round =>
  clear H';obtain ⟨x0,x1,x2,rfl,rfl,HA,HK1,z0,HK,HB⟩:=hrel;cases gk with
  | zero=>exact absurd HA.out (by simp [laws_markIntS.l0])
  | succ k1 =>
   have H:=HA.out;clear HA;simp only [laws_markIntS.l0] at H;replace H:=sqi H;rcases H with ⟨c3,H⟩ | ⟨c3,H⟩
   ·have z7:=decide_eq_false c3;clear c3;simp only [Option.some.injEq,Prod.mk.injEq] at H;obtain ⟨rfl,rfl⟩:=H;obtain ⟨ze,zf,z8⟩:=Kd.R_slice z0.out;subst z8
    go_wp2
    go_ret
    exact ⟨sqEw,sqy z0.out,by repeat (first | (with_reducible first | exact HB.out | apply below_alloc | apply pw_below_drewN | apply below_drew1) | exact HB.out),by repeat (first | (with_reducible first | exact HK.out | apply Kept.alloc | apply Kept.drewN | apply Kept.drew) | exact HK.out)⟩
   have z7:=decide_eq_true c3;clear c3;replace H:=sqi H;rcases H with ⟨c4,H⟩ | ⟨c4,H⟩
   ·cases H
   have zg:=decide_eq_true c4;clear c4;obtain ⟨z2,z1⟩ : ∃ y_ : List Int,y_ = (x0.set (x2 : Int).toNat x1):=⟨_,rfl⟩
   replace H : (laws_markIntS.l0 k1 z2 (wrap64 (x1 + 1)) (wrap64 (x2 + 1))) = some (r1,r2):=by first | (rw [z1];with_reducible exact H) | (have H2_:=(Option.bind_some _ _).symm.trans H;rw [z1];with_reducible exact H2_) | (have H2_:=(Option.bind_some _ _).symm.trans H;with_reducible exact H2_) | with_reducible exact H | (rw [z1];exact H) | exact H
   have z9:=Aside0.mk z1;clear z1;have H':=Aside0.mk H;clear H;obtain ⟨zh,za,zb⟩:=Kd.R_slice z0.out;subst zb;have p5 : 0 ≤ (x2 : Int):=sqd;have q5 : (x2 : Int) < ((x0.length : Int) : Int):=sqd;obtain ⟨go5,zi,z4,gb0,zc,zj,z5⟩:=Kd.R_form z0.out (by omega)
   (first | cases z4 | (injection z4 with ea_ en_ ec_;(first | subst ea_ | (injection ea_ with ea_;subst ea_));subst ec_;clear en_))
   have zd:=Aside0.mk gb0;have zk:=Aside0.mk z5;clear gb0 zc z5;have HMgo5:=Aside0.mk (show (P0_ go5∨w.heap.size ≤ go5) from (z0.out.1 _ rfl));obtain ⟨zl,zm⟩:=Kd.R_celln 0 z0.out (x2 : Int) p5 q5;replace p5:=eq_true p5;replace q5:=eq_true q5;have z3:=Kd.R_putg z0.out (x2 : Int) x1;go_wp2_with (first | ((with_reducible refine gate_store (t:=3) (p:=15) rfl ?_);refine store_event (t:=3) (p:=15) (v:=?vo_w8) (w1:=(wr.setCell ⟨go5,(x2 : Int).toNat,none⟩ (.int .i64 x1))) ?hg ?ho ?hn ?hr ?_;(case ho=>rfl);(case hg=>rfl);(case hn=>rfl);(case hr=>first | (go_simp;done) | (go_simp;rfl));intro w8 hw;have hg : wr.grownBy w8 (some go5):=(by rw [hw];exact z3.2);have hp_ : Kd.R (Kd.int .i64) 3 w8 w0.heap.size (fun k_=>(P0_ k_∨w.heap.size ≤ k_)) (.slice (some ⟨go5,0,none⟩) x0.length za) z2:=(by rw [hw,z9.out];exact z3.1);clear z3;replace HB:=Aside0.mk ((by rw [hw];exact below_set (HB.out) zd.out : Below w0.heap.size w0 w8));replace HK:=Aside0.mk (Kept.of_grown (S:=(fun k_=>P0_ k_)) hg (by repeat (first | (with_reducible first | exact HK.out | apply Kept.alloc | apply Kept.drewN | apply Kept.drew) | exact HK.out)) (fun k_ e_=>(z0.out.1 k_ e_)));replace z0:=Aside0.mk (hp_);clear hg hw hp_));go_roundg k1
   case measure=>have:=HK1.out;omega
   case rel=>exact ⟨(z2),(wrap64 (x1 + 1)),(wrap64 (x2 + 1)),sqE,sqE,H',⟨by have:=HK1.out;omega⟩,⟨sqy z0.out⟩,⟨by repeat (first | (with_reducible first | exact HK.out | apply Kept.alloc | apply Kept.drewN | apply Kept.drew) | exact HK.out)⟩,sqh HB⟩

-- NOT PRINTED: function 46 (laws_markRefValS)

/-! ### laws_markGaps: function 47 -/
theorem laws_markGaps.calls (k : Nat) (a0_0 : Int) (P0_1_ : Nat→Prop) (u9000_ : Value) (l0_1 : List Int) (a1 : Int) (r1 : Int) (r2 : List Int) (w0 w : World) (hB : Below w0.heap.size w0 w) (ho0_1 : Kd.R (Kd.int .i64) 3 w w0.heap.size P0_1_ u9000_ l0_1) (h : laws_markGaps.f k a0_0 l0_1 a1 = some (r1,r2)) :
  Calls Tryz.prog 47 #[.agg #[.int .i64 a0_0,u9000_],.int .i64 a1] w fun e w'=>e = .returned (.int .i64 r1)∧Kd.R (Kd.int .i64) 3 w' w0.heap.size (fun k_=>(P0_1_ k_∨w.heap.size ≤ k_)) u9000_ r2∧Below w0.heap.size w0 w'∧Kept w w' (fun k_=>P0_1_ k_):=by
 have hu32:=Tryz.underlying32;have z0:=Aside0.mk (show Kd.R (Kd.int .i64) 3 w w0.heap.size (fun k_=>(P0_1_ k_∨w.heap.size ≤ k_)) u9000_ l0_1 from Kd.R_mono ho0_1 (fun k_ hk=>(.inl hk)));have HK:=Aside0.mk (Kept.refl w (fun k_=>P0_1_ k_));have HW0:=Aside0.mk hB.size;have HB:=Aside0.mk hB;clear hB;have H:=h;unfold laws_markGaps.f at H;clear h;replace H:=sqbi H;obtain ⟨⟨t0,t1⟩,A3,H⟩:=H;(try dsimp only at H);simp only [Option.some.injEq,Prod.mk.injEq] at H;obtain ⟨rfl,rfl⟩:=H;obtain ⟨z1,z2,z4⟩:=Kd.R_slice z0.out;subst z4;go_enter Tryz.func47,Tryz.ntmps47;go_wp2_with (first | ((with_reducible refine gd 2 rfl ?_);refine sqx 2 #[.int .i64 a0_0,.slice z1 l0_1.length z2] 32 ?_;intro gb0 hg w5 hbox hb;replace z0:=sqRbR z0 hb;have B0:=Aside0.mk (hbox);have GW0:=Aside0.mk ((by rw [hg];exact (by first | exact HK.out.1 | exact (show Kept w _ (fun k_=>P0_1_ k_) from by repeat (first | (with_reducible first | exact HK.out | apply Kept.alloc | apply Kept.drewN | apply Kept.drew) | exact HK.out)).1) : w.heap.size ≤ gb0));replace HK:=Aside0.mk (Kept.below (S:=(fun k_=>P0_1_ k_)) (by repeat (first | (with_reducible first | exact HK.out | apply Kept.alloc | apply Kept.drewN | apply Kept.drew) | exact HK.out)) hb);have GE0:=Aside0.mk ((by rw [hg];exact (below_size (sqB HB)) : w0.heap.size ≤ gb0));replace HB:=sqs HB hb;clear hb hbox hg;obtain ⟨_,_,_,_⟩:=sqc2 B0) | ((with_reducible refine gf 19 rfl ?_);refine sqLc rfl (some 8) Tryz.func19 (laws_markIntS.calls k (fun k_=>some k_ = (.slice z1 l0_1.length z2 : Value).ownBlock) (.slice z1 l0_1.length z2) l0_1 a1 t0 t1 w0 _ (sqB HB) (Kd.R_tight rfl z0.out) A3.out) ?_;rintro e w7 ⟨rfl,z3,hb,hkp⟩;refine ⟨_,rfl,?_⟩;replace B0:=Aside0.mk (blk_kept (sqt B0.out) hkp (fun hs_=>(fun e_=>(Kd.R_ne z0.out B0.out (by decide)) e_) hs_));replace z0:=Aside0.mk (Kd.R_reok rfl z3 (fun k_ e_=>z0.out.1 k_ e_));replace HK:=Aside0.mk (Kept.then_ (S:=(fun k_=>P0_1_ k_)) (by repeat (first | (with_reducible first | exact HK.out | apply Kept.alloc | apply Kept.drewN | apply Kept.drew | refine Kept.setCell ?_ (.inr GW0.out) _) | exact HK.out)) hkp (fun k_ hs_=>(fun e_=>(z0.out.1 k_ e_.symm)) hs_));replace HB:=Aside0.mk (hb);(try clear hb);(try clear hkp);(try clear z3)))
 go_ret
 exact ⟨sqEw,sqy z0.out,by repeat (first | (with_reducible first | exact HB.out | apply below_alloc | apply pw_below_drewN | apply below_drew1 | refine below_set ?_ GE0.out) | exact HB.out),by repeat (first | (with_reducible first | exact HK.out | apply Kept.alloc | apply Kept.drewN | apply Kept.drew | refine Kept.setCell ?_ (.inr GW0.out) _) | exact HK.out)⟩

-- NOT PRINTED: function 13 (laws_markAbs)

/-! ### laws_heldValS: function 48 -/
theorem laws_heldValS.calls (k : Nat) (A0 : Option Addr) (c0 : Nat) (l0 : List (S58)) (a1 : Int) (r : Int) (w : World) (hr0 : Kd.C k58 w A0 l0.length l0) (hc0 : l0.length ≤ c0) (h : laws_heldValS.f k l0 a1 = some r) :
  Calls Tryz.prog 48 #[.slice A0 l0.length c0,.int .i64 a1] w fun e w'=>e = .returned (.int .i64 r)∧Drawn0 w w':=by
 have HR0:=Aside0.mk hr0;have HC0:=Aside0.mk hc0;clear hr0 hc0;have H:=h;unfold laws_heldValS.f at H;clear h;have H':=Aside0.mk H;clear H;go_enter Tryz.func48,Tryz.ntmps48
 go_wp2
 go_loopg [1,5] k (fun kq v1 v5 w'=>∃ (x0 : Int) (x1 : Int),v1 = .int .i64 x0∧v5 = .int .i64 x1∧Aside0 (laws_heldValS.l0 kq l0 x0 x1 = some r)∧Aside0 (kq ≤ k)∧Drawn0 w w')
 case atStart=>exact ⟨(a1),(0),sqE,sqE,H',⟨Nat.le_refl _⟩,sqD⟩
 case round =>
  clear H';obtain ⟨x0,x1,rfl,rfl,HA,HK1,⟨m1,rfl⟩⟩:=hrel;cases gk with
  | zero=>exact absurd HA.out (by simp [laws_heldValS.l0])
  | succ k1 =>
   have H:=HA.out;clear HA;simp only [laws_heldValS.l0] at H;replace H:=sqi H;rcases H with ⟨c3,H⟩ | ⟨c3,H⟩
   ·have zt:=decide_eq_false c3;clear c3;obtain rfl:=Option.some.inj H
    go_wp2
    go_ret
    exact ⟨sqE,sqD⟩
   have zt:=decide_eq_true c3;clear c3;replace H:=sqi H;rcases H with ⟨c4,H⟩ | ⟨c4,H⟩
   ·cases H
   have zG:=decide_eq_true c4;clear c4;replace H:=sqi H;rcases H with ⟨c5,H⟩ | ⟨c5,H⟩
   ·have zu : (((rd_T58 l0 x1).f0) == x0) = false:=beq_eq_false_iff_ne.mpr c5;have zv : (((rd_T58 l0 x1).f0) != x0) = true:=bne_iff_ne.mpr c5;obtain rfl:=Option.some.inj H;have z0 : 0 ≤ (x1 : Int):=sqd;have z1 : x1 < (l0.length : Int):=sqd;obtain ⟨z4,z7,ze,zf,zg,zh⟩:=at_T58 HR0.out x1 z0 z1;cases z7;replace z0:=eq_true z0;replace z1:=eq_true z1
    go_wp2
    go_ret
    exact ⟨sqE,sqD⟩
   have zu : (((rd_T58 l0 x1).f0) == x0) = true:=beq_iff_eq.mpr c5;have zv : (((rd_T58 l0 x1).f0) != x0) = false:=bne_eq_false_iff_eq.mpr c5;clear c5;replace H:=sqi H;rcases H with ⟨c6,H⟩ | ⟨c6,H⟩
   ·have zw : (((rd_T58 l0 x1).f1) == (wrap64 (x0 + 1))) = false:=beq_eq_false_iff_ne.mpr c6;have zx : (((rd_T58 l0 x1).f1) != (wrap64 (x0 + 1))) = true:=bne_iff_ne.mpr c6;obtain rfl:=Option.some.inj H;have z0 : 0 ≤ (x1 : Int):=sqd;have z1 : x1 < (l0.length : Int):=sqd;obtain ⟨z4,z7,ze,zf,zg,zh⟩:=at_T58 HR0.out x1 z0 z1;cases z7;replace z0:=eq_true z0;replace z1:=eq_true z1;have z2 : 0 ≤ (x1 : Int):=sqd;have z3 : x1 < (l0.length : Int):=sqd;obtain ⟨z8,z9,zi,zj,zk,zl⟩:=at_T58 HR0.out x1 z2 z3;obtain rfl : z4 = z8:=(by injection z9);replace z2:=eq_true z2;replace z3:=eq_true z3
    go_wp2
    go_ret
    exact ⟨sqE,sqD⟩
   have zw : (((rd_T58 l0 x1).f1) == (wrap64 (x0 + 1))) = true:=beq_iff_eq.mpr c6;have zx : (((rd_T58 l0 x1).f1) != (wrap64 (x0 + 1))) = false:=bne_eq_false_iff_eq.mpr c6;clear c6;replace H:=sqi H;rcases H with ⟨c7,H⟩ | ⟨c7,H⟩
   ·have zy : (((rd_T58 l0 x1).f2) == (wrap64 ((wrap64 (x0 + 1)) + 1))) = false:=beq_eq_false_iff_ne.mpr c7;have zz : (((rd_T58 l0 x1).f2) != (wrap64 ((wrap64 (x0 + 1)) + 1))) = true:=bne_iff_ne.mpr c7;obtain rfl:=Option.some.inj H;have z0 : 0 ≤ (x1 : Int):=sqd;have z1 : x1 < (l0.length : Int):=sqd;obtain ⟨z4,z7,ze,zf,zg,zh⟩:=at_T58 HR0.out x1 z0 z1;cases z7;replace z0:=eq_true z0;replace z1:=eq_true z1;have z2 : 0 ≤ (x1 : Int):=sqd;have z3 : x1 < (l0.length : Int):=sqd;obtain ⟨z8,z9,zi,zj,zk,zl⟩:=at_T58 HR0.out x1 z2 z3;obtain rfl : z4 = z8:=(by injection z9);replace z2:=eq_true z2;replace z3:=eq_true z3;have z5 : 0 ≤ (x1 : Int):=sqd;have z6 : x1 < (l0.length : Int):=sqd;obtain ⟨zc,zd,zo,zp,zq,zr⟩:=at_T58 HR0.out x1 z5 z6;obtain rfl : z4 = zc:=(by injection zd);replace z5:=eq_true z5;replace z6:=eq_true z6
    go_wp2
    go_ret
    exact ⟨sqE,sqD⟩
   have zy : (((rd_T58 l0 x1).f2) == (wrap64 ((wrap64 (x0 + 1)) + 1))) = true:=beq_iff_eq.mpr c7;have zz : (((rd_T58 l0 x1).f2) != (wrap64 ((wrap64 (x0 + 1)) + 1))) = false:=bne_eq_false_iff_eq.mpr c7;clear c7;replace H:=sqi H;rcases H with ⟨c8,H⟩ | ⟨c8,H⟩
   ·have zA : (((rd_T58 l0 x1).f3) == (wrap64 ((wrap64 ((wrap64 (x0 + 1)) + 1)) + 1))) = false:=beq_eq_false_iff_ne.mpr c8;have zB : (((rd_T58 l0 x1).f3) != (wrap64 ((wrap64 ((wrap64 (x0 + 1)) + 1)) + 1))) = true:=bne_iff_ne.mpr c8;obtain rfl:=Option.some.inj H;have z0 : 0 ≤ (x1 : Int):=sqd;have z1 : x1 < (l0.length : Int):=sqd;obtain ⟨z4,z7,ze,zf,zg,zh⟩:=at_T58 HR0.out x1 z0 z1;cases z7;replace z0:=eq_true z0;replace z1:=eq_true z1;have z2 : 0 ≤ (x1 : Int):=sqd;have z3 : x1 < (l0.length : Int):=sqd;obtain ⟨z8,z9,zi,zj,zk,zl⟩:=at_T58 HR0.out x1 z2 z3;obtain rfl : z4 = z8:=(by injection z9);replace z2:=eq_true z2;replace z3:=eq_true z3;have z5 : 0 ≤ (x1 : Int):=sqd;have z6 : x1 < (l0.length : Int):=sqd;obtain ⟨zc,zd,zo,zp,zq,zr⟩:=at_T58 HR0.out x1 z5 z6;obtain rfl : z4 = zc:=(by injection zd);replace z5:=eq_true z5;replace z6:=eq_true z6;have za : 0 ≤ (x1 : Int):=sqd;have zb : x1 < (l0.length : Int):=sqd;obtain ⟨zm,zn,zC,zD,zE,zF⟩:=at_T58 HR0.out x1 za zb;obtain rfl : z4 = zm:=(by injection zn);replace za:=eq_true za;replace zb:=eq_true zb
    go_wp2
    go_ret
    exact ⟨sqE,sqD⟩
   have zA : (((rd_T58 l0 x1).f3) == (wrap64 ((wrap64 ((wrap64 (x0 + 1)) + 1)) + 1))) = true:=beq_iff_eq.mpr c8;have zB : (((rd_T58 l0 x1).f3) != (wrap64 ((wrap64 ((wrap64 (x0 + 1)) + 1)) + 1))) = false:=bne_eq_false_iff_eq.mpr c8;clear c8;have H':=Aside0.mk H;clear H;have z0 : 0 ≤ (x1 : Int):=sqd;have z1 : x1 < (l0.length : Int):=sqd;obtain ⟨z4,z7,ze,zf,zg,zh⟩:=at_T58 HR0.out x1 z0 z1;cases z7;replace z0:=eq_true z0;replace z1:=eq_true z1;have z2 : 0 ≤ (x1 : Int):=sqd;have z3 : x1 < (l0.length : Int):=sqd;obtain ⟨z8,z9,zi,zj,zk,zl⟩:=at_T58 HR0.out x1 z2 z3;obtain rfl : z4 = z8:=(by injection z9);replace z2:=eq_true z2;replace z3:=eq_true z3;have z5 : 0 ≤ (x1 : Int):=sqd;have z6 : x1 < (l0.length : Int):=sqd;obtain ⟨zc,zd,zo,zp,zq,zr⟩:=at_T58 HR0.out x1 z5 z6;obtain rfl : z4 = zc:=(by injection zd);replace z5:=eq_true z5;replace z6:=eq_true z6;have za : 0 ≤ (x1 : Int):=sqd;have zb : x1 < (l0.length : Int):=sqd;obtain ⟨zm,zn,zC,zD,zE,zF⟩:=at_T58 HR0.out x1 za zb;obtain rfl : z4 = zm:=(by injection zn);replace za:=eq_true za;replace zb:=eq_true zb
   go_wp2
   go_roundg k1
   case measure=>have:=HK1.out;omega
   case rel=>exact ⟨(wrap64 ((wrap64 ((wrap64 ((wrap64 (x0 + 1)) + 1)) + 1)) + 1)),(wrap64 (x1 + 1)),sqE,sqE,H',⟨by have:=HK1.out;omega⟩,sqD⟩

/-! ### laws_heldIntS: function 115 -/
theorem laws_heldIntS.calls (k : Nat) (A0 : Option Addr) (c0 : Nat) (l0 : List Int) (a1 : Int) (r : Int) (w : World) (hr0 : Kd.C (Kd.int .i64) w A0 l0.length l0) (hc0 : l0.length ≤ c0) (h : laws_heldIntS.f k l0 a1 = some r) :
  Calls Tryz.prog 115 #[.slice A0 l0.length c0,.int .i64 a1] w fun e w'=>e = .returned (.int .i64 r)∧Drawn0 w w':=by
 have HR0:=Aside0.mk hr0;have HC0:=Aside0.mk hc0;clear hr0 hc0;have H:=h;unfold laws_heldIntS.f at H;clear h;have H':=Aside0.mk H;clear H;go_enter Tryz.func115,Tryz.ntmps115
 go_wp2
 go_loopg [1,5] k (fun kq v1 v5 w'=>∃ (x0 : Int) (x1 : Int),v1 = .int .i64 x0∧v5 = .int .i64 x1∧Aside0 (laws_heldIntS.l0 kq l0 x0 x1 = some r)∧Aside0 (kq ≤ k)∧Drawn0 w w')
 case atStart=>exact ⟨(a1),(0),sqE,sqE,H',⟨Nat.le_refl _⟩,sqD⟩
 case round =>
  clear H';obtain ⟨x0,x1,rfl,rfl,HA,HK1,⟨m1,rfl⟩⟩:=hrel;cases gk with
  | zero=>exact absurd HA.out (by simp [laws_heldIntS.l0])
  | succ k1 =>
   have H:=HA.out;clear HA;simp only [laws_heldIntS.l0] at H;replace H:=sqi H;rcases H with ⟨c3,H⟩ | ⟨c3,H⟩
   ·have z3:=decide_eq_false c3;clear c3;obtain rfl:=Option.some.inj H
    go_wp2
    go_ret
    exact ⟨sqE,sqD⟩
   have z3:=decide_eq_true c3;clear c3;replace H:=sqi H;rcases H with ⟨c4,H⟩ | ⟨c4,H⟩
   ·cases H
   have z8:=decide_eq_true c4;clear c4;replace H:=sqi H;rcases H with ⟨c5,H⟩ | ⟨c5,H⟩
   ·have z4 : ((rd l0 x1) == x0) = false:=beq_eq_false_iff_ne.mpr c5;have z5 : ((rd l0 x1) != x0) = true:=bne_iff_ne.mpr c5;obtain rfl:=Option.some.inj H;have z0 : 0 ≤ (x1 : Int):=sqd;have z1 : x1 < (l0.length : Int):=sqd;obtain ⟨z6,z2,z7⟩:=Kd.at_int HR0.out x1 z0 z1;cases z2;replace z0:=eq_true z0;replace z1:=eq_true z1
    go_wp2
    go_ret
    exact ⟨sqE,sqD⟩
   have z4 : ((rd l0 x1) == x0) = true:=beq_iff_eq.mpr c5;have z5 : ((rd l0 x1) != x0) = false:=bne_eq_false_iff_eq.mpr c5;clear c5;have H':=Aside0.mk H;clear H;have z0 : 0 ≤ (x1 : Int):=sqd;have z1 : x1 < (l0.length : Int):=sqd;obtain ⟨z6,z2,z7⟩:=Kd.at_int HR0.out x1 z0 z1;cases z2;replace z0:=eq_true z0;replace z1:=eq_true z1
   go_wp2
   go_roundg k1
   case measure=>have:=HK1.out;omega
   case rel=>exact ⟨(wrap64 (x0 + 1)),(wrap64 (x1 + 1)),sqE,sqE,H',⟨by have:=HK1.out;omega⟩,sqD⟩

/-! ### laws_heldRefValS: function 49 -/
theorem laws_heldRefValS.calls (k : Nat) (A0 : Option Addr) (c0 : Nat) (l0 : List (S84)) (a1 : Int) (r : Int) (w : World) (hr0 : Kd.C k84 w A0 l0.length l0) (hc0 : l0.length ≤ c0) (h : laws_heldRefValS.f k l0 a1 = some r) :
  Calls Tryz.prog 49 #[.slice A0 l0.length c0,.int .i64 a1] w fun e w'=>e = .returned (.int .i64 r)∧Drawn0 w w':=by
 have HR0:=Aside0.mk hr0;have HC0:=Aside0.mk hc0;clear hr0 hc0;have H:=h;unfold laws_heldRefValS.f at H;clear h;have H':=Aside0.mk H;clear H;go_enter Tryz.func49,Tryz.ntmps49
 go_wp2
 go_loopg [1,5] k (fun kq v1 v5 w'=>∃ (x0 : Int) (x1 : Int),v1 = .int .i64 x0∧v5 = .int .i64 x1∧Aside0 (laws_heldRefValS.l0 kq l0 x0 x1 = some r)∧Aside0 (kq ≤ k)∧Drawn0 w w')
 case atStart=>exact ⟨(a1),(0),sqE,sqE,H',⟨Nat.le_refl _⟩,sqD⟩
 case round =>
  clear H';obtain ⟨x0,x1,rfl,rfl,HA,HK1,⟨m1,rfl⟩⟩:=hrel;cases gk with
  | zero=>exact absurd HA.out (by simp [laws_heldRefValS.l0])
  | succ k1 =>
   have H:=HA.out;clear HA;simp only [laws_heldRefValS.l0] at H;replace H:=sqi H;rcases H with ⟨c3,H⟩ | ⟨c3,H⟩
   ·have jq:=decide_eq_false c3;clear c3;obtain rfl:=Option.some.inj H
    go_wp2
    go_ret
    exact ⟨sqE,sqD⟩
   have jq:=decide_eq_true c3;clear c3;replace H:=sqi H;rcases H with ⟨c4,H⟩ | ⟨c4,H⟩
   ·cases H
   have jM:=decide_eq_true c4;clear c4;replace H:=sqj H;rcases H with ⟨c5,H⟩ | ⟨c5,H⟩
   ·have jr : (((rd_T84 l0 x1).f0) != ((Int.tmod x0 3) == 0)) = true:=c5
    (try (have js : decide (((rd_T84 l0 x1).f0) = ((Int.tmod x0 3) == 0)) = false:=by simpa using c5))
    (try (have jt : (((rd_T84 l0 x1).f0) == ((Int.tmod x0 3) == 0)) = false:=by simpa using c5))
    (try (have jN : ¬ (((rd_T84 l0 x1).f0) = ((Int.tmod x0 3) == 0)):=by simpa using c5))
    clear c5;obtain rfl:=Option.some.inj H;have z0 : 0 ≤ (x1 : Int):=sqd;have z1 : x1 < (l0.length : Int):=sqd;obtain ⟨z2,zB,zC,zg,zD,z3,zE,zF,zG,zH,z6,z7⟩:=at_T84 HR0.out x1 z0 z1;cases zg;have zI:=Aside0.mk z7;have zJ:=Aside0.mk z6;clear z7 z6;replace z0:=eq_true z0;replace z1:=eq_true z1
    go_wp2
    go_ret
    exact ⟨sqE,sqD⟩
   have jr : (((rd_T84 l0 x1).f0) != ((Int.tmod x0 3) == 0)) = false:=by simpa using c5
   (try (have js : decide (((rd_T84 l0 x1).f0) = ((Int.tmod x0 3) == 0)) = true:=by simpa using c5))
   (try (have jt : (((rd_T84 l0 x1).f0) == ((Int.tmod x0 3) == 0)) = true:=by simpa using c5))
   clear c5;replace H:=sqbi H;obtain ⟨t0,A6,H⟩:=H;(try dsimp only at H);replace H:=sqj H;rcases H with ⟨c7,H⟩ | ⟨c7,H⟩
   ·have ju:=decide_eq_true c7;clear c7;obtain rfl:=Option.some.inj H;have z0 : 0 ≤ (x1 : Int):=sqd;have z1 : x1 < (l0.length : Int):=sqd;obtain ⟨z2,zB,zC,zg,zD,z3,zE,zF,zG,zH,z6,z7⟩:=at_T84 HR0.out x1 z0 z1;cases zg;have zI:=Aside0.mk z7;have zJ:=Aside0.mk z6;clear z7 z6;replace z0:=eq_true z0;replace z1:=eq_true z1;have z4 : 0 ≤ (x1 : Int):=sqd;have z5 : x1 < (l0.length : Int):=sqd;obtain ⟨zh,zK,zL,zi,zM,zj,zN,zO,zP,zQ,za,zb⟩:=at_T84 HR0.out x1 z4 z5;obtain rfl : z2 = zh:=(by injection zi);have zk:=Aside0.mk zb;have zl:=Aside0.mk za;clear zb za;replace z4:=eq_true z4;replace z5:=eq_true z5;have ea_:=Option.some.inj (z3.symm.trans zj);injection ea_ with ea_ en_ ec_;subst ea_;subst ec_;clear en_;go_wp2_with (first | ((with_reducible refine gf 115 rfl ?_);refine sqLq rfl (some 29) Tryz.func115 (laws_heldIntS.calls _ _ _ _ _ _ _ (sqC zk.out) zl.out A6.out) ?_;intro nd))
    go_ret
    exact ⟨sqE,sqD⟩
   have ju:=decide_eq_false c7;clear c7;replace H:=sqi H;rcases H with ⟨c8,H⟩ | ⟨c8,H⟩
   ·have jv : (((rd_T84 l0 x1).f2.f0) == t0) = false:=beq_eq_false_iff_ne.mpr c8;have jw : (((rd_T84 l0 x1).f2.f0) != t0) = true:=bne_iff_ne.mpr c8;obtain rfl:=Option.some.inj H;have z0 : 0 ≤ (x1 : Int):=sqd;have z1 : x1 < (l0.length : Int):=sqd;obtain ⟨z2,zB,zC,zg,zD,z3,zE,zF,zG,zH,z6,z7⟩:=at_T84 HR0.out x1 z0 z1;cases zg;have zI:=Aside0.mk z7;have zJ:=Aside0.mk z6;clear z7 z6;replace z0:=eq_true z0;replace z1:=eq_true z1;have z4 : 0 ≤ (x1 : Int):=sqd;have z5 : x1 < (l0.length : Int):=sqd;obtain ⟨zh,zK,zL,zi,zM,zj,zN,zO,zP,zQ,za,zb⟩:=at_T84 HR0.out x1 z4 z5;obtain rfl : z2 = zh:=(by injection zi);have zk:=Aside0.mk zb;have zl:=Aside0.mk za;clear zb za;replace z4:=eq_true z4;replace z5:=eq_true z5;have ea_:=Option.some.inj (z3.symm.trans zj);injection ea_ with ea_ en_ ec_;subst ea_;subst ec_;clear en_;go_wp2_with (first | ((with_reducible refine gf 115 rfl ?_);refine sqLq rfl (some 29) Tryz.func115 (laws_heldIntS.calls _ _ _ _ _ _ _ (sqC zk.out) zl.out A6.out) ?_;intro nd;have z8 : 0 ≤ (x1 : Int):=sqd;have z9 : x1 < (l0.length : Int):=sqd;obtain ⟨zq,zW,zX,zr,zY,zt,zZ,j0,j1,j2,ze,zf⟩:=at_T84 HR0.out x1 z8 z9;obtain rfl : z2 = zq:=(by injection zr);have j3:=Aside0.mk zf;have j4:=Aside0.mk ze;clear zf ze;replace z8:=eq_true z8;replace z9:=eq_true z9;have ea_:=Option.some.inj (z3.symm.trans zt);injection ea_ with ea_ en_ ec_;subst ea_;subst ec_;clear en_))
    go_ret
    exact ⟨sqE,sqD⟩
   have jv : (((rd_T84 l0 x1).f2.f0) == t0) = true:=beq_iff_eq.mpr c8;have jw : (((rd_T84 l0 x1).f2.f0) != t0) = false:=bne_eq_false_iff_eq.mpr c8;clear c8;replace H:=sqi H;rcases H with ⟨c9,H⟩ | ⟨c9,H⟩
   ·have jx : (((rd_T84 l0 x1).f2.f1) == (wrap64 (t0 + 1))) = false:=beq_eq_false_iff_ne.mpr c9;have jy : (((rd_T84 l0 x1).f2.f1) != (wrap64 (t0 + 1))) = true:=bne_iff_ne.mpr c9;obtain rfl:=Option.some.inj H;have z0 : 0 ≤ (x1 : Int):=sqd;have z1 : x1 < (l0.length : Int):=sqd;obtain ⟨z2,zB,zC,zg,zD,z3,zE,zF,zG,zH,z6,z7⟩:=at_T84 HR0.out x1 z0 z1;cases zg;have zI:=Aside0.mk z7;have zJ:=Aside0.mk z6;clear z7 z6;replace z0:=eq_true z0;replace z1:=eq_true z1;have z4 : 0 ≤ (x1 : Int):=sqd;have z5 : x1 < (l0.length : Int):=sqd;obtain ⟨zh,zK,zL,zi,zM,zj,zN,zO,zP,zQ,za,zb⟩:=at_T84 HR0.out x1 z4 z5;obtain rfl : z2 = zh:=(by injection zi);have zk:=Aside0.mk zb;have zl:=Aside0.mk za;clear zb za;replace z4:=eq_true z4;replace z5:=eq_true z5;have ea_:=Option.some.inj (z3.symm.trans zj);injection ea_ with ea_ en_ ec_;subst ea_;subst ec_;clear en_;go_wp2_with (first | ((with_reducible refine gf 115 rfl ?_);refine sqLq rfl (some 29) Tryz.func115 (laws_heldIntS.calls _ _ _ _ _ _ _ (sqC zk.out) zl.out A6.out) ?_;intro nd;have z8 : 0 ≤ (x1 : Int):=sqd;have z9 : x1 < (l0.length : Int):=sqd;obtain ⟨zq,zW,zX,zr,zY,zt,zZ,j0,j1,j2,ze,zf⟩:=at_T84 HR0.out x1 z8 z9;obtain rfl : z2 = zq:=(by injection zr);have j3:=Aside0.mk zf;have j4:=Aside0.mk ze;clear zf ze;replace z8:=eq_true z8;replace z9:=eq_true z9;have ea_:=Option.some.inj (z3.symm.trans zt);injection ea_ with ea_ en_ ec_;subst ea_;subst ec_;clear en_;have zc : 0 ≤ (x1 : Int):=sqd;have zd : x1 < (l0.length : Int):=sqd;obtain ⟨zw,j5,j6,zx,j7,zy,j8,j9,ja,jb,zm,zn⟩:=at_T84 HR0.out x1 zc zd;obtain rfl : z2 = zw:=(by injection zx);have jc:=Aside0.mk zn;have jd:=Aside0.mk zm;clear zn zm;replace zc:=eq_true zc;replace zd:=eq_true zd;have ea_:=Option.some.inj (z3.symm.trans zy);injection ea_ with ea_ en_ ec_;subst ea_;subst ec_;clear en_))
    go_ret
    exact ⟨sqE,sqD⟩
   have jx : (((rd_T84 l0 x1).f2.f1) == (wrap64 (t0 + 1))) = true:=beq_iff_eq.mpr c9;have jy : (((rd_T84 l0 x1).f2.f1) != (wrap64 (t0 + 1))) = false:=bne_eq_false_iff_eq.mpr c9;clear c9;replace H:=sqi H;rcases H with ⟨c10,H⟩ | ⟨c10,H⟩
   ·have jz : (((rd_T84 l0 x1).f2.f2) == (wrap64 ((wrap64 (t0 + 1)) + 1))) = false:=beq_eq_false_iff_ne.mpr c10;have jA : (((rd_T84 l0 x1).f2.f2) != (wrap64 ((wrap64 (t0 + 1)) + 1))) = true:=bne_iff_ne.mpr c10;obtain rfl:=Option.some.inj H;have z0 : 0 ≤ (x1 : Int):=sqd;have z1 : x1 < (l0.length : Int):=sqd;obtain ⟨z2,zB,zC,zg,zD,z3,zE,zF,zG,zH,z6,z7⟩:=at_T84 HR0.out x1 z0 z1;cases zg;have zI:=Aside0.mk z7;have zJ:=Aside0.mk z6;clear z7 z6;replace z0:=eq_true z0;replace z1:=eq_true z1;have z4 : 0 ≤ (x1 : Int):=sqd;have z5 : x1 < (l0.length : Int):=sqd;obtain ⟨zh,zK,zL,zi,zM,zj,zN,zO,zP,zQ,za,zb⟩:=at_T84 HR0.out x1 z4 z5;obtain rfl : z2 = zh:=(by injection zi);have zk:=Aside0.mk zb;have zl:=Aside0.mk za;clear zb za;replace z4:=eq_true z4;replace z5:=eq_true z5;have ea_:=Option.some.inj (z3.symm.trans zj);injection ea_ with ea_ en_ ec_;subst ea_;subst ec_;clear en_;go_wp2_with (first | ((with_reducible refine gf 115 rfl ?_);refine sqLq rfl (some 29) Tryz.func115 (laws_heldIntS.calls _ _ _ _ _ _ _ (sqC zk.out) zl.out A6.out) ?_;intro nd;have z8 : 0 ≤ (x1 : Int):=sqd;have z9 : x1 < (l0.length : Int):=sqd;obtain ⟨zq,zW,zX,zr,zY,zt,zZ,j0,j1,j2,ze,zf⟩:=at_T84 HR0.out x1 z8 z9;obtain rfl : z2 = zq:=(by injection zr);have j3:=Aside0.mk zf;have j4:=Aside0.mk ze;clear zf ze;replace z8:=eq_true z8;replace z9:=eq_true z9;have ea_:=Option.some.inj (z3.symm.trans zt);injection ea_ with ea_ en_ ec_;subst ea_;subst ec_;clear en_;have zc : 0 ≤ (x1 : Int):=sqd;have zd : x1 < (l0.length : Int):=sqd;obtain ⟨zw,j5,j6,zx,j7,zy,j8,j9,ja,jb,zm,zn⟩:=at_T84 HR0.out x1 zc zd;obtain rfl : z2 = zw:=(by injection zx);have jc:=Aside0.mk zn;have jd:=Aside0.mk zm;clear zn zm;replace zc:=eq_true zc;replace zd:=eq_true zd;have ea_:=Option.some.inj (z3.symm.trans zy);injection ea_ with ea_ en_ ec_;subst ea_;subst ec_;clear en_;have zo : 0 ≤ (x1 : Int):=sqd;have zp : x1 < (l0.length : Int):=sqd;obtain ⟨zR,jh,ji,zS,jj,zT,jk,jl,jm,jn,zu,zv⟩:=at_T84 HR0.out x1 zo zp;obtain rfl : z2 = zR:=(by injection zS);have jo:=Aside0.mk zv;have jp:=Aside0.mk zu;clear zv zu;replace zo:=eq_true zo;replace zp:=eq_true zp;have ea_:=Option.some.inj (z3.symm.trans zT);injection ea_ with ea_ en_ ec_;subst ea_;subst ec_;clear en_))
    go_ret
    exact ⟨sqE,sqD⟩
   have jz : (((rd_T84 l0 x1).f2.f2) == (wrap64 ((wrap64 (t0 + 1)) + 1))) = true:=beq_iff_eq.mpr c10;have jA : (((rd_T84 l0 x1).f2.f2) != (wrap64 ((wrap64 (t0 + 1)) + 1))) = false:=bne_eq_false_iff_eq.mpr c10;clear c10;replace H:=sqi H;rcases H with ⟨c11,H⟩ | ⟨c11,H⟩
   ·have jB : (((rd_T84 l0 x1).f2.f3) == (wrap64 ((wrap64 ((wrap64 (t0 + 1)) + 1)) + 1))) = false:=beq_eq_false_iff_ne.mpr c11;have jC : (((rd_T84 l0 x1).f2.f3) != (wrap64 ((wrap64 ((wrap64 (t0 + 1)) + 1)) + 1))) = true:=bne_iff_ne.mpr c11;obtain rfl:=Option.some.inj H;have z0 : 0 ≤ (x1 : Int):=sqd;have z1 : x1 < (l0.length : Int):=sqd;obtain ⟨z2,zB,zC,zg,zD,z3,zE,zF,zG,zH,z6,z7⟩:=at_T84 HR0.out x1 z0 z1;cases zg;have zI:=Aside0.mk z7;have zJ:=Aside0.mk z6;clear z7 z6;replace z0:=eq_true z0;replace z1:=eq_true z1;have z4 : 0 ≤ (x1 : Int):=sqd;have z5 : x1 < (l0.length : Int):=sqd;obtain ⟨zh,zK,zL,zi,zM,zj,zN,zO,zP,zQ,za,zb⟩:=at_T84 HR0.out x1 z4 z5;obtain rfl : z2 = zh:=(by injection zi);have zk:=Aside0.mk zb;have zl:=Aside0.mk za;clear zb za;replace z4:=eq_true z4;replace z5:=eq_true z5;have ea_:=Option.some.inj (z3.symm.trans zj);injection ea_ with ea_ en_ ec_;subst ea_;subst ec_;clear en_;go_wp2_with (first | ((with_reducible refine gf 115 rfl ?_);refine sqLq rfl (some 29) Tryz.func115 (laws_heldIntS.calls _ _ _ _ _ _ _ (sqC zk.out) zl.out A6.out) ?_;intro nd;have z8 : 0 ≤ (x1 : Int):=sqd;have z9 : x1 < (l0.length : Int):=sqd;obtain ⟨zq,zW,zX,zr,zY,zt,zZ,j0,j1,j2,ze,zf⟩:=at_T84 HR0.out x1 z8 z9;obtain rfl : z2 = zq:=(by injection zr);have j3:=Aside0.mk zf;have j4:=Aside0.mk ze;clear zf ze;replace z8:=eq_true z8;replace z9:=eq_true z9;have ea_:=Option.some.inj (z3.symm.trans zt);injection ea_ with ea_ en_ ec_;subst ea_;subst ec_;clear en_;have zc : 0 ≤ (x1 : Int):=sqd;have zd : x1 < (l0.length : Int):=sqd;obtain ⟨zw,j5,j6,zx,j7,zy,j8,j9,ja,jb,zm,zn⟩:=at_T84 HR0.out x1 zc zd;obtain rfl : z2 = zw:=(by injection zx);have jc:=Aside0.mk zn;have jd:=Aside0.mk zm;clear zn zm;replace zc:=eq_true zc;replace zd:=eq_true zd;have ea_:=Option.some.inj (z3.symm.trans zy);injection ea_ with ea_ en_ ec_;subst ea_;subst ec_;clear en_;have zo : 0 ≤ (x1 : Int):=sqd;have zp : x1 < (l0.length : Int):=sqd;obtain ⟨zR,jh,ji,zS,jj,zT,jk,jl,jm,jn,zu,zv⟩:=at_T84 HR0.out x1 zo zp;obtain rfl : z2 = zR:=(by injection zS);have jo:=Aside0.mk zv;have jp:=Aside0.mk zu;clear zv zu;replace zo:=eq_true zo;replace zp:=eq_true zp;have ea_:=Option.some.inj (z3.symm.trans zT);injection ea_ with ea_ en_ ec_;subst ea_;subst ec_;clear en_;have zz : 0 ≤ (x1 : Int):=sqd;have zA : x1 < (l0.length : Int):=sqd;obtain ⟨je,jD,jE,jf,jF,jg,jG,jH,jI,jJ,zU,zV⟩:=at_T84 HR0.out x1 zz zA;obtain rfl : z2 = je:=(by injection jf);have jK:=Aside0.mk zV;have jL:=Aside0.mk zU;clear zV zU;replace zz:=eq_true zz;replace zA:=eq_true zA;have ea_:=Option.some.inj (z3.symm.trans jg);injection ea_ with ea_ en_ ec_;subst ea_;subst ec_;clear en_))
    go_ret
    exact ⟨sqE,sqD⟩
   have jB : (((rd_T84 l0 x1).f2.f3) == (wrap64 ((wrap64 ((wrap64 (t0 + 1)) + 1)) + 1))) = true:=beq_iff_eq.mpr c11;have jC : (((rd_T84 l0 x1).f2.f3) != (wrap64 ((wrap64 ((wrap64 (t0 + 1)) + 1)) + 1))) = false:=bne_eq_false_iff_eq.mpr c11;clear c11;have H':=Aside0.mk H;clear H;have z0 : 0 ≤ (x1 : Int):=sqd;have z1 : x1 < (l0.length : Int):=sqd;obtain ⟨z2,zB,zC,zg,zD,z3,zE,zF,zG,zH,z6,z7⟩:=at_T84 HR0.out x1 z0 z1;cases zg;have zI:=Aside0.mk z7;have zJ:=Aside0.mk z6;clear z7 z6;replace z0:=eq_true z0;replace z1:=eq_true z1;have z4 : 0 ≤ (x1 : Int):=sqd;have z5 : x1 < (l0.length : Int):=sqd;obtain ⟨zh,zK,zL,zi,zM,zj,zN,zO,zP,zQ,za,zb⟩:=at_T84 HR0.out x1 z4 z5;obtain rfl : z2 = zh:=(by injection zi);have zk:=Aside0.mk zb;have zl:=Aside0.mk za;clear zb za;replace z4:=eq_true z4;replace z5:=eq_true z5;have ea_:=Option.some.inj (z3.symm.trans zj);injection ea_ with ea_ en_ ec_;subst ea_;subst ec_;clear en_;go_wp2_with (first | ((with_reducible refine gf 115 rfl ?_);refine sqLq rfl (some 29) Tryz.func115 (laws_heldIntS.calls _ _ _ _ _ _ _ (sqC zk.out) zl.out A6.out) ?_;intro nd;have z8 : 0 ≤ (x1 : Int):=sqd;have z9 : x1 < (l0.length : Int):=sqd;obtain ⟨zq,zW,zX,zr,zY,zt,zZ,j0,j1,j2,ze,zf⟩:=at_T84 HR0.out x1 z8 z9;obtain rfl : z2 = zq:=(by injection zr);have j3:=Aside0.mk zf;have j4:=Aside0.mk ze;clear zf ze;replace z8:=eq_true z8;replace z9:=eq_true z9;have ea_:=Option.some.inj (z3.symm.trans zt);injection ea_ with ea_ en_ ec_;subst ea_;subst ec_;clear en_;have zc : 0 ≤ (x1 : Int):=sqd;have zd : x1 < (l0.length : Int):=sqd;obtain ⟨zw,j5,j6,zx,j7,zy,j8,j9,ja,jb,zm,zn⟩:=at_T84 HR0.out x1 zc zd;obtain rfl : z2 = zw:=(by injection zx);have jc:=Aside0.mk zn;have jd:=Aside0.mk zm;clear zn zm;replace zc:=eq_true zc;replace zd:=eq_true zd;have ea_:=Option.some.inj (z3.symm.trans zy);injection ea_ with ea_ en_ ec_;subst ea_;subst ec_;clear en_;have zo : 0 ≤ (x1 : Int):=sqd;have zp : x1 < (l0.length : Int):=sqd;obtain ⟨zR,jh,ji,zS,jj,zT,jk,jl,jm,jn,zu,zv⟩:=at_T84 HR0.out x1 zo zp;obtain rfl : z2 = zR:=(by injection zS);have jo:=Aside0.mk zv;have jp:=Aside0.mk zu;clear zv zu;replace zo:=eq_true zo;replace zp:=eq_true zp;have ea_:=Option.some.inj (z3.symm.trans zT);injection ea_ with ea_ en_ ec_;subst ea_;subst ec_;clear en_;have zz : 0 ≤ (x1 : Int):=sqd;have zA : x1 < (l0.length : Int):=sqd;obtain ⟨je,jD,jE,jf,jF,jg,jG,jH,jI,jJ,zU,zV⟩:=at_T84 HR0.out x1 zz zA;obtain rfl : z2 = je:=(by injection jf);have jK:=Aside0.mk zV;have jL:=Aside0.mk zU;clear zV zU;replace zz:=eq_true zz;replace zA:=eq_true zA;have ea_:=Option.some.inj (z3.symm.trans jg);injection ea_ with ea_ en_ ec_;subst ea_;subst ec_;clear en_));go_roundg k1
   case measure=>have:=HK1.out;omega
   case rel=>exact ⟨(wrap64 ((wrap64 ((wrap64 ((wrap64 (t0 + 1)) + 1)) + 1)) + 1)),(wrap64 (x1 + 1)),sqE,sqE,H',⟨by have:=HK1.out;omega⟩,sqD⟩

/-! ### laws_heldGaps: function 50 -/
theorem laws_heldGaps.calls (k : Nat) (a0_0 : Int) (A0_1 : Option Addr) (c0_1 : Nat) (l0_1 : List Int) (a1 : Int) (r : Int) (w : World) (hr0_1 : Kd.C (Kd.int .i64) w A0_1 l0_1.length l0_1) (hc0_1 : l0_1.length ≤ c0_1) (h : laws_heldGaps.f k a0_0 l0_1 a1 = some r) :
  Calls Tryz.prog 50 #[.agg #[.int .i64 a0_0,.slice A0_1 l0_1.length c0_1],.int .i64 a1] w fun e w'=>e = .returned (.int .i64 r)∧Below w.heap.size w w':=by
 have hu32:=Tryz.underlying32;have HR0_1:=Aside0.mk hr0_1;have HC0_1:=Aside0.mk hc0_1;clear hr0_1 hc0_1;have HB:=Aside0.mk (Below.refl w.heap.size w);have H:=h;unfold laws_heldGaps.f at H;clear h;replace H:=sqbi H;obtain ⟨t0,A3,H⟩:=H;(try dsimp only at H);replace H:=sqj H;rcases H with ⟨c4,H⟩ | ⟨c4,H⟩
 ·have z0:=decide_eq_true c4;clear c4;obtain rfl:=Option.some.inj H;go_enter Tryz.func50,Tryz.ntmps50;go_wp2_with (first | ((with_reducible refine gd 2 rfl ?_);refine sqX 2 #[.int .i64 a0_0,.slice A0_1 l0_1.length c0_1] 32 HB ?_;clear HB;intro gb0 hg w5 hb B0 GW0 HB;clear hb hg;obtain ⟨_,_,_,_⟩:=sqc2 B0) | ((with_reducible refine gf 115 rfl ?_);refine sqLq rfl (some 8) Tryz.func115 (laws_heldIntS.calls _ _ _ _ _ _ _ (sqC (Kd.C_below HR0_1.out HB.out)) HC0_1.out A3.out) ?_;intro nd))
  go_ret
  exact sqe HB
 have z0:=decide_eq_false c4;clear c4;obtain rfl:=Option.some.inj H;go_enter Tryz.func50,Tryz.ntmps50;go_wp2_with (first | ((with_reducible refine gd 2 rfl ?_);refine sqX 2 #[.int .i64 a0_0,.slice A0_1 l0_1.length c0_1] 32 HB ?_;clear HB;intro gb0 hg w7 hb B0 GW0 HB;clear hb hg;obtain ⟨_,_,_,_⟩:=sqc2 B0) | ((with_reducible refine gf 115 rfl ?_);refine sqLq rfl (some 8) Tryz.func115 (laws_heldIntS.calls _ _ _ _ _ _ _ (sqC (Kd.C_below HR0_1.out HB.out)) HC0_1.out A3.out) ?_;intro nd))
 go_ret
 exact sqe HB

end Go.Proofs.YtklkdpcopfjmcaaGreat.PFnExactAbsJoin
