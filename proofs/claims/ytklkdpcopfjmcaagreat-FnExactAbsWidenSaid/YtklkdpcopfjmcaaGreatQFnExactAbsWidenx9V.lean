/- Functions of the program as plain Lean functions, and that calls of them come to what these tell. Conditions: those in each law. -/
import Derived.Test.YtklkdpcopfjmcaaGreatSqV
import Derived.Test.YtklkdpcopfjmcaaGreatDFnExactAbsWidenV
import Derived.Test.YtklkdpcopfjmcaaGreatQFnExactAbsWidenx0V
import Derived.Test.YtklkdpcopfjmcaaGreatQFnExactAbsWidenx3V
namespace Go.Proofs.YtklkdpcopfjmcaaGreat.PFnExactAbsWiden
open Go.RowKit Tryz Go.Proofs.YtklkdpcopfjmcaaGreat.Sq Go.Proofs.YtklkdpcopfjmcaaGreatW.PrintWords Go.Proofs.YtklkdpcopfjmcaaGreatW.PrintLast Go.Proofs.YtklkdpcopfjmcaaGreatW.PrintMore
attribute [local go_sem] nV nT o8 pz mV mW nW nS 
set_option linter.unusedVariables false
set_option linter.unusedSimpArgs false
set_option maxHeartbeats 8000000
set_option maxRecDepth 100000
theorem fq.calls (k : Nat) (P0_ : Nat→Prop) (u9000_ : Value) (l0 : List Int) (a1 : Int) (r1 : Int) (r2 : List Int) (w0 w : World) (hB : Below w0.heap.size w0 w) (ho0 : Kd.R (Kd.int .i64) 3 w w0.heap.size P0_ u9000_ l0) (h : fq.f k l0 a1 = some (r1,r2)) :
  Calls prog 19 #[u9000_,.int .i64 a1] w fun e w'=>e = .returned (.int .i64 r1)∧Kd.R (Kd.int .i64) 3 w' w0.heap.size (fun k_=>(P0_ k_∨w.heap.size ≤ k_)) u9000_ r2∧Below w0.heap.size w0 w'∧Kept w w' (fun k_=>P0_ k_):=by
 have z6:=af.mk (show Kd.R (Kd.int .i64) 3 w w0.heap.size (fun k_=>(P0_ k_∨w.heap.size ≤ k_)) u9000_ l0 from Kd.fO ho0 (fun k_ hk=>(.inl hk)));have HK:=af.mk (Kept.refl w (fun k_=>P0_ k_));have HW0:=af.mk hB.size;have HB:=af.mk hB;clear hB;have H:=h;unfold fq.f at H;clear h;have H':=af.mk H;clear H;go_enter func19,ntmps19
 go_wp2
 go_loopg [1,5] k (fun kq v1 v5 w'=>∃ (x0 : List Int) (x1 : Int) (x2 : Int),v1 = .int .i64 x1∧v5 = .int .i64 x2∧af (fq.l0 kq x0 x1 x2 = some (r1,r2))∧af (kq ≤ k)∧af (Kd.R (Kd.int .i64) 3 w' w0.heap.size (fun k_=>(P0_ k_∨w.heap.size ≤ k_)) u9000_ x0)∧af (Kept w w' (fun k_=>P0_ k_))∧af (Below w0.heap.size w0 w'))
 case atStart=>exact ⟨(l0),(a1),(0),fw,fw,H',⟨Nat.le_refl _⟩,⟨lI z6.o⟩,⟨by repeat (first | (with_reducible first | exact HK.o | apply Kept.alloc | apply Kept.drewN | apply Kept.drew) | exact HK.o)⟩,lD HB⟩
 case round =>
  clear H';obtain ⟨x0,x1,x2,rfl,rfl,HA,HK1,z0,HK,HB⟩:=hrel;cases gk with
  | zero=>exact absurd HA.o (by simp [fq.l0])
  | succ k1 =>
   have H:=HA.o;clear HA;simp only [fq.l0] at H;replace H:=gy H;rcases H with ⟨c3,H⟩ | ⟨c3,H⟩
   ·have z7:=decide_eq_false c3;clear c3;simp only [Option.some.injEq,Prod.mk.injEq] at H;obtain ⟨rfl,rfl⟩:=H;obtain ⟨ze,zf,z8⟩:=Kd.aH z0.o;subst z8
    go_wp2
    go_ret
    exact ⟨qB,lI z0.o,by repeat (first | (with_reducible first | exact HB.o | apply gP | apply fV | apply mr) | exact HB.o),by repeat (first | (with_reducible first | exact HK.o | apply Kept.alloc | apply Kept.drewN | apply Kept.drew) | exact HK.o)⟩
   have z7:=decide_eq_true c3;clear c3;replace H:=gy H;rcases H with ⟨c4,H⟩ | ⟨c4,H⟩
   ·cases H
   have zg:=decide_eq_true c4;clear c4;obtain ⟨z2,z1⟩ : ∃ y_ : List Int,y_ = (x0.set (x2 : Int).toNat x1):=⟨_,rfl⟩
   replace H : (fq.l0 k1 z2 (wrap64 (x1 + 1)) (wrap64 (x2 + 1))) = some (r1,r2):=sj z1 H
   have z9:=af.mk z1;clear z1;have H':=af.mk H;clear H;obtain ⟨zh,za,zb⟩:=Kd.aH z0.o;subst zb;have p5 : 0 ≤ (x2 : Int):=df;have q5 : (x2 : Int) < ((x0.length : Int) : Int):=df;obtain ⟨go5,zi,z4,gb0,zc,zj,z5⟩:=Kd.wF z0.o (by omega)
   (first | cases z4 | (injection z4 with ea_ en_ ec_;(first | subst ea_ | (injection ea_ with ea_;subst ea_));subst ec_;clear en_))
   have zd:=af.mk gb0;have zk:=af.mk z5;clear gb0 zc z5;have HMgo5:=af.mk (show (P0_ go5∨w.heap.size ≤ go5) from (z0.o.1 _ rfl));obtain ⟨zl,zm⟩:=Kd.Af 0 z0.o (x2 : Int) p5 q5;replace p5:=eq_true p5;replace q5:=eq_true q5;have z3:=Kd.Bz z0.o (x2 : Int) x1;go_wp2_with (first | ((with_reducible refine pX (t:=3) (p:=15) rfl ?_);refine oM (t:=3) (p:=15) (v:=?vo_w8) (w1:=(wr.setCell ⟨go5,(x2 : Int).toNat,none⟩ (.int .i64 x1))) ?hg ?ho ?hn ?hr ?_;(case ho=>rfl);(case hg=>rfl);(case hn=>rfl);(case hr=>first | (go_simp;done) | (go_simp;rfl));intro w8 hw;have hg : wr.grownBy w8 (some go5):=(by rw [hw];exact z3.2);have hp_ : Kd.R (Kd.int .i64) 3 w8 w0.heap.size (fun k_=>(P0_ k_∨w.heap.size ≤ k_)) (.slice (some ⟨go5,0,none⟩) x0.length za) z2:=(by rw [hw,z9.o];exact z3.1);clear z3;replace HB:=af.mk ((by rw [hw];exact gX (HB.o) zd.o : Below w0.heap.size w0 w8));replace HK:=af.mk (Kept.tF (S:=(fun k_=>P0_ k_)) hg (by repeat (first | (with_reducible first | exact HK.o | apply Kept.alloc | apply Kept.drewN | apply Kept.drew) | exact HK.o)) (fun k_ e_=>(z0.o.1 k_ e_)));replace z0:=af.mk (hp_);clear hg hw hp_));go_roundg k1
   case measure=>have:=HK1.o;omega
   case rel=>exact ⟨(z2),(wrap64 (x1 + 1)),(wrap64 (x2 + 1)),fw,fw,H',⟨by have:=HK1.o;omega⟩,⟨lI z0.o⟩,⟨by repeat (first | (with_reducible first | exact HK.o | apply Kept.alloc | apply Kept.drewN | apply Kept.drew) | exact HK.o)⟩,lD HB⟩
-- NOT PRINTED: function 46 (laws_markRefValS)
theorem oQ.calls (k : Nat) (ai : Int) (P0_1_ : Nat→Prop) (u9000_ : Value) (av : List Int) (a1 : Int) (r1 : Int) (r2 : List Int) (w0 w : World) (hB : Below w0.heap.size w0 w) (ho0_1 : Kd.R (Kd.int .i64) 3 w w0.heap.size P0_1_ u9000_ av) (h : oQ.f k ai av a1 = some (r1,r2)) :
  Calls prog 47 #[.agg #[.int .i64 ai,u9000_],.int .i64 a1] w fun e w'=>e = .returned (.int .i64 r1)∧Kd.R (Kd.int .i64) 3 w' w0.heap.size (fun k_=>(P0_1_ k_∨w.heap.size ≤ k_)) u9000_ r2∧Below w0.heap.size w0 w'∧Kept w w' (fun k_=>P0_1_ k_):=by
 have hu32:=underlying32;have z0:=af.mk (show Kd.R (Kd.int .i64) 3 w w0.heap.size (fun k_=>(P0_1_ k_∨w.heap.size ≤ k_)) u9000_ av from Kd.fO ho0_1 (fun k_ hk=>(.inl hk)));have HK:=af.mk (Kept.refl w (fun k_=>P0_1_ k_));have HW0:=af.mk hB.size;have HB:=af.mk hB;clear hB;have H:=h;unfold oQ.f at H;clear h;replace H:=bK H;obtain ⟨⟨t0,t1⟩,A3,H⟩:=H;(try dsimp only at H);simp only [Option.some.injEq,Prod.mk.injEq] at H;obtain ⟨rfl,rfl⟩:=H;obtain ⟨z1,z2,z4⟩:=Kd.aH z0.o;subst z4;go_enter func47,ntmps47;go_wp2_with (first | ((with_reducible refine gd 2 rfl ?_);refine Hu 2 #[.int .i64 ai,.slice z1 av.length z2] 32 ?_;intro gb0 hg w5 hbox hb;replace z0:=gI z0 hb;have B0:=af.mk (hbox);have GW0:=af.mk ((by rw [hg];exact (by first | exact HK.o.1 | exact (show Kept w _ (fun k_=>P0_1_ k_) from by repeat (first | (with_reducible first | exact HK.o | apply Kept.alloc | apply Kept.drewN | apply Kept.drew) | exact HK.o)).1) : w.heap.size ≤ gb0));replace HK:=af.mk (Kept.below (S:=(fun k_=>P0_1_ k_)) (by repeat (first | (with_reducible first | exact HK.o | apply Kept.alloc | apply Kept.drewN | apply Kept.drew) | exact HK.o)) hb);have GE0:=af.mk ((by rw [hg];exact (bA (ig HB)) : w0.heap.size ≤ gb0));replace HB:=bX HB hb;clear hb hbox hg;obtain ⟨_,_,_,_⟩:=bE B0) | ((with_reducible refine gf 19 rfl ?_);refine qJ rfl (some 8) func19 (fq.calls k (fun k_=>some k_ = (.slice z1 av.length z2 : Value).ownBlock) (.slice z1 av.length z2) av a1 t0 t1 w0 _ (ig HB) (Kd.nY rfl z0.o) A3.o) ?_;rintro e w7 ⟨rfl,z3,hb,hkp⟩;refine ⟨_,rfl,?_⟩;replace B0:=af.mk (AP (mH B0.o) hkp (fun hs_=>(fun e_=>(Kd.oV z0.o B0.o (by decide)) e_) hs_));replace z0:=af.mk (Kd.sW rfl z3 (fun k_ e_=>z0.o.1 k_ e_));replace HK:=af.mk (Kept.vT (S:=(fun k_=>P0_1_ k_)) (by repeat (first | (with_reducible first | exact HK.o | apply Kept.alloc | apply Kept.drewN | apply Kept.drew | refine Kept.setCell ?_ (.inr GW0.o) _) | exact HK.o)) hkp (fun k_ hs_=>(fun e_=>(z0.o.1 k_ e_.symm)) hs_));replace HB:=af.mk (hb);(try clear hb);(try clear hkp);(try clear z3)))
 go_ret
 exact ⟨qB,lI z0.o,by repeat (first | (with_reducible first | exact HB.o | apply gP | apply fV | apply mr | refine gX ?_ GE0.o) | exact HB.o),by repeat (first | (with_reducible first | exact HK.o | apply Kept.alloc | apply Kept.drewN | apply Kept.drew | refine Kept.setCell ?_ (.inr GW0.o) _) | exact HK.o)⟩
-- NOT PRINTED: function 13 (laws_markAbs)
theorem fo.calls (k : Nat) (A0 : Option Addr) (c0 : Nat) (l0 : List (bV)) (a1 : Int) (r : Int) (w : World) (hr0 : Kd.C mo w A0 l0.length l0) (hc0 : l0.length ≤ c0) (h : fo.f k l0 a1 = some r) :
  Calls prog 48 #[.slice A0 l0.length c0,.int .i64 a1] w fun e w'=>e = .returned (.int .i64 r)∧iU w w':=by
 have HR0:=af.mk hr0;have HC0:=af.mk hc0;clear hr0 hc0;have H:=h;unfold fo.f at H;clear h;have H':=af.mk H;clear H;go_enter func48,ntmps48
 go_wp2
 go_loopg [1,5] k (fun kq v1 v5 w'=>∃ (x0 : Int) (x1 : Int),v1 = .int .i64 x0∧v5 = .int .i64 x1∧af (fo.l0 kq l0 x0 x1 = some r)∧af (kq ≤ k)∧iU w w')
 case atStart=>exact ⟨(a1),(0),fw,fw,H',⟨Nat.le_refl _⟩,qE⟩
 case round =>
  clear H';obtain ⟨x0,x1,rfl,rfl,HA,HK1,⟨m1,rfl⟩⟩:=hrel;cases gk with
  | zero=>exact absurd HA.o (by simp [fo.l0])
  | succ k1 =>
   have H:=HA.o;clear HA;simp only [fo.l0] at H;replace H:=gy H;rcases H with ⟨c3,H⟩ | ⟨c3,H⟩
   ·have zt:=decide_eq_false c3;clear c3;obtain rfl:=Option.some.inj H
    go_wp2
    go_ret
    exact ⟨fw,qE⟩
   have zt:=decide_eq_true c3;clear c3;replace H:=gy H;rcases H with ⟨c4,H⟩ | ⟨c4,H⟩
   ·cases H
   have zG:=decide_eq_true c4;clear c4;replace H:=gy H;rcases H with ⟨c5,H⟩ | ⟨c5,H⟩
   ·have zu : (((ak l0 x1).f0) == x0) = false:=beq_eq_false_iff_ne.mpr c5;have zv : (((ak l0 x1).f0) != x0) = true:=bne_iff_ne.mpr c5;obtain rfl:=Option.some.inj H;have z0 : 0 ≤ (x1 : Int):=df;have z1 : x1 < (l0.length : Int):=df;obtain ⟨z4,z7,ze,zf,zg,zh⟩:=lF HR0.o x1 z0 z1;cases z7;replace z0:=eq_true z0;replace z1:=eq_true z1
    go_wp2
    go_ret
    exact ⟨fw,qE⟩
   have zu : (((ak l0 x1).f0) == x0) = true:=beq_iff_eq.mpr c5;have zv : (((ak l0 x1).f0) != x0) = false:=bne_eq_false_iff_eq.mpr c5;clear c5;replace H:=gy H;rcases H with ⟨c6,H⟩ | ⟨c6,H⟩
   ·have zw : (((ak l0 x1).f1) == (wrap64 (x0 + 1))) = false:=beq_eq_false_iff_ne.mpr c6;have zx : (((ak l0 x1).f1) != (wrap64 (x0 + 1))) = true:=bne_iff_ne.mpr c6;obtain rfl:=Option.some.inj H;have z0 : 0 ≤ (x1 : Int):=df;have z1 : x1 < (l0.length : Int):=df;obtain ⟨z4,z7,ze,zf,zg,zh⟩:=lF HR0.o x1 z0 z1;cases z7;replace z0:=eq_true z0;replace z1:=eq_true z1;have z2 : 0 ≤ (x1 : Int):=df;have z3 : x1 < (l0.length : Int):=df;obtain ⟨z8,z9,zi,zj,zk,zl⟩:=lF HR0.o x1 z2 z3;obtain rfl : z4 = z8:=(by injection z9);replace z2:=eq_true z2;replace z3:=eq_true z3
    go_wp2
    go_ret
    exact ⟨fw,qE⟩
   have zw : (((ak l0 x1).f1) == (wrap64 (x0 + 1))) = true:=beq_iff_eq.mpr c6;have zx : (((ak l0 x1).f1) != (wrap64 (x0 + 1))) = false:=bne_eq_false_iff_eq.mpr c6;clear c6;replace H:=gy H;rcases H with ⟨c7,H⟩ | ⟨c7,H⟩
   ·have zy : (((ak l0 x1).f2) == (wrap64 ((wrap64 (x0 + 1)) + 1))) = false:=beq_eq_false_iff_ne.mpr c7;have zz : (((ak l0 x1).f2) != (wrap64 ((wrap64 (x0 + 1)) + 1))) = true:=bne_iff_ne.mpr c7;obtain rfl:=Option.some.inj H;have z0 : 0 ≤ (x1 : Int):=df;have z1 : x1 < (l0.length : Int):=df;obtain ⟨z4,z7,ze,zf,zg,zh⟩:=lF HR0.o x1 z0 z1;cases z7;replace z0:=eq_true z0;replace z1:=eq_true z1;have z2 : 0 ≤ (x1 : Int):=df;have z3 : x1 < (l0.length : Int):=df;obtain ⟨z8,z9,zi,zj,zk,zl⟩:=lF HR0.o x1 z2 z3;obtain rfl : z4 = z8:=(by injection z9);replace z2:=eq_true z2;replace z3:=eq_true z3;have z5 : 0 ≤ (x1 : Int):=df;have z6 : x1 < (l0.length : Int):=df;obtain ⟨zc,zd,zo,zp,zq,zr⟩:=lF HR0.o x1 z5 z6;obtain rfl : z4 = zc:=(by injection zd);replace z5:=eq_true z5;replace z6:=eq_true z6
    go_wp2
    go_ret
    exact ⟨fw,qE⟩
   have zy : (((ak l0 x1).f2) == (wrap64 ((wrap64 (x0 + 1)) + 1))) = true:=beq_iff_eq.mpr c7;have zz : (((ak l0 x1).f2) != (wrap64 ((wrap64 (x0 + 1)) + 1))) = false:=bne_eq_false_iff_eq.mpr c7;clear c7;replace H:=gy H;rcases H with ⟨c8,H⟩ | ⟨c8,H⟩
   ·have zA : (((ak l0 x1).f3) == (wrap64 ((wrap64 ((wrap64 (x0 + 1)) + 1)) + 1))) = false:=beq_eq_false_iff_ne.mpr c8;have zB : (((ak l0 x1).f3) != (wrap64 ((wrap64 ((wrap64 (x0 + 1)) + 1)) + 1))) = true:=bne_iff_ne.mpr c8;obtain rfl:=Option.some.inj H;have z0 : 0 ≤ (x1 : Int):=df;have z1 : x1 < (l0.length : Int):=df;obtain ⟨z4,z7,ze,zf,zg,zh⟩:=lF HR0.o x1 z0 z1;cases z7;replace z0:=eq_true z0;replace z1:=eq_true z1;have z2 : 0 ≤ (x1 : Int):=df;have z3 : x1 < (l0.length : Int):=df;obtain ⟨z8,z9,zi,zj,zk,zl⟩:=lF HR0.o x1 z2 z3;obtain rfl : z4 = z8:=(by injection z9);replace z2:=eq_true z2;replace z3:=eq_true z3;have z5 : 0 ≤ (x1 : Int):=df;have z6 : x1 < (l0.length : Int):=df;obtain ⟨zc,zd,zo,zp,zq,zr⟩:=lF HR0.o x1 z5 z6;obtain rfl : z4 = zc:=(by injection zd);replace z5:=eq_true z5;replace z6:=eq_true z6;have za : 0 ≤ (x1 : Int):=df;have zb : x1 < (l0.length : Int):=df;obtain ⟨zm,zn,zC,zD,zE,zF⟩:=lF HR0.o x1 za zb;obtain rfl : z4 = zm:=(by injection zn);replace za:=eq_true za;replace zb:=eq_true zb
    go_wp2
    go_ret
    exact ⟨fw,qE⟩
   have zA : (((ak l0 x1).f3) == (wrap64 ((wrap64 ((wrap64 (x0 + 1)) + 1)) + 1))) = true:=beq_iff_eq.mpr c8;have zB : (((ak l0 x1).f3) != (wrap64 ((wrap64 ((wrap64 (x0 + 1)) + 1)) + 1))) = false:=bne_eq_false_iff_eq.mpr c8;clear c8;have H':=af.mk H;clear H;have z0 : 0 ≤ (x1 : Int):=df;have z1 : x1 < (l0.length : Int):=df;obtain ⟨z4,z7,ze,zf,zg,zh⟩:=lF HR0.o x1 z0 z1;cases z7;replace z0:=eq_true z0;replace z1:=eq_true z1;have z2 : 0 ≤ (x1 : Int):=df;have z3 : x1 < (l0.length : Int):=df;obtain ⟨z8,z9,zi,zj,zk,zl⟩:=lF HR0.o x1 z2 z3;obtain rfl : z4 = z8:=(by injection z9);replace z2:=eq_true z2;replace z3:=eq_true z3;have z5 : 0 ≤ (x1 : Int):=df;have z6 : x1 < (l0.length : Int):=df;obtain ⟨zc,zd,zo,zp,zq,zr⟩:=lF HR0.o x1 z5 z6;obtain rfl : z4 = zc:=(by injection zd);replace z5:=eq_true z5;replace z6:=eq_true z6;have za : 0 ≤ (x1 : Int):=df;have zb : x1 < (l0.length : Int):=df;obtain ⟨zm,zn,zC,zD,zE,zF⟩:=lF HR0.o x1 za zb;obtain rfl : z4 = zm:=(by injection zn);replace za:=eq_true za;replace zb:=eq_true zb
   go_wp2
   go_roundg k1
   case measure=>have:=HK1.o;omega
   case rel=>exact ⟨(wrap64 ((wrap64 ((wrap64 ((wrap64 (x0 + 1)) + 1)) + 1)) + 1)),(wrap64 (x1 + 1)),fw,fw,H',⟨by have:=HK1.o;omega⟩,qE⟩
theorem eH.calls (k : Nat) (A0 : Option Addr) (c0 : Nat) (l0 : List Int) (a1 : Int) (r : Int) (w : World) (hr0 : Kd.C (Kd.int .i64) w A0 l0.length l0) (hc0 : l0.length ≤ c0) (h : eH.f k l0 a1 = some r) :
  Calls prog 115 #[.slice A0 l0.length c0,.int .i64 a1] w fun e w'=>e = .returned (.int .i64 r)∧iU w w':=by
 have HR0:=af.mk hr0;have HC0:=af.mk hc0;clear hr0 hc0;have H:=h;unfold eH.f at H;clear h;have H':=af.mk H;clear H;go_enter func115,ntmps115
 go_wp2
 go_loopg [1,5] k (fun kq v1 v5 w'=>∃ (x0 : Int) (x1 : Int),v1 = .int .i64 x0∧v5 = .int .i64 x1∧af (eH.l0 kq l0 x0 x1 = some r)∧af (kq ≤ k)∧iU w w')
 case atStart=>exact ⟨(a1),(0),fw,fw,H',⟨Nat.le_refl _⟩,qE⟩
 case round =>
  clear H';obtain ⟨x0,x1,rfl,rfl,HA,HK1,⟨m1,rfl⟩⟩:=hrel;cases gk with
  | zero=>exact absurd HA.o (by simp [eH.l0])
  | succ k1 =>
   have H:=HA.o;clear HA;simp only [eH.l0] at H;replace H:=gy H;rcases H with ⟨c3,H⟩ | ⟨c3,H⟩
   ·have z3:=decide_eq_false c3;clear c3;obtain rfl:=Option.some.inj H
    go_wp2
    go_ret
    exact ⟨fw,qE⟩
   have z3:=decide_eq_true c3;clear c3;replace H:=gy H;rcases H with ⟨c4,H⟩ | ⟨c4,H⟩
   ·cases H
   have z8:=decide_eq_true c4;clear c4;replace H:=gy H;rcases H with ⟨c5,H⟩ | ⟨c5,H⟩
   ·have z4 : ((rd l0 x1) == x0) = false:=beq_eq_false_iff_ne.mpr c5;have z5 : ((rd l0 x1) != x0) = true:=bne_iff_ne.mpr c5;obtain rfl:=Option.some.inj H;have z0 : 0 ≤ (x1 : Int):=df;have z1 : x1 < (l0.length : Int):=df;obtain ⟨z6,z2,z7⟩:=Kd.eB HR0.o x1 z0 z1;cases z2;replace z0:=eq_true z0;replace z1:=eq_true z1
    go_wp2
    go_ret
    exact ⟨fw,qE⟩
   have z4 : ((rd l0 x1) == x0) = true:=beq_iff_eq.mpr c5;have z5 : ((rd l0 x1) != x0) = false:=bne_eq_false_iff_eq.mpr c5;clear c5;have H':=af.mk H;clear H;have z0 : 0 ≤ (x1 : Int):=df;have z1 : x1 < (l0.length : Int):=df;obtain ⟨z6,z2,z7⟩:=Kd.eB HR0.o x1 z0 z1;cases z2;replace z0:=eq_true z0;replace z1:=eq_true z1
   go_wp2
   go_roundg k1
   case measure=>have:=HK1.o;omega
   case rel=>exact ⟨(wrap64 (x0 + 1)),(wrap64 (x1 + 1)),fw,fw,H',⟨by have:=HK1.o;omega⟩,qE⟩
theorem fe.calls (k : Nat) (A0 : Option Addr) (c0 : Nat) (l0 : List (fT)) (a1 : Int) (r : Int) (w : World) (hr0 : Kd.C pW w A0 l0.length l0) (hc0 : l0.length ≤ c0) (h : fe.f k l0 a1 = some r) :
  Calls prog 49 #[.slice A0 l0.length c0,.int .i64 a1] w fun e w'=>e = .returned (.int .i64 r)∧iU w w':=by
 have HR0:=af.mk hr0;have HC0:=af.mk hc0;clear hr0 hc0;have H:=h;unfold fe.f at H;clear h;have H':=af.mk H;clear H;go_enter func49,ntmps49
 go_wp2
 go_loopg [1,5] k (fun kq v1 v5 w'=>∃ (x0 : Int) (x1 : Int),v1 = .int .i64 x0∧v5 = .int .i64 x1∧af (fe.l0 kq l0 x0 x1 = some r)∧af (kq ≤ k)∧iU w w')
 case atStart=>exact ⟨(a1),(0),fw,fw,H',⟨Nat.le_refl _⟩,qE⟩
 case round =>
  clear H';obtain ⟨x0,x1,rfl,rfl,HA,HK1,⟨m1,rfl⟩⟩:=hrel;cases gk with
  | zero=>exact absurd HA.o (by simp [fe.l0])
  | succ k1 =>
   have H:=HA.o;clear HA;simp only [fe.l0] at H;replace H:=gy H;rcases H with ⟨c3,H⟩ | ⟨c3,H⟩
   ·have jq:=decide_eq_false c3;clear c3;obtain rfl:=Option.some.inj H
    go_wp2
    go_ret
    exact ⟨fw,qE⟩
   have jq:=decide_eq_true c3;clear c3;replace H:=gy H;rcases H with ⟨c4,H⟩ | ⟨c4,H⟩
   ·cases H
   have jM:=decide_eq_true c4;clear c4;replace H:=qc H;rcases H with ⟨c5,H⟩ | ⟨c5,H⟩
   ·have jr : (((ag l0 x1).f0) != ((Int.tmod x0 3) == 0)) = true:=c5
    (try (have js : decide (((ag l0 x1).f0) = ((Int.tmod x0 3) == 0)) = false:=by simpa using c5))
    (try (have jt : (((ag l0 x1).f0) == ((Int.tmod x0 3) == 0)) = false:=by simpa using c5))
    (try (have jN : ¬ (((ag l0 x1).f0) = ((Int.tmod x0 3) == 0)):=by simpa using c5))
    clear c5;obtain rfl:=Option.some.inj H;have z0 : 0 ≤ (x1 : Int):=df;have z1 : x1 < (l0.length : Int):=df;obtain ⟨z2,zB,zC,zg,zD,z3,zE,zF,zG,zH,z6,z7⟩:=ik HR0.o x1 z0 z1;cases zg;have zI:=af.mk z7;have zJ:=af.mk z6;clear z7 z6;replace z0:=eq_true z0;replace z1:=eq_true z1
    go_wp2
    go_ret
    exact ⟨fw,qE⟩
   have jr : (((ag l0 x1).f0) != ((Int.tmod x0 3) == 0)) = false:=by simpa using c5
   (try (have js : decide (((ag l0 x1).f0) = ((Int.tmod x0 3) == 0)) = true:=by simpa using c5))
   (try (have jt : (((ag l0 x1).f0) == ((Int.tmod x0 3) == 0)) = true:=by simpa using c5))
   clear c5;replace H:=bK H;obtain ⟨t0,A6,H⟩:=H;(try dsimp only at H);replace H:=qc H;rcases H with ⟨c7,H⟩ | ⟨c7,H⟩
   ·have ju:=decide_eq_true c7;clear c7;obtain rfl:=Option.some.inj H;have z0 : 0 ≤ (x1 : Int):=df;have z1 : x1 < (l0.length : Int):=df;obtain ⟨z2,zB,zC,zg,zD,z3,zE,zF,zG,zH,z6,z7⟩:=ik HR0.o x1 z0 z1;cases zg;have zI:=af.mk z7;have zJ:=af.mk z6;clear z7 z6;replace z0:=eq_true z0;replace z1:=eq_true z1;have z4 : 0 ≤ (x1 : Int):=df;have z5 : x1 < (l0.length : Int):=df;obtain ⟨zh,zK,zL,zi,zM,zj,zN,zO,zP,zQ,za,zb⟩:=ik HR0.o x1 z4 z5;obtain rfl : z2 = zh:=(by injection zi);have zk:=af.mk zb;have zl:=af.mk za;clear zb za;replace z4:=eq_true z4;replace z5:=eq_true z5;have ea_:=Option.some.inj (z3.symm.trans zj);injection ea_ with ea_ en_ ec_;subst ea_;subst ec_;clear en_;go_wp2_with (first | ((with_reducible refine gf 115 rfl ?_);refine mD rfl (some 29) func115 (eH.calls _ _ _ _ _ _ _ (bN zk.o) zl.o A6.o) ?_;intro nd))
    go_ret
    exact ⟨fw,qE⟩
   have ju:=decide_eq_false c7;clear c7;replace H:=gy H;rcases H with ⟨c8,H⟩ | ⟨c8,H⟩
   ·have jv : (((ag l0 x1).f2.f0) == t0) = false:=beq_eq_false_iff_ne.mpr c8;have jw : (((ag l0 x1).f2.f0) != t0) = true:=bne_iff_ne.mpr c8;obtain rfl:=Option.some.inj H;have z0 : 0 ≤ (x1 : Int):=df;have z1 : x1 < (l0.length : Int):=df;obtain ⟨z2,zB,zC,zg,zD,z3,zE,zF,zG,zH,z6,z7⟩:=ik HR0.o x1 z0 z1;cases zg;have zI:=af.mk z7;have zJ:=af.mk z6;clear z7 z6;replace z0:=eq_true z0;replace z1:=eq_true z1;have z4 : 0 ≤ (x1 : Int):=df;have z5 : x1 < (l0.length : Int):=df;obtain ⟨zh,zK,zL,zi,zM,zj,zN,zO,zP,zQ,za,zb⟩:=ik HR0.o x1 z4 z5;obtain rfl : z2 = zh:=(by injection zi);have zk:=af.mk zb;have zl:=af.mk za;clear zb za;replace z4:=eq_true z4;replace z5:=eq_true z5;have ea_:=Option.some.inj (z3.symm.trans zj);injection ea_ with ea_ en_ ec_;subst ea_;subst ec_;clear en_;go_wp2_with (first | ((with_reducible refine gf 115 rfl ?_);refine mD rfl (some 29) func115 (eH.calls _ _ _ _ _ _ _ (bN zk.o) zl.o A6.o) ?_;intro nd;have z8 : 0 ≤ (x1 : Int):=df;have z9 : x1 < (l0.length : Int):=df;obtain ⟨zq,zW,zX,zr,zY,zt,zZ,j0,j1,j2,ze,zf⟩:=ik HR0.o x1 z8 z9;obtain rfl : z2 = zq:=(by injection zr);have j3:=af.mk zf;have j4:=af.mk ze;clear zf ze;replace z8:=eq_true z8;replace z9:=eq_true z9;have ea_:=Option.some.inj (z3.symm.trans zt);injection ea_ with ea_ en_ ec_;subst ea_;subst ec_;clear en_))
    go_ret
    exact ⟨fw,qE⟩
   have jv : (((ag l0 x1).f2.f0) == t0) = true:=beq_iff_eq.mpr c8;have jw : (((ag l0 x1).f2.f0) != t0) = false:=bne_eq_false_iff_eq.mpr c8;clear c8;replace H:=gy H;rcases H with ⟨c9,H⟩ | ⟨c9,H⟩
   ·have jx : (((ag l0 x1).f2.f1) == (wrap64 (t0 + 1))) = false:=beq_eq_false_iff_ne.mpr c9;have jy : (((ag l0 x1).f2.f1) != (wrap64 (t0 + 1))) = true:=bne_iff_ne.mpr c9;obtain rfl:=Option.some.inj H;have z0 : 0 ≤ (x1 : Int):=df;have z1 : x1 < (l0.length : Int):=df;obtain ⟨z2,zB,zC,zg,zD,z3,zE,zF,zG,zH,z6,z7⟩:=ik HR0.o x1 z0 z1;cases zg;have zI:=af.mk z7;have zJ:=af.mk z6;clear z7 z6;replace z0:=eq_true z0;replace z1:=eq_true z1;have z4 : 0 ≤ (x1 : Int):=df;have z5 : x1 < (l0.length : Int):=df;obtain ⟨zh,zK,zL,zi,zM,zj,zN,zO,zP,zQ,za,zb⟩:=ik HR0.o x1 z4 z5;obtain rfl : z2 = zh:=(by injection zi);have zk:=af.mk zb;have zl:=af.mk za;clear zb za;replace z4:=eq_true z4;replace z5:=eq_true z5;have ea_:=Option.some.inj (z3.symm.trans zj);injection ea_ with ea_ en_ ec_;subst ea_;subst ec_;clear en_;go_wp2_with (first | ((with_reducible refine gf 115 rfl ?_);refine mD rfl (some 29) func115 (eH.calls _ _ _ _ _ _ _ (bN zk.o) zl.o A6.o) ?_;intro nd;have z8 : 0 ≤ (x1 : Int):=df;have z9 : x1 < (l0.length : Int):=df;obtain ⟨zq,zW,zX,zr,zY,zt,zZ,j0,j1,j2,ze,zf⟩:=ik HR0.o x1 z8 z9;obtain rfl : z2 = zq:=(by injection zr);have j3:=af.mk zf;have j4:=af.mk ze;clear zf ze;replace z8:=eq_true z8;replace z9:=eq_true z9;have ea_:=Option.some.inj (z3.symm.trans zt);injection ea_ with ea_ en_ ec_;subst ea_;subst ec_;clear en_;have zc : 0 ≤ (x1 : Int):=df;have zd : x1 < (l0.length : Int):=df;obtain ⟨zw,j5,j6,zx,j7,zy,j8,j9,ja,jb,zm,zn⟩:=ik HR0.o x1 zc zd;obtain rfl : z2 = zw:=(by injection zx);have jc:=af.mk zn;have jd:=af.mk zm;clear zn zm;replace zc:=eq_true zc;replace zd:=eq_true zd;have ea_:=Option.some.inj (z3.symm.trans zy);injection ea_ with ea_ en_ ec_;subst ea_;subst ec_;clear en_))
    go_ret
    exact ⟨fw,qE⟩
   have jx : (((ag l0 x1).f2.f1) == (wrap64 (t0 + 1))) = true:=beq_iff_eq.mpr c9;have jy : (((ag l0 x1).f2.f1) != (wrap64 (t0 + 1))) = false:=bne_eq_false_iff_eq.mpr c9;clear c9;replace H:=gy H;rcases H with ⟨c10,H⟩ | ⟨c10,H⟩
   ·have jz : (((ag l0 x1).f2.f2) == (wrap64 ((wrap64 (t0 + 1)) + 1))) = false:=beq_eq_false_iff_ne.mpr c10;have jA : (((ag l0 x1).f2.f2) != (wrap64 ((wrap64 (t0 + 1)) + 1))) = true:=bne_iff_ne.mpr c10;obtain rfl:=Option.some.inj H;have z0 : 0 ≤ (x1 : Int):=df;have z1 : x1 < (l0.length : Int):=df;obtain ⟨z2,zB,zC,zg,zD,z3,zE,zF,zG,zH,z6,z7⟩:=ik HR0.o x1 z0 z1;cases zg;have zI:=af.mk z7;have zJ:=af.mk z6;clear z7 z6;replace z0:=eq_true z0;replace z1:=eq_true z1;have z4 : 0 ≤ (x1 : Int):=df;have z5 : x1 < (l0.length : Int):=df;obtain ⟨zh,zK,zL,zi,zM,zj,zN,zO,zP,zQ,za,zb⟩:=ik HR0.o x1 z4 z5;obtain rfl : z2 = zh:=(by injection zi);have zk:=af.mk zb;have zl:=af.mk za;clear zb za;replace z4:=eq_true z4;replace z5:=eq_true z5;have ea_:=Option.some.inj (z3.symm.trans zj);injection ea_ with ea_ en_ ec_;subst ea_;subst ec_;clear en_;go_wp2_with (first | ((with_reducible refine gf 115 rfl ?_);refine mD rfl (some 29) func115 (eH.calls _ _ _ _ _ _ _ (bN zk.o) zl.o A6.o) ?_;intro nd;have z8 : 0 ≤ (x1 : Int):=df;have z9 : x1 < (l0.length : Int):=df;obtain ⟨zq,zW,zX,zr,zY,zt,zZ,j0,j1,j2,ze,zf⟩:=ik HR0.o x1 z8 z9;obtain rfl : z2 = zq:=(by injection zr);have j3:=af.mk zf;have j4:=af.mk ze;clear zf ze;replace z8:=eq_true z8;replace z9:=eq_true z9;have ea_:=Option.some.inj (z3.symm.trans zt);injection ea_ with ea_ en_ ec_;subst ea_;subst ec_;clear en_;have zc : 0 ≤ (x1 : Int):=df;have zd : x1 < (l0.length : Int):=df;obtain ⟨zw,j5,j6,zx,j7,zy,j8,j9,ja,jb,zm,zn⟩:=ik HR0.o x1 zc zd;obtain rfl : z2 = zw:=(by injection zx);have jc:=af.mk zn;have jd:=af.mk zm;clear zn zm;replace zc:=eq_true zc;replace zd:=eq_true zd;have ea_:=Option.some.inj (z3.symm.trans zy);injection ea_ with ea_ en_ ec_;subst ea_;subst ec_;clear en_;have zo : 0 ≤ (x1 : Int):=df;have zp : x1 < (l0.length : Int):=df;obtain ⟨zR,jh,ji,zS,jj,zT,jk,jl,jm,jn,zu,zv⟩:=ik HR0.o x1 zo zp;obtain rfl : z2 = zR:=(by injection zS);have jo:=af.mk zv;have jp:=af.mk zu;clear zv zu;replace zo:=eq_true zo;replace zp:=eq_true zp;have ea_:=Option.some.inj (z3.symm.trans zT);injection ea_ with ea_ en_ ec_;subst ea_;subst ec_;clear en_))
    go_ret
    exact ⟨fw,qE⟩
   have jz : (((ag l0 x1).f2.f2) == (wrap64 ((wrap64 (t0 + 1)) + 1))) = true:=beq_iff_eq.mpr c10;have jA : (((ag l0 x1).f2.f2) != (wrap64 ((wrap64 (t0 + 1)) + 1))) = false:=bne_eq_false_iff_eq.mpr c10;clear c10;replace H:=gy H;rcases H with ⟨c11,H⟩ | ⟨c11,H⟩
   ·have jB : (((ag l0 x1).f2.f3) == (wrap64 ((wrap64 ((wrap64 (t0 + 1)) + 1)) + 1))) = false:=beq_eq_false_iff_ne.mpr c11;have jC : (((ag l0 x1).f2.f3) != (wrap64 ((wrap64 ((wrap64 (t0 + 1)) + 1)) + 1))) = true:=bne_iff_ne.mpr c11;obtain rfl:=Option.some.inj H;have z0 : 0 ≤ (x1 : Int):=df;have z1 : x1 < (l0.length : Int):=df;obtain ⟨z2,zB,zC,zg,zD,z3,zE,zF,zG,zH,z6,z7⟩:=ik HR0.o x1 z0 z1;cases zg;have zI:=af.mk z7;have zJ:=af.mk z6;clear z7 z6;replace z0:=eq_true z0;replace z1:=eq_true z1;have z4 : 0 ≤ (x1 : Int):=df;have z5 : x1 < (l0.length : Int):=df;obtain ⟨zh,zK,zL,zi,zM,zj,zN,zO,zP,zQ,za,zb⟩:=ik HR0.o x1 z4 z5;obtain rfl : z2 = zh:=(by injection zi);have zk:=af.mk zb;have zl:=af.mk za;clear zb za;replace z4:=eq_true z4;replace z5:=eq_true z5;have ea_:=Option.some.inj (z3.symm.trans zj);injection ea_ with ea_ en_ ec_;subst ea_;subst ec_;clear en_;go_wp2_with (first | ((with_reducible refine gf 115 rfl ?_);refine mD rfl (some 29) func115 (eH.calls _ _ _ _ _ _ _ (bN zk.o) zl.o A6.o) ?_;intro nd;have z8 : 0 ≤ (x1 : Int):=df;have z9 : x1 < (l0.length : Int):=df;obtain ⟨zq,zW,zX,zr,zY,zt,zZ,j0,j1,j2,ze,zf⟩:=ik HR0.o x1 z8 z9;obtain rfl : z2 = zq:=(by injection zr);have j3:=af.mk zf;have j4:=af.mk ze;clear zf ze;replace z8:=eq_true z8;replace z9:=eq_true z9;have ea_:=Option.some.inj (z3.symm.trans zt);injection ea_ with ea_ en_ ec_;subst ea_;subst ec_;clear en_;have zc : 0 ≤ (x1 : Int):=df;have zd : x1 < (l0.length : Int):=df;obtain ⟨zw,j5,j6,zx,j7,zy,j8,j9,ja,jb,zm,zn⟩:=ik HR0.o x1 zc zd;obtain rfl : z2 = zw:=(by injection zx);have jc:=af.mk zn;have jd:=af.mk zm;clear zn zm;replace zc:=eq_true zc;replace zd:=eq_true zd;have ea_:=Option.some.inj (z3.symm.trans zy);injection ea_ with ea_ en_ ec_;subst ea_;subst ec_;clear en_;have zo : 0 ≤ (x1 : Int):=df;have zp : x1 < (l0.length : Int):=df;obtain ⟨zR,jh,ji,zS,jj,zT,jk,jl,jm,jn,zu,zv⟩:=ik HR0.o x1 zo zp;obtain rfl : z2 = zR:=(by injection zS);have jo:=af.mk zv;have jp:=af.mk zu;clear zv zu;replace zo:=eq_true zo;replace zp:=eq_true zp;have ea_:=Option.some.inj (z3.symm.trans zT);injection ea_ with ea_ en_ ec_;subst ea_;subst ec_;clear en_;have zz : 0 ≤ (x1 : Int):=df;have zA : x1 < (l0.length : Int):=df;obtain ⟨je,jD,jE,jf,jF,jg,jG,jH,jI,jJ,zU,zV⟩:=ik HR0.o x1 zz zA;obtain rfl : z2 = je:=(by injection jf);have jK:=af.mk zV;have jL:=af.mk zU;clear zV zU;replace zz:=eq_true zz;replace zA:=eq_true zA;have ea_:=Option.some.inj (z3.symm.trans jg);injection ea_ with ea_ en_ ec_;subst ea_;subst ec_;clear en_))
    go_ret
    exact ⟨fw,qE⟩
   have jB : (((ag l0 x1).f2.f3) == (wrap64 ((wrap64 ((wrap64 (t0 + 1)) + 1)) + 1))) = true:=beq_iff_eq.mpr c11;have jC : (((ag l0 x1).f2.f3) != (wrap64 ((wrap64 ((wrap64 (t0 + 1)) + 1)) + 1))) = false:=bne_eq_false_iff_eq.mpr c11;clear c11;have H':=af.mk H;clear H;have z0 : 0 ≤ (x1 : Int):=df;have z1 : x1 < (l0.length : Int):=df;obtain ⟨z2,zB,zC,zg,zD,z3,zE,zF,zG,zH,z6,z7⟩:=ik HR0.o x1 z0 z1;cases zg;have zI:=af.mk z7;have zJ:=af.mk z6;clear z7 z6;replace z0:=eq_true z0;replace z1:=eq_true z1;have z4 : 0 ≤ (x1 : Int):=df;have z5 : x1 < (l0.length : Int):=df;obtain ⟨zh,zK,zL,zi,zM,zj,zN,zO,zP,zQ,za,zb⟩:=ik HR0.o x1 z4 z5;obtain rfl : z2 = zh:=(by injection zi);have zk:=af.mk zb;have zl:=af.mk za;clear zb za;replace z4:=eq_true z4;replace z5:=eq_true z5;have ea_:=Option.some.inj (z3.symm.trans zj);injection ea_ with ea_ en_ ec_;subst ea_;subst ec_;clear en_;go_wp2_with (first | ((with_reducible refine gf 115 rfl ?_);refine mD rfl (some 29) func115 (eH.calls _ _ _ _ _ _ _ (bN zk.o) zl.o A6.o) ?_;intro nd;have z8 : 0 ≤ (x1 : Int):=df;have z9 : x1 < (l0.length : Int):=df;obtain ⟨zq,zW,zX,zr,zY,zt,zZ,j0,j1,j2,ze,zf⟩:=ik HR0.o x1 z8 z9;obtain rfl : z2 = zq:=(by injection zr);have j3:=af.mk zf;have j4:=af.mk ze;clear zf ze;replace z8:=eq_true z8;replace z9:=eq_true z9;have ea_:=Option.some.inj (z3.symm.trans zt);injection ea_ with ea_ en_ ec_;subst ea_;subst ec_;clear en_;have zc : 0 ≤ (x1 : Int):=df;have zd : x1 < (l0.length : Int):=df;obtain ⟨zw,j5,j6,zx,j7,zy,j8,j9,ja,jb,zm,zn⟩:=ik HR0.o x1 zc zd;obtain rfl : z2 = zw:=(by injection zx);have jc:=af.mk zn;have jd:=af.mk zm;clear zn zm;replace zc:=eq_true zc;replace zd:=eq_true zd;have ea_:=Option.some.inj (z3.symm.trans zy);injection ea_ with ea_ en_ ec_;subst ea_;subst ec_;clear en_;have zo : 0 ≤ (x1 : Int):=df;have zp : x1 < (l0.length : Int):=df;obtain ⟨zR,jh,ji,zS,jj,zT,jk,jl,jm,jn,zu,zv⟩:=ik HR0.o x1 zo zp;obtain rfl : z2 = zR:=(by injection zS);have jo:=af.mk zv;have jp:=af.mk zu;clear zv zu;replace zo:=eq_true zo;replace zp:=eq_true zp;have ea_:=Option.some.inj (z3.symm.trans zT);injection ea_ with ea_ en_ ec_;subst ea_;subst ec_;clear en_;have zz : 0 ≤ (x1 : Int):=df;have zA : x1 < (l0.length : Int):=df;obtain ⟨je,jD,jE,jf,jF,jg,jG,jH,jI,jJ,zU,zV⟩:=ik HR0.o x1 zz zA;obtain rfl : z2 = je:=(by injection jf);have jK:=af.mk zV;have jL:=af.mk zU;clear zV zU;replace zz:=eq_true zz;replace zA:=eq_true zA;have ea_:=Option.some.inj (z3.symm.trans jg);injection ea_ with ea_ en_ ec_;subst ea_;subst ec_;clear en_));go_roundg k1
   case measure=>have:=HK1.o;omega
   case rel=>exact ⟨(wrap64 ((wrap64 ((wrap64 ((wrap64 (t0 + 1)) + 1)) + 1)) + 1)),(wrap64 (x1 + 1)),fw,fw,H',⟨by have:=HK1.o;omega⟩,qE⟩
theorem nZ.calls (k : Nat) (ai : Int) (bB : Option Addr) (bu : Nat) (av : List Int) (a1 : Int) (r : Int) (w : World) (dB : Kd.C (Kd.int .i64) w bB av.length av) (dC : av.length ≤ bu) (h : nZ.f k ai av a1 = some r) :
  Calls prog 50 #[.agg #[.int .i64 ai,.slice bB av.length bu],.int .i64 a1] w fun e w'=>e = .returned (.int .i64 r)∧Below w.heap.size w w':=by
 have hu32:=underlying32;have bZ:=af.mk dB;have dN:=af.mk dC;clear dB dC;have HB:=af.mk (Below.refl w.heap.size w);have H:=h;unfold nZ.f at H;clear h;replace H:=bK H;obtain ⟨t0,A3,H⟩:=H;(try dsimp only at H);replace H:=qc H;rcases H with ⟨c4,H⟩ | ⟨c4,H⟩
 ·have z0:=decide_eq_true c4;clear c4;obtain rfl:=Option.some.inj H;go_enter func50,ntmps50;go_wp2_with (first | ((with_reducible refine gd 2 rfl ?_);refine eO 2 #[.int .i64 ai,.slice bB av.length bu] 32 HB ?_;clear HB;intro gb0 hg w5 hb B0 GW0 HB;clear hb hg;obtain ⟨_,_,_,_⟩:=bE B0) | ((with_reducible refine gf 115 rfl ?_);refine mD rfl (some 8) func115 (eH.calls _ _ _ _ _ _ _ (bN (Kd.aj bZ.o HB.o)) dN.o A3.o) ?_;intro nd))
  go_ret
  exact iw HB
 have z0:=decide_eq_false c4;clear c4;obtain rfl:=Option.some.inj H;go_enter func50,ntmps50;go_wp2_with (first | ((with_reducible refine gd 2 rfl ?_);refine eO 2 #[.int .i64 ai,.slice bB av.length bu] 32 HB ?_;clear HB;intro gb0 hg w7 hb B0 GW0 HB;clear hb hg;obtain ⟨_,_,_,_⟩:=bE B0) | ((with_reducible refine gf 115 rfl ?_);refine mD rfl (some 8) func115 (eH.calls _ _ _ _ _ _ _ (bN (Kd.aj bZ.o HB.o)) dN.o A3.o) ?_;intro nd))
 go_ret
 exact iw HB
theorem nX.calls (k : Nat) (ai : Bool) (bB : Option Addr) (bu : Nat) (av : List (bV)) (dS : Option Addr) (dD : Nat) (ay : List (fT)) (dK : Option Addr) (dE : Nat) (aK : List (bV)) (bf : Int) (dH : Option Addr) (dF : Nat) (bz : List Int) (a1 : Int) (r : Int) (w : World) (dB : Kd.C mo w bB av.length av) (dC : av.length ≤ bu) (iJ : Kd.C pW w dS ay.length ay) (iK : ay.length ≤ dD) (iL : Kd.C mo w dK aK.length aK) (iN : aK.length ≤ dE) (iM : Kd.C (Kd.int .i64) w dH bz.length bz) (iO : bz.length ≤ dF) (h : nX.f k ai av ay aK bf bz a1 = some r) :
  Calls prog 14 #[.agg #[.bool ai,.slice bB av.length bu,.slice dS ay.length dD,.slice dK aK.length dE,.int .i64 bf,.slice dH bz.length dF],.int .i64 a1] w fun e w'=>e = .returned (.int .i64 r)∧Below w.heap.size w w':=by
 have hu34:=underlying34;have hu32:=underlying32;have bZ:=af.mk dB;have dN:=af.mk dC;clear dB dC;have gY:=af.mk iJ;have lh:=af.mk iK;clear iJ iK;have iy:=af.mk iL;have lC:=af.mk iN;clear iL iN;have iE:=af.mk iM;have iF:=af.mk iO;clear iM iO;have HB:=af.mk (Below.refl w.heap.size w);have H:=h;unfold nX.f at H;clear h;replace H:=bK H;obtain ⟨t0,A3,H⟩:=H;(try dsimp only at H);replace H:=qc H;rcases H with ⟨c4,H⟩ | ⟨c4,H⟩
 ·have z0:=decide_eq_true c4;clear c4;obtain rfl:=Option.some.inj H;go_enter func14,ntmps14;go_wp2_with (first | ((with_reducible refine gd 2 rfl ?_);refine eO 2 #[.bool ai,.slice bB av.length bu,.slice dS ay.length dD,.slice dK aK.length dE,.int .i64 bf,.slice dH bz.length dF] 34 HB ?_;clear HB;intro gb0 hg w5 hb B0 GW0 HB;clear hb hg;obtain ⟨_,_,_,_,_,_,_,_,_,_,_,_⟩:=bH B0) | ((with_reducible refine gf 48 rfl ?_);refine mD rfl (some 8) func48 (fo.calls _ _ _ _ _ _ _ (bN (Kd.aj bZ.o HB.o)) dN.o A3.o) ?_;intro nd))
  go_ret
  exact iw HB
 have z0:=decide_eq_false c4;clear c4;replace H:=bK H;obtain ⟨t1,A7,H⟩:=H;(try dsimp only at H);replace H:=qc H;rcases H with ⟨c8,H⟩ | ⟨c8,H⟩
 ·have z1:=decide_eq_true c8;clear c8;obtain rfl:=Option.some.inj H;go_enter func14,ntmps14;go_wp2_with (first | ((with_reducible refine gd 2 rfl ?_);refine eO 2 #[.bool ai,.slice bB av.length bu,.slice dS ay.length dD,.slice dK aK.length dE,.int .i64 bf,.slice dH bz.length dF] 34 HB ?_;clear HB;intro gb0 hg w9 hb B0 GW0 HB;clear hb hg;obtain ⟨_,_,_,_,_,_,_,_,_,_,_,_⟩:=bH B0) | ((with_reducible refine gf 48 rfl ?_);refine mD rfl (some 8) func48 (fo.calls _ _ _ _ _ _ _ (bN (Kd.aj bZ.o HB.o)) dN.o A3.o) ?_;intro nd) | ((with_reducible refine gf 49 rfl ?_);refine mD rfl (some 14) func49 (fe.calls _ _ _ _ _ _ _ (bN (Kd.aj gY.o (ig HB))) lh.o A7.o) ?_;intro nd))
  go_ret
  exact iw HB
 have z1:=decide_eq_false c8;clear c8;replace H:=bK H;obtain ⟨t2,A11,H⟩:=H;(try dsimp only at H);replace H:=qc H;rcases H with ⟨c12,H⟩ | ⟨c12,H⟩
 ·have z2:=decide_eq_true c12;clear c12;obtain rfl:=Option.some.inj H;go_enter func14,ntmps14;go_wp2_with (first | ((with_reducible refine gd 2 rfl ?_);refine eO 2 #[.bool ai,.slice bB av.length bu,.slice dS ay.length dD,.slice dK aK.length dE,.int .i64 bf,.slice dH bz.length dF] 34 HB ?_;clear HB;intro gb0 hg w13 hb B0 GW0 HB;clear hb hg;obtain ⟨_,_,_,_,_,_,_,_,_,_,_,_⟩:=bH B0) | ((with_reducible refine gf 48 rfl ?_);refine mD rfl (some 8) func48 (fo.calls _ _ _ _ _ _ _ (bN (Kd.aj bZ.o HB.o)) dN.o A3.o) ?_;intro nd) | ((with_reducible refine gf 49 rfl ?_);refine mD rfl (some 14) func49 (fe.calls _ _ _ _ _ _ _ (bN (Kd.aj gY.o (ig HB))) lh.o A7.o) ?_;intro nd) | ((with_reducible refine gf 48 rfl ?_);refine mD rfl (some 20) func48 (fo.calls _ _ _ _ _ _ _ (bN (Kd.aj iy.o (ig HB))) lC.o A11.o) ?_;intro nd))
  go_ret
  exact iw HB
 have z2:=decide_eq_false c12;clear c12;replace H:=bK H;obtain ⟨t3,A15,H⟩:=H;(try dsimp only at H);replace H:=qc H;rcases H with ⟨c16,H⟩ | ⟨c16,H⟩
 ·have z3:=decide_eq_true c16;clear c16;obtain rfl:=Option.some.inj H;go_enter func14,ntmps14;go_wp2_with (first | ((with_reducible refine gd 2 rfl ?_);refine eO 2 #[.bool ai,.slice bB av.length bu,.slice dS ay.length dD,.slice dK aK.length dE,.int .i64 bf,.slice dH bz.length dF] 34 HB ?_;clear HB;intro gb0 hg w17 hb B0 GW0 HB;clear hb hg;obtain ⟨_,_,_,_,_,_,_,_,_,_,_,_⟩:=bH B0) | ((with_reducible refine gf 48 rfl ?_);refine mD rfl (some 8) func48 (fo.calls _ _ _ _ _ _ _ (bN (Kd.aj bZ.o HB.o)) dN.o A3.o) ?_;intro nd) | ((with_reducible refine gf 49 rfl ?_);refine mD rfl (some 14) func49 (fe.calls _ _ _ _ _ _ _ (bN (Kd.aj gY.o (ig HB))) lh.o A7.o) ?_;intro nd) | ((with_reducible refine gf 48 rfl ?_);refine mD rfl (some 20) func48 (fo.calls _ _ _ _ _ _ _ (bN (Kd.aj iy.o (ig HB))) lC.o A11.o) ?_;intro nd) | ((with_reducible refine gf 50 rfl ?_);refine eZ rfl (some 26) func50 (nZ.calls _ _ _ _ _ _ _ _ (bN (Kd.aj iE.o (ig HB))) iF.o A15.o) ?_;intro w19 hb;replace B0:=bF B0 hb;replace HB:=bX HB hb;(try clear hb)))
  go_ret
  exact iw HB
 have z3:=decide_eq_false c16;clear c16;obtain rfl:=Option.some.inj H;go_enter func14,ntmps14;go_wp2_with (first | ((with_reducible refine gd 2 rfl ?_);refine eO 2 #[.bool ai,.slice bB av.length bu,.slice dS ay.length dD,.slice dK aK.length dE,.int .i64 bf,.slice dH bz.length dF] 34 HB ?_;clear HB;intro gb0 hg w20 hb B0 GW0 HB;clear hb hg;obtain ⟨_,_,_,_,_,_,_,_,_,_,_,_⟩:=bH B0) | ((with_reducible refine gf 48 rfl ?_);refine mD rfl (some 8) func48 (fo.calls _ _ _ _ _ _ _ (bN (Kd.aj bZ.o HB.o)) dN.o A3.o) ?_;intro nd) | ((with_reducible refine gf 49 rfl ?_);refine mD rfl (some 14) func49 (fe.calls _ _ _ _ _ _ _ (bN (Kd.aj gY.o (ig HB))) lh.o A7.o) ?_;intro nd) | ((with_reducible refine gf 48 rfl ?_);refine mD rfl (some 20) func48 (fo.calls _ _ _ _ _ _ _ (bN (Kd.aj iy.o (ig HB))) lC.o A11.o) ?_;intro nd) | ((with_reducible refine gf 50 rfl ?_);refine eZ rfl (some 26) func50 (nZ.calls _ _ _ _ _ _ _ _ (bN (Kd.aj iE.o (ig HB))) iF.o A15.o) ?_;intro w22 hb;replace B0:=bF B0 hb;replace HB:=bX HB hb;(try clear hb)))
 go_ret
 exact iw HB
theorem dw.calls  (r1 : Int) (r2 : Int) (r3 : Int) (r4 : Int) (w : World) (h : dw.f  = some (r1,r2,r3,r4)) :
  Calls prog 93 #[] w fun e w'=>e = .returned (.agg #[.int .i64 r1,.int .i64 r2,.int .i64 r3,.int .i64 r4])∧Below w.heap.size w w':=by
 have hu58:=underlying58;have HB:=af.mk (Below.refl w.heap.size w);have H:=h;unfold dw.f at H;clear h;simp only [Option.some.injEq,Prod.mk.injEq] at H;obtain ⟨rfl,rfl,rfl,rfl⟩:=H;go_enter func93,ntmps93;go_wp2_with (first | ((with_reducible refine gd 0 rfl ?_);refine eO 0 #[.int .i64 0,.int .i64 0,.int .i64 0,.int .i64 0] 58 HB ?_;clear HB;intro gb0 hg w1 hb B0 GW0 HB;clear hb hg;obtain ⟨_,_,_,_,_,_,_,_⟩:=fU B0));refine iC #[.int .i64 1,.int .i64 0,.int .i64 0,.int .i64 0] (lV B0) underlying58 ?_;exact iw HB
theorem pI.calls (a0 : Int) (r1 : Int) (r2 : Int) (r3 : Int) (r4 : Int) (w : World) (h : pI.f a0 = some (r1,r2,r3,r4)) :
  Calls prog 123 #[.int .i64 a0] w fun e w'=>e = .returned (.agg #[.int .i64 r1,.int .i64 r2,.int .i64 r3,.int .i64 r4])∧Below w.heap.size w w':=by
 have hu58:=underlying58;have HB:=af.mk (Below.refl w.heap.size w);have H:=h;unfold pI.f at H;clear h;simp only [Option.some.injEq,Prod.mk.injEq] at H;obtain ⟨rfl,rfl,rfl,rfl⟩:=H;go_enter func123,ntmps123;go_wp2_with (first | ((with_reducible refine gd 2 rfl ?_);refine eO 2 #[.int .i64 0,.int .i64 0,.int .i64 0,.int .i64 0] 58 HB ?_;clear HB;intro gb0 hg w2 hb B0 GW0 HB;clear hb hg;obtain ⟨_,_,_,_,_,_,_,_⟩:=fU B0));refine iC #[.int .i64 a0,.int .i64 a0,.int .i64 0,.int .i64 a0] (lV B0) underlying58 ?_;exact iw HB
theorem iV.calls (a0 : Int) (a1 : Int) (a2 : Int) (r : Bool) (w : World) (h : iV.f a0 a1 a2 = some r) :
  Calls prog 120 #[.int .i64 a0,.int .i64 a1,.int .i64 a2] w fun e w'=>e = .returned (.bool r)∧iU w w':=by
 have H:=h;unfold iV.f at H;clear h;replace H:=qc H;rcases H with ⟨c4,H⟩ | ⟨c4,H⟩
 ·have z0 : decide (a1 ≤ a0) = true:=decide_eq_true c4;clear c4;obtain rfl:=Option.some.inj H;go_enter func120,ntmps120
  go_wp2
  go_ret
  exact ⟨fw,qE⟩
 have z0 : decide (a1 ≤ a0) = false:=decide_eq_false c4;clear c4;obtain rfl:=Option.some.inj H;go_enter func120,ntmps120
 go_wp2
 go_ret
 exact ⟨fw,qE⟩
theorem mQ.calls (a0 : Int) (r : Bool) (w : World) (h : mQ.f a0 = some r) :
  Calls prog 133 #[.int .i64 a0] w fun e w'=>e = .returned (.bool r)∧iU w w':=by
 have H:=h;unfold mQ.f at H;clear h;replace H:=bK H;obtain ⟨t0,A2,H⟩:=H;(try dsimp only at H);obtain rfl:=Option.some.inj H;go_enter func133,ntmps133;go_wp2_with (first | ((with_reducible refine gf 120 rfl ?_);refine mD rfl (some 4) func120 (iV.calls _ _ _ _ _ A2.o) ?_;intro nd))
 go_ret
 exact ⟨fw,qE⟩
theorem fH.calls  (r1 : Int) (r2 : Int) (w : World) (h : fH.f  = some (r1,r2)) :
  Calls prog 156 #[] w fun e w'=>e = .returned (.agg #[.int .i64 r1,.int .i64 r2])∧Below w.heap.size w w':=by
 have hu108:=underlying108;have HB:=af.mk (Below.refl w.heap.size w);have H:=h;unfold fH.f at H;clear h;simp only [Option.some.injEq,Prod.mk.injEq] at H;obtain ⟨rfl,rfl⟩:=H;go_enter func156,ntmps156;go_wp2_with (first | ((with_reducible refine gd 0 rfl ?_);refine eO 0 #[.int .i64 0,.int .i64 0] 108 HB ?_;clear HB;intro gb0 hg w1 hb B0 GW0 HB;clear hb hg;obtain ⟨_,_,_,_⟩:=bE B0));refine iC #[.int .i64 1,.int .i64 0] (lV B0) underlying108 ?_;exact iw HB
attribute [local go_sem high] xq
def bT.T1 : Bool × List (List Nat × List Nat):=(true,[([],[]),([],[]),([0,1],[0,1]),([2,1],[2]),([3],[3]),([4,3],[3,4]),([5,3,3],[3,5]),([6,6,3],[3,6]),([7],[7]),([8,7],[7,8]),([9,7,7],[7,9]),([7,10,3],[3,7,10]),([11,10,3],[3,11]),([12],[12]),([13,12],[12,13]),([12],[12]),([15,12],[12,15]),([14,16,12],[12,14,16]),([12,17,3],[3,12,17]),([3,18],[3,18]),([19,12,0,1,2,3,4,5,6,7,8,9,10,11,12,13,14,15,16,17,18,19],[19])])
def bT.B1 : List Nat:=[0,0,3,7,15,31,63,127,255,511,1023,2047,4095,8191,16383,8191,40959,131071,262143,524287,1048575]
theorem bT.qo : l9 .any (opsOf f154 1) = bT.T1:=by kernel_rfl
theorem bT.nP : fQ bT.T1.2 bT.B1 = true:=by kernel_rfl
theorem bT.calls (ai : Int) (aD : Int) (r : Bool) (w : World) (h : bT.f ai aD = some r) :
  Calls prog 154 #[.agg #[.int .i64 ai,.int .i64 aD]] w fun e w'=>e = .returned (.bool r)∧Below w.heap.size w w':=by
 have hu108:=underlying108;have HB:=af.mk (Below.refl w.heap.size w);have H:=h;unfold bT.f at H;clear h;replace H:=bK H;obtain ⟨⟨t0,t1⟩,A2,H⟩:=H;(try dsimp only at H);replace H:=qc H;rcases H with ⟨c3,H⟩ | ⟨c3,H⟩
 ·have z0 : (ai == t0 && (aD == t1)) = true:=c3
  (try (have z1 : decide (ai = t0 && (aD == t1)) = true:=by simpa using c3))
  (try (have z2 : (ai == t0 && (aD == t1)) = true:=by simpa using c3))
  clear c3;obtain rfl:=Option.some.inj H;go_enter func154,ntmps154
  try go_wp2_with (first | ((with_reducible refine gd 1 rfl ?_);refine eO 1 #[.int .i64 ai,.int .i64 aD] 108 HB ?_;clear HB;intro gb0 hg w4 hb B0 GW0 HB;clear hb hg))
  replace B0:=bU B0;replace HB:=iI HB;refine mI 21 (fun w'=>rf w' gb0 (.int .i64 ai) (.int .i64 aD)) gu (fun hHeld=>?_);refine bD bT.qo bT.nP (fun ax dM=>?_);generalize w4.drew = w5 at B0 HB hHeld ⊢;refine fA ax dM 0 3 hHeld ?_;refine gL ax 1 4 (fun K hK=>?_);refine fF rfl func156 (fH.calls _ _ _ A2.o) ?_;intro w6 hb;replace B0:=bF B0 hb;replace HB:=bX HB hb;(try clear hb);refine hK.out _ _ gu (fun hHeld=>?_);clear hK K;refine bP ?_;refine bC ax 2 5 ?_;refine bC ax 3 6 ?_;refine bY ax 4 7 ?_;refine bY ax 5 8 ?_;refine bY ax 6 9 ?_;refine bY ax 7 10 ?_;refine bY ax 8 11 ?_;refine bY ax 9 12 ?_;refine bY ax 10 13 ?_;refine bY ax 11 14 ?_;refine bY ax 12 15 ?_;refine bY ax 13 16 ?_;refine bY ax 14 17 ?_;refine bY ax 15 18 ?_;refine bY ax 16 19 ?_;refine bY ax 17 20 ?_;refine bY ax 18 21 ?_;refine bC ax 19 22 ?_;refine bC ax 20 2 ?_;refine eX (cO ax.o (by kernel_rfl)) ?_
  try go_wp2
  go_ret
  exact iw HB
 have z0 : (ai == t0 && (aD == t1)) = false:=by simpa using c3
 (try (have z1 : decide (ai = t0 && (aD == t1)) = false:=by simpa using c3))
 (try (have z2 : (ai == t0 && (aD == t1)) = false:=by simpa using c3))
 (try (have z3 : ¬ (ai = t0 && (aD == t1)):=by simpa using c3))
 clear c3;replace H:=bK H;obtain ⟨t2,A7,H⟩:=H;(try dsimp only at H);rcases qm (t2 = true) with c8 | c8
 ·replace c8:=Bool.eq_false_iff.mpr c8;subst c8;rw [gD] at H;obtain rfl:=Option.some.inj H;go_enter func154,ntmps154
  try go_wp2_with (first | ((with_reducible refine gd 1 rfl ?_);refine eO 1 #[.int .i64 ai,.int .i64 aD] 108 HB ?_;clear HB;intro gb0 hg w17 hb B0 GW0 HB;clear hb hg))
  replace B0:=bU B0;replace HB:=iI HB;refine mI 21 (fun w'=>rf w' gb0 (.int .i64 ai) (.int .i64 aD)) gu (fun hHeld=>?_);refine bD bT.qo bT.nP (fun ax dM=>?_);generalize w17.drew = w18 at B0 HB hHeld ⊢;refine fA ax dM 0 3 hHeld ?_;refine gL ax 1 4 (fun K hK=>?_);refine fF rfl func156 (fH.calls _ _ _ A2.o) ?_;intro w19 hb;replace B0:=bF B0 hb;replace HB:=bX HB hb;(try clear hb);refine hK.out _ _ gu (fun hHeld=>?_);clear hK K;refine bP ?_;refine bC ax 2 5 ?_;refine bC ax 3 6 ?_;refine bC ax 4 7 ?_;refine fA ax dM 5 8 hHeld ?_;refine gL ax 6 9 (fun K hK=>?_);refine su rfl func133 (mQ.calls _ _ _ A7.o) ?_;intro nd;refine hK.out _ _ gu (fun hHeld=>?_);clear hK K;refine bP ?_;refine bC ax 7 10 ?_;refine bY ax 8 11 ?_;refine bY ax 9 12 ?_;refine bY ax 10 13 ?_;refine bC ax 11 14 ?_;refine bC ax 12 15 ?_;refine bY ax 13 16 ?_;refine bY ax 14 17 ?_;refine bY ax 15 18 ?_;refine bY ax 16 19 ?_;refine bY ax 17 20 ?_;refine bC ax 18 21 ?_;refine bC ax 19 22 ?_;refine bC ax 20 2 ?_;refine eX (cO ax.o (by kernel_rfl)) ?_
  try go_wp2
  go_ret
  exact iw HB
 subst c8;rw [if_pos rfl] at H;replace H:=bK H;obtain ⟨t3,A9,H⟩:=H;(try dsimp only at H)
 by_cases c10 : t3 = true
 ·subst c10;rw [if_pos rfl] at H;obtain rfl:=Option.some.inj H;go_enter func154,ntmps154
  try go_wp2_with (first | ((with_reducible refine gd 1 rfl ?_);refine eO 1 #[.int .i64 ai,.int .i64 aD] 108 HB ?_;clear HB;intro gb0 hg w11 hb B0 GW0 HB;clear hb hg))
  replace B0:=bU B0;replace HB:=iI HB;refine mI 21 (fun w'=>rf w' gb0 (.int .i64 ai) (.int .i64 aD)) gu (fun hHeld=>?_);refine bD bT.qo bT.nP (fun ax dM=>?_);generalize w11.drew = w12 at B0 HB hHeld ⊢;refine fA ax dM 0 3 hHeld ?_;refine gL ax 1 4 (fun K hK=>?_);refine fF rfl func156 (fH.calls _ _ _ A2.o) ?_;intro w13 hb;replace B0:=bF B0 hb;replace HB:=bX HB hb;(try clear hb);refine hK.out _ _ gu (fun hHeld=>?_);clear hK K;refine bP ?_;refine bC ax 2 5 ?_;refine bC ax 3 6 ?_;refine bC ax 4 7 ?_;refine fA ax dM 5 8 hHeld ?_;refine gL ax 6 9 (fun K hK=>?_);refine su rfl func133 (mQ.calls _ _ _ A7.o) ?_;intro nd;refine hK.out _ _ gu (fun hHeld=>?_);clear hK K;refine bP ?_;refine bC ax 7 10 ?_;refine bC ax 8 11 ?_;refine fA ax dM 9 12 hHeld ?_;refine gL ax 10 13 (fun K hK=>?_);refine su rfl func133 (mQ.calls _ _ _ A9.o) ?_;intro nd;refine hK.out _ _ gu (fun hHeld=>?_);clear hK K;refine bP ?_;refine bC ax 11 14 ?_;refine bC ax 12 15 ?_;refine bC ax 13 16 ?_;refine bC ax 15 18 ?_;refine fA ax dM 14 17 hHeld ?_;refine fA ax dM 16 19 hHeld ?_;refine bC ax 17 20 ?_;refine bC ax 18 21 ?_;refine bC ax 19 22 ?_;refine bC ax 20 2 ?_;refine eX (cO ax.o (by kernel_rfl)) ?_
  try go_wp2
  go_ret
  exact iw HB
 replace c10:=Bool.eq_false_iff.mpr c10;subst c10;rw [gD] at H;obtain rfl:=Option.some.inj H;go_enter func154,ntmps154
 try go_wp2_with (first | ((with_reducible refine gd 1 rfl ?_);refine eO 1 #[.int .i64 ai,.int .i64 aD] 108 HB ?_;clear HB;intro gb0 hg w14 hb B0 GW0 HB;clear hb hg))
 replace B0:=bU B0;replace HB:=iI HB;refine mI 21 (fun w'=>rf w' gb0 (.int .i64 ai) (.int .i64 aD)) gu (fun hHeld=>?_);refine bD bT.qo bT.nP (fun ax dM=>?_);generalize w14.drew = w15 at B0 HB hHeld ⊢;refine fA ax dM 0 3 hHeld ?_;refine gL ax 1 4 (fun K hK=>?_);refine fF rfl func156 (fH.calls _ _ _ A2.o) ?_;intro w16 hb;replace B0:=bF B0 hb;replace HB:=bX HB hb;(try clear hb);refine hK.out _ _ gu (fun hHeld=>?_);clear hK K;refine bP ?_;refine bC ax 2 5 ?_;refine bC ax 3 6 ?_;refine bC ax 4 7 ?_;refine fA ax dM 5 8 hHeld ?_;refine gL ax 6 9 (fun K hK=>?_);refine su rfl func133 (mQ.calls _ _ _ A7.o) ?_;intro nd;refine hK.out _ _ gu (fun hHeld=>?_);clear hK K;refine bP ?_;refine bC ax 7 10 ?_;refine bC ax 8 11 ?_;refine fA ax dM 9 12 hHeld ?_;refine gL ax 10 13 (fun K hK=>?_);refine su rfl func133 (mQ.calls _ _ _ A9.o) ?_;intro nd;refine hK.out _ _ gu (fun hHeld=>?_);clear hK K;refine bP ?_;refine bC ax 11 14 ?_;refine bC ax 12 15 ?_;refine bY ax 13 16 ?_;refine bY ax 14 17 ?_;refine bY ax 15 18 ?_;refine bY ax 16 19 ?_;refine bY ax 17 20 ?_;refine bC ax 18 21 ?_;refine bC ax 19 22 ?_;refine bC ax 20 2 ?_;refine eX (cO ax.o (by kernel_rfl)) ?_
 try go_wp2
 go_ret
 exact iw HB
theorem om.calls (ai : Int) (aD : Int) (a1 : Int) (r : Bool) (w : World) (h : om.f ai aD a1 = some r) :
  Calls prog 128 #[.agg #[.int .i64 ai,.int .i64 aD],.int .i64 a1] w fun e w'=>e = .returned (.bool r)∧Below w.heap.size w w':=by
 have hu108:=underlying108;have HB:=af.mk (Below.refl w.heap.size w);have H:=h;unfold om.f at H;clear h;replace H:=bK H;obtain ⟨t0,A3,H⟩:=H;(try dsimp only at H);rcases qm (t0 = true) with c4 | c4
 ·replace c4:=Bool.eq_false_iff.mpr c4;subst c4;rw [gD] at H;obtain rfl:=Option.some.inj H;go_enter func128,ntmps128;go_wp2_with (first | ((with_reducible refine gd 2 rfl ?_);refine eO 2 #[.int .i64 ai,.int .i64 aD] 108 HB ?_;clear HB;intro gb0 hg w10 hb B0 GW0 HB;clear hb hg;obtain ⟨_,_,_,_⟩:=bE B0) | ((with_reducible refine gf 154 rfl ?_);refine eZ rfl (some 6) func154 (bT.calls _ _ _ _ A3.o) ?_;intro w12 hb;replace B0:=bF B0 hb;replace HB:=bX HB hb;(try clear hb)))
  go_ret
  exact iw HB
 subst c4;rw [if_pos rfl] at H;replace H:=bK H;obtain ⟨t1,A5,H⟩:=H;(try dsimp only at H);obtain rfl:=Option.some.inj H;go_enter func128,ntmps128;go_wp2_with (first | ((with_reducible refine gd 2 rfl ?_);refine eO 2 #[.int .i64 ai,.int .i64 aD] 108 HB ?_;clear HB;intro gb0 hg w6 hb B0 GW0 HB;clear hb hg;obtain ⟨_,_,_,_⟩:=bE B0) | ((with_reducible refine gf 154 rfl ?_);refine eZ rfl (some 6) func154 (bT.calls _ _ _ _ A3.o) ?_;intro w8 hb;replace B0:=bF B0 hb;replace HB:=bX HB hb;(try clear hb);obtain ⟨_,_,_,_⟩:=bE B0) | (go_at_call 120;(with_reducible refine (iV.calls a1 ai aD t1 _ A5.o).mono ?_);rintro e w' ⟨rfl,⟨nd,rfl⟩⟩))
 go_ret
 exact iw HB
theorem lv.calls (ai : Int) (aD : Int) (r : Bool) (w : World) (h : lv.f ai aD = some r) :
  Calls prog 155 #[.agg #[.int .i64 ai,.int .i64 aD]] w fun e w'=>e = .returned (.bool r)∧Below w.heap.size w w':=by
 have hu111:=underlying111;have HB:=af.mk (Below.refl w.heap.size w);have H:=h;unfold lv.f at H;clear h;replace H:=qc H;rcases H with ⟨c2,H⟩ | ⟨c2,H⟩
 ·have z0 : (ai == 0) = true:=beq_iff_eq.mpr c2;have z1 : (ai != 0) = false:=bne_eq_false_iff_eq.mpr c2;clear c2;replace H:=bK H;obtain ⟨t0,A3,H⟩:=H;(try dsimp only at H);obtain rfl:=Option.some.inj H;go_enter func155,ntmps155;go_wp2_with (first | ((with_reducible refine gd 1 rfl ?_);refine eO 1 #[.int .i64 ai,.int .i64 aD] 111 HB ?_;clear HB;intro gb0 hg w4 hb B0 GW0 HB;clear hb hg;obtain ⟨_,_,_,_⟩:=bE B0) | ((with_reducible refine gf 133 rfl ?_);refine mD rfl (some 8) func133 (mQ.calls _ _ _ A3.o) ?_;intro nd))
  go_ret
  exact iw HB
 have z0 : (ai == 0) = false:=beq_eq_false_iff_ne.mpr c2;have z1 : (ai != 0) = true:=bne_iff_ne.mpr c2;replace H:=bK H;obtain ⟨t1,A6,H⟩:=H;(try dsimp only at H);rcases qm (t1 = true) with c7 | c7
 ·replace c7:=Bool.eq_false_iff.mpr c7;subst c7;rw [gD] at H;obtain rfl:=Option.some.inj H;go_enter func155,ntmps155;go_wp2_with (first | ((with_reducible refine gd 1 rfl ?_);refine eO 1 #[.int .i64 ai,.int .i64 aD] 111 HB ?_;clear HB;intro gb0 hg w11 hb B0 GW0 HB;clear hb hg;obtain ⟨_,_,_,_⟩:=bE B0) | ((with_reducible refine gf 120 rfl ?_);refine mD rfl (some 11) func120 (iV.calls _ _ _ _ _ A6.o) ?_;intro nd))
  go_ret
  exact iw HB
 subst c7;rw [if_pos rfl] at H;replace H:=bK H;obtain ⟨t2,A8,H⟩:=H;(try dsimp only at H);obtain rfl:=Option.some.inj H;go_enter func155,ntmps155;go_wp2_with (first | ((with_reducible refine gd 1 rfl ?_);refine eO 1 #[.int .i64 ai,.int .i64 aD] 111 HB ?_;clear HB;intro gb0 hg w9 hb B0 GW0 HB;clear hb hg;obtain ⟨_,_,_,_⟩:=bE B0) | ((with_reducible refine gf 120 rfl ?_);refine mD rfl (some 11) func120 (iV.calls _ _ _ _ _ A6.o) ?_;intro nd) | (go_at_call 120;(with_reducible refine (iV.calls aD 0 (wrap64 (ai - 1)) t2 _ A8.o).mono ?_);rintro e w' ⟨rfl,⟨nd,rfl⟩⟩))
 go_ret
 exact iw HB
theorem lY.calls (a0 : Int) (a1 : Int) (r : Int) (w : World) (h : lY.f a0 a1 = some r) :
  Calls prog 157 #[.int .i64 a0,.int .i64 a1] w fun e w'=>e = .returned (.int .i64 r)∧iU w w':=by
 have H:=h;unfold lY.f at H;clear h;replace H:=qc H;rcases H with ⟨c3,H⟩ | ⟨c3,H⟩
 ·cases H
 have z1 : (a1 == 0) = false:=beq_eq_false_iff_ne.mpr c3;have z2 : (a1 != 0) = true:=bne_iff_ne.mpr c3;replace H:=qc H;rcases H with ⟨c4,H⟩ | ⟨c4,H⟩
 ·have z0:=decide_eq_true c4;clear c4;obtain rfl:=Option.some.inj H;go_enter func157,ntmps157
  go_wp2
  go_ret
  exact ⟨fw,qE⟩
 have z0:=decide_eq_false c4;clear c4;obtain rfl:=Option.some.inj H;go_enter func157,ntmps157
 go_wp2
 go_ret
 exact ⟨fw,qE⟩
end Go.Proofs.YtklkdpcopfjmcaaGreat.PFnExactAbsWiden
