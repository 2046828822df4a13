/- Functions of the program as plain Lean functions, and that calls of them come to what these tell. Conditions: those in each law. -/
import Derived.Test.YtlbheepfmjbpnaaSqV
import Derived.Test.YtlbheepfmjbpnaaDFnValDoV
import Derived.Test.YtlbheepfmjbpnaaQFnValDox0V
import Derived.Test.YtlbheepfmjbpnaaQFnValDox4V
import Derived.Test.YtlbheepfmjbpnaaQFnValDox8V
namespace Go.Proofs.Ytlbheepfmjbpnaa.PFnValDo
open Go.RowKit Go.Proofs.Ytlbheepfmjbpnaa.Sq Go.Proofs.YtlbheepfmjbpnaaW.PrintWords Go.Proofs.YtlbheepfmjbpnaaW.PrintLast Go.Proofs.YtlbheepfmjbpnaaW.PrintMore
attribute [local go_sem] max2_int min2_int max_two min_two max_three min_three max_four min_four   -- for this text's walks alone
set_option linter.unusedVariables false
set_option linter.unusedSimpArgs false

set_option maxHeartbeats 8000000
set_option maxRecDepth 100000
/-! ### spec_DrawValDo: function 15 -/
def spec_DrawValDo.T7 : Bool × List (List Nat × List Nat):=(true,[([],[]),([],[]),([],[]),([],[]),([2,3],[2,3]),([4],[]),([4,5,5],[4,5]),([0,6,0],[0]),([1,7,0,1,7],[1]),([6,8,0,1,2,3,4,5,6,7,8],[6])])
def spec_DrawValDo.B7 : List Nat:=[0,0,0,0,12,28,60,125,255,511]
theorem spec_DrawValDo.tab7 : rtab .any (opsOf Try.f15 7) = spec_DrawValDo.T7:=by kernel_rfl
theorem spec_DrawValDo.bits7 : waitsOk spec_DrawValDo.T7.2 spec_DrawValDo.B7 = true:=by kernel_rfl
theorem spec_DrawValDo.calls (k : Nat) (A0 : Option Addr) (c0 : Nat) (l0 : List Int) (r1 : Int) (r2 : Int) (r3 : Int) (r4 : Int) (r5 : Int) (r6 : Int) (r7 : Int) (r8 : Int) (r9 : Int) (w : World) (hr0 : Kd.C (Kd.int .u8) w A0 l0.length l0) (hc0 : l0.length ≤ c0) (h : spec_DrawValDo.f k l0 = some (r1,r2,r3,r4,r5,r6,r7,r8,r9)) :
  Calls Try.prog 15 #[.slice A0 l0.length c0] w fun e w'=>e = .returned (.tuple #[.int .i64 r1,.agg #[.int .i64 r2,.int .i64 r3,.int .i64 r4,.int .i64 r5],.agg #[.int .i64 r6,.int .i64 r7,.int .i64 r8,.int .i64 r9]])∧Below w.heap.size w w':=by
 have hu39:=Try.underlying39;have HR0:=Aside0.mk hr0;have HC0:=Aside0.mk hc0;clear hr0 hc0;have HB:=Aside0.mk (Below.refl w.heap.size w);have H:=h;unfold spec_DrawValDo.f at H;clear h;replace H:=sqbi H;obtain ⟨⟨t0,t1⟩,A2,H⟩:=H;(try dsimp only at H);replace H:=sqbi H;obtain ⟨⟨t2,t3⟩,A3,H⟩:=H;(try dsimp only at H);replace H:=sqbi H;obtain ⟨⟨t4,t5⟩,A4,H⟩:=H;(try dsimp only at H);have HC5:=Aside0.mk H;clear H;go_enter Try.func15,Try.ntmps15
 go_upto_if 15 with (first | ((with_reducible refine gd 3 rfl ?_);refine sqX 3 #[.int .i64 0,.int .i64 0,.int .i64 0,.int .i64 0] 39 HB ?_;clear HB;intro gb0 hg w6 hb B0 GW0 HB;clear hb hg) | ((with_reducible refine gd 4 rfl ?_);refine sqX 4 #[.int .i64 0,.int .i64 0,.int .i64 0,.int .i64 0] 39 HB ?_;clear HB;intro gb1 hg w7 hb B1 GW1 HB;have N0_1:=sqn B0 hg;have N1_0:=sqm B0 hg;replace B0:=sqb B0 hb;clear hb hg) | ((with_reducible refine gf 23 rfl ?_);refine sqLc rfl (some 9) Try.func23 (spec_l1Open.calls _ _ _ _ _ w _ (sqB HB) HR0.out HC0.out A2.out) ?_;rintro e w8 ⟨g275,rfl,hi,hb,hb2⟩;refine ⟨_,rfl,?_⟩;replace HB:=Aside0.mk (hb);have HI275:=Aside0.mk (hi);have N2_0:=Aside0.mk (IsS79.ne_blk hi (blk_below (g:=gb0) (o:=.cells #[.int .i64 0,.int .i64 0,.int .i64 0,.int .i64 0] 39 (0,0)) (sqt B0.out) hb2) (by decide));have N0_2:=Aside0.mk (Ne.symm (IsS79.ne_blk hi (blk_below (g:=gb0) (o:=.cells #[.int .i64 0,.int .i64 0,.int .i64 0,.int .i64 0] 39 (0,0)) (sqt B0.out) hb2) (by decide)));replace B0:=Aside0.mk (blk_below (g:=gb0) (o:=.cells #[.int .i64 0,.int .i64 0,.int .i64 0,.int .i64 0] 39 (0,0)) (sqt B0.out) hb2);have N2_1:=Aside0.mk (IsS79.ne_blk hi (blk_below (g:=gb1) (o:=.cells #[.int .i64 0,.int .i64 0,.int .i64 0,.int .i64 0] 39 (0,0)) (sqt B1.out) hb2) (by decide));have N1_2:=Aside0.mk (Ne.symm (IsS79.ne_blk hi (blk_below (g:=gb1) (o:=.cells #[.int .i64 0,.int .i64 0,.int .i64 0,.int .i64 0] 39 (0,0)) (sqt B1.out) hb2) (by decide)));replace B1:=Aside0.mk (blk_below (g:=gb1) (o:=.cells #[.int .i64 0,.int .i64 0,.int .i64 0,.int .i64 0] 39 (0,0)) (sqt B1.out) hb2);(try clear hb);(try clear hb2);(try clear hk);(try clear hi)) | ((with_reducible refine gf 24 rfl ?_);refine sqLc rfl (some 11) Try.func24 (spec_l1Rd_pick.calls _ _ _ _ _ _ _ w _ (IsS79.mv HI275) (sqB2 HB (IsS79.ge HI275.out)) A3.out) ?_;rintro e w9 ⟨rfl,hi,hb,hk⟩;refine ⟨_,rfl,?_⟩;replace B0:=sqkb hk B0 N0_2;replace B1:=sqkb hk B1 N1_2;replace HB:=Aside0.mk (hb);replace HI275:=Aside0.mk (hi);(try clear hb);(try clear hb2);(try clear hk);(try clear hi)) | ((with_reducible refine gf 24 rfl ?_);refine sqLc rfl (some 14) Try.func24 (spec_l1Rd_pick.calls _ _ _ _ _ _ _ w _ (IsS79.mv HI275) (sqB2 HB (IsS79.ge HI275.out)) A4.out) ?_;rintro e w10 ⟨rfl,hi,hb,hk⟩;refine ⟨_,rfl,?_⟩;replace B0:=sqkb hk B0 N0_2;replace B1:=sqkb hk B1 N1_2;replace HB:=Aside0.mk (hb);replace HI275:=Aside0.mk (hi);(try clear hb);(try clear hb2);(try clear hk);(try clear hi)))
 (try simp only [Act.put,List.setIfInBounds_toArray,List.set_cons_zero,List.set_cons_succ])
 go_cut [6] (fun v6 wc=>∃ (kq : Nat) (x0 : Int) (x1 : Int),v6 = .int .i64 x0∧Aside0 (spec_DrawValDo.j0 kq x0 t0 x1 = some (r1,r2,r3,r4,r5,r6,r7,r8,r9))∧Aside0 (kq ≤ k)∧Aside0 (wc.heap[gb0]? = some (.cells #[.int .i64 0,.int .i64 0,.int .i64 0,.int .i64 0] 39 (0,0)))∧Aside0 (wc.heap[gb1]? = some (.cells #[.int .i64 0,.int .i64 0,.int .i64 0,.int .i64 0] 39 (0,0)))∧Aside0 (IsS79 w wc g275 t0 x1)∧Aside0 (Below w.heap.size w wc))
 case first =>
  have H:=HC5.out;clear HC5;replace H:=sqi H;rcases H with ⟨c11,H⟩ | ⟨c11,H⟩
  ·have z0 : (t4 == 0) = false:=beq_eq_false_iff_ne.mpr c11;have z2 : (t4 != 0) = true:=bne_iff_ne.mpr c11
   (first | rw [z0] | (simp only [i64_w,i32_w];rw [z0]) | skip)
   have H':=Aside0.mk H;clear H
   go_wp2
   go_meet
   case rel=>exact ⟨_,(wrap64 (1 + t2)),(t5),sqE,H',⟨sqle⟩,sqk B0,sqk B1,⟨IsS79.mv HI275⟩,⟨sqB2 HB (IsS79.ge HI275.out)⟩⟩
  have z0 : (t4 == 0) = true:=beq_iff_eq.mpr c11;have z2 : (t4 != 0) = false:=bne_eq_false_iff_eq.mpr c11;clear c11
  (first | rw [z0] | (simp only [i64_w,i32_w];rw [z0]) | skip)
  replace H:=sqbi H;obtain ⟨⟨t6,t7⟩,A12,H⟩:=H;(try dsimp only at H);have H':=Aside0.mk H;clear H;go_wp2_with (first | ((with_reducible refine gf 24 rfl ?_);refine sqLc rfl (some 17) Try.func24 (spec_l1Rd_pick.calls _ _ _ _ _ _ _ w _ (IsS79.mv HI275) (sqB2 HB (IsS79.ge HI275.out)) A12.out) ?_;rintro e w13 ⟨rfl,hi,hb,hk⟩;refine ⟨_,rfl,?_⟩;replace B0:=sqkb hk B0 N0_2;replace B1:=sqkb hk B1 N1_2;replace HB:=Aside0.mk (hb);replace HI275:=Aside0.mk (hi);(try clear hb);(try clear hb2);(try clear hk);(try clear hi)));go_meet
  case rel=>exact ⟨_,(wrap64 (t6 - 1)),(t7),sqE,H',⟨sqle⟩,sqk B0,sqk B1,⟨IsS79.mv HI275⟩,⟨sqB2 HB (IsS79.ge HI275.out)⟩⟩
 case rest =>
  clear HC5;obtain ⟨kq,x0,x1,rfl,HA,HJ4,B0,B1,HI275,HB⟩:=hcut;cases kq with
  | zero=>exact absurd HA.out (by simp [spec_DrawValDo.j0])
  | succ kj4 =>
   have H:=HA.out;clear HA;simp only [spec_DrawValDo.j0] at H;replace H:=sqbi H;obtain ⟨⟨t8,t9,t10,t11,t12⟩,A14,H⟩:=H;(try dsimp only at H);have HC15:=Aside0.mk H;clear H;go_upto_region 6 with (first | ((with_reducible refine gf 51 rfl ?_);refine sqLc rfl (some 20) Try.func51 (spec_l10Wild.calls _ _ _ _ _ _ _ _ _ w _ (IsS79.mv HI275) (sqB2 HB (IsS79.ge HI275.out)) A14.out) ?_;rintro e w16 ⟨rfl,hi,hb,hk⟩;refine ⟨_,rfl,?_⟩;replace B0:=sqkb hk B0 N0_2;replace B1:=sqkb hk B1 N1_2;replace HB:=Aside0.mk (hb);replace HI275:=Aside0.mk (hi);(try clear hb);(try clear hb2);(try clear hk);(try clear hi)) | ((with_reducible refine gd 7 rfl ?_);refine sqx 7 #[.int .i64 0,.int .i64 0,.int .i64 0,.int .i64 0] 39 ?_;intro gb3 hg w17 hbox hb;have B3:=Aside0.mk (hbox);have GW3:=Aside0.mk ((by rw [hg];exact (below_size (sqB2 HB (IsS79.ge HI275.out))) : w.heap.size ≤ gb3));have GE3:=Aside0.mk ((by rw [hg];exact (below_size (sqB2 HB (IsS79.ge HI275.out))) : w.heap.size ≤ gb3));replace HB:=Aside0.mk (below_step (sqB2 HB (IsS79.ge HI275.out)) hb);have N0_3:=sqn B0 hg;have N3_0:=sqm B0 hg;replace B0:=sqb B0 hb;have N1_3:=sqn B1 hg;have N3_1:=sqm B1 hg;replace B1:=sqb B1 hb;have N2_3:=Aside0.mk ((by rw [hg];exact Nat.ne_of_lt (IsS79.lt (show IsS79 w _ g275 t0 t12 from by repeat (first | (with_reducible first | exact HI275.out | apply IsS79.alloc | apply IsS79.drewN | apply IsS79.drew | apply IsS79.set_1 | refine IsS79.far ?_ N2_0.out _ | refine IsS79.far ?_ N2_1.out _) | exact HI275.out))) : g275≠gb3));have N3_2:=Aside0.mk ((by rw [hg];exact Nat.ne_of_gt (IsS79.lt (show IsS79 w _ g275 t0 t12 from by repeat (first | (with_reducible first | exact HI275.out | apply IsS79.alloc | apply IsS79.drewN | apply IsS79.drew | apply IsS79.set_1 | refine IsS79.far ?_ N2_0.out _ | refine IsS79.far ?_ N2_1.out _) | exact HI275.out))) : gb3≠g275));replace HI275:=Aside0.mk (IsS79.below (IsS79.mv HI275) hb);clear hb hbox hg;obtain ⟨_,_,_,_,_,_⟩:=sqN3 N3_0 N3_1 N3_2;obtain ⟨_,_,_,_,_,_,_,_⟩:=sqc4 B3))
   (try simp only [Act.put,List.setIfInBounds_toArray,List.set_cons_zero,List.set_cons_succ])
   go_cut [26] (fun v26 wc=>∃ (kq : Nat) (x2 : Bool),v26 = .bool x2∧Aside0 (spec_DrawValDo.j1 kq x0 x2 t0 t12 t8 t9 t10 t11 = some (r1,r2,r3,r4,r5,r6,r7,r8,r9))∧Aside0 (kq ≤ kj4)∧Aside0 (wc.heap[gb0]? = some (.cells #[.int .i64 0,.int .i64 0,.int .i64 0,.int .i64 0] 39 (0,0)))∧Aside0 (wc.heap[gb1]? = some (.cells #[.int .i64 0,.int .i64 0,.int .i64 0,.int .i64 0] 39 (0,0)))∧Aside0 (wc.heap[gb3]? = some (.cells #[.int .i64 t8,.int .i64 t9,.int .i64 t10,.int .i64 t11] 39 (0,0)))∧Aside0 (IsS79 w wc g275 t0 t12)∧Aside0 (Below w.heap.size w wc))
   case first =>
    have H:=HC15.out;clear HC15;replace H:=sqi H;rcases H with ⟨c22,H⟩ | ⟨c22,H⟩
    ·have z1 : (x0 == 9) = false:=beq_eq_false_iff_ne.mpr c22;have z3 : (x0 != 9) = true:=bne_iff_ne.mpr c22
     (first | rw [z1] | (simp only [i64_w,i32_w];rw [z1]) | skip)
     have H':=Aside0.mk H;clear H
     go_wp2
     go_meet
     case rel=>exact ⟨_,((x0 == 10)),sqE,H',⟨by have:=HJ4.out;first | omega | exact Nat.le_refl _⟩,⟨sqT B0⟩,⟨sqT B1⟩,⟨sqP B3⟩,⟨IsS79.mv HI275⟩,⟨sqB2 HB (IsS79.ge HI275.out)⟩⟩
    have z1 : (x0 == 9) = true:=beq_iff_eq.mpr c22;have z3 : (x0 != 9) = false:=bne_eq_false_iff_eq.mpr c22;clear c22
    (first | rw [z1] | (simp only [i64_w,i32_w];rw [z1]) | skip)
    have H':=Aside0.mk H;clear H
    go_wp2
    go_meet
    case rel=>exact ⟨_,(true),sqE,H',⟨by have:=HJ4.out;first | omega | exact Nat.le_refl _⟩,⟨sqT B0⟩,⟨sqT B1⟩,⟨sqP B3⟩,⟨IsS79.mv HI275⟩,⟨sqB2 HB (IsS79.ge HI275.out)⟩⟩
   case rest =>
    clear HC15;obtain ⟨kq,x2,rfl,HA,HJ14,B0,B1,B3,HI275,HB⟩:=hcut;cases kq with
    | zero=>exact absurd HA.out (by simp [spec_DrawValDo.j1])
    | succ kj14 =>
     have H:=HA.out;clear HA;simp only [spec_DrawValDo.j1] at H;rcases sqI (x2 = true) with c23 | c23
     ·replace c23:=Bool.eq_false_iff.mpr c23;subst c23;rw [sqff] at H;replace H:=sqbi H;obtain ⟨⟨t13,t14,t15,t16,t17⟩,A39,H⟩:=H;(try dsimp only at H);simp only [Option.some.injEq,Prod.mk.injEq] at H;obtain ⟨rfl,rfl,rfl,rfl,rfl,rfl,rfl,rfl,rfl⟩:=H
      try go_wp2
      replace B0:=sqdr B0;replace B1:=sqdr B1;replace B3:=sqdr B3;replace HI275:=Aside0.mk (IsS79.drew HI275.out);replace HB:=sqdB HB;refine sqst 7 (fun w'=>Ce4 w' gb3 (.int .i64 t8) (.int .i64 t9) (.int .i64 t10) (.int .i64 t11)) sqz (fun hHeld=>?_);generalize wc.drew = w40 at B0 B1 B3 HI275 HB hHeld ⊢;refine pure_ (i:=0) (N:=some 34) (v:=?_) (a':=?_) #[true,false,false,false,false,false,false] rfl rfl (by kernel_rfl) (fun _ _ _ h=>h) (Or.inl ⟨by rfl,?_⟩) ?_ ?_;rotate_left
      ·intro w'
       go_simp
       with_reducible rfl
      rotate_left
      ·simp only [Act.put,List.setIfInBounds_toArray,List.set_cons_zero,List.set_cons_succ,i64_w,i32_w]
       rfl
      refine pure_ (i:=2) (N:=some 36) (v:=?_) (a':=?_) #[true,false,true,false,false,false,false] rfl rfl (by kernel_rfl) (fun _ _ _ h=>h) (Or.inl ⟨by rfl,?_⟩) ?_ ?_;rotate_left
      ·intro w'
       go_simp
       with_reducible rfl
      rotate_left
      ·simp only [Act.put,List.setIfInBounds_toArray,List.set_cons_zero,List.set_cons_succ,i64_w,i32_w]
       rfl
      refine take_ (i:=1) (N:=some 35) (v:=?_) (a':=?_) #[true,true,true,false,false,false,false] rfl rfl (by kernel_rfl) (fun _ _ _ h=>h) (Or.inl ⟨by rfl,?_⟩) hHeld ?_ ?_;rotate_left
      ·rintro w' ⟨s0,s1,s2,s3⟩
       go_simp
       with_reducible rfl
      rotate_left
      ·simp only [Act.put,List.setIfInBounds_toArray,List.set_cons_zero,List.set_cons_succ,i64_w,i32_w]
       rfl
      refine one_ (i:=3) (N:=some 37) #[true,true,true,true,false,false,false] rfl rfl (by kernel_rfl) (by decide) (fun K hK=>?_);refine sqGc rfl Try.func51 (spec_l10Wild.calls _ _ _ _ _ _ _ _ _ w _ (IsS79.mv HI275) (sqB2 HB (IsS79.ge HI275.out)) A39.out) ?_;rintro e w41 ⟨rfl,hi,hb,hk⟩;refine ⟨_,rfl,?_⟩;replace B0:=sqkb hk B0 N0_2;replace B1:=sqkb hk B1 N1_2;replace B3:=sqkb hk B3 N3_2;replace HB:=Aside0.mk (hb);replace HI275:=Aside0.mk (hi);(try clear hb);(try clear hb2);(try clear hk);(try clear hi);refine hK.out _ _ sqz (fun hHeld=>?_);clear hK K;refine sqnm ?_;refine pure_ (i:=4) (N:=some 2) (v:=?_) (a':=?_) #[true,true,true,true,true,false,false] rfl rfl (by kernel_rfl) (fun _ _ _ h=>h) (Or.inl ⟨by rfl,?_⟩) ?_ ?_;rotate_left
      ·intro w'
       go_simp
       with_reducible rfl
      rotate_left
      ·simp only [Act.put,List.setIfInBounds_toArray,List.set_cons_zero,List.set_cons_succ,i64_w,i32_w]
       rfl
      refine one_ (i:=5) (N:=none) #[true,true,true,true,true,true,false] rfl rfl (by kernel_rfl) (by decide) (fun K hK=>?_);obtain ⟨_,_,_,_,_,_,_,_⟩:=sqc4 B0;obtain ⟨_,_,_,_⟩:=sqN2 N1_0 N3_0;refine sqsk ?_;refine hK.out _ _ sqzf (fun hHeld=>?_);clear hK K;refine one_ (i:=6) (N:=none) #[true,true,true,true,true,true,true] rfl rfl (by kernel_rfl) (by decide) (fun K hK=>?_);obtain ⟨_,_,_,_,_,_,_,_⟩:=sqc4 B1;obtain ⟨_,_,_,_⟩:=sqN2 N0_1 N3_1;refine sqsk ?_;refine hK.out _ _ sqzf (fun hHeld=>?_);clear hK K;refine done_ (by kernel_rfl) ?_
      try go_wp2
      refine bodyPost_ret (results_list (rs:=[.tmp 2,.cell 3 39,.cell 4 39]) rfl (by simp) (.tmp (.cell gb0 39 #[.int .i64 t8,.int .i64 t9,.int .i64 t10,.int .i64 t11] (0,0) _ rfl (sqP B0) Try.underlying39 rfl (by kernel_rfl) (.cell gb1 39 #[.int .i64 t13,.int .i64 t14,.int .i64 t15,.int .i64 t16] (0,0) _ rfl (sqP B1) Try.underlying39 rfl (by kernel_rfl) .nil)))) rfl ?_;exact ⟨sqEw,sqB2 HB (IsS79.ge HI275.out)⟩
     subst c23;rw [if_pos rfl] at H;replace H:=sqbi H;obtain ⟨⟨t18,t19,t20⟩,A24,H⟩:=H;(try dsimp only at H);replace H:=sqbi H;obtain ⟨⟨t21,t22⟩,A25,H⟩:=H;(try dsimp only at H);replace H:=sqbi H;obtain ⟨⟨t23,t24,t25,t26⟩,A26,H⟩:=H;(try dsimp only at H);simp only [Option.some.injEq,Prod.mk.injEq] at H;obtain ⟨rfl,rfl,rfl,rfl,rfl,rfl,rfl,rfl,rfl⟩:=H
     try go_wp2
     replace B0:=sqdr B0;replace B1:=sqdr B1;replace B3:=sqdr B3;replace HI275:=Aside0.mk (IsS79.drew HI275.out);replace HB:=sqdB HB;refine sqst 10 (fun w'=>Ce4 w' gb3 (.int .i64 t8) (.int .i64 t9) (.int .i64 t10) (.int .i64 t11)) sqz (fun hHeld=>?_);refine with_tabW spec_DrawValDo.tab7 spec_DrawValDo.bits7 (fun HT_ HW_=>?_);generalize wc.drew = w27 at B0 B1 B3 HI275 HB hHeld ⊢;refine sqp HT_ 0 27 ?_;refine sqp HT_ 2 29 ?_;refine sqp HT_ 3 30 ?_;refine sqw HT_ HW_ 1 28 hHeld ?_;refine sqo HT_ 4 31 (fun K hK=>?_);refine sqGc rfl Try.func26 (spec_l8Shift.calls _ _ _ _ _ _ _ _ w _ (IsS79.mv HI275) (sqB2 HB (IsS79.ge HI275.out)) A24.out) ?_;rintro e w28 ⟨rfl,hi,hb,hk⟩;refine ⟨_,rfl,?_⟩;replace B0:=sqkb hk B0 N0_2;replace B1:=sqkb hk B1 N1_2;replace B3:=sqkb hk B3 N3_2;replace HB:=Aside0.mk (hb);replace HI275:=Aside0.mk (hi);(try clear hb);(try clear hb2);(try clear hk);(try clear hi);refine hK.out _ _ sqz (fun hHeld=>?_);clear hK K;refine sqnm ?_;refine sqo HT_ 5 32 (fun K hK=>?_);refine sqGb rfl Try.func53 (spec_l9All.calls _ _ _ A25.out) ?_;intro w29 hb;replace B0:=sqb B0 hb;replace B1:=sqb B1 hb;replace B3:=sqb B3 hb;replace HB:=Aside0.mk (below_step (sqB2 HB (IsS79.ge HI275.out)) hb);replace HI275:=Aside0.mk (IsS79.below (IsS79.mv HI275) hb);(try clear hb);refine hK.out _ _ sqz (fun hHeld=>?_);clear hK K;refine sqnm ?_;refine sqo HT_ 6 33 (fun K hK=>?_);refine sqGb rfl Try.func52 (spec_ValMake.calls _ _ _ _ _ _ _ _ _ _ A26.out) ?_;intro w30 hb;replace B0:=sqb B0 hb;replace B1:=sqb B1 hb;replace B3:=sqb B3 hb;replace HB:=Aside0.mk (below_step (sqB2 HB (IsS79.ge HI275.out)) hb);replace HI275:=Aside0.mk (IsS79.below (IsS79.mv HI275) hb);(try clear hb);refine hK.out _ _ sqz (fun hHeld=>?_);clear hK K;refine sqnm ?_;refine sqp HT_ 7 2 ?_;refine sqo0 HT_ 8 (fun K hK=>?_);obtain ⟨_,_,_,_,_,_,_,_⟩:=sqc4 B0;obtain ⟨_,_,_,_⟩:=sqN2 N1_0 N3_0;refine sqsk ?_;refine hK.out _ _ sqzf (fun hHeld=>?_);clear hK K;refine sqo0 HT_ 9 (fun K hK=>?_);obtain ⟨_,_,_,_,_,_,_,_⟩:=sqc4 B1;obtain ⟨_,_,_,_⟩:=sqN2 N0_1 N3_1;refine sqsk ?_;refine hK.out _ _ sqzf (fun hHeld=>?_);clear hK K;refine done_ (done_of HT_.out (by kernel_rfl)) ?_
     try go_wp2
     refine bodyPost_ret (results_list (rs:=[.tmp 2,.cell 3 39,.cell 4 39]) rfl (by simp) (.tmp (.cell gb0 39 #[.int .i64 t8,.int .i64 t9,.int .i64 t10,.int .i64 t11] (0,0) _ rfl (sqP B0) Try.underlying39 rfl (by kernel_rfl) (.cell gb1 39 #[.int .i64 t23,.int .i64 t24,.int .i64 t25,.int .i64 t26] (0,0) _ rfl (sqP B1) Try.underlying39 rfl (by kernel_rfl) .nil)))) rfl ?_;exact ⟨sqEw,sqB2 HB (IsS79.ge HI275.out)⟩

/-! ### impl_rangeNone: function 29 -/
theorem impl_rangeNone.calls  (r1 : Int) (r2 : Int) (w : World) (h : impl_rangeNone.f  = some (r1,r2)) :
  Calls Try.prog 29 #[] w fun e w'=>e = .returned (.agg #[.int .i64 r1,.int .i64 r2])∧Below w.heap.size w w':=by
 have hu24:=Try.underlying24;have HB:=Aside0.mk (Below.refl w.heap.size w);have H:=h;unfold impl_rangeNone.f at H;clear h;simp only [Option.some.injEq,Prod.mk.injEq] at H;obtain ⟨rfl,rfl⟩:=H;go_enter Try.func29,Try.ntmps29;go_wp2_with (first | ((with_reducible refine gd 0 rfl ?_);refine sqX 0 #[.int .i64 0,.int .i64 0] 24 HB ?_;clear HB;intro gb0 hg w1 hb B0 GW0 HB;clear hb hg;obtain ⟨_,_,_,_⟩:=sqc2 B0));refine sqre #[.int .i64 1,.int .i64 0] (sqP B0) Try.underlying24 ?_;exact sqe HB

/-! ### impl_NumOk: function 48 -/
theorem impl_NumOk.calls (a0 : Int) (r : Bool) (w : World) (h : impl_NumOk.f a0 = some r) :
  Calls Try.prog 48 #[.int .i64 a0] w fun e w'=>e = .returned (.bool r)∧Drawn0 w w':=by
 have H:=h;unfold impl_NumOk.f at H;clear h;replace H:=sqj H;rcases H with ⟨c2,H⟩ | ⟨c2,H⟩
 ·have z0 : decide ((-2147483648) ≤ a0) = true:=decide_eq_true c2;clear c2;obtain rfl:=Option.some.inj H;go_enter Try.func48,Try.ntmps48
  go_wp2
  go_ret
  exact ⟨sqE,sqD⟩
 have z0 : decide ((-2147483648) ≤ a0) = false:=decide_eq_false c2;clear c2;obtain rfl:=Option.some.inj H;go_enter Try.func48,Try.ntmps48
 go_wp2
 go_ret
 exact ⟨sqE,sqD⟩

attribute [local go_sem high] eqA24
/-! ### impl_RangeOk: function 14 -/
def impl_RangeOk.T1 : Bool × List (List Nat × List Nat):=(true,[([],[]),([],[]),([0,1],[0,1]),([2,1],[2]),([3],[3]),([4,3],[3,4]),([5,3,3],[3,5]),([6,6,3],[3,6]),([7],[7]),([8,7],[7,8]),([9,7,7],[7,9]),([7,10,3],[3,7,10]),([11,10,3],[3,11]),([12],[12]),([13,12],[12,13]),([12],[12]),([15,12],[12,15]),([14,16,12],[12,14,16]),([12,17,3],[3,12,17]),([3,18],[3,18]),([19,12,0,1,2,3,4,5,6,7,8,9,10,11,12,13,14,15,16,17,18,19],[19])])
def impl_RangeOk.B1 : List Nat:=[0,0,3,7,15,31,63,127,255,511,1023,2047,4095,8191,16383,8191,40959,131071,262143,524287,1048575]
theorem impl_RangeOk.tab1 : rtab .any (opsOf Try.f14 1) = impl_RangeOk.T1:=by kernel_rfl
theorem impl_RangeOk.bits1 : waitsOk impl_RangeOk.T1.2 impl_RangeOk.B1 = true:=by kernel_rfl
theorem impl_RangeOk.calls (a0_0 : Int) (a0_1 : Int) (r : Bool) (w : World) (h : impl_RangeOk.f a0_0 a0_1 = some r) :
  Calls Try.prog 14 #[.agg #[.int .i64 a0_0,.int .i64 a0_1]] w fun e w'=>e = .returned (.bool r)∧Below w.heap.size w w':=by
 have hu24:=Try.underlying24;have HB:=Aside0.mk (Below.refl w.heap.size w);have H:=h;unfold impl_RangeOk.f at H;clear h;replace H:=sqbi H;obtain ⟨⟨t0,t1⟩,A2,H⟩:=H;(try dsimp only at H);replace H:=sqj H;rcases H with ⟨c3,H⟩ | ⟨c3,H⟩
 ·have z0 : (a0_0 == t0 && (a0_1 == t1)) = true:=c3
  (try (have z1 : decide (a0_0 = t0 && (a0_1 == t1)) = true:=by simpa using c3))
  (try (have z2 : (a0_0 == t0 && (a0_1 == t1)) = true:=by simpa using c3))
  clear c3;obtain rfl:=Option.some.inj H;go_enter Try.func14,Try.ntmps14
  try go_wp2_with (first | ((with_reducible refine gd 1 rfl ?_);refine sqX 1 #[.int .i64 a0_0,.int .i64 a0_1] 24 HB ?_;clear HB;intro gb0 hg w4 hb B0 GW0 HB;clear hb hg))
  replace B0:=sqdr B0;replace HB:=sqdB HB;refine sqst 21 (fun w'=>Ce2 w' gb0 (.int .i64 a0_0) (.int .i64 a0_1)) sqz (fun hHeld=>?_);refine with_tabW impl_RangeOk.tab1 impl_RangeOk.bits1 (fun HT_ HW_=>?_);generalize w4.drew = w5 at B0 HB hHeld ⊢;refine sqw HT_ HW_ 0 3 hHeld ?_;refine sqo HT_ 1 4 (fun K hK=>?_);refine sqGb rfl Try.func29 (impl_rangeNone.calls _ _ _ A2.out) ?_;intro w6 hb;replace B0:=sqb B0 hb;replace HB:=sqs HB hb;(try clear hb);refine hK.out _ _ sqz (fun hHeld=>?_);clear hK K;refine sqnm ?_;refine sqp HT_ 2 5 ?_;refine sqp HT_ 3 6 ?_;refine sqpu HT_ 4 7 ?_;refine sqpu HT_ 5 8 ?_;refine sqpu HT_ 6 9 ?_;refine sqpu HT_ 7 10 ?_;refine sqpu HT_ 8 11 ?_;refine sqpu HT_ 9 12 ?_;refine sqpu HT_ 10 13 ?_;refine sqpu HT_ 11 14 ?_;refine sqpu HT_ 12 15 ?_;refine sqpu HT_ 13 16 ?_;refine sqpu HT_ 14 17 ?_;refine sqpu HT_ 15 18 ?_;refine sqpu HT_ 16 19 ?_;refine sqpu HT_ 17 20 ?_;refine sqpu HT_ 18 21 ?_;refine sqp HT_ 19 22 ?_;refine sqp HT_ 20 2 ?_;refine done_ (done_of HT_.out (by kernel_rfl)) ?_
  try go_wp2
  go_ret
  exact sqe HB
 have z0 : (a0_0 == t0 && (a0_1 == t1)) = false:=by simpa using c3
 (try (have z1 : decide (a0_0 = t0 && (a0_1 == t1)) = false:=by simpa using c3))
 (try (have z2 : (a0_0 == t0 && (a0_1 == t1)) = false:=by simpa using c3))
 (try (have z3 : ¬ (a0_0 = t0 && (a0_1 == t1)):=by simpa using c3))
 clear c3;replace H:=sqbi H;obtain ⟨t2,A7,H⟩:=H;(try dsimp only at H);rcases sqI (t2 = true) with c8 | c8
 ·replace c8:=Bool.eq_false_iff.mpr c8;subst c8;rw [sqff] at H;obtain rfl:=Option.some.inj H;go_enter Try.func14,Try.ntmps14
  try go_wp2_with (first | ((with_reducible refine gd 1 rfl ?_);refine sqX 1 #[.int .i64 a0_0,.int .i64 a0_1] 24 HB ?_;clear HB;intro gb0 hg w17 hb B0 GW0 HB;clear hb hg))
  replace B0:=sqdr B0;replace HB:=sqdB HB;refine sqst 21 (fun w'=>Ce2 w' gb0 (.int .i64 a0_0) (.int .i64 a0_1)) sqz (fun hHeld=>?_);refine with_tabW impl_RangeOk.tab1 impl_RangeOk.bits1 (fun HT_ HW_=>?_);generalize w17.drew = w18 at B0 HB hHeld ⊢;refine sqw HT_ HW_ 0 3 hHeld ?_;refine sqo HT_ 1 4 (fun K hK=>?_);refine sqGb rfl Try.func29 (impl_rangeNone.calls _ _ _ A2.out) ?_;intro w19 hb;replace B0:=sqb B0 hb;replace HB:=sqs HB hb;(try clear hb);refine hK.out _ _ sqz (fun hHeld=>?_);clear hK K;refine sqnm ?_;refine sqp HT_ 2 5 ?_;refine sqp HT_ 3 6 ?_;refine sqp HT_ 4 7 ?_;refine sqw HT_ HW_ 5 8 hHeld ?_;refine sqo HT_ 6 9 (fun K hK=>?_);refine sqGq rfl Try.func48 (impl_NumOk.calls _ _ _ A7.out) ?_;intro nd;refine hK.out _ _ sqz (fun hHeld=>?_);clear hK K;refine sqnm ?_;refine sqp HT_ 7 10 ?_;refine sqpu HT_ 8 11 ?_;refine sqpu HT_ 9 12 ?_;refine sqpu HT_ 10 13 ?_;refine sqp HT_ 11 14 ?_;refine sqp HT_ 12 15 ?_;refine sqpu HT_ 13 16 ?_;refine sqpu HT_ 14 17 ?_;refine sqpu HT_ 15 18 ?_;refine sqpu HT_ 16 19 ?_;refine sqpu HT_ 17 20 ?_;refine sqp HT_ 18 21 ?_;refine sqp HT_ 19 22 ?_;refine sqp HT_ 20 2 ?_;refine done_ (done_of HT_.out (by kernel_rfl)) ?_
  try go_wp2
  go_ret
  exact sqe HB
 subst c8;rw [if_pos rfl] at H;replace H:=sqbi H;obtain ⟨t3,A9,H⟩:=H;(try dsimp only at H)
 by_cases c10 : t3 = true
 ·subst c10;rw [if_pos rfl] at H;obtain rfl:=Option.some.inj H;go_enter Try.func14,Try.ntmps14
  try go_wp2_with (first | ((with_reducible refine gd 1 rfl ?_);refine sqX 1 #[.int .i64 a0_0,.int .i64 a0_1] 24 HB ?_;clear HB;intro gb0 hg w11 hb B0 GW0 HB;clear hb hg))
  replace B0:=sqdr B0;replace HB:=sqdB HB;refine sqst 21 (fun w'=>Ce2 w' gb0 (.int .i64 a0_0) (.int .i64 a0_1)) sqz (fun hHeld=>?_);refine with_tabW impl_RangeOk.tab1 impl_RangeOk.bits1 (fun HT_ HW_=>?_);generalize w11.drew = w12 at B0 HB hHeld ⊢;refine sqw HT_ HW_ 0 3 hHeld ?_;refine sqo HT_ 1 4 (fun K hK=>?_);refine sqGb rfl Try.func29 (impl_rangeNone.calls _ _ _ A2.out) ?_;intro w13 hb;replace B0:=sqb B0 hb;replace HB:=sqs HB hb;(try clear hb);refine hK.out _ _ sqz (fun hHeld=>?_);clear hK K;refine sqnm ?_;refine sqp HT_ 2 5 ?_;refine sqp HT_ 3 6 ?_;refine sqp HT_ 4 7 ?_;refine sqw HT_ HW_ 5 8 hHeld ?_;refine sqo HT_ 6 9 (fun K hK=>?_);refine sqGq rfl Try.func48 (impl_NumOk.calls _ _ _ A7.out) ?_;intro nd;refine hK.out _ _ sqz (fun hHeld=>?_);clear hK K;refine sqnm ?_;refine sqp HT_ 7 10 ?_;refine sqp HT_ 8 11 ?_;refine sqw HT_ HW_ 9 12 hHeld ?_;refine sqo HT_ 10 13 (fun K hK=>?_);refine sqGq rfl Try.func48 (impl_NumOk.calls _ _ _ A9.out) ?_;intro nd;refine hK.out _ _ sqz (fun hHeld=>?_);clear hK K;refine sqnm ?_;refine sqp HT_ 11 14 ?_;refine sqp HT_ 12 15 ?_;refine sqp HT_ 13 16 ?_;refine sqp HT_ 15 18 ?_;refine sqw HT_ HW_ 14 17 hHeld ?_;refine sqw HT_ HW_ 16 19 hHeld ?_;refine sqp HT_ 17 20 ?_;refine sqp HT_ 18 21 ?_;refine sqp HT_ 19 22 ?_;refine sqp HT_ 20 2 ?_;refine done_ (done_of HT_.out (by kernel_rfl)) ?_
  try go_wp2
  go_ret
  exact sqe HB
 replace c10:=Bool.eq_false_iff.mpr c10;subst c10;rw [sqff] at H;obtain rfl:=Option.some.inj H;go_enter Try.func14,Try.ntmps14
 try go_wp2_with (first | ((with_reducible refine gd 1 rfl ?_);refine sqX 1 #[.int .i64 a0_0,.int .i64 a0_1] 24 HB ?_;clear HB;intro gb0 hg w14 hb B0 GW0 HB;clear hb hg))
 replace B0:=sqdr B0;replace HB:=sqdB HB;refine sqst 21 (fun w'=>Ce2 w' gb0 (.int .i64 a0_0) (.int .i64 a0_1)) sqz (fun hHeld=>?_);refine with_tabW impl_RangeOk.tab1 impl_RangeOk.bits1 (fun HT_ HW_=>?_);generalize w14.drew = w15 at B0 HB hHeld ⊢;refine sqw HT_ HW_ 0 3 hHeld ?_;refine sqo HT_ 1 4 (fun K hK=>?_);refine sqGb rfl Try.func29 (impl_rangeNone.calls _ _ _ A2.out) ?_;intro w16 hb;replace B0:=sqb B0 hb;replace HB:=sqs HB hb;(try clear hb);refine hK.out _ _ sqz (fun hHeld=>?_);clear hK K;refine sqnm ?_;refine sqp HT_ 2 5 ?_;refine sqp HT_ 3 6 ?_;refine sqp HT_ 4 7 ?_;refine sqw HT_ HW_ 5 8 hHeld ?_;refine sqo HT_ 6 9 (fun K hK=>?_);refine sqGq rfl Try.func48 (impl_NumOk.calls _ _ _ A7.out) ?_;intro nd;refine hK.out _ _ sqz (fun hHeld=>?_);clear hK K;refine sqnm ?_;refine sqp HT_ 7 10 ?_;refine sqp HT_ 8 11 ?_;refine sqw HT_ HW_ 9 12 hHeld ?_;refine sqo HT_ 10 13 (fun K hK=>?_);refine sqGq rfl Try.func48 (impl_NumOk.calls _ _ _ A9.out) ?_;intro nd;refine hK.out _ _ sqz (fun hHeld=>?_);clear hK K;refine sqnm ?_;refine sqp HT_ 11 14 ?_;refine sqp HT_ 12 15 ?_;refine sqpu HT_ 13 16 ?_;refine sqpu HT_ 14 17 ?_;refine sqpu HT_ 15 18 ?_;refine sqpu HT_ 16 19 ?_;refine sqpu HT_ 17 20 ?_;refine sqp HT_ 18 21 ?_;refine sqp HT_ 19 22 ?_;refine sqp HT_ 20 2 ?_;refine done_ (done_of HT_.out (by kernel_rfl)) ?_
 try go_wp2
 go_ret
 exact sqe HB

/-! ### impl_numOp: function 27 -/
theorem impl_numOp.calls (a0 : Int) (r : Bool) (w : World) (h : impl_numOp.f a0 = some r) :
  Calls Try.prog 27 #[.int .i64 a0] w fun e w'=>e = .returned (.bool r)∧Drawn0 w w':=by
 have H:=h;unfold impl_numOp.f at H;clear h;replace H:=sqj H;rcases H with ⟨c2,H⟩ | ⟨c2,H⟩
 ·have z0 : decide (1 ≤ a0) = true:=decide_eq_true c2;clear c2;obtain rfl:=Option.some.inj H;go_enter Try.func27,Try.ntmps27
  go_wp2
  go_ret
  exact ⟨sqE,sqD⟩
 have z0 : decide (1 ≤ a0) = false:=decide_eq_false c2;clear c2;obtain rfl:=Option.some.inj H;go_enter Try.func27,Try.ntmps27
 go_wp2
 go_ret
 exact ⟨sqE,sqD⟩

/-! ### impl_Range_empty: function 28 -/
theorem impl_Range_empty.calls (a0_0 : Int) (a0_1 : Int) (r : Bool) (w : World) (h : impl_Range_empty.f a0_0 a0_1 = some r) :
  Calls Try.prog 28 #[.agg #[.int .i64 a0_0,.int .i64 a0_1]] w fun e w'=>e = .returned (.bool r)∧Below w.heap.size w w':=by
 have hu24:=Try.underlying24;have HB:=Aside0.mk (Below.refl w.heap.size w);have H:=h;unfold impl_Range_empty.f at H;clear h;obtain rfl:=Option.some.inj H;go_enter Try.func28,Try.ntmps28;go_wp2_with (first | ((with_reducible refine gd 1 rfl ?_);refine sqX 1 #[.int .i64 a0_0,.int .i64 a0_1] 24 HB ?_;clear HB;intro gb0 hg w2 hb B0 GW0 HB;clear hb hg;obtain ⟨_,_,_,_⟩:=sqc2 B0))
 go_ret
 exact sqe HB

/-! ### impl_numExact: function 49 -/
theorem impl_numExact.calls (k : Nat) (a0 : Int) (a1 : Int) (a2 : Int) (r : Int) (w : World) (h : impl_numExact.f k a0 a1 a2 = some r) :
  Calls Try.prog 49 #[.int .i64 a0,.int .i64 a1,.int .i64 a2] w fun e w'=>e = .returned (.int .i64 r)∧Drawn0 w w':=by
 have H:=h;unfold impl_numExact.f at H;clear h;have HC4:=Aside0.mk H;clear H;go_enter Try.func49,Try.ntmps49
 go_upto_if 8 with (fail)
 go_cut [8] (fun v8 wc=>∃ (kq : Nat) (x0 : Bool),v8 = .bool x0∧Aside0 (impl_numExact.j0 kq a1 a2 a0 x0 = some r)∧Aside0 (kq ≤ k)∧Drawn0 w wc)
 case first =>
  have H:=HC4.out;clear HC4;replace H:=sqi H;rcases H with ⟨c5,H⟩ | ⟨c5,H⟩
  ·have z2 : (a0 == 1) = false:=beq_eq_false_iff_ne.mpr c5;have zb : (a0 != 1) = true:=bne_iff_ne.mpr c5
   (first | rw [z2] | (simp only [i64_w,i32_w];rw [z2]) | skip)
   have H':=Aside0.mk H;clear H
   go_wp2
   go_meet
   case rel=>exact ⟨_,((a0 == 11)),sqE,H',⟨sqle⟩,sqD⟩
  have z2 : (a0 == 1) = true:=beq_iff_eq.mpr c5;have zb : (a0 != 1) = false:=bne_eq_false_iff_eq.mpr c5;clear c5
  (first | rw [z2] | (simp only [i64_w,i32_w];rw [z2]) | skip)
  have H':=Aside0.mk H;clear H
  go_wp2
  go_meet
  case rel=>exact ⟨_,((a0 == 1)),sqE,H',⟨sqle⟩,sqD⟩
 case rest =>
  clear HC4;obtain ⟨kq,x0,rfl,HA,HJ3,⟨mc3,rfl⟩⟩:=hcut;cases kq with
  | zero=>exact absurd HA.out (by simp [impl_numExact.j0])
  | succ kj3 =>
   have H:=HA.out;clear HA;simp only [impl_numExact.j0] at H
   by_cases c6 : x0 = true
   ·subst c6;rw [if_pos rfl] at H;obtain rfl:=Option.some.inj H
    go_wp2
    go_ret
    exact ⟨sqE,sqD⟩
   replace c6:=Bool.eq_false_iff.mpr c6;subst c6;rw [sqff] at H;have HC7:=Aside0.mk H;clear H
   go_upto_if 14 with (fail)
   go_cut [14] (fun v14 wc=>∃ (kq : Nat) (x1 : Bool),v14 = .bool x1∧Aside0 (impl_numExact.j1 kq a1 a2 a0 x1 = some r)∧Aside0 (kq ≤ kj3)∧Drawn0 w wc)
   case first =>
    have H:=HC7.out;clear HC7;replace H:=sqi H;rcases H with ⟨c8,H⟩ | ⟨c8,H⟩
    ·have z3 : (a0 == 2) = false:=beq_eq_false_iff_ne.mpr c8;have zc : (a0 != 2) = true:=bne_iff_ne.mpr c8
     (first | rw [z3] | (simp only [i64_w,i32_w];rw [z3]) | skip)
     have H':=Aside0.mk H;clear H
     go_wp2
     go_meet
     case rel=>exact ⟨_,((a0 == 12)),sqE,H',⟨by have:=HJ3.out;first | omega | exact Nat.le_refl _⟩,sqD⟩
    have z3 : (a0 == 2) = true:=beq_iff_eq.mpr c8;have zc : (a0 != 2) = false:=bne_eq_false_iff_eq.mpr c8;clear c8
    (first | rw [z3] | (simp only [i64_w,i32_w];rw [z3]) | skip)
    have H':=Aside0.mk H;clear H
    go_wp2
    go_meet
    case rel=>exact ⟨_,((a0 == 2)),sqE,H',⟨by have:=HJ3.out;first | omega | exact Nat.le_refl _⟩,sqD⟩
   case rest =>
    clear HC7;obtain ⟨kq,x1,rfl,HA,HJ6,⟨mc6,rfl⟩⟩:=hcut;cases kq with
    | zero=>exact absurd HA.out (by simp [impl_numExact.j1])
    | succ kj6 =>
     have H:=HA.out;clear HA;simp only [impl_numExact.j1] at H
     by_cases c9 : x1 = true
     ·subst c9;rw [if_pos rfl] at H;obtain rfl:=Option.some.inj H
      go_wp2
      go_ret
      exact ⟨sqE,sqD⟩
     replace c9:=Bool.eq_false_iff.mpr c9;subst c9;rw [sqff] at H;have HC10:=Aside0.mk H;clear H
     go_upto_if 20 with (fail)
     go_cut [20] (fun v20 wc=>∃ (kq : Nat) (x2 : Bool),v20 = .bool x2∧Aside0 (impl_numExact.j2 kq a1 a2 a0 x2 = some r)∧Aside0 (kq ≤ kj6)∧Drawn0 w wc)
     case first =>
      have H:=HC10.out;clear HC10;replace H:=sqi H;rcases H with ⟨c11,H⟩ | ⟨c11,H⟩
      ·have z4 : (a0 == 3) = false:=beq_eq_false_iff_ne.mpr c11;have zd : (a0 != 3) = true:=bne_iff_ne.mpr c11
       (first | rw [z4] | (simp only [i64_w,i32_w];rw [z4]) | skip)
       have H':=Aside0.mk H;clear H
       go_wp2
       go_meet
       case rel=>exact ⟨_,((a0 == 13)),sqE,H',⟨by have:=HJ3.out;have:=HJ6.out;first | omega | exact Nat.le_refl _⟩,sqD⟩
      have z4 : (a0 == 3) = true:=beq_iff_eq.mpr c11;have zd : (a0 != 3) = false:=bne_eq_false_iff_eq.mpr c11;clear c11
      (first | rw [z4] | (simp only [i64_w,i32_w];rw [z4]) | skip)
      have H':=Aside0.mk H;clear H
      go_wp2
      go_meet
      case rel=>exact ⟨_,((a0 == 3)),sqE,H',⟨by have:=HJ3.out;have:=HJ6.out;first | omega | exact Nat.le_refl _⟩,sqD⟩
     case rest =>
      clear HC10;obtain ⟨kq,x2,rfl,HA,HJ9,⟨mc9,rfl⟩⟩:=hcut;cases kq with
      | zero=>exact absurd HA.out (by simp [impl_numExact.j2])
      | succ kj9 =>
       have H:=HA.out;clear HA;simp only [impl_numExact.j2] at H
       by_cases c12 : x2 = true
       ·subst c12;rw [if_pos rfl] at H;obtain rfl:=Option.some.inj H
        go_wp2
        go_ret
        exact ⟨sqE,sqD⟩
       replace c12:=Bool.eq_false_iff.mpr c12;subst c12;rw [sqff] at H;replace H:=sqj H;rcases H with ⟨c13,H⟩ | ⟨c13,H⟩
       ·have ze : (a0 == 4) = true:=beq_iff_eq.mpr c13;have zf : (a0 != 4) = false:=bne_eq_false_iff_eq.mpr c13;clear c13;replace H:=sqj H;rcases H with ⟨c14,H⟩ | ⟨c14,H⟩
        ·cases H
        have zv : (a2 == 0) = false:=beq_eq_false_iff_ne.mpr c14;have zw : (a2 != 0) = true:=bne_iff_ne.mpr c14;obtain rfl:=Option.some.inj H
        go_wp2
        go_ret
        exact ⟨sqE,sqD⟩
       have ze : (a0 == 4) = false:=beq_eq_false_iff_ne.mpr c13;have zf : (a0 != 4) = true:=bne_iff_ne.mpr c13;replace H:=sqj H;rcases H with ⟨c15,H⟩ | ⟨c15,H⟩
       ·have zg : (a0 == 5) = true:=beq_iff_eq.mpr c15;have zh : (a0 != 5) = false:=bne_eq_false_iff_eq.mpr c15;clear c15;replace H:=sqj H;rcases H with ⟨c16,H⟩ | ⟨c16,H⟩
        ·cases H
        have zx : (a2 == 0) = false:=beq_eq_false_iff_ne.mpr c16;have zy : (a2 != 0) = true:=bne_iff_ne.mpr c16;obtain rfl:=Option.some.inj H
        go_wp2
        go_ret
        exact ⟨sqE,sqD⟩
       have zg : (a0 == 5) = false:=beq_eq_false_iff_ne.mpr c15;have zh : (a0 != 5) = true:=bne_iff_ne.mpr c15;replace H:=sqj H;rcases H with ⟨c17,H⟩ | ⟨c17,H⟩
       ·have zi : (a0 == 6) = true:=beq_iff_eq.mpr c17;have zj : (a0 != 6) = false:=bne_eq_false_iff_eq.mpr c17;clear c17;obtain rfl:=Option.some.inj H
        go_wp2
        go_ret
        exact ⟨sqE,sqD⟩
       have zi : (a0 == 6) = false:=beq_eq_false_iff_ne.mpr c17;have zj : (a0 != 6) = true:=bne_iff_ne.mpr c17;replace H:=sqj H;rcases H with ⟨c18,H⟩ | ⟨c18,H⟩
       ·have zk : (a0 == 7) = true:=beq_iff_eq.mpr c18;have zl : (a0 != 7) = false:=bne_eq_false_iff_eq.mpr c18;clear c18;obtain rfl:=Option.some.inj H
        go_wp2
        go_ret
        exact ⟨sqE,sqD⟩
       have zk : (a0 == 7) = false:=beq_eq_false_iff_ne.mpr c18;have zl : (a0 != 7) = true:=bne_iff_ne.mpr c18;replace H:=sqj H;rcases H with ⟨c19,H⟩ | ⟨c19,H⟩
       ·have zm : (a0 == 8) = true:=beq_iff_eq.mpr c19;have zn : (a0 != 8) = false:=bne_eq_false_iff_eq.mpr c19;clear c19;obtain rfl:=Option.some.inj H
        go_wp2
        go_ret
        exact ⟨sqE,sqD⟩
       have zm : (a0 == 8) = false:=beq_eq_false_iff_ne.mpr c19;have zn : (a0 != 8) = true:=bne_iff_ne.mpr c19;replace H:=sqj H;rcases H with ⟨c20,H⟩ | ⟨c20,H⟩
       ·have zo : (a0 == 9) = true:=beq_iff_eq.mpr c20;have zp : (a0 != 9) = false:=bne_eq_false_iff_eq.mpr c20;clear c20;obtain ⟨z0,z8⟩ : ∃ j_ : Int,(IntKind.u64.wrap (a2)) = j_:=⟨_,rfl⟩
        replace H : (if 0 ≤ (z0) then (some (shl .i64 a1 (z0))) else (none)) = some r:=by first | (rw [z8] at H;exact H) | (simp only [z8] at H ⊢;exact H)
        replace H:=sqi H;rcases H with ⟨c22,H⟩ | ⟨c22,H⟩
        ·cases H
        have zz:=eq_true c22;have zA:=decide_eq_true c22;clear c22;obtain ⟨z5,z6⟩ : ∃ j_ : Int,(shl .i64 a1 (z0)) = j_:=⟨_,rfl⟩
        replace H : (some z5) = some r:=by first | (rw [z6] at H;exact H) | (simp only [z6] at H ⊢;exact H)
        have zq : (IntKind.i64.wrap (a1 * 2 ^ min (z0).toNat 64)) = z5:=z6;have zr : (z0) ≤ 64→(IntKind.i64.wrap (a1 * 2 ^ (z0).toNat)) = z5:=shl_small z6;have hji23y : (wrap64 (a1 * 2 ^ min (z0).toNat 64)) = z5:=(i64_w _).symm.trans zq
        have hji23x : (z0) ≤ 64→(wrap64 (a1 * 2 ^ (z0).toNat)) = z5:=fun h_=>(i64_w _).symm.trans (zr h_)
        obtain rfl:=Option.some.inj H
        go_wp2
        go_ret
        exact ⟨by first | rfl | (simp;done) | (simp only [← z8,← z6] <;> (first | rfl | simp)) | (simp [*];done),sqD⟩
       have zo : (a0 == 9) = false:=beq_eq_false_iff_ne.mpr c20;have zp : (a0 != 9) = true:=bne_iff_ne.mpr c20;replace H:=sqi H;rcases H with ⟨c24,H⟩ | ⟨c24,H⟩
       ·have zt : (a0 == 10) = false:=beq_eq_false_iff_ne.mpr c24;have zu : (a0 != 10) = true:=bne_iff_ne.mpr c24;obtain rfl:=Option.some.inj H
        go_wp2
        go_ret
        exact ⟨sqE,sqD⟩
       have zt : (a0 == 10) = true:=beq_iff_eq.mpr c24;have zu : (a0 != 10) = false:=bne_eq_false_iff_eq.mpr c24;clear c24;obtain ⟨z1,z9⟩ : ∃ j_ : Int,(IntKind.u64.wrap (a2)) = j_:=⟨_,rfl⟩
       replace H : (if 0 ≤ (z1) then (some (shr .i64 a1 (z1))) else (none)) = some r:=by first | (rw [z9] at H;exact H) | (simp only [z9] at H ⊢;exact H)
       replace H:=sqi H;rcases H with ⟨c26,H⟩ | ⟨c26,H⟩
       ·cases H
       have zB:=eq_true c26;have zC:=decide_eq_true c26;clear c26;obtain ⟨za,z7⟩ : ∃ j_ : Int,(shr .i64 a1 (z1)) = j_:=⟨_,rfl⟩
       replace H : (some za) = some r:=by first | (rw [z7] at H;exact H) | (simp only [z7] at H ⊢;exact H)
       have zD : (a1 / 2 ^ min (z1).toNat 64) = za:=z7;have zE : (z1) ≤ 64→(a1 / 2 ^ (z1).toNat) = za:=shr_small z7;obtain rfl:=Option.some.inj H
       go_wp2
       go_ret
       exact ⟨by first | rfl | (simp;done) | (simp only [← z9,← z7] <;> (first | rfl | simp)) | (simp [*];done),sqD⟩

/-! ### impl_rangeCorners: function 30 -/
def impl_rangeCorners.T1 : Bool × List (List Nat × List Nat):=(true,[([],[]),([],[]),([1],[1]),([],[]),([3],[3]),([0,2,4],[0,2,4]),([],[]),([],[]),([7],[7]),([],[]),([9],[9]),([6,8,10,5],[6,8,10]),([],[]),([],[]),([13],[13]),([],[]),([15],[15]),([12,14,16,11],[12,14,16]),([],[]),([],[]),([19],[19]),([],[]),([21],[21]),([18,20,22,17],[18,20,22]),([5,11,17,23],[5,11,17,23]),([],[]),([25,24,23,0,1,2,3,4,5,6,7,8,9,10,11,12,13,14,15,16,17,18,19,20,21,22,23,24,25],[24,25])])
def impl_rangeCorners.B1 : List Nat:=[0,0,2,0,8,31,0,0,128,0,512,2047,0,0,8192,0,32768,131071,0,0,524288,0,2097152,8388607,16777215,0,67108863]
theorem impl_rangeCorners.tab1 : rtab .any (opsOf Try.f30 1) = impl_rangeCorners.T1:=by kernel_rfl
theorem impl_rangeCorners.bits1 : waitsOk impl_rangeCorners.T1.2 impl_rangeCorners.B1 = true:=by kernel_rfl
abbrev impl_rangeCorners.P1 (gb0 gb1 : Nat) (a1_0 a1_1 a2_0 a2_1 : Int) (w : World) (s_ : Nat) (w' : World) : Prop:=(w'.cell? ⟨gb0,0,none⟩ = some (.int .i64 a1_0)∧w'.cell? ⟨gb0,1,none⟩ = some (.int .i64 a1_1)∧w'.cell? ⟨gb1,0,none⟩ = some (.int .i64 a2_0)∧w'.cell? ⟨gb1,1,none⟩ = some (.int .i64 a2_1))∧Aside0 (w'.heap[gb0]? = some (.cells #[.int .i64 a1_0,.int .i64 a1_1] 24 (0,0)))∧Aside0 (w'.heap[gb1]? = some (.cells #[.int .i64 a2_0,.int .i64 a2_1] 24 (0,0)))∧Aside0 (w'.heap[s_]? = some (.cells #[.int .i64 0,.int .i64 0,.int .i64 0,.int .i64 0] 81 (0,0)))∧Aside0 (w.heap.size ≤ s_)∧Aside0 (gb0≠s_)∧Aside0 (s_≠gb0)∧Aside0 (gb1≠s_)∧Aside0 (s_≠gb1)∧Aside0 (Below w.heap.size w w')
abbrev impl_rangeCorners.P2 (gb0 gb1 : Nat) (a1_0 a1_1 a2_0 a2_1 : Int) (w : World) (w' : World) : Prop:=(w'.cell? ⟨gb0,0,none⟩ = some (.int .i64 a1_0)∧w'.cell? ⟨gb0,1,none⟩ = some (.int .i64 a1_1)∧w'.cell? ⟨gb1,0,none⟩ = some (.int .i64 a2_0)∧w'.cell? ⟨gb1,1,none⟩ = some (.int .i64 a2_1))∧Aside0 (w'.heap[gb0]? = some (.cells #[.int .i64 a1_0,.int .i64 a1_1] 24 (0,0)))∧Aside0 (w'.heap[gb1]? = some (.cells #[.int .i64 a2_0,.int .i64 a2_1] 24 (0,0)))∧Aside0 (Below w.heap.size w w')
theorem impl_rangeCorners.calls (k : Nat) (a0 : Int) (a1_0 : Int) (a1_1 : Int) (a2_0 : Int) (a2_1 : Int) (r1 : Int) (r2 : Int) (w : World) (h : impl_rangeCorners.f k a0 a1_0 a1_1 a2_0 a2_1 = some (r1,r2)) :
  Calls Try.prog 30 #[.int .i64 a0,.agg #[.int .i64 a1_0,.int .i64 a1_1],.agg #[.int .i64 a2_0,.int .i64 a2_1]] w fun e w'=>e = .returned (.tuple #[.int .i64 r1,.int .i64 r2])∧Below w.heap.size w w':=by
 have hu24:=Try.underlying24;have hu81:=Try.underlying81;have HB:=Aside0.mk (Below.refl w.heap.size w);have H:=h;unfold impl_rangeCorners.f at H;clear h;replace H:=sqbi H;obtain ⟨t0,A4,H⟩:=H;(try dsimp only at H);replace H:=sqbi H;obtain ⟨t1,A5,H⟩:=H;(try dsimp only at H);replace H:=sqbi H;obtain ⟨t2,A6,H⟩:=H;(try dsimp only at H);replace H:=sqbi H;obtain ⟨t3,A7,H⟩:=H;(try dsimp only at H);simp only [Option.some.injEq,Prod.mk.injEq] at H;obtain ⟨e1,e2⟩:=H;go_enter Try.func30,Try.ntmps30
 go_wp2_with (first | ((with_reducible refine gd 4 rfl ?_);refine sqX 4 #[.int .i64 a1_0,.int .i64 a1_1] 24 HB ?_;clear HB;intro gb0 hg w16 hb B0 GW0 HB;clear hb hg) | ((with_reducible refine gd 5 rfl ?_);refine sqX 5 #[.int .i64 a2_0,.int .i64 a2_1] 24 HB ?_;clear HB;intro gb1 hg w17 hb B1 GW1 HB;have N0_1:=sqn B0 hg;have N1_0:=sqm B0 hg;replace B0:=sqb B0 hb;clear hb hg))
 replace B0:=sqdr B0;replace B1:=sqdr B1;replace HB:=sqdB HB;refine sqst 27 (fun w'=>w'.cell? ⟨gb0,0,none⟩ = some (.int .i64 a1_0)∧w'.cell? ⟨gb0,1,none⟩ = some (.int .i64 a1_1)∧w'.cell? ⟨gb1,0,none⟩ = some (.int .i64 a2_0)∧w'.cell? ⟨gb1,1,none⟩ = some (.int .i64 a2_1)) sqz (fun hHeld=>?_);refine with_tabW impl_rangeCorners.tab1 impl_rangeCorners.bits1 (fun HT_ HW_=>?_);generalize w17.drew = w18 at B0 B1 HB hHeld ⊢;refine sqp HT_ 0 13 ?_;refine sqp HT_ 1 14 ?_;refine sqp HT_ 3 16 ?_;refine sqp HT_ 6 19 ?_;refine sqp HT_ 7 20 ?_;refine sqp HT_ 9 22 ?_;refine sqp HT_ 12 25 ?_;refine sqp HT_ 13 26 ?_;refine sqp HT_ 15 28 ?_;refine sqp HT_ 18 31 ?_;refine sqp HT_ 19 32 ?_;refine sqp HT_ 21 34 ?_;refine sqw HT_ HW_ 2 15 hHeld ?_;refine sqw HT_ HW_ 4 17 hHeld ?_;refine sqw HT_ HW_ 8 21 hHeld ?_;refine sqw HT_ HW_ 10 23 hHeld ?_;refine sqw HT_ HW_ 14 27 hHeld ?_;refine sqw HT_ HW_ 16 29 hHeld ?_;refine sqw HT_ HW_ 20 33 hHeld ?_;refine sqw HT_ HW_ 22 35 hHeld ?_;refine join_ (σ:=Nat) 1 #[true,true,true,true,true,true,true,true,true,true,true,true,true,true,true,true,true,true,true,true,true,true,true,true,true,true,false] (fun s_=>[(18,.int .i64 t0),(24,.int .i64 t1),(30,.int .i64 t2),(36,.int .i64 t3),(8,.pointer (some ⟨s_,0,none⟩)),(37,.agg #[.int .i64 t0,.int .i64 t1,.int .i64 t2,.int .i64 t3])]) (fun s_ w'=>impl_rangeCorners.P1 gb0 gb1 a1_0 a1_1 a2_0 a2_1 w s_ w') ?_ ?_;rotate_left
 ·intro hJ5_11_17_23_25;refine join_ (σ:=Unit) 2 #[true,true,true,true,true,true,true,true,true,true,true,true,true,true,true,true,true,true,true,true,true,true,true,true,true,false,false] (fun s_=>[(18,.int .i64 t0),(24,.int .i64 t1),(30,.int .i64 t2),(36,.int .i64 t3),(37,.agg #[.int .i64 t0,.int .i64 t1,.int .i64 t2,.int .i64 t3])]) (fun s_ w'=>impl_rangeCorners.P2 gb0 gb1 a1_0 a1_1 a2_0 a2_1 w w') ?_ ?_;rotate_left
  ·intro hJ5_11_17_23;refine join_ (σ:=Nat) 3 #[true,true,true,true,true,true,true,true,true,true,true,true,true,true,true,true,true,true,true,true,true,true,true,false,false,true,false] (fun s_=>[(18,.int .i64 t0),(24,.int .i64 t1),(30,.int .i64 t2),(8,.pointer (some ⟨s_,0,none⟩))]) (fun s_ w'=>impl_rangeCorners.P1 gb0 gb1 a1_0 a1_1 a2_0 a2_1 w s_ w') ?_ ?_;rotate_left
   ·intro hJ5_11_17_25;refine join_ (σ:=Unit) 4 #[true,true,true,true,true,true,true,true,true,true,true,true,true,true,true,true,true,true,true,true,true,true,true,false,false,false,false] (fun s_=>[(18,.int .i64 t0),(24,.int .i64 t1),(30,.int .i64 t2)]) (fun s_ w'=>impl_rangeCorners.P2 gb0 gb1 a1_0 a1_1 a2_0 a2_1 w w') ?_ ?_;rotate_left
    ·intro hJ5_11_17;refine join_ (σ:=Nat) 4 #[true,true,true,true,true,true,true,true,true,true,true,true,true,true,true,true,true,false,true,true,true,true,true,false,false,true,false] (fun s_=>[(18,.int .i64 t0),(24,.int .i64 t1),(8,.pointer (some ⟨s_,0,none⟩))]) (fun s_ w'=>impl_rangeCorners.P1 gb0 gb1 a1_0 a1_1 a2_0 a2_1 w s_ w') ?_ ?_;rotate_left
     ·intro hJ5_11_25;refine join_ (σ:=Unit) 5 #[true,true,true,true,true,true,true,true,true,true,true,true,true,true,true,true,true,false,true,true,true,true,true,false,false,false,false] (fun s_=>[(18,.int .i64 t0),(24,.int .i64 t1)]) (fun s_ w'=>impl_rangeCorners.P2 gb0 gb1 a1_0 a1_1 a2_0 a2_1 w w') ?_ ?_;rotate_left
      ·intro hJ5_11;refine join_ (σ:=Nat) 5 #[true,true,true,true,true,true,true,true,true,true,true,false,true,true,true,true,true,false,true,true,true,true,true,false,false,true,false] (fun s_=>[(18,.int .i64 t0),(8,.pointer (some ⟨s_,0,none⟩))]) (fun s_ w'=>impl_rangeCorners.P1 gb0 gb1 a1_0 a1_1 a2_0 a2_1 w s_ w') ?_ ?_;rotate_left
       ·intro hJ5_25;refine join_ (σ:=Unit) 6 #[true,true,true,true,true,true,true,true,true,true,true,false,true,true,true,true,true,false,true,true,true,true,true,false,false,false,false] (fun s_=>[(18,.int .i64 t0)]) (fun s_ w'=>impl_rangeCorners.P2 gb0 gb1 a1_0 a1_1 a2_0 a2_1 w w') ?_ ?_;rotate_left
        ·intro hJ5;refine join_ (σ:=Nat) 6 #[true,true,true,true,true,false,true,true,true,true,true,false,true,true,true,true,true,false,true,true,true,true,true,false,false,true,false] (fun s_=>[(8,.pointer (some ⟨s_,0,none⟩))]) (fun s_ w'=>impl_rangeCorners.P1 gb0 gb1 a1_0 a1_1 a2_0 a2_1 w s_ w') ?_ ?_;rotate_left
         ·intro hJ25;refine sqtw HT_ 5 25 (some 18) (some 8) (fun K hK=>?_) (fun K hK=>?_)
          ·refine sqGq rfl Try.func49 (impl_numExact.calls _ _ _ _ _ _ A4.out) ?_;intro nd;refine hK.out _ _ sqz (fun hHeld=>?_);clear hK K;refine sqnm ?_;exact norm_ sqnn (hJ5 () _ ⟨hHeld,⟨sqt B0.out⟩,⟨sqt B1.out⟩,⟨sqB HB⟩⟩)
          ·refine sqbx 8 #[.int .i64 0,.int .i64 0,.int .i64 0,.int .i64 0] 81 ?_;intro gb2 hg w19 hbox hb;have B2:=Aside0.mk (hbox);have GW2:=sqg HB hg;have GE2:=sqg HB hg;have N0_2:=sqn B0 hg;have N2_0:=sqm B0 hg;have N1_2:=sqn B1 hg;have N2_1:=sqm B1 hg;refine sqM2 B0 B1 hb ?_;clear B0 B1;intro B0 B1;replace HB:=sqs HB hb;clear hb hbox hg;refine hK.out _ _ sqz (fun hHeld=>?_);clear hK K;refine sqnm ?_;exact norm_ sqnn (hJ25 (gb2) _ ⟨hHeld,⟨sqt B0.out⟩,⟨sqt B1.out⟩,⟨sqt B2.out⟩,GW2,N0_2,N2_0,N1_2,N2_1,⟨sqB HB⟩⟩)
         ·clear B0 B1 HB;rintro gb2 w20 ⟨hHeld,B0,B1,B2,GW2,N0_2,N2_0,N1_2,N2_1,HB⟩;have GE2:=GW2;refine sqna ?_;refine sqo HT_ 5 18 (fun K hK=>?_);refine sqGq rfl Try.func49 (impl_numExact.calls _ _ _ _ _ _ A4.out) ?_;intro nd;refine hK.out _ _ sqz (fun hHeld=>?_);clear hK K;refine sqnm ?_;exact norm_ sqnn (hJ5_25 (gb2) _ ⟨hHeld,⟨sqt B0.out⟩,⟨sqt B1.out⟩,⟨sqt B2.out⟩,GW2,N0_2,N2_0,N1_2,N2_1,⟨sqB HB⟩⟩)
        ·clear B0 B1 HB;rintro _ w19 ⟨hHeld,B0,B1,HB⟩;refine sqna ?_;refine sqtw HT_ 11 25 (some 24) (some 8) (fun K hK=>?_) (fun K hK=>?_)
         ·refine sqGq rfl Try.func49 (impl_numExact.calls _ _ _ _ _ _ A5.out) ?_;intro nd;refine hK.out _ _ sqz (fun hHeld=>?_);clear hK K;refine sqnm ?_;exact norm_ sqnn (hJ5_11 () _ ⟨hHeld,⟨sqt B0.out⟩,⟨sqt B1.out⟩,⟨sqB HB⟩⟩)
         ·refine sqbx 8 #[.int .i64 0,.int .i64 0,.int .i64 0,.int .i64 0] 81 ?_;intro gb2 hg w20 hbox hb;have B2:=Aside0.mk (hbox);have GW2:=sqg HB hg;have GE2:=sqg HB hg;have N0_2:=sqn B0 hg;have N2_0:=sqm B0 hg;have N1_2:=sqn B1 hg;have N2_1:=sqm B1 hg;refine sqM2 B0 B1 hb ?_;clear B0 B1;intro B0 B1;replace HB:=sqs HB hb;clear hb hbox hg;refine hK.out _ _ sqz (fun hHeld=>?_);clear hK K;refine sqnm ?_;exact norm_ sqnn (hJ5_25 (gb2) _ ⟨hHeld,⟨sqt B0.out⟩,⟨sqt B1.out⟩,⟨sqt B2.out⟩,GW2,N0_2,N2_0,N1_2,N2_1,⟨sqB HB⟩⟩)
       ·clear B0 B1 HB;rintro gb2 w20 ⟨hHeld,B0,B1,B2,GW2,N0_2,N2_0,N1_2,N2_1,HB⟩;have GE2:=GW2;refine sqna ?_;refine sqo HT_ 11 24 (fun K hK=>?_);refine sqGq rfl Try.func49 (impl_numExact.calls _ _ _ _ _ _ A5.out) ?_;intro nd;refine hK.out _ _ sqz (fun hHeld=>?_);clear hK K;refine sqnm ?_;exact norm_ sqnn (hJ5_11_25 (gb2) _ ⟨hHeld,⟨sqt B0.out⟩,⟨sqt B1.out⟩,⟨sqt B2.out⟩,GW2,N0_2,N2_0,N1_2,N2_1,⟨sqB HB⟩⟩)
      ·clear B0 B1 HB;rintro _ w19 ⟨hHeld,B0,B1,HB⟩;refine sqna ?_;refine sqtw HT_ 17 25 (some 30) (some 8) (fun K hK=>?_) (fun K hK=>?_)
       ·refine sqGq rfl Try.func49 (impl_numExact.calls _ _ _ _ _ _ A6.out) ?_;intro nd;refine hK.out _ _ sqz (fun hHeld=>?_);clear hK K;refine sqnm ?_;exact norm_ sqnn (hJ5_11_17 () _ ⟨hHeld,⟨sqt B0.out⟩,⟨sqt B1.out⟩,⟨sqB HB⟩⟩)
       ·refine sqbx 8 #[.int .i64 0,.int .i64 0,.int .i64 0,.int .i64 0] 81 ?_;intro gb2 hg w20 hbox hb;have B2:=Aside0.mk (hbox);have GW2:=sqg HB hg;have GE2:=sqg HB hg;have N0_2:=sqn B0 hg;have N2_0:=sqm B0 hg;have N1_2:=sqn B1 hg;have N2_1:=sqm B1 hg;refine sqM2 B0 B1 hb ?_;clear B0 B1;intro B0 B1;replace HB:=sqs HB hb;clear hb hbox hg;refine hK.out _ _ sqz (fun hHeld=>?_);clear hK K;refine sqnm ?_;exact norm_ sqnn (hJ5_11_25 (gb2) _ ⟨hHeld,⟨sqt B0.out⟩,⟨sqt B1.out⟩,⟨sqt B2.out⟩,GW2,N0_2,N2_0,N1_2,N2_1,⟨sqB HB⟩⟩)
     ·clear B0 B1 HB;rintro gb2 w20 ⟨hHeld,B0,B1,B2,GW2,N0_2,N2_0,N1_2,N2_1,HB⟩;have GE2:=GW2;refine sqna ?_;refine sqo HT_ 17 30 (fun K hK=>?_);refine sqGq rfl Try.func49 (impl_numExact.calls _ _ _ _ _ _ A6.out) ?_;intro nd;refine hK.out _ _ sqz (fun hHeld=>?_);clear hK K;refine sqnm ?_;exact norm_ sqnn (hJ5_11_17_25 (gb2) _ ⟨hHeld,⟨sqt B0.out⟩,⟨sqt B1.out⟩,⟨sqt B2.out⟩,GW2,N0_2,N2_0,N1_2,N2_1,⟨sqB HB⟩⟩)
    ·clear B0 B1 HB;rintro _ w19 ⟨hHeld,B0,B1,HB⟩;refine sqna ?_;refine sqtw HT_ 23 25 (some 36) (some 8) (fun K hK=>?_) (fun K hK=>?_)
     ·refine sqGq rfl Try.func49 (impl_numExact.calls _ _ _ _ _ _ A7.out) ?_;intro nd;refine hK.out _ _ sqz (fun hHeld=>?_);clear hK K;refine sqnm ?_;refine sqp HT_ 24 37 ?_;exact norm_ sqnn (hJ5_11_17_23 () _ ⟨hHeld,⟨sqt B0.out⟩,⟨sqt B1.out⟩,⟨sqB HB⟩⟩)
     ·refine sqbx 8 #[.int .i64 0,.int .i64 0,.int .i64 0,.int .i64 0] 81 ?_;intro gb2 hg w20 hbox hb;have B2:=Aside0.mk (hbox);have GW2:=sqg HB hg;have GE2:=sqg HB hg;have N0_2:=sqn B0 hg;have N2_0:=sqm B0 hg;have N1_2:=sqn B1 hg;have N2_1:=sqm B1 hg;refine sqM2 B0 B1 hb ?_;clear B0 B1;intro B0 B1;replace HB:=sqs HB hb;clear hb hbox hg;refine hK.out _ _ sqz (fun hHeld=>?_);clear hK K;refine sqnm ?_;exact norm_ sqnn (hJ5_11_17_25 (gb2) _ ⟨hHeld,⟨sqt B0.out⟩,⟨sqt B1.out⟩,⟨sqt B2.out⟩,GW2,N0_2,N2_0,N1_2,N2_1,⟨sqB HB⟩⟩)
   ·clear B0 B1 HB;rintro gb2 w20 ⟨hHeld,B0,B1,B2,GW2,N0_2,N2_0,N1_2,N2_1,HB⟩;have GE2:=GW2;refine sqna ?_;refine sqo HT_ 23 36 (fun K hK=>?_);refine sqGq rfl Try.func49 (impl_numExact.calls _ _ _ _ _ _ A7.out) ?_;intro nd;refine hK.out _ _ sqz (fun hHeld=>?_);clear hK K;refine sqnm ?_;refine sqp HT_ 24 37 ?_;exact norm_ sqnn (hJ5_11_17_23_25 (gb2) _ ⟨hHeld,⟨sqt B0.out⟩,⟨sqt B1.out⟩,⟨sqt B2.out⟩,GW2,N0_2,N2_0,N1_2,N2_1,⟨sqB HB⟩⟩)
  ·clear B0 B1 HB;rintro _ w19 ⟨hHeld,B0,B1,HB⟩;refine sqna ?_;refine sqo HT_ 25 8 (fun K hK=>?_);refine sqbx 8 #[.int .i64 0,.int .i64 0,.int .i64 0,.int .i64 0] 81 ?_;intro gb2 hg w20 hbox hb;have B2:=Aside0.mk (hbox);have GW2:=sqg HB hg;have GE2:=sqg HB hg;have N0_2:=sqn B0 hg;have N2_0:=sqm B0 hg;have N1_2:=sqn B1 hg;have N2_1:=sqm B1 hg;refine sqM2 B0 B1 hb ?_;clear B0 B1;intro B0 B1;replace HB:=sqs HB hb;clear hb hbox hg;refine hK.out _ _ sqz (fun hHeld=>?_);clear hK K;refine sqnm ?_;exact norm_ sqnn (hJ5_11_17_23_25 (gb2) _ ⟨hHeld,⟨sqt B0.out⟩,⟨sqt B1.out⟩,⟨sqt B2.out⟩,GW2,N0_2,N2_0,N1_2,N2_1,⟨sqB HB⟩⟩)
 clear B0 B1 HB;rintro gb2 w20 ⟨hHeld,B0,B1,B2,GW2,N0_2,N2_0,N1_2,N2_1,HB⟩;have GE2:=GW2;refine sqna ?_;refine sqo0 HT_ 26 (fun K hK=>?_);obtain ⟨_,_,_,_,_,_,_,_⟩:=sqc4 B2;obtain ⟨_,_,_,_⟩:=sqN2 N0_2 N1_2;refine sqsk ?_;refine hK.out _ _ sqzf (fun hHeld=>?_);clear hK K;refine done_ (done_of HT_.out (by kernel_rfl)) ?_
 try go_wp2
 obtain ⟨w25,hw_⟩ : ∃ w_,w_ = ((((w20.setCell ⟨gb2,0,none⟩ (.int .i64 t0)).setCell ⟨gb2,1,none⟩ (.int .i64 t1)).setCell ⟨gb2,2,none⟩ (.int .i64 t2)).setCell ⟨gb2,3,none⟩ (.int .i64 t3)):=⟨_,rfl⟩;replace B0:=sqTe hw_ B0;replace B1:=sqTe hw_ B1
 replace B2 : Aside0 (w25.heap[gb2]? = some (.cells #[.int .i64 t0,.int .i64 t1,.int .i64 t2,.int .i64 t3] 81 (0,0))):=by rw [hw_];exact ⟨sqP B2⟩
 replace HB:=sqhw hw_ HB
 rw [← hw_];clear hw_;replace B0:=sqdr B0;replace B1:=sqdr B1;replace B2:=sqdr B2;replace HB:=sqdB HB;refine sqst 6 (fun w'=>w'.cell? ⟨gb2,0,none⟩ = some (.int .i64 t0)∧w'.cell? ⟨gb2,1,none⟩ = some (.int .i64 t1)∧w'.cell? ⟨gb2,2,none⟩ = some (.int .i64 t2)∧w'.cell? ⟨gb2,3,none⟩ = some (.int .i64 t3)) sqz (fun hHeld=>?_);generalize w25.drew = w26 at B0 B1 B2 HB hHeld ⊢;refine pure_ (i:=0) (N:=some 38) (v:=?_) (a':=?_) #[true,false,false,false,false,false] rfl rfl (by kernel_rfl) (fun _ _ _ h=>h) (Or.inl ⟨by rfl,?_⟩) ?_ ?_;rotate_left
 ·intro w'
  go_simp
  with_reducible rfl
 rotate_left
 ·simp only [Act.put,List.setIfInBounds_toArray,List.set_cons_zero,List.set_cons_succ,i64_w,i32_w]
  rfl
 refine pure_ (i:=2) (N:=some 40) (v:=?_) (a':=?_) #[true,false,true,false,false,false] rfl rfl (by kernel_rfl) (fun _ _ _ h=>h) (Or.inl ⟨by rfl,?_⟩) ?_ ?_;rotate_left
 ·intro w'
  go_simp
  with_reducible rfl
 rotate_left
 ·simp only [Act.put,List.setIfInBounds_toArray,List.set_cons_zero,List.set_cons_succ,i64_w,i32_w]
  rfl
 refine take_ (i:=1) (N:=some 39) (v:=?_) (a':=?_) #[true,true,true,false,false,false] rfl rfl (by kernel_rfl) (fun _ _ _ h=>h) (Or.inl ⟨by rfl,?_⟩) hHeld ?_ ?_;rotate_left
 ·rintro w' ⟨s0,s1,s2,s3⟩
  go_simp
  with_reducible rfl
 rotate_left
 ·simp only [Act.put,List.setIfInBounds_toArray,List.set_cons_zero,List.set_cons_succ,i64_w,i32_w]
  rfl
 refine pure_ (i:=4) (N:=some 9) (v:=?_) (a':=?_) #[true,true,true,false,true,false] rfl rfl (by kernel_rfl) (fun _ _ _ h=>h) (Or.inl ⟨by rfl,?_⟩) ?_ ?_;rotate_left
 ·intro w'
  go_simp
  with_reducible rfl
 rotate_left
 ·simp only [Act.put,List.setIfInBounds_toArray,List.set_cons_zero,List.set_cons_succ,i64_w,i32_w]
  rfl
 refine take_ (i:=3) (N:=some 41) (v:=?_) (a':=?_) #[true,true,true,true,true,false] rfl rfl (by kernel_rfl) (fun _ _ _ h=>h) (Or.inl ⟨by rfl,?_⟩) hHeld ?_ ?_;rotate_left
 ·rintro w' ⟨s0,s1,s2,s3⟩
  go_simp
  with_reducible rfl
 rotate_left
 ·simp only [Act.put,List.setIfInBounds_toArray,List.set_cons_zero,List.set_cons_succ,i64_w,i32_w]
  rfl
 refine pure_ (i:=5) (N:=some 10) (v:=?_) (a':=?_) #[true,true,true,true,true,true] rfl rfl (by kernel_rfl) (fun _ _ _ h=>h) (Or.inl ⟨by rfl,?_⟩) ?_ ?_;rotate_left
 ·intro w'
  go_simp
  with_reducible rfl
 rotate_left
 ·simp only [Act.put,List.setIfInBounds_toArray,List.set_cons_zero,List.set_cons_succ,i64_w,i32_w]
  rfl
 refine done_ (by kernel_rfl) ?_;obtain ⟨_,_,_,_⟩:=sqN2 N2_0 N2_1;obtain ⟨_,_,_,_,_,_,_,_⟩:=sqc4 B2
 go_wp2
 have ix0 : ∀ w : World,(Instr.index 81 (.agg #[.int .i64 t0,.int .i64 t1,.int .i64 t2,.int .i64 t3]) (.int .i64 0)).run Try.prog w = .ok (.int .i64 t0) w:=fun _=>by kernel_rfl
 have ix1 : ∀ w : World,(Instr.index 81 (.agg #[.int .i64 t0,.int .i64 t1,.int .i64 t2,.int .i64 t3]) (.int .i64 1)).run Try.prog w = .ok (.int .i64 t1) w:=fun _=>by kernel_rfl
 have ix2 : ∀ w : World,(Instr.index 81 (.agg #[.int .i64 t0,.int .i64 t1,.int .i64 t2,.int .i64 t3]) (.int .i64 2)).run Try.prog w = .ok (.int .i64 t2) w:=fun _=>by kernel_rfl
 have ix3 : ∀ w : World,(Instr.index 81 (.agg #[.int .i64 t0,.int .i64 t1,.int .i64 t2,.int .i64 t3]) (.int .i64 3)).run Try.prog w = .ok (.int .i64 t3) w:=fun _=>by kernel_rfl
 go_loopg [9,10,43] 4 (fun kq v9 v10 v43 wc=>∃ (x0 x1 i : Int),v9 = .int .i64 x0∧v10 = .int .i64 x1∧v43 = .int .i64 i∧Aside0 ((kq = 4∧i = 0∧(mn (mn (mn (mn x0 t0) t1) t2) t3) = r1∧(mx (mx (mx (mx x1 t0) t1) t2) t3) = r2) ∨ (kq = 3∧i = 1∧(mn (mn (mn x0 t1) t2) t3) = r1∧(mx (mx (mx x1 t1) t2) t3) = r2) ∨ (kq = 2∧i = 2∧(mn (mn x0 t2) t3) = r1∧(mx (mx x1 t2) t3) = r2) ∨ (kq = 1∧i = 3∧(mn x0 t3) = r1∧(mx x1 t3) = r2) ∨ (kq = 0∧i = 4∧x0 = r1∧x1 = r2))∧Aside0 (Below w.heap.size w wc))
 case atStart=>exact ⟨t0,t0,0,sqE,sqE,sqE,⟨Or.inl ⟨rfl,rfl,e1,e2⟩⟩,sqh HB⟩
 case round =>
  clear HB;obtain ⟨x0,x1,i,rfl,rfl,rfl,HA,HB⟩:=hrel;rcases HA.out with ⟨rfl,rfl,e3,e4⟩ | ⟨rfl,rfl,e3,e4⟩ | ⟨rfl,rfl,e3,e4⟩ | ⟨rfl,rfl,e3,e4⟩ | ⟨rfl,rfl,e3,e4⟩
  ·obtain ⟨za,y1⟩ : ∃ j_ : Int,mn x0 t0 = j_:=⟨_,rfl⟩
   obtain ⟨zb,y2⟩ : ∃ j_ : Int,mx x1 t0 = j_:=⟨_,rfl⟩
   rw [y1] at e3;rw [y2] at e4;have y3 : (if t0 < x0 then t0 else x0) = za:=y1;have y4 : (if x1 < t0 then t0 else x1) = zb:=y2
   go_wp2
   go_roundg 3
   case measure=>omega
   case rel=>exact ⟨za,zb,1,sqE,sqE,sqE,⟨Or.inr (Or.inl ⟨rfl,rfl,e3,e4⟩)⟩,sqh HB⟩
  ·obtain ⟨za,y1⟩ : ∃ j_ : Int,mn x0 t1 = j_:=⟨_,rfl⟩
   obtain ⟨zb,y2⟩ : ∃ j_ : Int,mx x1 t1 = j_:=⟨_,rfl⟩
   rw [y1] at e3;rw [y2] at e4;have y3 : (if t1 < x0 then t1 else x0) = za:=y1;have y4 : (if x1 < t1 then t1 else x1) = zb:=y2
   go_wp2
   go_roundg 2
   case measure=>omega
   case rel=>exact ⟨za,zb,2,sqE,sqE,sqE,⟨Or.inr (Or.inr (Or.inl ⟨rfl,rfl,e3,e4⟩))⟩,sqh HB⟩
  ·obtain ⟨za,y1⟩ : ∃ j_ : Int,mn x0 t2 = j_:=⟨_,rfl⟩
   obtain ⟨zb,y2⟩ : ∃ j_ : Int,mx x1 t2 = j_:=⟨_,rfl⟩
   rw [y1] at e3;rw [y2] at e4;have y3 : (if t2 < x0 then t2 else x0) = za:=y1;have y4 : (if x1 < t2 then t2 else x1) = zb:=y2
   go_wp2
   go_roundg 1
   case measure=>omega
   case rel=>exact ⟨za,zb,3,sqE,sqE,sqE,⟨Or.inr (Or.inr (Or.inr (Or.inl ⟨rfl,rfl,e3,e4⟩)))⟩,sqh HB⟩
  ·obtain ⟨za,y1⟩ : ∃ j_ : Int,mn x0 t3 = j_:=⟨_,rfl⟩
   obtain ⟨zb,y2⟩ : ∃ j_ : Int,mx x1 t3 = j_:=⟨_,rfl⟩
   rw [y1] at e3;rw [y2] at e4;have y3 : (if t3 < x0 then t3 else x0) = za:=y1;have y4 : (if x1 < t3 then t3 else x1) = zb:=y2
   go_wp2
   go_roundg 0
   case measure=>omega
   case rel=>exact ⟨za,zb,4,sqE,sqE,sqE,⟨Or.inr (Or.inr (Or.inr (Or.inr (⟨rfl,rfl,e3,e4⟩))))⟩,sqh HB⟩
  ·subst e3;subst e4
   go_wp2
   go_ret2
   exact ⟨by first | rfl | (simp;done),sqB HB⟩

/-! ### impl_rangeFrom: function 31 -/
theorem impl_rangeFrom.calls (a0 : Int) (a1 : Int) (r1 : Int) (r2 : Int) (w : World) (h : impl_rangeFrom.f a0 a1 = some (r1,r2)) :
  Calls Try.prog 31 #[.int .i64 a0,.int .i64 a1] w fun e w'=>e = .returned (.agg #[.int .i64 r1,.int .i64 r2])∧Below w.heap.size w w':=by
 have hu24:=Try.underlying24;have HB:=Aside0.mk (Below.refl w.heap.size w);have H:=h;unfold impl_rangeFrom.f at H;clear h;obtain ⟨z0,z3⟩ : ∃ j_ : Int,(mx a0 (-2147483648)) = j_:=⟨_,rfl⟩
 replace H : (if (z0) > (mn a1 2147483647) then ((impl_rangeNone.f).bind fun bt0=>(some (bt0.1,bt0.2))) else (some (z0,mn a1 2147483647))) = some (r1,r2):=by first | (rw [z3] at H;exact H) | (simp only [z3] at H ⊢;exact H)
 have z5 : (if a0 < (-2147483648) then (-2147483648) else a0) = z0:=z3;obtain ⟨z1,z2⟩ : ∃ j_ : Int,(mn a1 2147483647) = j_:=⟨_,rfl⟩
 replace H : (if (z0) > (z1) then ((impl_rangeNone.f).bind fun bt0=>(some (bt0.1,bt0.2))) else (some (z0,z1))) = some (r1,r2):=by first | (rw [z2] at H;exact H) | (simp only [z2] at H ⊢;exact H)
 (try (have hji4h : z1 ≤ 2147483647:=by (rw [← z2];unfold mn;(repeat' split) <;> omega)))
 (try (have hji4g : z1 ≤ 64:=by omega))
 have z6 : (if 2147483647 < a1 then 2147483647 else a1) = z1:=z2;replace H:=sqi H;rcases H with ⟨c5,H⟩ | ⟨c5,H⟩
 ·have z4 : decide ((z1) < (z0)) = false:=decide_eq_false c5;clear c5;simp only [Option.some.injEq,Prod.mk.injEq] at H;obtain ⟨rfl,rfl⟩:=H;go_enter Try.func31,Try.ntmps31;go_wp2_with (first | ((with_reducible refine gd 4 rfl ?_);refine sqX 4 #[.int .i64 0,.int .i64 0] 24 HB ?_;clear HB;intro gb0 hg w13 hb B0 GW0 HB;clear hb hg) | ((with_reducible refine gd 5 rfl ?_);refine sqX 5 #[.int .i64 0,.int .i64 0] 24 HB ?_;clear HB;intro gb1 hg w14 hb B1 GW1 HB;have N0_1:=sqn B0 hg;have N1_0:=sqm B0 hg;replace B0:=sqb B0 hb;clear hb hg;obtain ⟨_,_⟩:=sqN1 N1_0;obtain ⟨_,_,_,_⟩:=sqc2 B1;obtain ⟨_,_,_,_⟩:=sqc2 B0));refine sqre #[.int .i64 z0,.int .i64 z1] (sqP B0) Try.underlying24 ?_;exact ⟨by first | rfl | (simp [errW_none,errW_some] <;> rfl) | (simp only [← z3,← z2];first | rfl | (simp [errW_none,errW_some] <;> rfl)) | (simp [*,errW_none,errW_some] <;> rfl),sqB HB⟩
 have z4 : decide ((z1) < (z0)) = true:=decide_eq_true c5;clear c5;replace H:=sqbi H;obtain ⟨⟨t0,t1⟩,A6,H⟩:=H;(try dsimp only at H);simp only [Option.some.injEq,Prod.mk.injEq] at H;obtain ⟨rfl,rfl⟩:=H;go_enter Try.func31,Try.ntmps31;go_wp2_with (first | ((with_reducible refine gd 4 rfl ?_);refine sqX 4 #[.int .i64 0,.int .i64 0] 24 HB ?_;clear HB;intro gb0 hg w7 hb B0 GW0 HB;clear hb hg) | ((with_reducible refine gd 5 rfl ?_);refine sqX 5 #[.int .i64 0,.int .i64 0] 24 HB ?_;clear HB;intro gb1 hg w8 hb B1 GW1 HB;have N0_1:=sqn B0 hg;have N1_0:=sqm B0 hg;replace B0:=sqb B0 hb;clear hb hg;obtain ⟨_,_⟩:=sqN1 N1_0;obtain ⟨_,_,_,_⟩:=sqc2 B1) | ((with_reducible refine gf 29 rfl ?_);refine sqLb rfl (some 16) Try.func29 (impl_rangeNone.calls _ _ _ A6.out) ?_;intro w11 hb;replace B0:=sqbb B0 hb;replace B1:=sqPb (ds:=#[.int .i64 z0,.int .i64 z1]) B1 hb;replace HB:=sqs HB hb;(try clear hb);obtain ⟨_,_,_,_⟩:=sqc2 B0));refine sqre #[.int .i64 t0,.int .i64 t1] (sqP B0) Try.underlying24 ?_;exact ⟨by first | rfl | (simp [errW_none,errW_some] <;> rfl) | (simp only [← z3,← z2];first | rfl | (simp [errW_none,errW_some] <;> rfl)) | (simp [*,errW_none,errW_some] <;> rfl),sqB HB⟩

/-! ### impl_NumWrap: function 50 -/
theorem impl_NumWrap.calls (a0 : Int) (r : Int) (w : World) (h : impl_NumWrap.f a0 = some r) :
  Calls Try.prog 50 #[.int .i64 a0] w fun e w'=>e = .returned (.int .i64 r)∧Drawn0 w w':=by
 have H:=h;unfold impl_NumWrap.f at H;clear h;obtain rfl:=Option.some.inj H;go_enter Try.func50,Try.ntmps50
 go_wp2
 go_ret
 exact ⟨sqE,sqD⟩

/-! ### impl_rangeWrap: function 32 -/
theorem impl_rangeWrap.calls (k : Nat) (a0 : Int) (a1_0 : Int) (a1_1 : Int) (a2_0 : Int) (a2_1 : Int) (r1 : Int) (r2 : Int) (w : World) (h : impl_rangeWrap.f k a0 a1_0 a1_1 a2_0 a2_1 = some (r1,r2)) :
  Calls Try.prog 32 #[.int .i64 a0,.agg #[.int .i64 a1_0,.int .i64 a1_1],.agg #[.int .i64 a2_0,.int .i64 a2_1]] w fun e w'=>e = .returned (.agg #[.int .i64 r1,.int .i64 r2])∧Below w.heap.size w w':=by
 have hu24:=Try.underlying24;have HB:=Aside0.mk (Below.refl w.heap.size w);have H:=h;unfold impl_rangeWrap.f at H;clear h;replace H:=sqbi H;obtain ⟨⟨t0,t1⟩,A4,H⟩:=H;(try dsimp only at H);have HC5:=Aside0.mk H;clear H;go_enter Try.func32,Try.ntmps32;go_upto_region 2 with (first | ((with_reducible refine gd 4 rfl ?_);refine sqX 4 #[.int .i64 a1_0,.int .i64 a1_1] 24 HB ?_;clear HB;intro gb0 hg w6 hb B0 GW0 HB;clear hb hg) | ((with_reducible refine gd 5 rfl ?_);refine sqX 5 #[.int .i64 a2_0,.int .i64 a2_1] 24 HB ?_;clear HB;intro gb1 hg w7 hb B1 GW1 HB;have N0_1:=sqn B0 hg;have N1_0:=sqm B0 hg;replace B0:=sqb B0 hb;clear hb hg) | ((with_reducible refine gd 6 rfl ?_);refine sqX 6 #[.int .i64 0,.int .i64 0] 24 HB ?_;clear HB;intro gb2 hg w8 hb B2 GW2 HB;have N0_2:=sqn B0 hg;have N2_0:=sqm B0 hg;have N1_2:=sqn B1 hg;have N2_1:=sqm B1 hg;refine sqM2 B0 B1 hb ?_;clear B0 B1;intro B0 B1;clear hb hg;obtain ⟨_,_,_,_⟩:=sqN2 N0_1 N0_2;obtain ⟨_,_,_,_⟩:=sqc2 B0;obtain ⟨_,_⟩:=sqN1 N1_2;obtain ⟨_,_,_,_⟩:=sqc2 B1) | ((with_reducible refine gf 30 rfl ?_);refine sqLb rfl (some 13) Try.func30 (impl_rangeCorners.calls _ _ _ _ _ _ _ _ _ A4.out) ?_;intro w14 hb;refine sqM3 B0 B1 B2 hb ?_;clear B0 B1 B2;intro B0 B1 B2;replace HB:=sqs HB hb;(try clear hb)))
 (try simp only [Act.put,List.setIfInBounds_toArray,List.set_cons_zero,List.set_cons_succ])
 go_cut [26] (fun v26 wc=>∃ (kq : Nat) (x0 : Bool),v26 = .bool x0∧Aside0 (impl_rangeWrap.j0 kq t0 t1 x0 = some (r1,r2))∧Aside0 (kq ≤ k)∧Aside0 (wc.heap[gb0]? = some (.cells #[.int .i64 a1_0,.int .i64 a1_1] 24 (0,0)))∧Aside0 (wc.heap[gb1]? = some (.cells #[.int .i64 a2_0,.int .i64 a2_1] 24 (0,0)))∧Aside0 (wc.heap[gb2]? = some (.cells #[.int .i64 0,.int .i64 0] 24 (0,0)))∧Aside0 (Below w.heap.size w wc))
 case first =>
  have H:=HC5.out;clear HC5;replace H:=sqj H;rcases H with ⟨c15,H⟩ | ⟨c15,H⟩
  ·have z0 : decide (4294967295 < (wrap64 (t1 - t0))) = true:=decide_eq_true c15;clear c15
   (first | rw [z0] | (simp only [i64_w,i32_w];rw [z0]) | skip)
   have H':=Aside0.mk H;clear H
   go_wp2
   go_meet
   case rel=>exact ⟨_,(true),sqE,H',⟨sqle⟩,sqk B0,sqk B1,sqk B2,sqh HB⟩
  have z0 : decide (4294967295 < (wrap64 (t1 - t0))) = false:=decide_eq_false c15;clear c15
  (first | rw [z0] | (simp only [i64_w,i32_w];rw [z0]) | skip)
  replace H:=sqbi H;obtain ⟨t2,A16,H⟩:=H;(try dsimp only at H);replace H:=sqbi H;obtain ⟨t3,A17,H⟩:=H;(try dsimp only at H);have H':=Aside0.mk H;clear H;go_wp2_with (first | (go_at_call 50;(with_reducible refine (impl_NumWrap.calls t0 t2 _ A16.out).mono ?_);rintro e w' ⟨rfl,⟨nd,rfl⟩⟩) | (go_at_call 50;(with_reducible refine (impl_NumWrap.calls t1 t3 _ A17.out).mono ?_);rintro e w' ⟨rfl,⟨nd,rfl⟩⟩));go_meet
  case rel=>exact ⟨_,(decide (t2 > t3)),sqE,H',⟨sqle⟩,sqk B0,sqk B1,sqk B2,sqh HB⟩
 case rest =>
  clear HC5;obtain ⟨kq,x0,rfl,HA,HJ4,B0,B1,B2,HB⟩:=hcut;cases kq with
  | zero=>exact absurd HA.out (by simp [impl_rangeWrap.j0])
  | succ kj4 =>
   have H:=HA.out;clear HA;simp only [impl_rangeWrap.j0] at H
   by_cases c18 : x0 = true
   ·subst c18;rw [if_pos rfl] at H;replace H:=sqbi H;obtain ⟨⟨t4,t5⟩,A19,H⟩:=H;(try dsimp only at H);simp only [Option.some.injEq,Prod.mk.injEq] at H;obtain ⟨rfl,rfl⟩:=H;go_wp2_with (first | ((with_reducible refine gf 31 rfl ?_);refine sqLb rfl (some 27) Try.func31 (impl_rangeFrom.calls _ _ _ _ _ A19.out) ?_;intro w20 hb;refine sqM3 B0 B1 B2 hb ?_;clear B0 B1 B2;intro B0 B1 B2;replace HB:=sqs HB hb;(try clear hb);obtain ⟨_,_,_,_⟩:=sqN2 N2_0 N2_1;obtain ⟨_,_,_,_⟩:=sqc2 B2));refine sqre #[.int .i64 t4,.int .i64 t5] (sqP B2) Try.underlying24 ?_;exact sqe HB
   replace c18:=Bool.eq_false_iff.mpr c18;subst c18;rw [sqff] at H;replace H:=sqbi H;obtain ⟨t6,A24,H⟩:=H;(try dsimp only at H);replace H:=sqbi H;obtain ⟨t7,A25,H⟩:=H;(try dsimp only at H);replace H:=sqbi H;obtain ⟨⟨t8,t9⟩,A26,H⟩:=H;(try dsimp only at H);simp only [Option.some.injEq,Prod.mk.injEq] at H;obtain ⟨rfl,rfl⟩:=H;go_wp2_with (first | ((with_reducible refine gf 50 rfl ?_);refine sqLq rfl (some 29) Try.func50 (impl_NumWrap.calls _ _ _ A24.out) ?_;intro nd;(try (rw [drewN_self wc];generalize hq_ : World.drewN wc _ = wc;replace B0:=sqq B0 hq_;replace B1:=sqq B1 hq_;replace B2:=sqq B2 hq_;replace HB:=sqr HB hq_;clear hq_;obtain ⟨z1,z2,z3,z4⟩:=sqc2 B0;obtain ⟨z5,z6,z7,z8⟩:=sqc2 B1;obtain ⟨z9,za,zb,zc⟩:=sqc2 B2))) | ((with_reducible refine gf 50 rfl ?_);refine sqLq rfl (some 31) Try.func50 (impl_NumWrap.calls _ _ _ A25.out) ?_;intro nd;(try (rw [drewN_self wc];generalize hq_ : World.drewN wc _ = wc;replace B0:=sqq B0 hq_;replace B1:=sqq B1 hq_;replace B2:=sqq B2 hq_;replace HB:=sqr HB hq_;clear hq_;obtain ⟨zd,ze,zf,zg⟩:=sqc2 B0;obtain ⟨zh,zi,zj,zk⟩:=sqc2 B1;obtain ⟨zl,zm,zn,zo⟩:=sqc2 B2))) | ((with_reducible refine gf 31 rfl ?_);refine sqLb rfl (some 32) Try.func31 (impl_rangeFrom.calls _ _ _ _ _ A26.out) ?_;intro w27 hb;refine sqM3 B0 B1 B2 hb ?_;clear B0 B1 B2;intro B0 B1 B2;replace HB:=sqs HB hb;(try clear hb);obtain ⟨_,_,_,_⟩:=sqN2 N2_0 N2_1;obtain ⟨_,_,_,_⟩:=sqc2 B2));refine sqre #[.int .i64 t8,.int .i64 t9] (sqP B2) Try.underlying24 ?_;exact sqe HB

/-! ### impl_RangeMeet: function 72 -/
theorem impl_RangeMeet.calls (k : Nat) (a0_0 : Int) (a0_1 : Int) (a1_0 : Int) (a1_1 : Int) (r1 : Int) (r2 : Int) (w : World) (h : impl_RangeMeet.f k a0_0 a0_1 a1_0 a1_1 = some (r1,r2)) :
  Calls Try.prog 72 #[.agg #[.int .i64 a0_0,.int .i64 a0_1],.agg #[.int .i64 a1_0,.int .i64 a1_1]] w fun e w'=>e = .returned (.agg #[.int .i64 r1,.int .i64 r2])∧Below w.heap.size w w':=by
 have hu24:=Try.underlying24;have HB:=Aside0.mk (Below.refl w.heap.size w);have H:=h;unfold impl_RangeMeet.f at H;clear h;have HC3:=Aside0.mk H;clear H;go_enter Try.func72,Try.ntmps72;go_upto_region 1 with (first | ((with_reducible refine gd 2 rfl ?_);refine sqX 2 #[.int .i64 a0_0,.int .i64 a0_1] 24 HB ?_;clear HB;intro gb0 hg w4 hb B0 GW0 HB;clear hb hg) | ((with_reducible refine gd 3 rfl ?_);refine sqX 3 #[.int .i64 a1_0,.int .i64 a1_1] 24 HB ?_;clear HB;intro gb1 hg w5 hb B1 GW1 HB;have N0_1:=sqn B0 hg;have N1_0:=sqm B0 hg;replace B0:=sqb B0 hb;clear hb hg) | ((with_reducible refine gd 4 rfl ?_);refine sqX 4 #[.int .i64 0,.int .i64 0] 24 HB ?_;clear HB;intro gb2 hg w6 hb B2 GW2 HB;have N0_2:=sqn B0 hg;have N2_0:=sqm B0 hg;have N1_2:=sqn B1 hg;have N2_1:=sqm B1 hg;refine sqM2 B0 B1 hb ?_;clear B0 B1;intro B0 B1;clear hb hg))
 (try simp only [Act.put,List.setIfInBounds_toArray,List.set_cons_zero,List.set_cons_succ])
 go_cut [20] (fun v20 wc=>∃ (kq : Nat) (x0 : Bool),v20 = .bool x0∧Aside0 (impl_RangeMeet.j0 kq x0 a0_0 a0_1 a1_0 a1_1 = some (r1,r2))∧Aside0 (kq ≤ k)∧Aside0 (wc.heap[gb0]? = some (.cells #[.int .i64 a0_0,.int .i64 a0_1] 24 (0,0)))∧Aside0 (wc.heap[gb1]? = some (.cells #[.int .i64 a1_0,.int .i64 a1_1] 24 (0,0)))∧Aside0 (wc.heap[gb2]? = some (.cells #[.int .i64 0,.int .i64 0] 24 (0,0)))∧Aside0 (Below w.heap.size w wc))
 case first =>
  have H:=HC3.out;clear HC3;replace H:=sqbi H;obtain ⟨t0,A7,H⟩:=H;(try dsimp only at H);rcases sqI (t0 = true) with c8 | c8
  ·replace c8:=Bool.eq_false_iff.mpr c8;subst c8;rw [sqff] at H;have H':=Aside0.mk H;clear H;obtain ⟨_,_,_,_⟩:=sqN2 N0_1 N0_2;obtain ⟨_,_,_,_⟩:=sqc2 B0;go_wp2_with (first | ((with_reducible refine gf 14 rfl ?_);refine sqLb rfl (some 6) Try.func14 (impl_RangeOk.calls _ _ _ _ A7.out) ?_;intro w44 hb;refine sqM3 B0 B1 B2 hb ?_;clear B0 B1 B2;intro B0 B1 B2;replace HB:=sqs HB hb;(try clear hb)));go_meet
   case rel=>exact ⟨_,(true),sqE,H',⟨sqle⟩,sqk B0,sqk B1,sqk B2,sqh HB⟩
  subst c8;rw [if_pos rfl] at H;replace H:=sqbi H;obtain ⟨t1,A9,H⟩:=H;(try dsimp only at H);rcases sqI (t1 = true) with c10 | c10
  ·replace c10:=Bool.eq_false_iff.mpr c10;subst c10;rw [sqff] at H;have H':=Aside0.mk H;clear H;obtain ⟨_,_,_,_⟩:=sqN2 N0_1 N0_2;obtain ⟨_,_,_,_⟩:=sqc2 B0;go_wp2_with (first | ((with_reducible refine gf 14 rfl ?_);refine sqLb rfl (some 6) Try.func14 (impl_RangeOk.calls _ _ _ _ A7.out) ?_;intro w37 hb;refine sqM3 B0 B1 B2 hb ?_;clear B0 B1 B2;intro B0 B1 B2;replace HB:=sqs HB hb;(try clear hb);obtain ⟨_,_⟩:=sqN1 N1_2;obtain ⟨_,_,_,_⟩:=sqc2 B1) | (go_at_call 14;(with_reducible refine (impl_RangeOk.calls a1_0 a1_1 false _ A9.out).mono ?_);rintro e w40 ⟨rfl,hb⟩;refine sqM3 B0 B1 B2 hb ?_;clear B0 B1 B2;intro B0 B1 B2;replace HB:=sqs HB hb;(try clear hb)));go_meet
   case rel=>exact ⟨_,(true),sqE,H',⟨sqle⟩,sqk B0,sqk B1,sqk B2,sqh HB⟩
  subst c10;rw [if_pos rfl] at H;replace H:=sqbi H;obtain ⟨t2,A11,H⟩:=H;(try dsimp only at H)
  by_cases c12 : t2 = true
  ·subst c12;rw [if_pos rfl] at H;have H':=Aside0.mk H;clear H;obtain ⟨_,_,_,_⟩:=sqN2 N0_1 N0_2;obtain ⟨_,_,_,_⟩:=sqc2 B0;go_wp2_with (first | ((with_reducible refine gf 14 rfl ?_);refine sqLb rfl (some 6) Try.func14 (impl_RangeOk.calls _ _ _ _ A7.out) ?_;intro w16 hb;refine sqM3 B0 B1 B2 hb ?_;clear B0 B1 B2;intro B0 B1 B2;replace HB:=sqs HB hb;(try clear hb);obtain ⟨_,_⟩:=sqN1 N1_2;obtain ⟨_,_,_,_⟩:=sqc2 B1) | (go_at_call 14;(with_reducible refine (impl_RangeOk.calls a1_0 a1_1 true _ A9.out).mono ?_);rintro e w19 ⟨rfl,hb⟩;refine sqM3 B0 B1 B2 hb ?_;clear B0 B1 B2;intro B0 B1 B2;replace HB:=sqs HB hb;(try clear hb);obtain ⟨_,_,_,_⟩:=sqc2 B0) | (go_at_call 28;(with_reducible refine (impl_Range_empty.calls a0_0 a0_1 true _ A11.out).mono ?_);rintro e w21 ⟨rfl,hb⟩;refine sqM3 B0 B1 B2 hb ?_;clear B0 B1 B2;intro B0 B1 B2;replace HB:=sqs HB hb;(try clear hb)));go_meet
   case rel=>exact ⟨_,(true),sqE,H',⟨sqle⟩,sqk B0,sqk B1,sqk B2,sqh HB⟩
  replace c12:=Bool.eq_false_iff.mpr c12;subst c12;rw [sqff] at H;replace H:=sqbi H;obtain ⟨t3,A22,H⟩:=H;(try dsimp only at H);have H':=Aside0.mk H;clear H;obtain ⟨_,_,_,_⟩:=sqN2 N0_1 N0_2;obtain ⟨_,_,_,_⟩:=sqc2 B0;go_wp2_with (first | ((with_reducible refine gf 14 rfl ?_);refine sqLb rfl (some 6) Try.func14 (impl_RangeOk.calls _ _ _ _ A7.out) ?_;intro w26 hb;refine sqM3 B0 B1 B2 hb ?_;clear B0 B1 B2;intro B0 B1 B2;replace HB:=sqs HB hb;(try clear hb);obtain ⟨_,_⟩:=sqN1 N1_2;obtain ⟨_,_,_,_⟩:=sqc2 B1) | (go_at_call 14;(with_reducible refine (impl_RangeOk.calls a1_0 a1_1 true _ A9.out).mono ?_);rintro e w29 ⟨rfl,hb⟩;refine sqM3 B0 B1 B2 hb ?_;clear B0 B1 B2;intro B0 B1 B2;replace HB:=sqs HB hb;(try clear hb);obtain ⟨_,_,_,_⟩:=sqc2 B0) | (go_at_call 28;(with_reducible refine (impl_Range_empty.calls a0_0 a0_1 false _ A11.out).mono ?_);rintro e w31 ⟨rfl,hb⟩;refine sqM3 B0 B1 B2 hb ?_;clear B0 B1 B2;intro B0 B1 B2;replace HB:=sqs HB hb;(try clear hb);obtain ⟨_,_,_,_⟩:=sqc2 B1) | (go_at_call 28;(with_reducible refine (impl_Range_empty.calls a1_0 a1_1 t3 _ A22.out).mono ?_);rintro e w33 ⟨rfl,hb⟩;refine sqM3 B0 B1 B2 hb ?_;clear B0 B1 B2;intro B0 B1 B2;replace HB:=sqs HB hb;(try clear hb)));go_meet
  case rel=>exact ⟨_,(t3),sqE,H',⟨sqle⟩,sqk B0,sqk B1,sqk B2,sqh HB⟩
 case rest =>
  clear HC3;obtain ⟨kq,x0,rfl,HA,HJ2,B0,B1,B2,HB⟩:=hcut;cases kq with
  | zero=>exact absurd HA.out (by simp [impl_RangeMeet.j0])
  | succ kj2 =>
   have H:=HA.out;clear HA;simp only [impl_RangeMeet.j0] at H
   by_cases c45 : x0 = true
   ·subst c45;rw [if_pos rfl] at H;replace H:=sqbi H;obtain ⟨⟨t4,t5⟩,A46,H⟩:=H;(try dsimp only at H);simp only [Option.some.injEq,Prod.mk.injEq] at H;obtain ⟨rfl,rfl⟩:=H;go_wp2_with (first | ((with_reducible refine gf 29 rfl ?_);refine sqLb rfl (some 21) Try.func29 (impl_rangeNone.calls _ _ _ A46.out) ?_;intro w47 hb;refine sqM3 B0 B1 B2 hb ?_;clear B0 B1 B2;intro B0 B1 B2;replace HB:=sqs HB hb;(try clear hb);obtain ⟨_,_,_,_⟩:=sqN2 N2_0 N2_1;obtain ⟨_,_,_,_⟩:=sqc2 B2));refine sqre #[.int .i64 t4,.int .i64 t5] (sqP B2) Try.underlying24 ?_;exact sqe HB
   replace c45:=Bool.eq_false_iff.mpr c45;subst c45;rw [sqff] at H;obtain ⟨z0,z1⟩ : ∃ j_ : Int,(mx a0_0 a1_0) = j_:=⟨_,rfl⟩
   replace H : ((impl_rangeFrom.f (z0) (mn a0_1 a1_1)).bind fun bt6=>(some (bt6.1,bt6.2))) = some (r1,r2):=by first | (rw [z1] at H;exact H) | (simp only [z1] at H ⊢;exact H)
   have z4 : (if a0_0 < a1_0 then a1_0 else a0_0) = z0:=z1;obtain ⟨z3,z2⟩ : ∃ j_ : Int,(mn a0_1 a1_1) = j_:=⟨_,rfl⟩
   replace H : ((impl_rangeFrom.f (z0) (z3)).bind fun bt6=>(some (bt6.1,bt6.2))) = some (r1,r2):=by first | (rw [z2] at H;exact H) | (simp only [z2] at H ⊢;exact H)
   have z5 : (if a1_1 < a0_1 then a1_1 else a0_1) = z3:=z2;replace H:=sqbi H;obtain ⟨⟨t6,t7⟩,A53,H⟩:=H;(try dsimp only at H);simp only [Option.some.injEq,Prod.mk.injEq] at H;obtain ⟨rfl,rfl⟩:=H;obtain ⟨_,_,_,_⟩:=sqN2 N0_1 N0_2;obtain ⟨_,_,_,_⟩:=sqc2 B0;obtain ⟨_,_⟩:=sqN1 N1_2;obtain ⟨_,_,_,_⟩:=sqc2 B1;go_wp2_with (first | ((with_reducible refine gate_callee (f:=31) rfl ?_);refine goesL_ (some 32) rfl rfl Try.func31 (by kernel_rfl) rfl #[.int .i64 z0,.int .i64 z3] rfl (by (try simp only [List.map_toArray,List.map_cons,List.map_nil]);first | done | (simp only [z1,z2];rfl) | rfl | (simp only [List.length_drop,List.length_take];rfl)) ?_;(with_reducible refine (impl_rangeFrom.calls z0 z3 t6 t7 _ A53.out).mono ?_);rintro e w59 ⟨rfl,hb⟩;refine ⟨_,rfl,?_⟩;refine sqM3 B0 B1 B2 hb ?_;clear B0 B1 B2;intro B0 B1 B2;replace HB:=sqs HB hb;(try clear hb);obtain ⟨_,_,_,_⟩:=sqc2 B2));refine sqre #[.int .i64 t6,.int .i64 t7] (sqP B2) Try.underlying24 ?_;exact ⟨by first | rfl | (simp [errW_none,errW_some] <;> rfl) | (simp only [← z1,← z2];first | rfl | (simp [errW_none,errW_some] <;> rfl)) | (simp [*,errW_none,errW_some] <;> rfl),sqB HB⟩

end Go.Proofs.Ytlbheepfmjbpnaa.PFnValDo
