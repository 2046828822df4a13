/- Functions of the program as plain Lean functions, and that calls of them come to what these tell. Conditions: those in each law. -/
import Derived.Test.YtklkdpcopfjmcaaGreatSqV
import Derived.Test.YtklkdpcopfjmcaaGreatDFnExactAbsWidenV
import Derived.Test.YtklkdpcopfjmcaaGreatQFnExactAbsWidenx0V
import Derived.Test.YtklkdpcopfjmcaaGreatQFnExactAbsWidenx3V
import Derived.Test.YtklkdpcopfjmcaaGreatQFnExactAbsWidenx9V
import Derived.Test.YtklkdpcopfjmcaaGreatQFnExactAbsWidenx14V
import Derived.Test.YtklkdpcopfjmcaaGreatQFnExactAbsWidenx20V
namespace Go.Proofs.YtklkdpcopfjmcaaGreat.PFnExactAbsWiden
open Go.RowKit Tryz Go.Proofs.YtklkdpcopfjmcaaGreat.Sq Go.Proofs.YtklkdpcopfjmcaaGreatW.PrintWords Go.Proofs.YtklkdpcopfjmcaaGreatW.PrintLast Go.Proofs.YtklkdpcopfjmcaaGreatW.PrintMore
attribute [local go_sem] nV nT o8 pz mV mW nW nS 
set_option linter.unusedVariables false
set_option linter.unusedSimpArgs false
attribute [local go_sem high] Ap
set_option maxHeartbeats 8000000
set_option maxRecDepth 100000
def eP.T7 : Bool × List (List Nat × List Nat):=(true,[([],[]),([0],[0]),([],[]),([2,1],[2]),([1,3,3],[1,3]),([],[]),([5,4],[5]),([],[]),([7,6],[7]),([6,8,8],[6,8]),([4,9,9],[4,9]),([10,10,0,1,2,3,4,5,6,7,8,9,10],[10])])
def eP.B7 : List Nat:=[0,1,0,7,15,0,63,0,255,511,1023,2047]
theorem eP.xA : l9 .any (opsOf f163 7) = eP.T7:=by kernel_rfl
theorem eP.uD : fQ eP.T7.2 eP.B7 = true:=by kernel_rfl
theorem eP.calls (k : Nat) (ai : Int) (aD : Int) (bM : Int) (bL : Int) (aG : Int) (bG : Int) (gH : Int) (gG : Int) (r1 : Int) (r2 : Int) (r3 : Int) (r4 : Int) (w : World) (h : eP.f k ai aD bM bL aG bG gH gG = some (r1,r2,r3,r4)) :
  Calls prog 163 #[.agg #[.int .i64 ai,.int .i64 aD,.int .i64 bM,.int .i64 bL],.agg #[.int .i64 aG,.int .i64 bG,.int .i64 gH,.int .i64 gG]] w fun e w'=>e = .returned (.agg #[.int .i64 r1,.int .i64 r2,.int .i64 r3,.int .i64 r4])∧Below w.heap.size w w':=by
 have hu58:=underlying58;have HB:=af.mk (Below.refl w.heap.size w);have H:=h;unfold eP.f at H;clear h;have HC3:=af.mk H;clear H;go_enter func163,ntmps163;go_upto_region 1 with (first | ((with_reducible refine gd 2 rfl ?_);refine eO 2 #[.int .i64 ai,.int .i64 aD,.int .i64 bM,.int .i64 bL] 58 HB ?_;clear HB;intro gb0 hg w4 hb B0 GW0 HB;clear hb hg) | ((with_reducible refine gd 3 rfl ?_);refine eO 3 #[.int .i64 aG,.int .i64 bG,.int .i64 gH,.int .i64 gG] 58 HB ?_;clear HB;intro gb1 hg w5 hb B1 GW1 HB;have N0_1:=fC B0 hg;have N1_0:=fD B0 hg;replace B0:=bF B0 hb;clear hb hg) | ((with_reducible refine gd 4 rfl ?_);refine eO 4 #[.int .i64 0,.int .i64 0,.int .i64 0,.int .i64 0] 58 HB ?_;clear HB;intro gb2 hg w6 hb B2 GW2 HB;have N0_2:=fC B0 hg;have N2_0:=fD B0 hg;have N1_2:=fC B1 hg;have N2_1:=fD B1 hg;refine mM B0 B1 hb ?_;clear B0 B1;intro B0 B1;clear hb hg))
 (try simp only [Act.put,List.setIfInBounds_toArray,List.set_cons_zero,List.set_cons_succ])
 go_cut [12] (fun v12 wc=>∃ (kq : Nat) (x0 : Bool),v12 = .bool x0∧af (eP.j0 kq x0 ai aD bM bL aG bG gH gG = some (r1,r2,r3,r4))∧af (kq ≤ k)∧af (wc.heap[gb0]? = some (.cells #[.int .i64 ai,.int .i64 aD,.int .i64 bM,.int .i64 bL] 58 (0,0)))∧af (wc.heap[gb1]? = some (.cells #[.int .i64 aG,.int .i64 bG,.int .i64 gH,.int .i64 gG] 58 (0,0)))∧af (wc.heap[gb2]? = some (.cells #[.int .i64 0,.int .i64 0,.int .i64 0,.int .i64 0] 58 (0,0)))∧af (Below w.heap.size w wc))
 case first =>
  have H:=HC3.o;clear HC3;replace H:=bK H;obtain ⟨t0,A7,H⟩:=H;(try dsimp only at H);rcases qm (t0 = true) with c8 | c8
  ·replace c8:=Bool.eq_false_iff.mpr c8;subst c8;rw [gD] at H;have H':=af.mk H;clear H;obtain ⟨_,_,_,_⟩:=eY N0_1 N0_2;obtain ⟨_,_,_,_,_,_,_,_⟩:=fU B0;go_wp2_with (first | ((with_reducible refine gf 127 rfl ?_);refine eZ rfl (some 6) func127 (dG.calls _ _ _ _ _ _ _ A7.o) ?_;intro w20 hb;refine dI B0 B1 B2 hb ?_;clear B0 B1 B2;intro B0 B1 B2;replace HB:=bX HB hb;(try clear hb)));go_meet
   case rel=>exact ⟨_,(true),fw,H',⟨ng⟩,fE B0,fE B1,fE B2,lD HB⟩
  subst c8;rw [if_pos rfl] at H;replace H:=bK H;obtain ⟨t1,A9,H⟩:=H;(try dsimp only at H);have H':=af.mk H;clear H;obtain ⟨_,_,_,_⟩:=eY N0_1 N0_2;obtain ⟨_,_,_,_,_,_,_,_⟩:=fU B0;go_wp2_with (first | ((with_reducible refine gf 127 rfl ?_);refine eZ rfl (some 6) func127 (dG.calls _ _ _ _ _ _ _ A7.o) ?_;intro w13 hb;refine dI B0 B1 B2 hb ?_;clear B0 B1 B2;intro B0 B1 B2;replace HB:=bX HB hb;(try clear hb);obtain ⟨_,_⟩:=dU N1_2;obtain ⟨_,_,_,_,_,_,_,_⟩:=fU B1) | (go_at_call 127;(with_reducible refine (dG.calls k aG bG gH gG t1 _ A9.o).mono ?_);rintro e w16 ⟨rfl,hb⟩;refine dI B0 B1 B2 hb ?_;clear B0 B1 B2;intro B0 B1 B2;replace HB:=bX HB hb;(try clear hb)));go_meet
  case rel=>exact ⟨_,(!t1),fw,H',⟨ng⟩,fE B0,fE B1,fE B2,lD HB⟩
 case rest =>
  clear HC3;obtain ⟨kq,x0,rfl,HA,HJ2,B0,B1,B2,HB⟩:=hcut;cases kq with
  | zero=>exact absurd HA.o (by simp [eP.j0])
  | succ kj2 =>
   have H:=HA.o;clear HA;simp only [eP.j0] at H
   by_cases c21 : x0 = true
   ·subst c21;rw [if_pos rfl] at H;replace H:=bK H;obtain ⟨⟨t2,t3,t4,t5⟩,A22,H⟩:=H;(try dsimp only at H);simp only [Option.some.injEq,Prod.mk.injEq] at H;obtain ⟨rfl,rfl,rfl,rfl⟩:=H;go_wp2_with (first | ((with_reducible refine gf 93 rfl ?_);refine eZ rfl (some 13) func93 (dw.calls _ _ _ _ _ A22.o) ?_;intro w23 hb;refine dI B0 B1 B2 hb ?_;clear B0 B1 B2;intro B0 B1 B2;replace HB:=bX HB hb;(try clear hb);obtain ⟨_,_,_,_⟩:=eY N2_0 N2_1;obtain ⟨_,_,_,_,_,_,_,_⟩:=fU B2));refine iC #[.int .i64 t2,.int .i64 t3,.int .i64 t4,.int .i64 t5] (lV B2) underlying58 ?_;exact iw HB
   replace c21:=Bool.eq_false_iff.mpr c21;subst c21;rw [gD] at H;replace H:=bK H;obtain ⟨⟨t6,t7,t8,t9⟩,A27,H⟩:=H;(try dsimp only at H);replace H:=qc H;rcases H with ⟨c28,H⟩ | ⟨c28,H⟩
   ·have z0 : (ai == t6 && (aD == t7 && (bM == t8 && (bL == t9)))) = true:=c28
    (try (have z1 : decide (ai = t6 && (aD == t7 && (bM == t8 && (bL == t9)))) = true:=by simpa using c28))
    (try (have z2 : (ai == t6 && (aD == t7 && (bM == t8 && (bL == t9)))) = true:=by simpa using c28))
    clear c28;simp only [Option.some.injEq,Prod.mk.injEq] at H;obtain ⟨rfl,rfl,rfl,rfl⟩:=H
    try go_wp2
    replace B0:=bU B0;replace B1:=bU B1;replace B2:=bU B2;replace HB:=iI HB;refine mI 3 (fun w'=>vE w' gb0 (.int .i64 ai) (.int .i64 aD) (.int .i64 bM) (.int .i64 bL)) gu (fun hHeld=>?_);generalize wc.drew = w29 at B0 B1 B2 HB hHeld ⊢;refine rC (i:=0) (N:=some 14) (v:=?_) (a':=?_) #[true,false,false] rfl rfl (by kernel_rfl) (fun _ _ _ h=>h) (Or.inl ⟨by rfl,?_⟩) hHeld ?_ ?_;rotate_left
    ·rintro w' ⟨s0,s1,s2,s3⟩
     go_simp
     with_reducible rfl
    rotate_left
    ·simp only [Act.put,List.setIfInBounds_toArray,List.set_cons_zero,List.set_cons_succ,iQ,lg]
     rfl
    refine uZ (i:=1) (N:=some 15) #[true,true,false] rfl rfl (by kernel_rfl) (by decide) (fun K hK=>?_);refine fF rfl func93 (dw.calls _ _ _ _ _ A27.o) ?_;intro w30 hb;refine dI B0 B1 B2 hb ?_;clear B0 B1 B2;intro B0 B1 B2;replace HB:=bX HB hb;(try clear hb);refine hK.out _ _ gu (fun hHeld=>?_);clear hK K;refine bP ?_;refine qZ (i:=2) (N:=some 16) (v:=?_) (a':=?_) #[true,true,true] rfl rfl (by kernel_rfl) (fun _ _ _ h=>h) (Or.inl ⟨by rfl,?_⟩) ?_ ?_;rotate_left
    ·intro w'
     go_simp
     with_reducible rfl
    rotate_left
    ·simp only [Act.put,List.setIfInBounds_toArray,List.set_cons_zero,List.set_cons_succ,iQ,lg]
     rfl
    refine eX (by kernel_rfl) ?_;obtain ⟨_,_,_,_⟩:=eY N1_0 N1_2;obtain ⟨_,_,_,_,_,_,_,_⟩:=fU B1;obtain ⟨_,_⟩:=dU N2_0;obtain ⟨_,_,_,_,_,_,_,_⟩:=fU B2
    try go_wp2
    refine iC #[.int .i64 aG,.int .i64 bG,.int .i64 gH,.int .i64 gG] (lV B2) underlying58 ?_;exact iw HB
   have z0 : (ai == t6 && (aD == t7 && (bM == t8 && (bL == t9)))) = false:=by simpa using c28
   (try (have z1 : decide (ai = t6 && (aD == t7 && (bM == t8 && (bL == t9)))) = false:=by simpa using c28))
   (try (have z2 : (ai == t6 && (aD == t7 && (bM == t8 && (bL == t9)))) = false:=by simpa using c28))
   (try (have z6 : ¬ (ai = t6 && (aD == t7 && (bM == t8 && (bL == t9)))):=by simpa using c28))
   clear c28;replace H:=bK H;obtain ⟨⟨t10,t11,t12,t13⟩,A36,H⟩:=H;(try dsimp only at H);replace H:=qc H;rcases H with ⟨c37,H⟩ | ⟨c37,H⟩
   ·have z3 : (aG == t10 && (bG == t11 && (gH == t12 && (gG == t13)))) = true:=c37
    (try (have z4 : decide (aG = t10 && (bG == t11 && (gH == t12 && (gG == t13)))) = true:=by simpa using c37))
    (try (have z5 : (aG == t10 && (bG == t11 && (gH == t12 && (gG == t13)))) = true:=by simpa using c37))
    clear c37;simp only [Option.some.injEq,Prod.mk.injEq] at H;obtain ⟨rfl,rfl,rfl,rfl⟩:=H
    try go_wp2
    replace B0:=bU B0;replace B1:=bU B1;replace B2:=bU B2;replace HB:=iI HB;refine mI 3 (fun w'=>vE w' gb0 (.int .i64 ai) (.int .i64 aD) (.int .i64 bM) (.int .i64 bL)) gu (fun hHeld=>?_);generalize wc.drew = w38 at B0 B1 B2 HB hHeld ⊢;refine rC (i:=0) (N:=some 14) (v:=?_) (a':=?_) #[true,false,false] rfl rfl (by kernel_rfl) (fun _ _ _ h=>h) (Or.inl ⟨by rfl,?_⟩) hHeld ?_ ?_;rotate_left
    ·rintro w' ⟨s0,s1,s2,s3⟩
     go_simp
     with_reducible rfl
    rotate_left
    ·simp only [Act.put,List.setIfInBounds_toArray,List.set_cons_zero,List.set_cons_succ,iQ,lg]
     rfl
    refine uZ (i:=1) (N:=some 15) #[true,true,false] rfl rfl (by kernel_rfl) (by decide) (fun K hK=>?_);refine fF rfl func93 (dw.calls _ _ _ _ _ A27.o) ?_;intro w39 hb;refine dI B0 B1 B2 hb ?_;clear B0 B1 B2;intro B0 B1 B2;replace HB:=bX HB hb;(try clear hb);refine hK.out _ _ gu (fun hHeld=>?_);clear hK K;refine bP ?_;refine qZ (i:=2) (N:=some 16) (v:=?_) (a':=?_) #[true,true,true] rfl rfl (by kernel_rfl) (fun _ _ _ h=>h) (Or.inl ⟨by rfl,?_⟩) ?_ ?_;rotate_left
    ·intro w'
     go_simp
     with_reducible rfl
    rotate_left
    ·simp only [Act.put,List.setIfInBounds_toArray,List.set_cons_zero,List.set_cons_succ,iQ,lg]
     rfl
    refine eX (by kernel_rfl) ?_
    try go_wp2
    replace B0:=bU B0;replace B1:=bU B1;replace B2:=bU B2;replace HB:=iI HB;refine mI 3 (fun w'=>vE w' gb1 (.int .i64 aG) (.int .i64 bG) (.int .i64 gH) (.int .i64 gG)) gu (fun hHeld=>?_);generalize w39.drew = w40 at B0 B1 B2 HB hHeld ⊢;refine rC (i:=0) (N:=some 18) (v:=?_) (a':=?_) #[true,false,false] rfl rfl (by kernel_rfl) (fun _ _ _ h=>h) (Or.inl ⟨by rfl,?_⟩) hHeld ?_ ?_;rotate_left
    ·rintro w' ⟨s0,s1,s2,s3⟩
     go_simp
     with_reducible rfl
    rotate_left
    ·simp only [Act.put,List.setIfInBounds_toArray,List.set_cons_zero,List.set_cons_succ,iQ,lg]
     rfl
    refine uZ (i:=1) (N:=some 19) #[true,true,false] rfl rfl (by kernel_rfl) (by decide) (fun K hK=>?_);refine fF rfl func93 (dw.calls _ _ _ _ _ A36.o) ?_;intro w41 hb;refine dI B0 B1 B2 hb ?_;clear B0 B1 B2;intro B0 B1 B2;replace HB:=bX HB hb;(try clear hb);refine hK.out _ _ gu (fun hHeld=>?_);clear hK K;refine bP ?_;refine qZ (i:=2) (N:=some 20) (v:=?_) (a':=?_) #[true,true,true] rfl rfl (by kernel_rfl) (fun _ _ _ h=>h) (Or.inl ⟨by rfl,?_⟩) ?_ ?_;rotate_left
    ·intro w'
     go_simp
     with_reducible rfl
    rotate_left
    ·simp only [Act.put,List.setIfInBounds_toArray,List.set_cons_zero,List.set_cons_succ,iQ,lg]
     rfl
    refine eX (by kernel_rfl) ?_;obtain ⟨_,_,_,_⟩:=eY N0_1 N0_2;obtain ⟨_,_,_,_,_,_,_,_⟩:=fU B0;obtain ⟨_,_⟩:=dU N2_1;obtain ⟨_,_,_,_,_,_,_,_⟩:=fU B2
    try go_wp2
    refine iC #[.int .i64 ai,.int .i64 aD,.int .i64 bM,.int .i64 bL] (lV B2) underlying58 ?_;exact iw HB
   have z3 : (aG == t10 && (bG == t11 && (gH == t12 && (gG == t13)))) = false:=by simpa using c37
   (try (have z4 : decide (aG = t10 && (bG == t11 && (gH == t12 && (gG == t13)))) = false:=by simpa using c37))
   (try (have z5 : (aG == t10 && (bG == t11 && (gH == t12 && (gG == t13)))) = false:=by simpa using c37))
   (try (have z7 : ¬ (aG = t10 && (bG == t11 && (gH == t12 && (gG == t13)))):=by simpa using c37))
   clear c37;replace H:=bK H;obtain ⟨⟨t14,t15⟩,A47,H⟩:=H;(try dsimp only at H);replace H:=bK H;obtain ⟨⟨t16,t17⟩,A48,H⟩:=H;(try dsimp only at H);replace H:=bK H;obtain ⟨⟨t18,t19⟩,A49,H⟩:=H;(try dsimp only at H);replace H:=bK H;obtain ⟨⟨t20,t21⟩,A50,H⟩:=H;(try dsimp only at H);replace H:=bK H;obtain ⟨⟨t22,t23⟩,A51,H⟩:=H;(try dsimp only at H);replace H:=bK H;obtain ⟨⟨t24,t25⟩,A52,H⟩:=H;(try dsimp only at H);replace H:=bK H;obtain ⟨⟨t26,t27,t28,t29⟩,A53,H⟩:=H;(try dsimp only at H);simp only [Option.some.injEq,Prod.mk.injEq] at H;obtain ⟨rfl,rfl,rfl,rfl⟩:=H
   try go_wp2
   replace B0:=bU B0;replace B1:=bU B1;replace B2:=bU B2;replace HB:=iI HB;refine mI 3 (fun w'=>vE w' gb0 (.int .i64 ai) (.int .i64 aD) (.int .i64 bM) (.int .i64 bL)) gu (fun hHeld=>?_);generalize wc.drew = w54 at B0 B1 B2 HB hHeld ⊢;refine rC (i:=0) (N:=some 14) (v:=?_) (a':=?_) #[true,false,false] rfl rfl (by kernel_rfl) (fun _ _ _ h=>h) (Or.inl ⟨by rfl,?_⟩) hHeld ?_ ?_;rotate_left
   ·rintro w' ⟨s0,s1,s2,s3⟩
    go_simp
    with_reducible rfl
   rotate_left
   ·simp only [Act.put,List.setIfInBounds_toArray,List.set_cons_zero,List.set_cons_succ,iQ,lg]
    rfl
   refine uZ (i:=1) (N:=some 15) #[true,true,false] rfl rfl (by kernel_rfl) (by decide) (fun K hK=>?_);refine fF rfl func93 (dw.calls _ _ _ _ _ A27.o) ?_;intro w55 hb;refine dI B0 B1 B2 hb ?_;clear B0 B1 B2;intro B0 B1 B2;replace HB:=bX HB hb;(try clear hb);refine hK.out _ _ gu (fun hHeld=>?_);clear hK K;refine bP ?_;refine qZ (i:=2) (N:=some 16) (v:=?_) (a':=?_) #[true,true,true] rfl rfl (by kernel_rfl) (fun _ _ _ h=>h) (Or.inl ⟨by rfl,?_⟩) ?_ ?_;rotate_left
   ·intro w'
    go_simp
    with_reducible rfl
   rotate_left
   ·simp only [Act.put,List.setIfInBounds_toArray,List.set_cons_zero,List.set_cons_succ,iQ,lg]
    rfl
   refine eX (by kernel_rfl) ?_
   try go_wp2
   replace B0:=bU B0;replace B1:=bU B1;replace B2:=bU B2;replace HB:=iI HB;refine mI 3 (fun w'=>vE w' gb1 (.int .i64 aG) (.int .i64 bG) (.int .i64 gH) (.int .i64 gG)) gu (fun hHeld=>?_);generalize w55.drew = w56 at B0 B1 B2 HB hHeld ⊢;refine rC (i:=0) (N:=some 18) (v:=?_) (a':=?_) #[true,false,false] rfl rfl (by kernel_rfl) (fun _ _ _ h=>h) (Or.inl ⟨by rfl,?_⟩) hHeld ?_ ?_;rotate_left
   ·rintro w' ⟨s0,s1,s2,s3⟩
    go_simp
    with_reducible rfl
   rotate_left
   ·simp only [Act.put,List.setIfInBounds_toArray,List.set_cons_zero,List.set_cons_succ,iQ,lg]
    rfl
   refine uZ (i:=1) (N:=some 19) #[true,true,false] rfl rfl (by kernel_rfl) (by decide) (fun K hK=>?_);refine fF rfl func93 (dw.calls _ _ _ _ _ A36.o) ?_;intro w57 hb;refine dI B0 B1 B2 hb ?_;clear B0 B1 B2;intro B0 B1 B2;replace HB:=bX HB hb;(try clear hb);refine hK.out _ _ gu (fun hHeld=>?_);clear hK K;refine bP ?_;refine qZ (i:=2) (N:=some 20) (v:=?_) (a':=?_) #[true,true,true] rfl rfl (by kernel_rfl) (fun _ _ _ h=>h) (Or.inl ⟨by rfl,?_⟩) ?_ ?_;rotate_left
   ·intro w'
    go_simp
    with_reducible rfl
   rotate_left
   ·simp only [Act.put,List.setIfInBounds_toArray,List.set_cons_zero,List.set_cons_succ,iQ,lg]
    rfl
   refine eX (by kernel_rfl) ?_
   try go_wp2
   replace B0:=bU B0;replace B1:=bU B1;replace B2:=bU B2;replace HB:=iI HB;refine mI 12 (fun w'=>vE w' gb0 (.int .i64 ai) (.int .i64 aD) (.int .i64 bM) (.int .i64 bL)∧vE w' gb1 (.int .i64 aG) (.int .i64 bG) (.int .i64 gH) (.int .i64 gG)) gu (fun hHeld=>?_);refine bD eP.xA eP.uD (fun ax dM=>?_);generalize w57.drew = w58 at B0 B1 B2 HB hHeld ⊢;refine fA ax dM 0 22 hHeld ?_;refine fA ax dM 2 24 hHeld ?_;refine fA ax dM 5 27 hHeld ?_;refine fA ax dM 7 29 hHeld ?_;refine gL ax 1 23 (fun K hK=>?_);refine fF rfl func129 (gZ.calls _ _ _ _ _ _ _ A47.o) ?_;intro w59 hb;refine dI B0 B1 B2 hb ?_;clear B0 B1 B2;intro B0 B1 B2;replace HB:=bX HB hb;(try clear hb);refine hK.out _ _ gu (fun hHeld=>?_);clear hK K;refine bP ?_;refine gL ax 3 25 (fun K hK=>?_);refine fF rfl func129 (gZ.calls _ _ _ _ _ _ _ A48.o) ?_;intro w60 hb;refine dI B0 B1 B2 hb ?_;clear B0 B1 B2;intro B0 B1 B2;replace HB:=bX HB hb;(try clear hb);refine hK.out _ _ gu (fun hHeld=>?_);clear hK K;refine bP ?_;refine gL ax 4 26 (fun K hK=>?_);refine fF rfl func175 (dJ.calls _ _ _ _ _ _ _ _ A49.o) ?_;intro w61 hb;refine dI B0 B1 B2 hb ?_;clear B0 B1 B2;intro B0 B1 B2;replace HB:=bX HB hb;(try clear hb);refine hK.out _ _ gu (fun hHeld=>?_);clear hK K;refine bP ?_;refine gL ax 6 28 (fun K hK=>?_);refine fF rfl func131 (iR.calls _ _ _ _ _ _ _ A50.o) ?_;intro w62 hb;refine dI B0 B1 B2 hb ?_;clear B0 B1 B2;intro B0 B1 B2;replace HB:=bX HB hb;(try clear hb);refine hK.out _ _ gu (fun hHeld=>?_);clear hK K;refine bP ?_;refine gL ax 8 30 (fun K hK=>?_);refine fF rfl func131 (iR.calls _ _ _ _ _ _ _ A51.o) ?_;intro w63 hb;refine dI B0 B1 B2 hb ?_;clear B0 B1 B2;intro B0 B1 B2;replace HB:=bX HB hb;(try clear hb);refine hK.out _ _ gu (fun hHeld=>?_);clear hK K;refine bP ?_;refine gL ax 9 31 (fun K hK=>?_);refine fF rfl func174 (dO.calls _ _ _ _ _ _ _ _ A52.o) ?_;intro w64 hb;refine dI B0 B1 B2 hb ?_;clear B0 B1 B2;intro B0 B1 B2;replace HB:=bX HB hb;(try clear hb);refine hK.out _ _ gu (fun hHeld=>?_);clear hK K;refine bP ?_;refine gL ax 10 32 (fun K hK=>?_);refine fF rfl func90 (bq.calls _ _ _ _ _ _ _ _ _ _ A53.o) ?_;intro w65 hb;refine dI B0 B1 B2 hb ?_;clear B0 B1 B2;intro B0 B1 B2;replace HB:=bX HB hb;(try clear hb);refine hK.out _ _ gu (fun hHeld=>?_);clear hK K;refine bP ?_;refine xc ax 11 (fun K hK=>?_);obtain ⟨_,_,_,_,_,_,_,_⟩:=fU B2;obtain ⟨_,_,_,_⟩:=eY N0_2 N1_2;refine qP ?_;refine hK.out _ _ xH (fun hHeld=>?_);clear hK K;refine eX (cO ax.o (by kernel_rfl)) ?_
   try go_wp2
   refine iC #[.int .i64 t26,.int .i64 t27,.int .i64 t28,.int .i64 t29] (lV B2) underlying58 ?_;exact iw HB
theorem iB.calls (k : Nat) (A0 : Option Addr) (c0 : Nat) (l0 : List Int) (a1 : Int) (r : Int) (w : World) (hr0 : Kd.C (Kd.int .i64) w A0 l0.length l0) (hc0 : l0.length ≤ c0) (h : iB.f k l0 a1 = some r) :
  Calls prog 178 #[.slice A0 l0.length c0,.int .i64 a1] w fun e w'=>e = .returned (.int .i64 r)∧iU w w':=by
 have HR0:=af.mk hr0;have HC0:=af.mk hc0;clear hr0 hc0;have H:=h;unfold iB.f at H;clear h;have H':=af.mk H;clear H;go_enter func178,ntmps178
 go_wp2
 go_loopg [5,6] k (fun kq v5 v6 w'=>∃ (x0 : Int) (x1 : Int),v5 = .int .i64 x0∧v6 = .int .i64 x1∧af (iB.l0 kq l0 a1 x0 x1 = some r)∧af (kq ≤ k)∧iU w w')
 case atStart=>exact ⟨((-2147483648)),(0),fw,fw,H',⟨Nat.le_refl _⟩,qE⟩
 case round =>
  clear H';obtain ⟨x0,x1,rfl,rfl,HA,HK1,⟨m1,rfl⟩⟩:=hrel;cases gk with
  | zero=>exact absurd HA.o (by simp [iB.l0])
  | succ k1 =>
   have H:=HA.o;clear HA;simp only [iB.l0] at H;replace H:=gy H;rcases H with ⟨c3,H⟩ | ⟨c3,H⟩
   ·have zb:=decide_eq_false c3;clear c3;obtain rfl:=Option.some.inj H
    go_wp2
    go_ret
    exact ⟨fw,qE⟩
   have zb:=decide_eq_true c3;clear c3;replace H:=gy H;rcases H with ⟨c4,H⟩ | ⟨c4,H⟩
   ·cases H
   have zh:=decide_eq_true c4;clear c4;replace H:=gy H;rcases H with ⟨c5,H⟩ | ⟨c5,H⟩
   ·have zc:=decide_eq_false c5;clear c5;have H':=af.mk H;clear H;have z0 : 0 ≤ (x1 : Int):=df;have z1 : x1 < (l0.length : Int):=df;obtain ⟨z4,z5,za⟩:=Kd.eB HR0.o x1 z0 z1;cases z5;replace z0:=eq_true z0;replace z1:=eq_true z1
    go_wp2
    go_roundg k1
    case measure=>have:=HK1.o;omega
    case rel=>exact ⟨(x0),(wrap64 (x1 + 1)),fw,fw,H',⟨by have:=HK1.o;omega⟩,qE⟩
   have zc:=decide_eq_true c5;clear c5;replace H:=gy H;rcases H with ⟨c6,H⟩ | ⟨c6,H⟩
   ·have zd : decide (x0 < (rd l0 x1)) = false:=decide_eq_false c6;clear c6;have H':=af.mk H;clear H;have z0 : 0 ≤ (x1 : Int):=df;have z1 : x1 < (l0.length : Int):=df;obtain ⟨z4,z5,za⟩:=Kd.eB HR0.o x1 z0 z1;cases z5;replace z0:=eq_true z0;replace z1:=eq_true z1;have z2 : 0 ≤ (x1 : Int):=df;have z3 : x1 < (l0.length : Int):=df;obtain ⟨z6,z7,ze⟩:=Kd.eB HR0.o x1 z2 z3;obtain rfl : z4 = z6:=(by injection z7);replace z2:=eq_true z2;replace z3:=eq_true z3
    go_wp2
    go_roundg k1
    case measure=>have:=HK1.o;omega
    case rel=>exact ⟨(x0),(wrap64 (x1 + 1)),fw,fw,H',⟨by have:=HK1.o;omega⟩,qE⟩
   have zd : decide (x0 < (rd l0 x1)) = true:=decide_eq_true c6;clear c6;have H':=af.mk H;clear H;have z0 : 0 ≤ (x1 : Int):=df;have z1 : x1 < (l0.length : Int):=df;obtain ⟨z4,z5,za⟩:=Kd.eB HR0.o x1 z0 z1;cases z5;replace z0:=eq_true z0;replace z1:=eq_true z1;have z2 : 0 ≤ (x1 : Int):=df;have z3 : x1 < (l0.length : Int):=df;obtain ⟨z6,z7,ze⟩:=Kd.eB HR0.o x1 z2 z3;obtain rfl : z4 = z6:=(by injection z7);replace z2:=eq_true z2;replace z3:=eq_true z3;have z8 : 0 ≤ (x1 : Int):=df;have z9 : x1 < (l0.length : Int):=df;obtain ⟨zf,zg,zi⟩:=Kd.eB HR0.o x1 z8 z9;obtain rfl : z4 = zf:=(by injection zg);replace z8:=eq_true z8;replace z9:=eq_true z9
   go_wp2
   go_roundg k1
   case measure=>have:=HK1.o;omega
   case rel=>exact ⟨(rd l0 x1),(wrap64 (x1 + 1)),fw,fw,H',⟨by have:=HK1.o;omega⟩,qE⟩
theorem lK.calls (k : Nat) (A0 : Option Addr) (c0 : Nat) (l0 : List Int) (a1 : Int) (r : Int) (w : World) (hr0 : Kd.C (Kd.int .i64) w A0 l0.length l0) (hc0 : l0.length ≤ c0) (h : lK.f k l0 a1 = some r) :
  Calls prog 179 #[.slice A0 l0.length c0,.int .i64 a1] w fun e w'=>e = .returned (.int .i64 r)∧iU w w':=by
 have HR0:=af.mk hr0;have HC0:=af.mk hc0;clear hr0 hc0;have H:=h;unfold lK.f at H;clear h;have H':=af.mk H;clear H;go_enter func179,ntmps179
 go_wp2
 go_loopg [5,6] k (fun kq v5 v6 w'=>∃ (x0 : Int) (x1 : Int),v5 = .int .i64 x0∧v6 = .int .i64 x1∧af (lK.l0 kq l0 a1 x0 x1 = some r)∧af (kq ≤ k)∧iU w w')
 case atStart=>exact ⟨(2147483647),(0),fw,fw,H',⟨Nat.le_refl _⟩,qE⟩
 case round =>
  clear H';obtain ⟨x0,x1,rfl,rfl,HA,HK1,⟨m1,rfl⟩⟩:=hrel;cases gk with
  | zero=>exact absurd HA.o (by simp [lK.l0])
  | succ k1 =>
   have H:=HA.o;clear HA;simp only [lK.l0] at H;replace H:=gy H;rcases H with ⟨c3,H⟩ | ⟨c3,H⟩
   ·have zb:=decide_eq_false c3;clear c3;obtain rfl:=Option.some.inj H
    go_wp2
    go_ret
    exact ⟨fw,qE⟩
   have zb:=decide_eq_true c3;clear c3;replace H:=gy H;rcases H with ⟨c4,H⟩ | ⟨c4,H⟩
   ·cases H
   have zh:=decide_eq_true c4;clear c4;replace H:=gy H;rcases H with ⟨c5,H⟩ | ⟨c5,H⟩
   ·have zc : decide (a1 ≤ (rd l0 x1)) = false:=decide_eq_false c5;clear c5;have H':=af.mk H;clear H;have z0 : 0 ≤ (x1 : Int):=df;have z1 : x1 < (l0.length : Int):=df;obtain ⟨z4,z5,za⟩:=Kd.eB HR0.o x1 z0 z1;cases z5;replace z0:=eq_true z0;replace z1:=eq_true z1
    go_wp2
    go_roundg k1
    case measure=>have:=HK1.o;omega
    case rel=>exact ⟨(x0),(wrap64 (x1 + 1)),fw,fw,H',⟨by have:=HK1.o;omega⟩,qE⟩
   have zc : decide (a1 ≤ (rd l0 x1)) = true:=decide_eq_true c5;clear c5;replace H:=gy H;rcases H with ⟨c6,H⟩ | ⟨c6,H⟩
   ·have zd:=decide_eq_false c6;clear c6;have H':=af.mk H;clear H;have z0 : 0 ≤ (x1 : Int):=df;have z1 : x1 < (l0.length : Int):=df;obtain ⟨z4,z5,za⟩:=Kd.eB HR0.o x1 z0 z1;cases z5;replace z0:=eq_true z0;replace z1:=eq_true z1;have z2 : 0 ≤ (x1 : Int):=df;have z3 : x1 < (l0.length : Int):=df;obtain ⟨z6,z7,ze⟩:=Kd.eB HR0.o x1 z2 z3;obtain rfl : z4 = z6:=(by injection z7);replace z2:=eq_true z2;replace z3:=eq_true z3
    go_wp2
    go_roundg k1
    case measure=>have:=HK1.o;omega
    case rel=>exact ⟨(x0),(wrap64 (x1 + 1)),fw,fw,H',⟨by have:=HK1.o;omega⟩,qE⟩
   have zd:=decide_eq_true c6;clear c6;have H':=af.mk H;clear H;have z0 : 0 ≤ (x1 : Int):=df;have z1 : x1 < (l0.length : Int):=df;obtain ⟨z4,z5,za⟩:=Kd.eB HR0.o x1 z0 z1;cases z5;replace z0:=eq_true z0;replace z1:=eq_true z1;have z2 : 0 ≤ (x1 : Int):=df;have z3 : x1 < (l0.length : Int):=df;obtain ⟨z6,z7,ze⟩:=Kd.eB HR0.o x1 z2 z3;obtain rfl : z4 = z6:=(by injection z7);replace z2:=eq_true z2;replace z3:=eq_true z3;have z8 : 0 ≤ (x1 : Int):=df;have z9 : x1 < (l0.length : Int):=df;obtain ⟨zf,zg,zi⟩:=Kd.eB HR0.o x1 z8 z9;obtain rfl : z4 = zf:=(by injection zg);replace z8:=eq_true z8;replace z9:=eq_true z9
   go_wp2
   go_roundg k1
   case measure=>have:=HK1.o;omega
   case rel=>exact ⟨(rd l0 x1),(wrap64 (x1 + 1)),fw,fw,H',⟨by have:=HK1.o;omega⟩,qE⟩
attribute [local go_sem high] xq
def bQ.T2 : Bool × List (List Nat × List Nat):=(true,[([],[]),([0],[0]),([1],[1]),([2,1],[2]),([3],[3]),([4,3,3],[3,4]),([5,3],[3,5]),([3,6],[3,6]),([7,5],[7]),([8],[8]),([8,8],[8]),([9,10,8],[8,9,10]),([8,11],[8,11]),([12,10],[12]),([13],[13]),([13,13],[13]),([14,15,13],[13,14,15]),([13,16],[13,16])])
def bQ.B2 : List Nat:=[0,1,3,7,15,31,63,127,255,511,511,2047,4095,8191,16383,16383,65535,131071]
theorem bQ.y8 : l9 .any (opsOf f173 2) = bQ.T2:=by kernel_rfl
theorem bQ.vV : fQ bQ.T2.2 bQ.B2 = true:=by kernel_rfl
theorem bQ.calls (k : Nat) (ai : Int) (aD : Int) (aG : Int) (bG : Int) (A2 : Option Addr) (c2 : Nat) (l2 : List Int) (r1 : Int) (r2 : Int) (w : World) (hr2 : Kd.C (Kd.int .i64) w A2 l2.length l2) (hc2 : l2.length ≤ c2) (h : bQ.f k ai aD aG bG l2 = some (r1,r2)) :
  Calls prog 173 #[.agg #[.int .i64 ai,.int .i64 aD],.agg #[.int .i64 aG,.int .i64 bG],.slice A2 l2.length c2] w fun e w'=>e = .returned (.agg #[.int .i64 r1,.int .i64 r2])∧Below w.heap.size w w':=by
 have hu108:=underlying108;have HR2:=af.mk hr2;have HC2:=af.mk hc2;clear hr2 hc2;have HB:=af.mk (Below.refl w.heap.size w);have H:=h;unfold bQ.f at H;clear h;replace H:=bK H;obtain ⟨⟨t0,t1⟩,A4,H⟩:=H;(try dsimp only at H);have HC5:=af.mk H;clear H;go_enter func173,ntmps173;go_upto_region 2 with (first | ((with_reducible refine gd 3 rfl ?_);refine eO 3 #[.int .i64 ai,.int .i64 aD] 108 HB ?_;clear HB;intro gb0 hg w6 hb B0 GW0 HB;clear hb hg) | ((with_reducible refine gd 4 rfl ?_);refine eO 4 #[.int .i64 aG,.int .i64 bG] 108 HB ?_;clear HB;intro gb1 hg w7 hb B1 GW1 HB;have N0_1:=fC B0 hg;have N1_0:=fD B0 hg;replace B0:=bF B0 hb;clear hb hg) | ((with_reducible refine gd 6 rfl ?_);refine eO 6 #[.int .i64 0,.int .i64 0] 108 HB ?_;clear HB;intro gb2 hg w8 hb B2 GW2 HB;have N0_2:=fC B0 hg;have N2_0:=fD B0 hg;have N1_2:=fC B1 hg;have N2_1:=fD B1 hg;refine mM B0 B1 hb ?_;clear B0 B1;intro B0 B1;clear hb hg;obtain ⟨_,_,_,_⟩:=eY N0_1 N0_2;obtain ⟨_,_,_,_⟩:=bE B0;obtain ⟨_,_⟩:=dU N1_2;obtain ⟨_,_,_,_⟩:=bE B1) | ((with_reducible refine gf 175 rfl ?_);refine eZ rfl (some 10) func175 (dJ.calls _ _ _ _ _ _ _ _ A4.o) ?_;intro w14 hb;refine dI B0 B1 B2 hb ?_;clear B0 B1 B2;intro B0 B1 B2;replace HB:=bX HB hb;(try clear hb)) | ((with_reducible refine gd 7 rfl ?_);refine eO 7 #[.int .i64 0,.int .i64 0] 108 HB ?_;clear HB;intro gb3 hg w15 hb B3 GW3 HB;have N0_3:=fC B0 hg;have N3_0:=fD B0 hg;have N1_3:=fC B1 hg;have N3_1:=fD B1 hg;have N2_3:=fC B2 hg;have N3_2:=fD B2 hg;refine dI B0 B1 B2 hb ?_;clear B0 B1 B2;intro B0 B1 B2;clear hb hg;obtain ⟨_,_,_,_,_,_⟩:=nG N3_0 N3_1 N3_2;obtain ⟨_,_,_,_⟩:=bE B3))
 (try simp only [Act.put,List.setIfInBounds_toArray,List.set_cons_zero,List.set_cons_succ])
 go_cut [28] (fun v28 wc=>∃ (kq : Nat) (x0 : Bool),v28 = .bool x0∧af (bQ.j0 kq l2 x0 ai aD t0 t1 = some (r1,r2))∧af (kq ≤ k)∧af (wc.heap[gb0]? = some (.cells #[.int .i64 ai,.int .i64 aD] 108 (0,0)))∧af (wc.heap[gb1]? = some (.cells #[.int .i64 aG,.int .i64 bG] 108 (0,0)))∧af (wc.heap[gb2]? = some (.cells #[.int .i64 0,.int .i64 0] 108 (0,0)))∧af (wc.heap[gb3]? = some (.cells #[.int .i64 t0,.int .i64 t1] 108 (0,0)))∧af (Below w.heap.size w wc))
 case first =>
  have H:=HC5.o;clear HC5;replace H:=bK H;obtain ⟨t2,A20,H⟩:=H;(try dsimp only at H);rcases qm (t2 = true) with c21 | c21
  ·replace c21:=Bool.eq_false_iff.mpr c21;subst c21;rw [gD] at H;have H':=af.mk H;clear H
   try go_wp2
   obtain ⟨w42,hw_⟩ : ∃ w_,w_ = ((w15.setCell ⟨gb3,0,none⟩ (.int .i64 t0)).setCell ⟨gb3,1,none⟩ (.int .i64 t1)):=⟨_,rfl⟩;replace B0:=lU hw_ B0;replace B1:=lU hw_ B1;replace B2:=lU hw_ B2
   replace B3 : af (w42.heap[gb3]? = some (.cells #[.int .i64 t0,.int .i64 t1] 108 (0,0))):=by rw [hw_];exact ⟨lV B3⟩
   replace HB:=sZ hw_ HB
   rw [← hw_];clear hw_;replace B0:=bU B0;replace B1:=bU B1;replace B2:=bU B2;replace B3:=bU B3;replace HB:=iI HB;refine mI 18 (fun w'=>rf w' gb0 (.int .i64 ai) (.int .i64 aD)) gu (fun hHeld=>?_);refine bD bQ.y8 bQ.vV (fun ax dM=>?_);generalize w42.drew = w43 at B0 B1 B2 B3 HB hHeld ⊢;refine fA ax dM 0 11 hHeld ?_;refine gL ax 1 12 (fun K hK=>?_);refine fF rfl func154 (bT.calls _ _ _ _ A20.o) ?_;intro w44 hb;refine qy B0 B1 B2 B3 hb ?_;clear B0 B1 B2 B3;intro B0 B1 B2 B3;replace HB:=bX HB hb;(try clear hb);refine hK.out _ _ gu (fun hHeld=>?_);clear hK K;refine bP ?_;refine bC ax 2 13 ?_;refine bC ax 3 14 ?_;refine bY ax 4 15 ?_;refine bY ax 5 16 ?_;refine bY ax 6 17 ?_;refine bC ax 7 18 ?_;refine bC ax 8 19 ?_;refine bY ax 9 20 ?_;refine bY ax 10 21 ?_;refine bY ax 11 22 ?_;refine bC ax 12 23 ?_;refine bC ax 13 24 ?_;refine bY ax 14 25 ?_;refine bY ax 15 26 ?_;refine bY ax 16 27 ?_;refine bC ax 17 28 ?_;refine eX (cO ax.o (by kernel_rfl)) ?_
   try go_wp2
   go_meet
   case rel=>exact ⟨_,(true),fw,H',⟨ng⟩,fE B0,fE B1,fE B2,fE B3,lD HB⟩
  subst c21;rw [if_pos rfl] at H;replace H:=bK H;obtain ⟨t3,A22,H⟩:=H;(try dsimp only at H);rcases qm (t3 = true) with c23 | c23
  ·replace c23:=Bool.eq_false_iff.mpr c23;subst c23;rw [gD] at H;have H':=af.mk H;clear H
   try go_wp2
   obtain ⟨w38,hw_⟩ : ∃ w_,w_ = ((w15.setCell ⟨gb3,0,none⟩ (.int .i64 t0)).setCell ⟨gb3,1,none⟩ (.int .i64 t1)):=⟨_,rfl⟩;replace B0:=lU hw_ B0;replace B1:=lU hw_ B1;replace B2:=lU hw_ B2
   replace B3 : af (w38.heap[gb3]? = some (.cells #[.int .i64 t0,.int .i64 t1] 108 (0,0))):=by rw [hw_];exact ⟨lV B3⟩
   replace HB:=sZ hw_ HB
   rw [← hw_];clear hw_;replace B0:=bU B0;replace B1:=bU B1;replace B2:=bU B2;replace B3:=bU B3;replace HB:=iI HB;refine mI 18 (fun w'=>rf w' gb0 (.int .i64 ai) (.int .i64 aD)∧rf w' gb1 (.int .i64 aG) (.int .i64 bG)) gu (fun hHeld=>?_);refine bD bQ.y8 bQ.vV (fun ax dM=>?_);generalize w38.drew = w39 at B0 B1 B2 B3 HB hHeld ⊢;refine fA ax dM 0 11 hHeld ?_;refine gL ax 1 12 (fun K hK=>?_);refine fF rfl func154 (bT.calls _ _ _ _ A20.o) ?_;intro w40 hb;refine qy B0 B1 B2 B3 hb ?_;clear B0 B1 B2 B3;intro B0 B1 B2 B3;replace HB:=bX HB hb;(try clear hb);refine hK.out _ _ gu (fun hHeld=>?_);clear hK K;refine bP ?_;refine bC ax 2 13 ?_;refine bC ax 3 14 ?_;refine fA ax dM 4 15 hHeld ?_;refine gL ax 5 16 (fun K hK=>?_);refine fF rfl func154 (bT.calls _ _ _ _ A22.o) ?_;intro w41 hb;refine qy B0 B1 B2 B3 hb ?_;clear B0 B1 B2 B3;intro B0 B1 B2 B3;replace HB:=bX HB hb;(try clear hb);refine hK.out _ _ gu (fun hHeld=>?_);clear hK K;refine bP ?_;refine bC ax 6 17 ?_;refine bC ax 7 18 ?_;refine bC ax 8 19 ?_;refine bY ax 9 20 ?_;refine bY ax 10 21 ?_;refine bY ax 11 22 ?_;refine bC ax 12 23 ?_;refine bC ax 13 24 ?_;refine bY ax 14 25 ?_;refine bY ax 15 26 ?_;refine bY ax 16 27 ?_;refine bC ax 17 28 ?_;refine eX (cO ax.o (by kernel_rfl)) ?_
   try go_wp2
   go_meet
   case rel=>exact ⟨_,(true),fw,H',⟨ng⟩,fE B0,fE B1,fE B2,fE B3,lD HB⟩
  subst c23;rw [if_pos rfl] at H;replace H:=bK H;obtain ⟨⟨t4,t5⟩,A24,H⟩:=H;(try dsimp only at H);replace H:=qc H;rcases H with ⟨c25,H⟩ | ⟨c25,H⟩
  ·have z0 : (ai == t4 && (aD == t5)) = true:=c25
   (try (have z1 : decide (ai = t4 && (aD == t5)) = true:=by simpa using c25))
   (try (have z2 : (ai == t4 && (aD == t5)) = true:=by simpa using c25))
   clear c25
   (first | rw [z0] | (simp only [iQ,lg];rw [z0]) | skip)
   have H':=af.mk H;clear H
   try go_wp2
   obtain ⟨w26,hw_⟩ : ∃ w_,w_ = ((w15.setCell ⟨gb3,0,none⟩ (.int .i64 t0)).setCell ⟨gb3,1,none⟩ (.int .i64 t1)):=⟨_,rfl⟩;replace B0:=lU hw_ B0;replace B1:=lU hw_ B1;replace B2:=lU hw_ B2
   replace B3 : af (w26.heap[gb3]? = some (.cells #[.int .i64 t0,.int .i64 t1] 108 (0,0))):=by rw [hw_];exact ⟨lV B3⟩
   replace HB:=sZ hw_ HB
   rw [← hw_];clear hw_;replace B0:=bU B0;replace B1:=bU B1;replace B2:=bU B2;replace B3:=bU B3;replace HB:=iI HB;refine mI 18 (fun w'=>rf w' gb0 (.int .i64 ai) (.int .i64 aD)∧rf w' gb1 (.int .i64 aG) (.int .i64 bG)) gu (fun hHeld=>?_);refine bD bQ.y8 bQ.vV (fun ax dM=>?_);generalize w26.drew = w27 at B0 B1 B2 B3 HB hHeld ⊢;refine fA ax dM 0 11 hHeld ?_;refine gL ax 1 12 (fun K hK=>?_);refine fF rfl func154 (bT.calls _ _ _ _ A20.o) ?_;intro w28 hb;refine qy B0 B1 B2 B3 hb ?_;clear B0 B1 B2 B3;intro B0 B1 B2 B3;replace HB:=bX HB hb;(try clear hb);refine hK.out _ _ gu (fun hHeld=>?_);clear hK K;refine bP ?_;refine bC ax 2 13 ?_;refine bC ax 3 14 ?_;refine fA ax dM 4 15 hHeld ?_;refine gL ax 5 16 (fun K hK=>?_);refine fF rfl func154 (bT.calls _ _ _ _ A22.o) ?_;intro w29 hb;refine qy B0 B1 B2 B3 hb ?_;clear B0 B1 B2 B3;intro B0 B1 B2 B3;replace HB:=bX HB hb;(try clear hb);refine hK.out _ _ gu (fun hHeld=>?_);clear hK K;refine bP ?_;refine bC ax 6 17 ?_;refine bC ax 7 18 ?_;refine bC ax 8 19 ?_;refine fA ax dM 9 20 hHeld ?_;refine gL ax 10 21 (fun K hK=>?_);refine fF rfl func156 (fH.calls _ _ _ A24.o) ?_;intro w30 hb;refine qy B0 B1 B2 B3 hb ?_;clear B0 B1 B2 B3;intro B0 B1 B2 B3;replace HB:=bX HB hb;(try clear hb);refine hK.out _ _ gu (fun hHeld=>?_);clear hK K;refine bP ?_;refine bC ax 11 22 ?_;refine bC ax 12 23 ?_;refine bC ax 13 24 ?_;refine bY ax 14 25 ?_;refine bY ax 15 26 ?_;refine bY ax 16 27 ?_;refine bC ax 17 28 ?_;refine eX (cO ax.o (by kernel_rfl)) ?_
   try go_wp2
   go_meet
   case rel=>exact ⟨_,(true),fw,H',⟨ng⟩,fE B0,fE B1,fE B2,fE B3,lD HB⟩
  have z0 : (ai == t4 && (aD == t5)) = false:=by simpa using c25
  (try (have z1 : decide (ai = t4 && (aD == t5)) = false:=by simpa using c25))
  (try (have z2 : (ai == t4 && (aD == t5)) = false:=by simpa using c25))
  (try (have z6 : ¬ (ai = t4 && (aD == t5)):=by simpa using c25))
  clear c25
  (first | rw [z0] | (simp only [iQ,lg];rw [z0]) | skip)
  replace H:=bK H;obtain ⟨⟨t6,t7⟩,A31,H⟩:=H;(try dsimp only at H);have H':=af.mk H;clear H
  try go_wp2
  obtain ⟨w32,hw_⟩ : ∃ w_,w_ = ((w15.setCell ⟨gb3,0,none⟩ (.int .i64 t0)).setCell ⟨gb3,1,none⟩ (.int .i64 t1)):=⟨_,rfl⟩;replace B0:=lU hw_ B0;replace B1:=lU hw_ B1;replace B2:=lU hw_ B2
  replace B3 : af (w32.heap[gb3]? = some (.cells #[.int .i64 t0,.int .i64 t1] 108 (0,0))):=by rw [hw_];exact ⟨lV B3⟩
  replace HB:=sZ hw_ HB
  rw [← hw_];clear hw_;replace B0:=bU B0;replace B1:=bU B1;replace B2:=bU B2;replace B3:=bU B3;replace HB:=iI HB;refine mI 18 (fun w'=>rf w' gb0 (.int .i64 ai) (.int .i64 aD)∧rf w' gb1 (.int .i64 aG) (.int .i64 bG)) gu (fun hHeld=>?_);refine bD bQ.y8 bQ.vV (fun ax dM=>?_);generalize w32.drew = w33 at B0 B1 B2 B3 HB hHeld ⊢;refine fA ax dM 0 11 hHeld ?_;refine gL ax 1 12 (fun K hK=>?_);refine fF rfl func154 (bT.calls _ _ _ _ A20.o) ?_;intro w34 hb;refine qy B0 B1 B2 B3 hb ?_;clear B0 B1 B2 B3;intro B0 B1 B2 B3;replace HB:=bX HB hb;(try clear hb);refine hK.out _ _ gu (fun hHeld=>?_);clear hK K;refine bP ?_;refine bC ax 2 13 ?_;refine bC ax 3 14 ?_;refine fA ax dM 4 15 hHeld ?_;refine gL ax 5 16 (fun K hK=>?_);refine fF rfl func154 (bT.calls _ _ _ _ A22.o) ?_;intro w35 hb;refine qy B0 B1 B2 B3 hb ?_;clear B0 B1 B2 B3;intro B0 B1 B2 B3;replace HB:=bX HB hb;(try clear hb);refine hK.out _ _ gu (fun hHeld=>?_);clear hK K;refine bP ?_;refine bC ax 6 17 ?_;refine bC ax 7 18 ?_;refine bC ax 8 19 ?_;refine fA ax dM 9 20 hHeld ?_;refine gL ax 10 21 (fun K hK=>?_);refine fF rfl func156 (fH.calls _ _ _ A24.o) ?_;intro w36 hb;refine qy B0 B1 B2 B3 hb ?_;clear B0 B1 B2 B3;intro B0 B1 B2 B3;replace HB:=bX HB hb;(try clear hb);refine hK.out _ _ gu (fun hHeld=>?_);clear hK K;refine bP ?_;refine bC ax 11 22 ?_;refine bC ax 12 23 ?_;refine bC ax 13 24 ?_;refine fA ax dM 14 25 hHeld ?_;refine gL ax 15 26 (fun K hK=>?_);refine fF rfl func156 (fH.calls _ _ _ A31.o) ?_;intro w37 hb;refine qy B0 B1 B2 B3 hb ?_;clear B0 B1 B2 B3;intro B0 B1 B2 B3;replace HB:=bX HB hb;(try clear hb);refine hK.out _ _ gu (fun hHeld=>?_);clear hK K;refine bP ?_;refine bC ax 16 27 ?_;refine bC ax 17 28 ?_;refine eX (cO ax.o (by kernel_rfl)) ?_
  try go_wp2
  go_meet
  case rel=>exact ⟨_,((aG == t6 && (bG == t7))),fw,H',⟨ng⟩,fE B0,fE B1,fE B2,fE B3,lD HB⟩
 case rest =>
  clear HC5;obtain ⟨kq,x0,rfl,HA,HJ4,B0,B1,B2,B3,HB⟩:=hcut;cases kq with
  | zero=>exact absurd HA.o (by simp [bQ.j0])
  | succ kj4 =>
   have H:=HA.o;clear HA;simp only [bQ.j0] at H
   by_cases c45 : x0 = true
   ·subst c45;rw [if_pos rfl] at H;simp only [Option.some.injEq,Prod.mk.injEq] at H;obtain ⟨rfl,rfl⟩:=H;obtain ⟨_,_,_,_,_,_⟩:=nG N3_0 N3_1 N3_2;obtain ⟨_,_,_,_⟩:=bE B3;obtain ⟨_,_,_,_⟩:=eY N2_0 N2_1;obtain ⟨_,_,_,_⟩:=bE B2
    go_wp2
    refine iC #[.int .i64 t0,.int .i64 t1] (lV B2) underlying108 ?_;exact iw HB
   replace c45:=Bool.eq_false_iff.mpr c45;subst c45;rw [gD] at H;replace H:=gy H;rcases H with ⟨c53,H⟩ | ⟨c53,H⟩
   ·have z3:=decide_eq_false c53;clear c53;replace H:=gy H;rcases H with ⟨c75,H⟩ | ⟨c75,H⟩
    ·have z4 : decide (aD < t1) = false:=decide_eq_false c75;clear c75;simp only [Option.some.injEq,Prod.mk.injEq] at H;obtain ⟨rfl,rfl⟩:=H;obtain ⟨_,_,_,_,_,_⟩:=nG N3_0 N3_1 N3_2;obtain ⟨_,_,_,_⟩:=bE B3;obtain ⟨_,_,_,_⟩:=eY N0_1 N0_2;obtain ⟨_,_,_,_⟩:=bE B0;obtain ⟨_,_⟩:=dU N2_1;obtain ⟨_,_,_,_⟩:=bE B2
     go_wp2
     refine iC #[.int .i64 t0,.int .i64 t1] (lV B2) underlying108 ?_;exact iw HB
    have z4 : decide (aD < t1) = true:=decide_eq_true c75;clear c75;replace H:=bK H;obtain ⟨t8,A76,H⟩:=H;(try dsimp only at H);simp only [Option.some.injEq,Prod.mk.injEq] at H;obtain ⟨rfl,rfl⟩:=H;obtain ⟨_,_,_,_,_,_⟩:=nG N3_0 N3_1 N3_2;obtain ⟨_,_,_,_⟩:=bE B3;obtain ⟨_,_,_,_⟩:=eY N0_1 N0_2;obtain ⟨_,_,_,_⟩:=bE B0;go_wp2_with (first | ((with_reducible refine gf 179 rfl ?_);refine mD rfl (some 48) func179 (lK.calls _ _ _ _ _ _ _ (bN (Kd.aj HR2.o HB.o)) HC2.o A76.o) ?_;intro nd;(try (rw [mP wc];generalize hq_ : World.drewN wc _ = wc;replace B0:=wN B0 hq_;replace B1:=wN B1 hq_;replace B2:=wN B2 hq_;replace B3:=wN B3 hq_;replace HB:=Dp HB hq_;clear hq_;obtain ⟨z7,z8,z9,za⟩:=bE B0;obtain ⟨zb,zc,zd,ze⟩:=bE B1;obtain ⟨zf,zg,zh,zi⟩:=bE B2;obtain ⟨zj,zk,zl,zm⟩:=bE B3));obtain ⟨_,_⟩:=dU N2_1;obtain ⟨_,_,_,_⟩:=bE B2));refine iC #[.int .i64 t0,.int .i64 t8] (lV B2) underlying108 ?_;exact iw HB
   have z3:=decide_eq_true c53;clear c53;replace H:=bK H;obtain ⟨t9,A54,H⟩:=H;(try dsimp only at H);replace H:=gy H;rcases H with ⟨c55,H⟩ | ⟨c55,H⟩
   ·have z5 : decide (aD < t1) = false:=decide_eq_false c55;clear c55;simp only [Option.some.injEq,Prod.mk.injEq] at H;obtain ⟨rfl,rfl⟩:=H;obtain ⟨_,_,_,_,_,_⟩:=nG N3_0 N3_1 N3_2;obtain ⟨_,_,_,_⟩:=bE B3;obtain ⟨_,_,_,_⟩:=eY N0_1 N0_2;obtain ⟨_,_,_,_⟩:=bE B0;go_wp2_with (first | ((with_reducible refine gf 178 rfl ?_);refine mD rfl (some 38) func178 (iB.calls _ _ _ _ _ _ _ (bN (Kd.aj HR2.o HB.o)) HC2.o A54.o) ?_;intro nd;(try (rw [mP wc];generalize hq_ : World.drewN wc _ = wc;replace B0:=wN B0 hq_;replace B1:=wN B1 hq_;replace B2:=wN B2 hq_;replace B3:=wN B3 hq_;replace HB:=Dp HB hq_;clear hq_;obtain ⟨zn,zo,zp,zq⟩:=bE B0;obtain ⟨zr,zt,zu,zv⟩:=bE B1;obtain ⟨zw,zx,zy,zz⟩:=bE B2;obtain ⟨zA,zB,zC,zD⟩:=bE B3));obtain ⟨_,_⟩:=dU N2_1;obtain ⟨_,_,_,_⟩:=bE B2));refine iC #[.int .i64 t9,.int .i64 t1] (lV B2) underlying108 ?_;exact iw HB
   have z5 : decide (aD < t1) = true:=decide_eq_true c55;clear c55;replace H:=bK H;obtain ⟨t10,A56,H⟩:=H;(try dsimp only at H);simp only [Option.some.injEq,Prod.mk.injEq] at H;obtain ⟨rfl,rfl⟩:=H;obtain ⟨_,_,_,_,_,_⟩:=nG N3_0 N3_1 N3_2;obtain ⟨_,_,_,_⟩:=bE B3;obtain ⟨_,_,_,_⟩:=eY N0_1 N0_2;obtain ⟨_,_,_,_⟩:=bE B0;go_wp2_with (first | ((with_reducible refine gf 178 rfl ?_);refine mD rfl (some 38) func178 (iB.calls _ _ _ _ _ _ _ (bN (Kd.aj HR2.o HB.o)) HC2.o A54.o) ?_;intro nd;(try (rw [mP wc];generalize hq_ : World.drewN wc _ = wc;replace B0:=wN B0 hq_;replace B1:=wN B1 hq_;replace B2:=wN B2 hq_;replace B3:=wN B3 hq_;replace HB:=Dp HB hq_;clear hq_;obtain ⟨zE,zF,zG,zH⟩:=bE B0;obtain ⟨zI,zJ,zK,zL⟩:=bE B1;obtain ⟨zM,zN,zO,zP⟩:=bE B2;obtain ⟨zQ,zR,zS,zT⟩:=bE B3))) | ((with_reducible refine gf 179 rfl ?_);refine mD rfl (some 48) func179 (lK.calls _ _ _ _ _ _ _ (Kd.aj HR2.o (ig HB)) HC2.o A56.o) ?_;intro nd;obtain ⟨_,_⟩:=dU N2_1;obtain ⟨_,_,_,_⟩:=bE B2));refine iC #[.int .i64 t9,.int .i64 t10] (lV B2) underlying108 ?_;exact iw HB
def bS.T2 : Bool × List (List Nat × List Nat):=(true,[([],[]),([0],[0]),([1],[1]),([2,1],[2]),([3],[3]),([4,3,3],[3,4]),([5,3],[3,5]),([3,6],[3,6]),([7,5],[7]),([8],[8]),([8,8],[8]),([9,10,8],[8,9,10]),([8,11],[8,11]),([12,10],[12]),([13],[13]),([13,13],[13]),([14,15,13],[13,14,15]),([13,16],[13,16])])
def bS.B2 : List Nat:=[0,1,3,7,15,31,63,127,255,511,511,2047,4095,8191,16383,16383,65535,131071]
theorem bS.y8 : l9 .any (opsOf f162 2) = bS.T2:=by kernel_rfl
theorem bS.vV : fQ bS.T2.2 bS.B2 = true:=by kernel_rfl
def bS.T4 : Bool × List (List Nat × List Nat):=(true,[([],[]),([0],[0]),([],[]),([2,1],[2]),([],[]),([1,3,4,3],[1,3,4]),([],[]),([6,5],[6]),([],[]),([8,7],[8]),([7,9,9],[7,9]),([5,10,10],[5,10]),([11,11,0,1,2,3,4,5,6,7,8,9,10,11],[11])])
def bS.B4 : List Nat:=[0,1,0,7,0,31,0,127,0,511,1023,2047,4095]
theorem bS.DF : l9 .any (opsOf f162 4) = bS.T4:=by kernel_rfl
theorem bS.Bc : fQ bS.T4.2 bS.B4 = true:=by kernel_rfl
theorem bS.calls (k : Nat) (ai : Int) (aD : Int) (bM : Int) (bL : Int) (aG : Int) (bG : Int) (gH : Int) (gG : Int) (A2 : Option Addr) (c2 : Nat) (l2 : List Int) (r1 : Int) (r2 : Int) (r3 : Int) (r4 : Int) (w : World) (hr2 : Kd.C (Kd.int .i64) w A2 l2.length l2) (hc2 : l2.length ≤ c2) (h : bS.f k ai aD bM bL aG bG gH gG l2 = some (r1,r2,r3,r4)) :
  Calls prog 162 #[.agg #[.int .i64 ai,.int .i64 aD,.int .i64 bM,.int .i64 bL],.agg #[.int .i64 aG,.int .i64 bG,.int .i64 gH,.int .i64 gG],.slice A2 l2.length c2] w fun e w'=>e = .returned (.agg #[.int .i64 r1,.int .i64 r2,.int .i64 r3,.int .i64 r4])∧Below w.heap.size w w':=by
 have hu58:=underlying58;have HR2:=af.mk hr2;have HC2:=af.mk hc2;clear hr2 hc2;have HB:=af.mk (Below.refl w.heap.size w);have H:=h;unfold bS.f at H;clear h;replace H:=bK H;obtain ⟨⟨t0,t1,t2,t3⟩,A4,H⟩:=H;(try dsimp only at H);have HC5:=af.mk H;clear H;go_enter func162,ntmps162;go_upto_region 2 with (first | ((with_reducible refine gd 3 rfl ?_);refine eO 3 #[.int .i64 ai,.int .i64 aD,.int .i64 bM,.int .i64 bL] 58 HB ?_;clear HB;intro gb0 hg w6 hb B0 GW0 HB;clear hb hg) | ((with_reducible refine gd 4 rfl ?_);refine eO 4 #[.int .i64 aG,.int .i64 bG,.int .i64 gH,.int .i64 gG] 58 HB ?_;clear HB;intro gb1 hg w7 hb B1 GW1 HB;have N0_1:=fC B0 hg;have N1_0:=fD B0 hg;replace B0:=bF B0 hb;clear hb hg) | ((with_reducible refine gd 6 rfl ?_);refine eO 6 #[.int .i64 0,.int .i64 0,.int .i64 0,.int .i64 0] 58 HB ?_;clear HB;intro gb2 hg w8 hb B2 GW2 HB;have N0_2:=fC B0 hg;have N2_0:=fD B0 hg;have N1_2:=fC B1 hg;have N2_1:=fD B1 hg;refine mM B0 B1 hb ?_;clear B0 B1;intro B0 B1;clear hb hg;obtain ⟨_,_,_,_⟩:=eY N0_1 N0_2;obtain ⟨_,_,_,_,_,_,_,_⟩:=fU B0;obtain ⟨_,_⟩:=dU N1_2;obtain ⟨_,_,_,_,_,_,_,_⟩:=fU B1) | ((with_reducible refine gf 163 rfl ?_);refine eZ rfl (some 10) func163 (eP.calls _ _ _ _ _ _ _ _ _ _ _ _ _ _ A4.o) ?_;intro w14 hb;refine dI B0 B1 B2 hb ?_;clear B0 B1 B2;intro B0 B1 B2;replace HB:=bX HB hb;(try clear hb)) | ((with_reducible refine gd 7 rfl ?_);refine eO 7 #[.int .i64 0,.int .i64 0,.int .i64 0,.int .i64 0] 58 HB ?_;clear HB;intro gb3 hg w15 hb B3 GW3 HB;have N0_3:=fC B0 hg;have N3_0:=fD B0 hg;have N1_3:=fC B1 hg;have N3_1:=fD B1 hg;have N2_3:=fC B2 hg;have N3_2:=fD B2 hg;refine dI B0 B1 B2 hb ?_;clear B0 B1 B2;intro B0 B1 B2;clear hb hg;obtain ⟨_,_,_,_,_,_⟩:=nG N3_0 N3_1 N3_2;obtain ⟨_,_,_,_,_,_,_,_⟩:=fU B3))
 (try simp only [Act.put,List.setIfInBounds_toArray,List.set_cons_zero,List.set_cons_succ])
 go_cut [28] (fun v28 wc=>∃ (kq : Nat) (x0 : Bool),v28 = .bool x0∧af (bS.j0 kq l2 x0 ai aD bM bL aG bG gH gG t0 t1 t2 t3 = some (r1,r2,r3,r4))∧af (kq ≤ k)∧af (wc.heap[gb0]? = some (.cells #[.int .i64 ai,.int .i64 aD,.int .i64 bM,.int .i64 bL] 58 (0,0)))∧af (wc.heap[gb1]? = some (.cells #[.int .i64 aG,.int .i64 bG,.int .i64 gH,.int .i64 gG] 58 (0,0)))∧af (wc.heap[gb2]? = some (.cells #[.int .i64 0,.int .i64 0,.int .i64 0,.int .i64 0] 58 (0,0)))∧af (wc.heap[gb3]? = some (.cells #[.int .i64 t0,.int .i64 t1,.int .i64 t2,.int .i64 t3] 58 (0,0)))∧af (Below w.heap.size w wc))
 case first =>
  have H:=HC5.o;clear HC5;replace H:=bK H;obtain ⟨t4,A20,H⟩:=H;(try dsimp only at H);rcases qm (t4 = true) with c21 | c21
  ·replace c21:=Bool.eq_false_iff.mpr c21;subst c21;rw [gD] at H;have H':=af.mk H;clear H
   try go_wp2
   obtain ⟨w42,hw_⟩ : ∃ w_,w_ = ((((w15.setCell ⟨gb3,0,none⟩ (.int .i64 t0)).setCell ⟨gb3,1,none⟩ (.int .i64 t1)).setCell ⟨gb3,2,none⟩ (.int .i64 t2)).setCell ⟨gb3,3,none⟩ (.int .i64 t3)):=⟨_,rfl⟩;replace B0:=lU hw_ B0;replace B1:=lU hw_ B1;replace B2:=lU hw_ B2
   replace B3 : af (w42.heap[gb3]? = some (.cells #[.int .i64 t0,.int .i64 t1,.int .i64 t2,.int .i64 t3] 58 (0,0))):=by rw [hw_];exact ⟨lV B3⟩
   replace HB:=sZ hw_ HB
   rw [← hw_];clear hw_;replace B0:=bU B0;replace B1:=bU B1;replace B2:=bU B2;replace B3:=bU B3;replace HB:=iI HB;refine mI 18 (fun w'=>vE w' gb0 (.int .i64 ai) (.int .i64 aD) (.int .i64 bM) (.int .i64 bL)) gu (fun hHeld=>?_);refine bD bS.y8 bS.vV (fun ax dM=>?_);generalize w42.drew = w43 at B0 B1 B2 B3 HB hHeld ⊢;refine fA ax dM 0 11 hHeld ?_;refine gL ax 1 12 (fun K hK=>?_);refine fF rfl func127 (dG.calls _ _ _ _ _ _ _ A20.o) ?_;intro w44 hb;refine qy B0 B1 B2 B3 hb ?_;clear B0 B1 B2 B3;intro B0 B1 B2 B3;replace HB:=bX HB hb;(try clear hb);refine hK.out _ _ gu (fun hHeld=>?_);clear hK K;refine bP ?_;refine bC ax 2 13 ?_;refine bC ax 3 14 ?_;refine bY ax 4 15 ?_;refine bY ax 5 16 ?_;refine bY ax 6 17 ?_;refine bC ax 7 18 ?_;refine bC ax 8 19 ?_;refine bY ax 9 20 ?_;refine bY ax 10 21 ?_;refine bY ax 11 22 ?_;refine bC ax 12 23 ?_;refine bC ax 13 24 ?_;refine bY ax 14 25 ?_;refine bY ax 15 26 ?_;refine bY ax 16 27 ?_;refine bC ax 17 28 ?_;refine eX (cO ax.o (by kernel_rfl)) ?_
   try go_wp2
   go_meet
   case rel=>exact ⟨_,(true),fw,H',⟨ng⟩,fE B0,fE B1,fE B2,fE B3,lD HB⟩
  subst c21;rw [if_pos rfl] at H;replace H:=bK H;obtain ⟨t5,A22,H⟩:=H;(try dsimp only at H);rcases qm (t5 = true) with c23 | c23
  ·replace c23:=Bool.eq_false_iff.mpr c23;subst c23;rw [gD] at H;have H':=af.mk H;clear H
   try go_wp2
   obtain ⟨w38,hw_⟩ : ∃ w_,w_ = ((((w15.setCell ⟨gb3,0,none⟩ (.int .i64 t0)).setCell ⟨gb3,1,none⟩ (.int .i64 t1)).setCell ⟨gb3,2,none⟩ (.int .i64 t2)).setCell ⟨gb3,3,none⟩ (.int .i64 t3)):=⟨_,rfl⟩;replace B0:=lU hw_ B0;replace B1:=lU hw_ B1;replace B2:=lU hw_ B2
   replace B3 : af (w38.heap[gb3]? = some (.cells #[.int .i64 t0,.int .i64 t1,.int .i64 t2,.int .i64 t3] 58 (0,0))):=by rw [hw_];exact ⟨lV B3⟩
   replace HB:=sZ hw_ HB
   rw [← hw_];clear hw_;replace B0:=bU B0;replace B1:=bU B1;replace B2:=bU B2;replace B3:=bU B3;replace HB:=iI HB;refine mI 18 (fun w'=>vE w' gb0 (.int .i64 ai) (.int .i64 aD) (.int .i64 bM) (.int .i64 bL)∧vE w' gb1 (.int .i64 aG) (.int .i64 bG) (.int .i64 gH) (.int .i64 gG)) gu (fun hHeld=>?_);refine bD bS.y8 bS.vV (fun ax dM=>?_);generalize w38.drew = w39 at B0 B1 B2 B3 HB hHeld ⊢;refine fA ax dM 0 11 hHeld ?_;refine gL ax 1 12 (fun K hK=>?_);refine fF rfl func127 (dG.calls _ _ _ _ _ _ _ A20.o) ?_;intro w40 hb;refine qy B0 B1 B2 B3 hb ?_;clear B0 B1 B2 B3;intro B0 B1 B2 B3;replace HB:=bX HB hb;(try clear hb);refine hK.out _ _ gu (fun hHeld=>?_);clear hK K;refine bP ?_;refine bC ax 2 13 ?_;refine bC ax 3 14 ?_;refine fA ax dM 4 15 hHeld ?_;refine gL ax 5 16 (fun K hK=>?_);refine fF rfl func127 (dG.calls _ _ _ _ _ _ _ A22.o) ?_;intro w41 hb;refine qy B0 B1 B2 B3 hb ?_;clear B0 B1 B2 B3;intro B0 B1 B2 B3;replace HB:=bX HB hb;(try clear hb);refine hK.out _ _ gu (fun hHeld=>?_);clear hK K;refine bP ?_;refine bC ax 6 17 ?_;refine bC ax 7 18 ?_;refine bC ax 8 19 ?_;refine bY ax 9 20 ?_;refine bY ax 10 21 ?_;refine bY ax 11 22 ?_;refine bC ax 12 23 ?_;refine bC ax 13 24 ?_;refine bY ax 14 25 ?_;refine bY ax 15 26 ?_;refine bY ax 16 27 ?_;refine bC ax 17 28 ?_;refine eX (cO ax.o (by kernel_rfl)) ?_
   try go_wp2
   go_meet
   case rel=>exact ⟨_,(true),fw,H',⟨ng⟩,fE B0,fE B1,fE B2,fE B3,lD HB⟩
  subst c23;rw [if_pos rfl] at H;replace H:=bK H;obtain ⟨⟨t6,t7,t8,t9⟩,A24,H⟩:=H;(try dsimp only at H);replace H:=qc H;rcases H with ⟨c25,H⟩ | ⟨c25,H⟩
  ·have z0 : (ai == t6 && (aD == t7 && (bM == t8 && (bL == t9)))) = true:=c25
   (try (have z1 : decide (ai = t6 && (aD == t7 && (bM == t8 && (bL == t9)))) = true:=by simpa using c25))
   (try (have z2 : (ai == t6 && (aD == t7 && (bM == t8 && (bL == t9)))) = true:=by simpa using c25))
   clear c25
   (first | rw [z0] | (simp only [iQ,lg];rw [z0]) | skip)
   have H':=af.mk H;clear H
   try go_wp2
   obtain ⟨w26,hw_⟩ : ∃ w_,w_ = ((((w15.setCell ⟨gb3,0,none⟩ (.int .i64 t0)).setCell ⟨gb3,1,none⟩ (.int .i64 t1)).setCell ⟨gb3,2,none⟩ (.int .i64 t2)).setCell ⟨gb3,3,none⟩ (.int .i64 t3)):=⟨_,rfl⟩;replace B0:=lU hw_ B0;replace B1:=lU hw_ B1;replace B2:=lU hw_ B2
   replace B3 : af (w26.heap[gb3]? = some (.cells #[.int .i64 t0,.int .i64 t1,.int .i64 t2,.int .i64 t3] 58 (0,0))):=by rw [hw_];exact ⟨lV B3⟩
   replace HB:=sZ hw_ HB
   rw [← hw_];clear hw_;replace B0:=bU B0;replace B1:=bU B1;replace B2:=bU B2;replace B3:=bU B3;replace HB:=iI HB;refine mI 18 (fun w'=>vE w' gb0 (.int .i64 ai) (.int .i64 aD) (.int .i64 bM) (.int .i64 bL)∧vE w' gb1 (.int .i64 aG) (.int .i64 bG) (.int .i64 gH) (.int .i64 gG)) gu (fun hHeld=>?_);refine bD bS.y8 bS.vV (fun ax dM=>?_);generalize w26.drew = w27 at B0 B1 B2 B3 HB hHeld ⊢;refine fA ax dM 0 11 hHeld ?_;refine gL ax 1 12 (fun K hK=>?_);refine fF rfl func127 (dG.calls _ _ _ _ _ _ _ A20.o) ?_;intro w28 hb;refine qy B0 B1 B2 B3 hb ?_;clear B0 B1 B2 B3;intro B0 B1 B2 B3;replace HB:=bX HB hb;(try clear hb);refine hK.out _ _ gu (fun hHeld=>?_);clear hK K;refine bP ?_;refine bC ax 2 13 ?_;refine bC ax 3 14 ?_;refine fA ax dM 4 15 hHeld ?_;refine gL ax 5 16 (fun K hK=>?_);refine fF rfl func127 (dG.calls _ _ _ _ _ _ _ A22.o) ?_;intro w29 hb;refine qy B0 B1 B2 B3 hb ?_;clear B0 B1 B2 B3;intro B0 B1 B2 B3;replace HB:=bX HB hb;(try clear hb);refine hK.out _ _ gu (fun hHeld=>?_);clear hK K;refine bP ?_;refine bC ax 6 17 ?_;refine bC ax 7 18 ?_;refine bC ax 8 19 ?_;refine fA ax dM 9 20 hHeld ?_;refine gL ax 10 21 (fun K hK=>?_);refine fF rfl func93 (dw.calls _ _ _ _ _ A24.o) ?_;intro w30 hb;refine qy B0 B1 B2 B3 hb ?_;clear B0 B1 B2 B3;intro B0 B1 B2 B3;replace HB:=bX HB hb;(try clear hb);refine hK.out _ _ gu (fun hHeld=>?_);clear hK K;refine bP ?_;refine bC ax 11 22 ?_;refine bC ax 12 23 ?_;refine bC ax 13 24 ?_;refine bY ax 14 25 ?_;refine bY ax 15 26 ?_;refine bY ax 16 27 ?_;refine bC ax 17 28 ?_;refine eX (cO ax.o (by kernel_rfl)) ?_
   try go_wp2
   go_meet
   case rel=>exact ⟨_,(true),fw,H',⟨ng⟩,fE B0,fE B1,fE B2,fE B3,lD HB⟩
  have z0 : (ai == t6 && (aD == t7 && (bM == t8 && (bL == t9)))) = false:=by simpa using c25
  (try (have z1 : decide (ai = t6 && (aD == t7 && (bM == t8 && (bL == t9)))) = false:=by simpa using c25))
  (try (have z2 : (ai == t6 && (aD == t7 && (bM == t8 && (bL == t9)))) = false:=by simpa using c25))
  (try (have z3 : ¬ (ai = t6 && (aD == t7 && (bM == t8 && (bL == t9)))):=by simpa using c25))
  clear c25
  (first | rw [z0] | (simp only [iQ,lg];rw [z0]) | skip)
  replace H:=bK H;obtain ⟨⟨t10,t11,t12,t13⟩,A31,H⟩:=H;(try dsimp only at H);have H':=af.mk H;clear H
  try go_wp2
  obtain ⟨w32,hw_⟩ : ∃ w_,w_ = ((((w15.setCell ⟨gb3,0,none⟩ (.int .i64 t0)).setCell ⟨gb3,1,none⟩ (.int .i64 t1)).setCell ⟨gb3,2,none⟩ (.int .i64 t2)).setCell ⟨gb3,3,none⟩ (.int .i64 t3)):=⟨_,rfl⟩;replace B0:=lU hw_ B0;replace B1:=lU hw_ B1;replace B2:=lU hw_ B2
  replace B3 : af (w32.heap[gb3]? = some (.cells #[.int .i64 t0,.int .i64 t1,.int .i64 t2,.int .i64 t3] 58 (0,0))):=by rw [hw_];exact ⟨lV B3⟩
  replace HB:=sZ hw_ HB
  rw [← hw_];clear hw_;replace B0:=bU B0;replace B1:=bU B1;replace B2:=bU B2;replace B3:=bU B3;replace HB:=iI HB;refine mI 18 (fun w'=>vE w' gb0 (.int .i64 ai) (.int .i64 aD) (.int .i64 bM) (.int .i64 bL)∧vE w' gb1 (.int .i64 aG) (.int .i64 bG) (.int .i64 gH) (.int .i64 gG)) gu (fun hHeld=>?_);refine bD bS.y8 bS.vV (fun ax dM=>?_);generalize w32.drew = w33 at B0 B1 B2 B3 HB hHeld ⊢;refine fA ax dM 0 11 hHeld ?_;refine gL ax 1 12 (fun K hK=>?_);refine fF rfl func127 (dG.calls _ _ _ _ _ _ _ A20.o) ?_;intro w34 hb;refine qy B0 B1 B2 B3 hb ?_;clear B0 B1 B2 B3;intro B0 B1 B2 B3;replace HB:=bX HB hb;(try clear hb);refine hK.out _ _ gu (fun hHeld=>?_);clear hK K;refine bP ?_;refine bC ax 2 13 ?_;refine bC ax 3 14 ?_;refine fA ax dM 4 15 hHeld ?_;refine gL ax 5 16 (fun K hK=>?_);refine fF rfl func127 (dG.calls _ _ _ _ _ _ _ A22.o) ?_;intro w35 hb;refine qy B0 B1 B2 B3 hb ?_;clear B0 B1 B2 B3;intro B0 B1 B2 B3;replace HB:=bX HB hb;(try clear hb);refine hK.out _ _ gu (fun hHeld=>?_);clear hK K;refine bP ?_;refine bC ax 6 17 ?_;refine bC ax 7 18 ?_;refine bC ax 8 19 ?_;refine fA ax dM 9 20 hHeld ?_;refine gL ax 10 21 (fun K hK=>?_);refine fF rfl func93 (dw.calls _ _ _ _ _ A24.o) ?_;intro w36 hb;refine qy B0 B1 B2 B3 hb ?_;clear B0 B1 B2 B3;intro B0 B1 B2 B3;replace HB:=bX HB hb;(try clear hb);refine hK.out _ _ gu (fun hHeld=>?_);clear hK K;refine bP ?_;refine bC ax 11 22 ?_;refine bC ax 12 23 ?_;refine bC ax 13 24 ?_;refine fA ax dM 14 25 hHeld ?_;refine gL ax 15 26 (fun K hK=>?_);refine fF rfl func93 (dw.calls _ _ _ _ _ A31.o) ?_;intro w37 hb;refine qy B0 B1 B2 B3 hb ?_;clear B0 B1 B2 B3;intro B0 B1 B2 B3;replace HB:=bX HB hb;(try clear hb);refine hK.out _ _ gu (fun hHeld=>?_);clear hK K;refine bP ?_;refine bC ax 16 27 ?_;refine bC ax 17 28 ?_;refine eX (cO ax.o (by kernel_rfl)) ?_
  try go_wp2
  go_meet
  case rel=>exact ⟨_,((aG == t10 && (bG == t11 && (gH == t12 && (gG == t13))))),fw,H',⟨ng⟩,fE B0,fE B1,fE B2,fE B3,lD HB⟩
 case rest =>
  clear HC5;obtain ⟨kq,x0,rfl,HA,HJ4,B0,B1,B2,B3,HB⟩:=hcut;cases kq with
  | zero=>exact absurd HA.o (by simp [bS.j0])
  | succ kj4 =>
   have H:=HA.o;clear HA;simp only [bS.j0] at H
   by_cases c45 : x0 = true
   ·subst c45;rw [if_pos rfl] at H;simp only [Option.some.injEq,Prod.mk.injEq] at H;obtain ⟨rfl,rfl,rfl,rfl⟩:=H;obtain ⟨_,_,_,_,_,_⟩:=nG N3_0 N3_1 N3_2;obtain ⟨_,_,_,_,_,_,_,_⟩:=fU B3;obtain ⟨_,_,_,_⟩:=eY N2_0 N2_1;obtain ⟨_,_,_,_,_,_,_,_⟩:=fU B2
    go_wp2
    refine iC #[.int .i64 t0,.int .i64 t1,.int .i64 t2,.int .i64 t3] (lV B2) underlying58 ?_;exact iw HB
   replace c45:=Bool.eq_false_iff.mpr c45;subst c45;rw [gD] at H;replace H:=bK H;obtain ⟨⟨t14,t15⟩,A53,H⟩:=H;(try dsimp only at H);replace H:=bK H;obtain ⟨⟨t16,t17⟩,A54,H⟩:=H;(try dsimp only at H);replace H:=bK H;obtain ⟨⟨t18,t19⟩,A55,H⟩:=H;(try dsimp only at H);replace H:=bK H;obtain ⟨⟨t20,t21⟩,A56,H⟩:=H;(try dsimp only at H);replace H:=bK H;obtain ⟨⟨t22,t23⟩,A57,H⟩:=H;(try dsimp only at H);replace H:=bK H;obtain ⟨⟨t24,t25⟩,A58,H⟩:=H;(try dsimp only at H);replace H:=bK H;obtain ⟨⟨t26,t27,t28,t29⟩,A59,H⟩:=H;(try dsimp only at H);simp only [Option.some.injEq,Prod.mk.injEq] at H;obtain ⟨rfl,rfl,rfl,rfl⟩:=H
   try go_wp2
   replace B0:=bU B0;replace B1:=bU B1;replace B2:=bU B2;replace B3:=bU B3;replace HB:=iI HB;refine mI 13 (fun w'=>vE w' gb0 (.int .i64 ai) (.int .i64 aD) (.int .i64 bM) (.int .i64 bL)∧vE w' gb1 (.int .i64 aG) (.int .i64 bG) (.int .i64 gH) (.int .i64 gG)) gu (fun hHeld=>?_);refine bD bS.DF bS.Bc (fun ax dM=>?_);generalize wc.drew = w60 at B0 B1 B2 B3 HB hHeld ⊢;refine bC ax 4 34 ?_;refine fA ax dM 0 30 hHeld ?_;refine fA ax dM 2 32 hHeld ?_;refine fA ax dM 6 36 hHeld ?_;refine fA ax dM 8 38 hHeld ?_;refine gL ax 1 31 (fun K hK=>?_);refine fF rfl func129 (gZ.calls _ _ _ _ _ _ _ A53.o) ?_;intro w61 hb;refine qy B0 B1 B2 B3 hb ?_;clear B0 B1 B2 B3;intro B0 B1 B2 B3;replace HB:=bX HB hb;(try clear hb);refine hK.out _ _ gu (fun hHeld=>?_);clear hK K;refine bP ?_;refine gL ax 3 33 (fun K hK=>?_);refine fF rfl func129 (gZ.calls _ _ _ _ _ _ _ A54.o) ?_;intro w62 hb;refine qy B0 B1 B2 B3 hb ?_;clear B0 B1 B2 B3;intro B0 B1 B2 B3;replace HB:=bX HB hb;(try clear hb);refine hK.out _ _ gu (fun hHeld=>?_);clear hK K;refine bP ?_;refine gL ax 5 35 (fun K hK=>?_);refine fF rfl func173 (bQ.calls _ _ _ _ _ _ _ _ _ _ _ (bN (Kd.aj HR2.o HB.o)) HC2.o A55.o) ?_;intro w63 hb;refine qy B0 B1 B2 B3 hb ?_;clear B0 B1 B2 B3;intro B0 B1 B2 B3;replace HB:=bX HB hb;(try clear hb);refine hK.out _ _ gu (fun hHeld=>?_);clear hK K;refine bP ?_;refine gL ax 7 37 (fun K hK=>?_);refine fF rfl func131 (iR.calls _ _ _ _ _ _ _ A56.o) ?_;intro w64 hb;refine qy B0 B1 B2 B3 hb ?_;clear B0 B1 B2 B3;intro B0 B1 B2 B3;replace HB:=bX HB hb;(try clear hb);refine hK.out _ _ gu (fun hHeld=>?_);clear hK K;refine bP ?_;refine gL ax 9 39 (fun K hK=>?_);refine fF rfl func131 (iR.calls _ _ _ _ _ _ _ A57.o) ?_;intro w65 hb;refine qy B0 B1 B2 B3 hb ?_;clear B0 B1 B2 B3;intro B0 B1 B2 B3;replace HB:=bX HB hb;(try clear hb);refine hK.out _ _ gu (fun hHeld=>?_);clear hK K;refine bP ?_;refine gL ax 10 40 (fun K hK=>?_);refine fF rfl func174 (dO.calls _ _ _ _ _ _ _ _ A58.o) ?_;intro w66 hb;refine qy B0 B1 B2 B3 hb ?_;clear B0 B1 B2 B3;intro B0 B1 B2 B3;replace HB:=bX HB hb;(try clear hb);refine hK.out _ _ gu (fun hHeld=>?_);clear hK K;refine bP ?_;refine gL ax 11 41 (fun K hK=>?_);refine fF rfl func90 (bq.calls _ _ _ _ _ _ _ _ _ _ A59.o) ?_;intro w67 hb;refine qy B0 B1 B2 B3 hb ?_;clear B0 B1 B2 B3;intro B0 B1 B2 B3;replace HB:=bX HB hb;(try clear hb);refine hK.out _ _ gu (fun hHeld=>?_);clear hK K;refine bP ?_;refine xc ax 12 (fun K hK=>?_);obtain ⟨_,_,_,_,_,_,_,_⟩:=fU B2;obtain ⟨_,_,_,_,_,_⟩:=nG N0_2 N1_2 N3_2;refine qP ?_;refine hK.out _ _ xH (fun hHeld=>?_);clear hK K;refine eX (cO ax.o (by kernel_rfl)) ?_
   try go_wp2
   refine iC #[.int .i64 t26,.int .i64 t27,.int .i64 t28,.int .i64 t29] (lV B2) underlying58 ?_;exact iw HB
theorem lX.calls (k : Nat) (ai : Int) (aD : Int) (bM : Int) (bL : Int) (aG : Int) (bG : Int) (gH : Int) (gG : Int) (a2 : Bool) (A3 : Option Addr) (c3 : Nat) (l3 : List Int) (r1 : Int) (r2 : Int) (r3 : Int) (r4 : Int) (w : World) (hr3 : Kd.C (Kd.int .i64) w A3 l3.length l3) (hc3 : l3.length ≤ c3) (h : lX.f k ai aD bM bL aG bG gH gG a2 l3 = some (r1,r2,r3,r4)) :
  Calls prog 102 #[.agg #[.int .i64 ai,.int .i64 aD,.int .i64 bM,.int .i64 bL],.agg #[.int .i64 aG,.int .i64 bG,.int .i64 gH,.int .i64 gG],.bool a2,.slice A3 l3.length c3] w fun e w'=>e = .returned (.agg #[.int .i64 r1,.int .i64 r2,.int .i64 r3,.int .i64 r4])∧Below w.heap.size w w':=by
 have hu58:=underlying58;have HR3:=af.mk hr3;have HC3:=af.mk hc3;clear hr3 hc3;have HB:=af.mk (Below.refl w.heap.size w);have H:=h;unfold lX.f at H;clear h;rcases qm (a2 = true) with c5 | c5
 ·replace c5:=Bool.eq_false_iff.mpr c5;subst c5;rw [gD] at H;replace H:=bK H;obtain ⟨⟨t0,t1,t2,t3⟩,A17,H⟩:=H;(try dsimp only at H);simp only [Option.some.injEq,Prod.mk.injEq] at H;obtain ⟨rfl,rfl,rfl,rfl⟩:=H;go_enter func102,ntmps102;go_wp2_with (first | ((with_reducible refine gd 4 rfl ?_);refine eO 4 #[.int .i64 ai,.int .i64 aD,.int .i64 bM,.int .i64 bL] 58 HB ?_;clear HB;intro gb0 hg w18 hb B0 GW0 HB;clear hb hg) | ((with_reducible refine gd 5 rfl ?_);refine eO 5 #[.int .i64 aG,.int .i64 bG,.int .i64 gH,.int .i64 gG] 58 HB ?_;clear HB;intro gb1 hg w19 hb B1 GW1 HB;have N0_1:=fC B0 hg;have N1_0:=fD B0 hg;replace B0:=bF B0 hb;clear hb hg) | ((with_reducible refine gd 8 rfl ?_);refine eO 8 #[.int .i64 0,.int .i64 0,.int .i64 0,.int .i64 0] 58 HB ?_;clear HB;intro gb2 hg w20 hb B2 GW2 HB;have N0_2:=fC B0 hg;have N2_0:=fD B0 hg;have N1_2:=fC B1 hg;have N2_1:=fD B1 hg;refine mM B0 B1 hb ?_;clear B0 B1;intro B0 B1;clear hb hg;obtain ⟨_,_,_,_⟩:=eY N0_1 N0_2;obtain ⟨_,_,_,_,_,_,_,_⟩:=fU B0;obtain ⟨_,_⟩:=dU N1_2;obtain ⟨_,_,_,_,_,_,_,_⟩:=fU B1) | ((with_reducible refine gf 163 rfl ?_);refine eZ rfl (some 16) func163 (eP.calls _ _ _ _ _ _ _ _ _ _ _ _ _ _ A17.o) ?_;intro w26 hb;refine dI B0 B1 B2 hb ?_;clear B0 B1 B2;intro B0 B1 B2;replace HB:=bX HB hb;(try clear hb);obtain ⟨_,_,_,_,_,_,_,_⟩:=fU B2));refine iC #[.int .i64 t0,.int .i64 t1,.int .i64 t2,.int .i64 t3] (lV B2) underlying58 ?_;exact iw HB
 subst c5;rw [if_pos rfl] at H;replace H:=bK H;obtain ⟨⟨t4,t5,t6,t7⟩,A6,H⟩:=H;(try dsimp only at H);simp only [Option.some.injEq,Prod.mk.injEq] at H;obtain ⟨rfl,rfl,rfl,rfl⟩:=H;go_enter func102,ntmps102;go_wp2_with (first | ((with_reducible refine gd 4 rfl ?_);refine eO 4 #[.int .i64 ai,.int .i64 aD,.int .i64 bM,.int .i64 bL] 58 HB ?_;clear HB;intro gb0 hg w7 hb B0 GW0 HB;clear hb hg) | ((with_reducible refine gd 5 rfl ?_);refine eO 5 #[.int .i64 aG,.int .i64 bG,.int .i64 gH,.int .i64 gG] 58 HB ?_;clear HB;intro gb1 hg w8 hb B1 GW1 HB;have N0_1:=fC B0 hg;have N1_0:=fD B0 hg;replace B0:=bF B0 hb;clear hb hg) | ((with_reducible refine gd 8 rfl ?_);refine eO 8 #[.int .i64 0,.int .i64 0,.int .i64 0,.int .i64 0] 58 HB ?_;clear HB;intro gb2 hg w9 hb B2 GW2 HB;have N0_2:=fC B0 hg;have N2_0:=fD B0 hg;have N1_2:=fC B1 hg;have N2_1:=fD B1 hg;refine mM B0 B1 hb ?_;clear B0 B1;intro B0 B1;clear hb hg;obtain ⟨_,_,_,_⟩:=eY N0_1 N0_2;obtain ⟨_,_,_,_,_,_,_,_⟩:=fU B0;obtain ⟨_,_⟩:=dU N1_2;obtain ⟨_,_,_,_,_,_,_,_⟩:=fU B1) | ((with_reducible refine gf 162 rfl ?_);refine eZ rfl (some 13) func162 (bS.calls _ _ _ _ _ _ _ _ _ _ _ _ _ _ _ _ _ (bN (Kd.aj HR3.o HB.o)) HC3.o A6.o) ?_;intro w15 hb;refine dI B0 B1 B2 hb ?_;clear B0 B1 B2;intro B0 B1 B2;replace HB:=bX HB hb;(try clear hb);obtain ⟨_,_,_,_,_,_,_,_⟩:=fU B2));refine iC #[.int .i64 t4,.int .i64 t5,.int .i64 t6,.int .i64 t7] (lV B2) underlying58 ?_;exact iw HB
end Go.Proofs.YtklkdpcopfjmcaaGreat.PFnExactAbsWiden
