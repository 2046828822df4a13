/- Functions of the program as plain Lean functions, and that calls of them come to what these tell. Conditions: those in each law. -/
import Derived.Test.YtklkdpcopfjmcaaGreatSqV
import Derived.Test.YtklkdpcopfjmcaaGreatDFnExactAbsWidenV
import Derived.Test.YtklkdpcopfjmcaaGreatQFnExactAbsWidenx0V
import Derived.Test.YtklkdpcopfjmcaaGreatQFnExactAbsWidenx3V
import Derived.Test.YtklkdpcopfjmcaaGreatQFnExactAbsWidenx26V
namespace Go.Proofs.YtklkdpcopfjmcaaGreat.PFnExactAbsWiden
open Go.RowKit Tryz Go.Proofs.YtklkdpcopfjmcaaGreat.Sq Go.Proofs.YtklkdpcopfjmcaaGreatW.PrintWords Go.Proofs.YtklkdpcopfjmcaaGreatW.PrintLast Go.Proofs.YtklkdpcopfjmcaaGreatW.PrintMore
attribute [local go_sem] nV nT o8 pz mV mW nW nS 
set_option linter.unusedVariables false
set_option linter.unusedSimpArgs false
attribute [local go_sem high] Ap
set_option maxHeartbeats 8000000
set_option maxRecDepth 100000
theorem l7.calls (k : Nat) (ai : Bool) (bB : Option Addr) (bu : Nat) (av : List (bV)) (dS : Option Addr) (dD : Nat) (ay : List (fT)) (dK : Option Addr) (dE : Nat) (aK : List (bV)) (bf : Int) (dH : Option Addr) (dF : Nat) (bz : List Int) (aG : Bool) (eT : Option Addr) (eG : Nat) (bn : List (bV)) (iG : Option Addr) (gV : Nat) (aU : List (fT)) (ib : Option Addr) (gU : Nat) (cK : List (bV)) (dW : Int) (gW : Option Addr) (gQ : Nat) (dm : List Int) (A2 : Option Addr) (c2 : Nat) (l2 : List Int) (r1 : Bool) (r2 : List (bV)) (r3 : List (fT)) (r4 : List (bV)) (r5 : Int) (r6 : List Int) (w : World) (dB : Kd.C mo w bB av.length av) (dC : av.length ≤ bu) (iJ : Kd.C pW w dS ay.length ay) (iK : ay.length ≤ dD) (iL : Kd.C mo w dK aK.length aK) (iN : aK.length ≤ dE) (iM : Kd.C (Kd.int .i64) w dH bz.length bz) (iO : bz.length ≤ dF) (iW : Kd.C mo w eT bn.length bn) (iT : bn.length ≤ eG) (nk : Kd.C pW w iG aU.length aU) (nC : aU.length ≤ gV) (nE : Kd.C mo w ib cK.length cK) (nH : cK.length ≤ gU) (nu : Kd.C (Kd.int .i64) w gW dm.length dm) (ny : dm.length ≤ gQ) (hr2 : Kd.C (Kd.int .i64) w A2 l2.length l2) (hc2 : l2.length ≤ c2) (h : l7.f k ai av ay aK bf bz aG bn aU cK dW dm l2 = some (r1,r2,r3,r4,r5,r6)) :
  Calls prog 15 #[.agg #[.bool ai,.slice bB av.length bu,.slice dS ay.length dD,.slice dK aK.length dE,.int .i64 bf,.slice dH bz.length dF],.agg #[.bool aG,.slice eT bn.length eG,.slice iG aU.length gV,.slice ib cK.length gU,.int .i64 dW,.slice gW dm.length gQ],.slice A2 l2.length c2] w fun e w'=>∃ v1_ v2_ v3_ v5_ : Value,e = .returned (.agg #[.bool r1,v1_,v2_,v3_,.int .i64 r5,v5_])∧Kd.R mo 58 w' w.heap.size (fun k_=>some k_≠(v3_ : Value).ownBlock) v1_ r2∧Kd.S pW 84 w' w.heap.size (fun k_=>some k_≠(v5_ : Value).ownBlock) v2_ r3∧Kd.R mo 58 w' w.heap.size (fun k_=>some k_≠(v1_ : Value).ownBlock) v3_ r4∧Kd.R (Kd.int .i64) 3 w' w.heap.size (fun _=>True) v5_ r6∧Below w.heap.size w w':=by
 have hu34:=underlying34;have bZ:=af.mk dB;have dN:=af.mk dC;clear dB dC;have gY:=af.mk iJ;have lh:=af.mk iK;clear iJ iK;have iy:=af.mk iL;have lC:=af.mk iN;clear iL iN;have iE:=af.mk iM;have iF:=af.mk iO;clear iM iO;have il:=af.mk iW;have iP:=af.mk iT;clear iW iT;have mJ:=af.mk nk;have nJ:=af.mk nC;clear nk nC;have nz:=af.mk nE;have nM:=af.mk nH;clear nE nH;have nD:=af.mk nu;have nA:=af.mk ny;clear nu ny;have HR2:=af.mk hr2;have HC2:=af.mk hc2;clear hr2 hc2;have HB:=af.mk (Below.refl w.heap.size w);have H:=h;unfold l7.f at H;clear h;replace H:=bK H;obtain ⟨⟨t0,t1,t2,t3,t4,t5⟩,A4,H⟩:=H;(try dsimp only at H);simp only [Option.some.injEq,Prod.mk.injEq] at H;obtain ⟨rfl,rfl,rfl,rfl,rfl,rfl⟩:=H;go_enter func15,ntmps15;go_wp2_with (first | ((with_reducible refine gd 3 rfl ?_);refine eO 3 #[.bool ai,.slice bB av.length bu,.slice dS ay.length dD,.slice dK aK.length dE,.int .i64 bf,.slice dH bz.length dF] 34 HB ?_;clear HB;intro gb0 hg w5 hb B0 GW0 HB;clear hb hg) | ((with_reducible refine gd 4 rfl ?_);refine eO 4 #[.bool aG,.slice eT bn.length eG,.slice iG aU.length gV,.slice ib cK.length gU,.int .i64 dW,.slice gW dm.length gQ] 34 HB ?_;clear HB;intro gb1 hg w6 hb B1 GW1 HB;have N0_1:=fC B0 hg;have N1_0:=fD B0 hg;replace B0:=bF B0 hb;clear hb hg) | ((with_reducible refine gd 6 rfl ?_);refine eO 6 #[.bool false,.slice none 0 0,.slice none 0 0,.slice none 0 0,.int .i64 0,.slice none 0 0] 34 HB ?_;clear HB;intro gb2 hg w7 hb B2 GW2 HB;have N0_2:=fC B0 hg;have N2_0:=fD B0 hg;have N1_2:=fC B1 hg;have N2_1:=fD B1 hg;refine mM B0 B1 hb ?_;clear B0 B1;intro B0 B1;clear hb hg;obtain ⟨_,_,_,_⟩:=eY N0_1 N0_2;obtain ⟨_,_,_,_,_,_,_,_,_,_,_,_⟩:=bH B0;obtain ⟨_,_⟩:=dU N1_2;obtain ⟨_,_,_,_,_,_,_,_,_,_,_,_⟩:=bH B1) | ((with_reducible refine gf 35 rfl ?_);refine qJ rfl (some 10) func35 (aI.calls _ _ _ _ _ _ _ _ _ _ _ _ _ _ _ _ _ _ _ _ _ _ _ _ _ _ _ _ _ _ _ _ _ _ _ _ _ _ _ _ (bN (Kd.aj bZ.o HB.o)) dN.o (bN (Kd.aj gY.o HB.o)) lh.o (bN (Kd.aj iy.o HB.o)) lC.o (bN (Kd.aj iE.o HB.o)) iF.o (bN (Kd.aj il.o HB.o)) iP.o (bN (Kd.aj mJ.o HB.o)) nJ.o (bN (Kd.aj nz.o HB.o)) nM.o (bN (Kd.aj nD.o HB.o)) nA.o (bN (Kd.aj HR2.o HB.o)) HC2.o A4.o) ?_;rintro e w13 ⟨zg,zh,zi,zj,rfl,ho0,ho1,ho2,ho3,hb⟩;refine ⟨_,rfl,?_⟩;have z0:=mZ ho0 HB;have z1:=wS ho1 HB;have z2:=mZ ho2 HB;have z3:=mZ ho3 HB;refine dI B0 B1 B2 hb ?_;clear B0 B1 B2;intro B0 B1 B2;replace HB:=bX HB hb;(try clear hb);(try clear ho0);(try clear ho1);(try clear ho2);(try clear ho3);obtain ⟨_,_,_,_,_,_,_,_,_,_,_,_⟩:=bH B2;obtain ⟨z4,z5,z6⟩:=Kd.aH z0.o;subst z6;obtain ⟨z7,z8,z9⟩:=Kd.gm z1.o;subst z9;obtain ⟨za,zb,zc⟩:=Kd.aH z2.o;subst zc;obtain ⟨zd,ze,zf⟩:=Kd.aH z3.o;subst zf));refine iC #[.bool t0,.slice z4 t1.length z5,.slice z7 t2.length z8,.slice za t3.length zb,.int .i64 t4,.slice zd t5.length ze] (lV B2) underlying34 ?_;exact ⟨_,_,_,_,qB,lT (dz z0 B2),qM (qA z1 B2),lT (dz z2 B2),fG (dz z3 B2) (fun _ hk=>trivial),ig HB⟩
theorem gJ.calls  (r1 : Int) (r2 : Int) (r3 : Int) (r4 : Int) (w : World) (h : gJ.f  = some (r1,r2,r3,r4)) :
  Calls prog 107 #[] w fun e w'=>e = .returned (.agg #[.int .i64 r1,.int .i64 r2,.int .i64 r3,.int .i64 r4])∧Below w.heap.size w w':=by
 have hu58:=underlying58;have HB:=af.mk (Below.refl w.heap.size w);have H:=h;unfold gJ.f at H;clear h;simp only [Option.some.injEq,Prod.mk.injEq] at H;obtain ⟨rfl,rfl,rfl,rfl⟩:=H;go_enter func107,ntmps107;go_wp2_with (first | ((with_reducible refine gd 0 rfl ?_);refine eO 0 #[.int .i64 0,.int .i64 0,.int .i64 0,.int .i64 0] 58 HB ?_;clear HB;intro gb0 hg w1 hb B0 GW0 HB;clear hb hg;obtain ⟨_,_,_,_,_,_,_,_⟩:=fU B0));refine iC #[.int .i64 1,.int .i64 0,.int .i64 0,.int .i64 0] (lV B0) underlying58 ?_;exact iw HB
theorem ed.calls (ai : Int) (aD : Int) (bM : Int) (bL : Int) (r : Bool) (w : World) (h : ed.f ai aD bM bL = some r) :
  Calls prog 68 #[.agg #[.int .i64 ai,.int .i64 aD,.int .i64 bM,.int .i64 bL]] w fun e w'=>e = .returned (.bool r)∧Below w.heap.size w w':=by
 have hu58:=underlying58;have HB:=af.mk (Below.refl w.heap.size w);have H:=h;unfold ed.f at H;clear h;replace H:=bK H;obtain ⟨⟨t0,t1,t2,t3⟩,A2,H⟩:=H;(try dsimp only at H);obtain rfl:=Option.some.inj H;go_enter func68,ntmps68
 try go_wp2_with (first | ((with_reducible refine gd 1 rfl ?_);refine eO 1 #[.int .i64 ai,.int .i64 aD,.int .i64 bM,.int .i64 bL] 58 HB ?_;clear HB;intro gb0 hg w3 hb B0 GW0 HB;clear hb hg))
 replace B0:=bU B0;replace HB:=iI HB;refine mI 4 (fun w'=>vE w' gb0 (.int .i64 ai) (.int .i64 aD) (.int .i64 bM) (.int .i64 bL)) gu (fun hHeld=>?_);generalize w3.drew = w4 at B0 HB hHeld ⊢;refine rC (i:=0) (N:=some 3) (v:=?_) (a':=?_) #[true,false,false,false] rfl rfl (by kernel_rfl) (fun _ _ _ h=>h) (Or.inl ⟨by rfl,?_⟩) hHeld ?_ ?_;rotate_left
 ·rintro w' ⟨s0,s1,s2,s3⟩
  go_simp
  with_reducible rfl
 rotate_left
 ·simp only [Act.put,List.setIfInBounds_toArray,List.set_cons_zero,List.set_cons_succ,iQ,lg]
  rfl
 refine uZ (i:=1) (N:=some 4) #[true,true,false,false] rfl rfl (by kernel_rfl) (by decide) (fun K hK=>?_);refine fF rfl func107 (gJ.calls _ _ _ _ _ A2.o) ?_;intro w5 hb;replace B0:=bF B0 hb;replace HB:=bX HB hb;(try clear hb);refine hK.out _ _ gu (fun hHeld=>?_);clear hK K;refine bP ?_;refine qZ (i:=2) (N:=some 5) (v:=?_) (a':=?_) #[true,true,true,false] rfl rfl (by kernel_rfl) (fun _ _ _ h=>h) (Or.inl ⟨by rfl,?_⟩) ?_ ?_;rotate_left
 ·intro w'
  go_simp
  with_reducible rfl
 rotate_left
 ·simp only [Act.put,List.setIfInBounds_toArray,List.set_cons_zero,List.set_cons_succ,iQ,lg]
  rfl
 refine qZ (i:=3) (N:=some 2) (v:=?_) (a':=?_) #[true,true,true,true] rfl rfl (by kernel_rfl) (fun _ _ _ h=>h) (Or.inl ⟨by rfl,?_⟩) ?_ ?_;rotate_left
 ·intro w'
  go_simp
  with_reducible rfl
 rotate_left
 ·simp only [Act.put,List.setIfInBounds_toArray,List.set_cons_zero,List.set_cons_succ,iQ,lg]
  rfl
 refine eX (by kernel_rfl) ?_
 try go_wp2
 go_ret
 exact iw HB
theorem iD.calls (a0 : Int) (r : Bool) (w : World) (h : iD.f a0 = some r) :
  Calls prog 126 #[.int .i64 a0] w fun e w'=>e = .returned (.bool r)∧iU w w':=by
 have H:=h;unfold iD.f at H;clear h;replace H:=qc H;rcases H with ⟨c2,H⟩ | ⟨c2,H⟩
 ·have z0 : decide ((-2147483648) ≤ a0) = true:=decide_eq_true c2;clear c2;obtain rfl:=Option.some.inj H;go_enter func126,ntmps126
  go_wp2
  go_ret
  exact ⟨fw,qE⟩
 have z0 : decide ((-2147483648) ≤ a0) = false:=decide_eq_false c2;clear c2;obtain rfl:=Option.some.inj H;go_enter func126,ntmps126
 go_wp2
 go_ret
 exact ⟨fw,qE⟩
theorem lH.calls  (r1 : Int) (r2 : Int) (w : World) (h : lH.f  = some (r1,r2)) :
  Calls prog 146 #[] w fun e w'=>e = .returned (.agg #[.int .i64 r1,.int .i64 r2])∧Below w.heap.size w w':=by
 have hu108:=underlying108;have HB:=af.mk (Below.refl w.heap.size w);have H:=h;unfold lH.f at H;clear h;simp only [Option.some.injEq,Prod.mk.injEq] at H;obtain ⟨rfl,rfl⟩:=H;go_enter func146,ntmps146;go_wp2_with (first | ((with_reducible refine gd 0 rfl ?_);refine eO 0 #[.int .i64 0,.int .i64 0] 108 HB ?_;clear HB;intro gb0 hg w1 hb B0 GW0 HB;clear hb hg;obtain ⟨_,_,_,_⟩:=bE B0));refine iC #[.int .i64 1,.int .i64 0] (lV B0) underlying108 ?_;exact iw HB
attribute [local go_sem high] xq
def bO.T1 : Bool × List (List Nat × List Nat):=(true,[([],[]),([],[]),([0,1],[0,1]),([2,1],[2]),([3],[3]),([4,3],[3,4]),([5,3,3],[3,5]),([6,6,3],[3,6]),([7],[7]),([8,7],[7,8]),([9,7,7],[7,9]),([7,10,3],[3,7,10]),([11,10,3],[3,11]),([12],[12]),([13,12],[12,13]),([12],[12]),([15,12],[12,15]),([14,16,12],[12,14,16]),([12,17,3],[3,12,17]),([3,18],[3,18]),([19,12,0,1,2,3,4,5,6,7,8,9,10,11,12,13,14,15,16,17,18,19],[19])])
def bO.B1 : List Nat:=[0,0,3,7,15,31,63,127,255,511,1023,2047,4095,8191,16383,8191,40959,131071,262143,524287,1048575]
theorem bO.qo : l9 .any (opsOf f141 1) = bO.T1:=by kernel_rfl
theorem bO.nP : fQ bO.T1.2 bO.B1 = true:=by kernel_rfl
theorem bO.calls (ai : Int) (aD : Int) (r : Bool) (w : World) (h : bO.f ai aD = some r) :
  Calls prog 141 #[.agg #[.int .i64 ai,.int .i64 aD]] w fun e w'=>e = .returned (.bool r)∧Below w.heap.size w w':=by
 have hu108:=underlying108;have HB:=af.mk (Below.refl w.heap.size w);have H:=h;unfold bO.f at H;clear h;replace H:=bK H;obtain ⟨⟨t0,t1⟩,A2,H⟩:=H;(try dsimp only at H);replace H:=qc H;rcases H with ⟨c3,H⟩ | ⟨c3,H⟩
 ·have z0 : (ai == t0 && (aD == t1)) = true:=c3
  (try (have z1 : decide (ai = t0 && (aD == t1)) = true:=by simpa using c3))
  (try (have z2 : (ai == t0 && (aD == t1)) = true:=by simpa using c3))
  clear c3;obtain rfl:=Option.some.inj H;go_enter func141,ntmps141
  try go_wp2_with (first | ((with_reducible refine gd 1 rfl ?_);refine eO 1 #[.int .i64 ai,.int .i64 aD] 108 HB ?_;clear HB;intro gb0 hg w4 hb B0 GW0 HB;clear hb hg))
  replace B0:=bU B0;replace HB:=iI HB;refine mI 21 (fun w'=>rf w' gb0 (.int .i64 ai) (.int .i64 aD)) gu (fun hHeld=>?_);refine bD bO.qo bO.nP (fun ax dM=>?_);generalize w4.drew = w5 at B0 HB hHeld ⊢;refine fA ax dM 0 3 hHeld ?_;refine gL ax 1 4 (fun K hK=>?_);refine fF rfl func146 (lH.calls _ _ _ A2.o) ?_;intro w6 hb;replace B0:=bF B0 hb;replace HB:=bX HB hb;(try clear hb);refine hK.out _ _ gu (fun hHeld=>?_);clear hK K;refine bP ?_;refine bC ax 2 5 ?_;refine bC ax 3 6 ?_;refine bY ax 4 7 ?_;refine bY ax 5 8 ?_;refine bY ax 6 9 ?_;refine bY ax 7 10 ?_;refine bY ax 8 11 ?_;refine bY ax 9 12 ?_;refine bY ax 10 13 ?_;refine bY ax 11 14 ?_;refine bY ax 12 15 ?_;refine bY ax 13 16 ?_;refine bY ax 14 17 ?_;refine bY ax 15 18 ?_;refine bY ax 16 19 ?_;refine bY ax 17 20 ?_;refine bY ax 18 21 ?_;refine bC ax 19 22 ?_;refine bC ax 20 2 ?_;refine eX (cO ax.o (by kernel_rfl)) ?_
  try go_wp2
  go_ret
  exact iw HB
 have z0 : (ai == t0 && (aD == t1)) = false:=by simpa using c3
 (try (have z1 : decide (ai = t0 && (aD == t1)) = false:=by simpa using c3))
 (try (have z2 : (ai == t0 && (aD == t1)) = false:=by simpa using c3))
 (try (have z3 : ¬ (ai = t0 && (aD == t1)):=by simpa using c3))
 clear c3;replace H:=bK H;obtain ⟨t2,A7,H⟩:=H;(try dsimp only at H);rcases qm (t2 = true) with c8 | c8
 ·replace c8:=Bool.eq_false_iff.mpr c8;subst c8;rw [gD] at H;obtain rfl:=Option.some.inj H;go_enter func141,ntmps141
  try go_wp2_with (first | ((with_reducible refine gd 1 rfl ?_);refine eO 1 #[.int .i64 ai,.int .i64 aD] 108 HB ?_;clear HB;intro gb0 hg w17 hb B0 GW0 HB;clear hb hg))
  replace B0:=bU B0;replace HB:=iI HB;refine mI 21 (fun w'=>rf w' gb0 (.int .i64 ai) (.int .i64 aD)) gu (fun hHeld=>?_);refine bD bO.qo bO.nP (fun ax dM=>?_);generalize w17.drew = w18 at B0 HB hHeld ⊢;refine fA ax dM 0 3 hHeld ?_;refine gL ax 1 4 (fun K hK=>?_);refine fF rfl func146 (lH.calls _ _ _ A2.o) ?_;intro w19 hb;replace B0:=bF B0 hb;replace HB:=bX HB hb;(try clear hb);refine hK.out _ _ gu (fun hHeld=>?_);clear hK K;refine bP ?_;refine bC ax 2 5 ?_;refine bC ax 3 6 ?_;refine bC ax 4 7 ?_;refine fA ax dM 5 8 hHeld ?_;refine gL ax 6 9 (fun K hK=>?_);refine su rfl func126 (iD.calls _ _ _ A7.o) ?_;intro nd;refine hK.out _ _ gu (fun hHeld=>?_);clear hK K;refine bP ?_;refine bC ax 7 10 ?_;refine bY ax 8 11 ?_;refine bY ax 9 12 ?_;refine bY ax 10 13 ?_;refine bC ax 11 14 ?_;refine bC ax 12 15 ?_;refine bY ax 13 16 ?_;refine bY ax 14 17 ?_;refine bY ax 15 18 ?_;refine bY ax 16 19 ?_;refine bY ax 17 20 ?_;refine bC ax 18 21 ?_;refine bC ax 19 22 ?_;refine bC ax 20 2 ?_;refine eX (cO ax.o (by kernel_rfl)) ?_
  try go_wp2
  go_ret
  exact iw HB
 subst c8;rw [if_pos rfl] at H;replace H:=bK H;obtain ⟨t3,A9,H⟩:=H;(try dsimp only at H)
 by_cases c10 : t3 = true
 ·subst c10;rw [if_pos rfl] at H;obtain rfl:=Option.some.inj H;go_enter func141,ntmps141
  try go_wp2_with (first | ((with_reducible refine gd 1 rfl ?_);refine eO 1 #[.int .i64 ai,.int .i64 aD] 108 HB ?_;clear HB;intro gb0 hg w11 hb B0 GW0 HB;clear hb hg))
  replace B0:=bU B0;replace HB:=iI HB;refine mI 21 (fun w'=>rf w' gb0 (.int .i64 ai) (.int .i64 aD)) gu (fun hHeld=>?_);refine bD bO.qo bO.nP (fun ax dM=>?_);generalize w11.drew = w12 at B0 HB hHeld ⊢;refine fA ax dM 0 3 hHeld ?_;refine gL ax 1 4 (fun K hK=>?_);refine fF rfl func146 (lH.calls _ _ _ A2.o) ?_;intro w13 hb;replace B0:=bF B0 hb;replace HB:=bX HB hb;(try clear hb);refine hK.out _ _ gu (fun hHeld=>?_);clear hK K;refine bP ?_;refine bC ax 2 5 ?_;refine bC ax 3 6 ?_;refine bC ax 4 7 ?_;refine fA ax dM 5 8 hHeld ?_;refine gL ax 6 9 (fun K hK=>?_);refine su rfl func126 (iD.calls _ _ _ A7.o) ?_;intro nd;refine hK.out _ _ gu (fun hHeld=>?_);clear hK K;refine bP ?_;refine bC ax 7 10 ?_;refine bC ax 8 11 ?_;refine fA ax dM 9 12 hHeld ?_;refine gL ax 10 13 (fun K hK=>?_);refine su rfl func126 (iD.calls _ _ _ A9.o) ?_;intro nd;refine hK.out _ _ gu (fun hHeld=>?_);clear hK K;refine bP ?_;refine bC ax 11 14 ?_;refine bC ax 12 15 ?_;refine bC ax 13 16 ?_;refine bC ax 15 18 ?_;refine fA ax dM 14 17 hHeld ?_;refine fA ax dM 16 19 hHeld ?_;refine bC ax 17 20 ?_;refine bC ax 18 21 ?_;refine bC ax 19 22 ?_;refine bC ax 20 2 ?_;refine eX (cO ax.o (by kernel_rfl)) ?_
  try go_wp2
  go_ret
  exact iw HB
 replace c10:=Bool.eq_false_iff.mpr c10;subst c10;rw [gD] at H;obtain rfl:=Option.some.inj H;go_enter func141,ntmps141
 try go_wp2_with (first | ((with_reducible refine gd 1 rfl ?_);refine eO 1 #[.int .i64 ai,.int .i64 aD] 108 HB ?_;clear HB;intro gb0 hg w14 hb B0 GW0 HB;clear hb hg))
 replace B0:=bU B0;replace HB:=iI HB;refine mI 21 (fun w'=>rf w' gb0 (.int .i64 ai) (.int .i64 aD)) gu (fun hHeld=>?_);refine bD bO.qo bO.nP (fun ax dM=>?_);generalize w14.drew = w15 at B0 HB hHeld ⊢;refine fA ax dM 0 3 hHeld ?_;refine gL ax 1 4 (fun K hK=>?_);refine fF rfl func146 (lH.calls _ _ _ A2.o) ?_;intro w16 hb;replace B0:=bF B0 hb;replace HB:=bX HB hb;(try clear hb);refine hK.out _ _ gu (fun hHeld=>?_);clear hK K;refine bP ?_;refine bC ax 2 5 ?_;refine bC ax 3 6 ?_;refine bC ax 4 7 ?_;refine fA ax dM 5 8 hHeld ?_;refine gL ax 6 9 (fun K hK=>?_);refine su rfl func126 (iD.calls _ _ _ A7.o) ?_;intro nd;refine hK.out _ _ gu (fun hHeld=>?_);clear hK K;refine bP ?_;refine bC ax 7 10 ?_;refine bC ax 8 11 ?_;refine fA ax dM 9 12 hHeld ?_;refine gL ax 10 13 (fun K hK=>?_);refine su rfl func126 (iD.calls _ _ _ A9.o) ?_;intro nd;refine hK.out _ _ gu (fun hHeld=>?_);clear hK K;refine bP ?_;refine bC ax 11 14 ?_;refine bC ax 12 15 ?_;refine bY ax 13 16 ?_;refine bY ax 14 17 ?_;refine bY ax 15 18 ?_;refine bY ax 16 19 ?_;refine bY ax 17 20 ?_;refine bC ax 18 21 ?_;refine bC ax 19 22 ?_;refine bC ax 20 2 ?_;refine eX (cO ax.o (by kernel_rfl)) ?_
 try go_wp2
 go_ret
 exact iw HB
theorem l6.calls (ai : Int) (aD : Int) (a1 : Int) (r : Bool) (w : World) (h : l6.f ai aD a1 = some r) :
  Calls prog 124 #[.agg #[.int .i64 ai,.int .i64 aD],.int .i64 a1] w fun e w'=>e = .returned (.bool r)∧Below w.heap.size w w':=by
 have hu108:=underlying108;have HB:=af.mk (Below.refl w.heap.size w);have H:=h;unfold l6.f at H;clear h;replace H:=bK H;obtain ⟨t0,A3,H⟩:=H;(try dsimp only at H);rcases qm (t0 = true) with c4 | c4
 ·replace c4:=Bool.eq_false_iff.mpr c4;subst c4;rw [gD] at H;obtain rfl:=Option.some.inj H;go_enter func124,ntmps124;go_wp2_with (first | ((with_reducible refine gd 2 rfl ?_);refine eO 2 #[.int .i64 ai,.int .i64 aD] 108 HB ?_;clear HB;intro gb0 hg w14 hb B0 GW0 HB;clear hb hg;obtain ⟨_,_,_,_⟩:=bE B0) | ((with_reducible refine gf 141 rfl ?_);refine eZ rfl (some 6) func141 (bO.calls _ _ _ _ A3.o) ?_;intro w16 hb;replace B0:=bF B0 hb;replace HB:=bX HB hb;(try clear hb)))
  go_ret
  exact iw HB
 subst c4;rw [if_pos rfl] at H;replace H:=qc H;rcases H with ⟨c5,H⟩ | ⟨c5,H⟩
 ·have z0:=decide_eq_true c5;clear c5;obtain rfl:=Option.some.inj H;go_enter func124,ntmps124;go_wp2_with (first | ((with_reducible refine gd 2 rfl ?_);refine eO 2 #[.int .i64 ai,.int .i64 aD] 108 HB ?_;clear HB;intro gb0 hg w6 hb B0 GW0 HB;clear hb hg;obtain ⟨_,_,_,_⟩:=bE B0) | ((with_reducible refine gf 141 rfl ?_);refine eZ rfl (some 6) func141 (bO.calls _ _ _ _ A3.o) ?_;intro w8 hb;replace B0:=bF B0 hb;replace HB:=bX HB hb;(try clear hb);obtain ⟨_,_,_,_⟩:=bE B0))
  go_ret
  exact iw HB
 have z0:=decide_eq_false c5;clear c5;obtain rfl:=Option.some.inj H;go_enter func124,ntmps124;go_wp2_with (first | ((with_reducible refine gd 2 rfl ?_);refine eO 2 #[.int .i64 ai,.int .i64 aD] 108 HB ?_;clear HB;intro gb0 hg w10 hb B0 GW0 HB;clear hb hg;obtain ⟨_,_,_,_⟩:=bE B0) | ((with_reducible refine gf 141 rfl ?_);refine eZ rfl (some 6) func141 (bO.calls _ _ _ _ A3.o) ?_;intro w12 hb;replace B0:=bF B0 hb;replace HB:=bX HB hb;(try clear hb);obtain ⟨_,_,_,_⟩:=bE B0))
 go_ret
 exact iw HB
theorem lu.calls (ai : Int) (aD : Int) (r : Bool) (w : World) (h : lu.f ai aD = some r) :
  Calls prog 142 #[.agg #[.int .i64 ai,.int .i64 aD]] w fun e w'=>e = .returned (.bool r)∧Below w.heap.size w w':=by
 have hu111:=underlying111;have HB:=af.mk (Below.refl w.heap.size w);have H:=h;unfold lu.f at H;clear h;replace H:=qc H;rcases H with ⟨c2,H⟩ | ⟨c2,H⟩
 ·have z0 : (ai == 0) = true:=beq_iff_eq.mpr c2;have z1 : (ai != 0) = false:=bne_eq_false_iff_eq.mpr c2;clear c2;replace H:=bK H;obtain ⟨t0,A3,H⟩:=H;(try dsimp only at H);obtain rfl:=Option.some.inj H;go_enter func142,ntmps142;go_wp2_with (first | ((with_reducible refine gd 1 rfl ?_);refine eO 1 #[.int .i64 ai,.int .i64 aD] 111 HB ?_;clear HB;intro gb0 hg w4 hb B0 GW0 HB;clear hb hg;obtain ⟨_,_,_,_⟩:=bE B0) | ((with_reducible refine gf 126 rfl ?_);refine mD rfl (some 8) func126 (iD.calls _ _ _ A3.o) ?_;intro nd))
  go_ret
  exact iw HB
 have z0 : (ai == 0) = false:=beq_eq_false_iff_ne.mpr c2;have z1 : (ai != 0) = true:=bne_iff_ne.mpr c2;replace H:=gy H;rcases H with ⟨c6,H⟩ | ⟨c6,H⟩
 ·have z2 : decide (1 ≤ ai) = false:=decide_eq_false c6;clear c6;obtain rfl:=Option.some.inj H;go_enter func142,ntmps142;go_wp2_with (first | ((with_reducible refine gd 1 rfl ?_);refine eO 1 #[.int .i64 ai,.int .i64 aD] 111 HB ?_;clear HB;intro gb0 hg w15 hb B0 GW0 HB;clear hb hg;obtain ⟨_,_,_,_⟩:=bE B0))
  go_ret
  exact iw HB
 have z2 : decide (1 ≤ ai) = true:=decide_eq_true c6;clear c6;replace H:=gy H;rcases H with ⟨c7,H⟩ | ⟨c7,H⟩
 ·have z3:=decide_eq_false c7;clear c7;obtain rfl:=Option.some.inj H;go_enter func142,ntmps142;go_wp2_with (first | ((with_reducible refine gd 1 rfl ?_);refine eO 1 #[.int .i64 ai,.int .i64 aD] 111 HB ?_;clear HB;intro gb0 hg w13 hb B0 GW0 HB;clear hb hg;obtain ⟨_,_,_,_⟩:=bE B0))
  go_ret
  exact iw HB
 have z3:=decide_eq_true c7;clear c7;replace H:=qc H;rcases H with ⟨c8,H⟩ | ⟨c8,H⟩
 ·have z4 : decide (0 ≤ aD) = true:=decide_eq_true c8;clear c8;obtain rfl:=Option.some.inj H;go_enter func142,ntmps142;go_wp2_with (first | ((with_reducible refine gd 1 rfl ?_);refine eO 1 #[.int .i64 ai,.int .i64 aD] 111 HB ?_;clear HB;intro gb0 hg w9 hb B0 GW0 HB;clear hb hg;obtain ⟨_,_,_,_⟩:=bE B0))
  go_ret
  exact iw HB
 have z4 : decide (0 ≤ aD) = false:=decide_eq_false c8;clear c8;obtain rfl:=Option.some.inj H;go_enter func142,ntmps142;go_wp2_with (first | ((with_reducible refine gd 1 rfl ?_);refine eO 1 #[.int .i64 ai,.int .i64 aD] 111 HB ?_;clear HB;intro gb0 hg w11 hb B0 GW0 HB;clear hb hg;obtain ⟨_,_,_,_⟩:=bE B0))
 go_ret
 exact iw HB
theorem eF.calls (ai : Int) (aD : Int) (r : Bool) (w : World) (h : eF.f ai aD = some r) :
  Calls prog 143 #[.agg #[.int .i64 ai,.int .i64 aD]] w fun e w'=>e = .returned (.bool r)∧Below w.heap.size w w':=by
 have hu108:=underlying108;have HB:=af.mk (Below.refl w.heap.size w);have H:=h;unfold eF.f at H;clear h;obtain rfl:=Option.some.inj H;go_enter func143,ntmps143;go_wp2_with (first | ((with_reducible refine gd 1 rfl ?_);refine eO 1 #[.int .i64 ai,.int .i64 aD] 108 HB ?_;clear HB;intro gb0 hg w2 hb B0 GW0 HB;clear hb hg;obtain ⟨_,_,_,_⟩:=bE B0))
 go_ret
 exact iw HB
theorem mY.calls (a0 : Int) (r1 : Int) (r2 : Int) (r3 : Int) (r4 : Int) (w : World) (h : mY.f a0 = some (r1,r2,r3,r4)) :
  Calls prog 144 #[.int .i64 a0] w fun e w'=>e = .returned (.agg #[.int .i64 r1,.int .i64 r2,.int .i64 r3,.int .i64 r4])∧Below w.heap.size w w':=by
 have hu58:=underlying58;have HB:=af.mk (Below.refl w.heap.size w);have H:=h;unfold mY.f at H;clear h;simp only [Option.some.injEq,Prod.mk.injEq] at H;obtain ⟨rfl,rfl,rfl,rfl⟩:=H;go_enter func144,ntmps144;go_wp2_with (first | ((with_reducible refine gd 2 rfl ?_);refine eO 2 #[.int .i64 0,.int .i64 0,.int .i64 0,.int .i64 0] 58 HB ?_;clear HB;intro gb0 hg w2 hb B0 GW0 HB;clear hb hg;obtain ⟨_,_,_,_,_,_,_,_⟩:=fU B0));refine iC #[.int .i64 a0,.int .i64 a0,.int .i64 0,.int .i64 a0] (lV B0) underlying58 ?_;exact iw HB
theorem dZ.calls (a0 : Int) (a1 : Int) (r : Int) (w : World) (h : dZ.f a0 a1 = some r) :
  Calls prog 145 #[.int .i64 a0,.int .i64 a1] w fun e w'=>e = .returned (.int .i64 r)∧iU w w':=by
 have H:=h;unfold dZ.f at H;clear h;replace H:=qc H;rcases H with ⟨c3,H⟩ | ⟨c3,H⟩
 ·cases H
 have z1 : (a1 == 0) = false:=beq_eq_false_iff_ne.mpr c3;have z2 : (a1 != 0) = true:=bne_iff_ne.mpr c3;replace H:=qc H;rcases H with ⟨c4,H⟩ | ⟨c4,H⟩
 ·have z0:=decide_eq_true c4;clear c4;obtain rfl:=Option.some.inj H;go_enter func145,ntmps145
  go_wp2
  go_ret
  exact ⟨fw,qE⟩
 have z0:=decide_eq_false c4;clear c4;obtain rfl:=Option.some.inj H;go_enter func145,ntmps145
 go_wp2
 go_ret
 exact ⟨fw,qE⟩
theorem gB.calls (k : Nat) (ai : Int) (aD : Int) (aG : Int) (bG : Int) (r1 : Int) (r2 : Int) (r3 : Int) (r4 : Int) (w : World) (h : gB.f k ai aD aG bG = some (r1,r2,r3,r4)) :
  Calls prog 83 #[.agg #[.int .i64 ai,.int .i64 aD],.agg #[.int .i64 aG,.int .i64 bG]] w fun e w'=>e = .returned (.agg #[.int .i64 r1,.int .i64 r2,.int .i64 r3,.int .i64 r4])∧Below w.heap.size w w':=by
 have hu108:=underlying108;have hu111:=underlying111;have hu58:=underlying58;have HB:=af.mk (Below.refl w.heap.size w);have H:=h;unfold gB.f at H;clear h;have HC3:=af.mk H;clear H;go_enter func83,ntmps83;go_upto_region 1 with (first | ((with_reducible refine gd 2 rfl ?_);refine eO 2 #[.int .i64 ai,.int .i64 aD] 108 HB ?_;clear HB;intro gb0 hg w4 hb B0 GW0 HB;clear hb hg) | ((with_reducible refine gd 3 rfl ?_);refine eO 3 #[.int .i64 aG,.int .i64 bG] 111 HB ?_;clear HB;intro gb1 hg w5 hb B1 GW1 HB;have N0_1:=fC B0 hg;have N1_0:=fD B0 hg;replace B0:=bF B0 hb;clear hb hg) | ((with_reducible refine gd 4 rfl ?_);refine eO 4 #[.int .i64 0,.int .i64 0,.int .i64 0,.int .i64 0] 58 HB ?_;clear HB;intro gb2 hg w6 hb B2 GW2 HB;have N0_2:=fC B0 hg;have N2_0:=fD B0 hg;have N1_2:=fC B1 hg;have N2_1:=fD B1 hg;refine mM B0 B1 hb ?_;clear B0 B1;intro B0 B1;clear hb hg))
 repeat (go_quiet (first | ((with_reducible refine gd 2 rfl ?_);refine eO 2 #[.int .i64 ai,.int .i64 aD] 108 HB ?_;clear HB;intro gb0 hg w4 hb B0 GW0 HB;clear hb hg) | ((with_reducible refine gd 3 rfl ?_);refine eO 3 #[.int .i64 aG,.int .i64 bG] 111 HB ?_;clear HB;intro gb1 hg w5 hb B1 GW1 HB;have N0_1:=fC B0 hg;have N1_0:=fD B0 hg;replace B0:=bF B0 hb;clear hb hg) | ((with_reducible refine gd 4 rfl ?_);refine eO 4 #[.int .i64 0,.int .i64 0,.int .i64 0,.int .i64 0] 58 HB ?_;clear HB;intro gb2 hg w6 hb B2 GW2 HB;have N0_2:=fC B0 hg;have N2_0:=fD B0 hg;have N1_2:=fC B1 hg;have N2_1:=fD B1 hg;refine mM B0 B1 hb ?_;clear B0 B1;intro B0 B1;clear hb hg));go_upto_region 1 with (first | ((with_reducible refine gd 2 rfl ?_);refine eO 2 #[.int .i64 ai,.int .i64 aD] 108 HB ?_;clear HB;intro gb0 hg w4 hb B0 GW0 HB;clear hb hg) | ((with_reducible refine gd 3 rfl ?_);refine eO 3 #[.int .i64 aG,.int .i64 bG] 111 HB ?_;clear HB;intro gb1 hg w5 hb B1 GW1 HB;have N0_1:=fC B0 hg;have N1_0:=fD B0 hg;replace B0:=bF B0 hb;clear hb hg) | ((with_reducible refine gd 4 rfl ?_);refine eO 4 #[.int .i64 0,.int .i64 0,.int .i64 0,.int .i64 0] 58 HB ?_;clear HB;intro gb2 hg w6 hb B2 GW2 HB;have N0_2:=fC B0 hg;have N2_0:=fD B0 hg;have N1_2:=fC B1 hg;have N2_1:=fD B1 hg;refine mM B0 B1 hb ?_;clear B0 B1;intro B0 B1;clear hb hg)))
 (try simp only [Act.put,List.setIfInBounds_toArray,List.set_cons_zero,List.set_cons_succ])
 go_cut [18] (fun v18 wc=>∃ (kq : Nat) (x0 : Bool),v18 = .bool x0∧af (gB.j0 kq x0 ai aD aG bG = some (r1,r2,r3,r4))∧af (kq ≤ k)∧af (wc.heap[gb0]? = some (.cells #[.int .i64 ai,.int .i64 aD] 108 (0,0)))∧af (wc.heap[gb1]? = some (.cells #[.int .i64 aG,.int .i64 bG] 111 (0,0)))∧af (wc.heap[gb2]? = some (.cells #[.int .i64 0,.int .i64 0,.int .i64 0,.int .i64 0] 58 (0,0)))∧af (Below w.heap.size w wc))
 case first =>
  have H:=HC3.o;clear HC3;replace H:=bK H;obtain ⟨t0,A7,H⟩:=H;(try dsimp only at H);rcases qm (t0 = true) with c8 | c8
  ·replace c8:=Bool.eq_false_iff.mpr c8;subst c8;rw [gD] at H;have H':=af.mk H;clear H;obtain ⟨hnb28,hnc28,hnb29,hnc29⟩:=eY N0_1 N0_2;obtain ⟨j9,ja,jb,jc⟩:=bE B0;go_wp2_with (first | (go_at_call 141;(with_reducible refine (bO.calls ai aD false _ A7.o).mono ?_);rintro e w31 ⟨rfl,hb⟩;refine dI B0 B1 B2 hb ?_;clear B0 B1 B2;intro B0 B1 B2;replace HB:=bX HB hb;(try clear hb)))
   repeat (go_quiet (first | (go_at_call 141;(with_reducible refine (bO.calls ai aD false _ A7.o).mono ?_);rintro e w31 ⟨rfl,hb⟩;refine dI B0 B1 B2 hb ?_;clear B0 B1 B2;intro B0 B1 B2;replace HB:=bX HB hb;(try clear hb)));try go_wp2_with (first | (go_at_call 141;(with_reducible refine (bO.calls ai aD false _ A7.o).mono ?_);rintro e w31 ⟨rfl,hb⟩;refine dI B0 B1 B2 hb ?_;clear B0 B1 B2;intro B0 B1 B2;replace HB:=bX HB hb;(try clear hb))))
   go_meet
   case rel=>exact ⟨_,(true),fw,H',⟨ng⟩,fE B0,fE B1,fE B2,lD HB⟩
  subst c8;rw [if_pos rfl] at H;replace H:=bK H;obtain ⟨t1,A9,H⟩:=H;(try dsimp only at H);rcases qm (t1 = true) with c10 | c10
  ·replace c10:=Bool.eq_false_iff.mpr c10;subst c10;rw [gD] at H;have H':=af.mk H;clear H;obtain ⟨hnb21,hnc21,hnb22,hnc22⟩:=eY N0_1 N0_2;obtain ⟨jd,je,jf,jg⟩:=bE B0;go_wp2_with (first | (go_at_call 141;(with_reducible refine (bO.calls ai aD true _ A7.o).mono ?_);rintro e w24 ⟨rfl,hb⟩;refine dI B0 B1 B2 hb ?_;clear B0 B1 B2;intro B0 B1 B2;replace HB:=bX HB hb;(try clear hb);obtain ⟨hnb25,hnc25⟩:=dU N1_2;obtain ⟨z8,z9,za,zb⟩:=bE B1) | (go_at_call 142;(with_reducible refine (lu.calls aG bG false _ A9.o).mono ?_);rintro e w27 ⟨rfl,hb⟩;refine dI B0 B1 B2 hb ?_;clear B0 B1 B2;intro B0 B1 B2;replace HB:=bX HB hb;(try clear hb)))
   repeat (go_quiet (first | (go_at_call 141;(with_reducible refine (bO.calls ai aD true _ A7.o).mono ?_);rintro e w24 ⟨rfl,hb⟩;refine dI B0 B1 B2 hb ?_;clear B0 B1 B2;intro B0 B1 B2;replace HB:=bX HB hb;(try clear hb);obtain ⟨hnb25,hnc25⟩:=dU N1_2;obtain ⟨z8,z9,za,zb⟩:=bE B1) | (go_at_call 142;(with_reducible refine (lu.calls aG bG false _ A9.o).mono ?_);rintro e w27 ⟨rfl,hb⟩;refine dI B0 B1 B2 hb ?_;clear B0 B1 B2;intro B0 B1 B2;replace HB:=bX HB hb;(try clear hb)));try go_wp2_with (first | (go_at_call 141;(with_reducible refine (bO.calls ai aD true _ A7.o).mono ?_);rintro e w24 ⟨rfl,hb⟩;refine dI B0 B1 B2 hb ?_;clear B0 B1 B2;intro B0 B1 B2;replace HB:=bX HB hb;(try clear hb);obtain ⟨hnb25,hnc25⟩:=dU N1_2;obtain ⟨z8,z9,za,zb⟩:=bE B1) | (go_at_call 142;(with_reducible refine (lu.calls aG bG false _ A9.o).mono ?_);rintro e w27 ⟨rfl,hb⟩;refine dI B0 B1 B2 hb ?_;clear B0 B1 B2;intro B0 B1 B2;replace HB:=bX HB hb;(try clear hb))))
   go_meet
   case rel=>exact ⟨_,(true),fw,H',⟨ng⟩,fE B0,fE B1,fE B2,lD HB⟩
  subst c10;rw [if_pos rfl] at H;replace H:=bK H;obtain ⟨t2,A11,H⟩:=H;(try dsimp only at H);have H':=af.mk H;clear H;obtain ⟨hnb12,hnc12,hnb13,hnc13⟩:=eY N0_1 N0_2;obtain ⟨jh,ji,jj,jk⟩:=bE B0;go_wp2_with (first | (go_at_call 141;(with_reducible refine (bO.calls ai aD true _ A7.o).mono ?_);rintro e w15 ⟨rfl,hb⟩;refine dI B0 B1 B2 hb ?_;clear B0 B1 B2;intro B0 B1 B2;replace HB:=bX HB hb;(try clear hb);obtain ⟨hnb16,hnc16⟩:=dU N1_2;obtain ⟨zc,zd,ze,zf⟩:=bE B1) | (go_at_call 142;(with_reducible refine (lu.calls aG bG true _ A9.o).mono ?_);rintro e w18 ⟨rfl,hb⟩;refine dI B0 B1 B2 hb ?_;clear B0 B1 B2;intro B0 B1 B2;replace HB:=bX HB hb;(try clear hb);obtain ⟨zg,zh,zi,zj⟩:=bE B0) | (go_at_call 143;(with_reducible refine (eF.calls ai aD t2 _ A11.o).mono ?_);rintro e w20 ⟨rfl,hb⟩;refine dI B0 B1 B2 hb ?_;clear B0 B1 B2;intro B0 B1 B2;replace HB:=bX HB hb;(try clear hb)))
  repeat (go_quiet (first | (go_at_call 141;(with_reducible refine (bO.calls ai aD true _ A7.o).mono ?_);rintro e w15 ⟨rfl,hb⟩;refine dI B0 B1 B2 hb ?_;clear B0 B1 B2;intro B0 B1 B2;replace HB:=bX HB hb;(try clear hb);obtain ⟨hnb16,hnc16⟩:=dU N1_2;obtain ⟨zc,zd,ze,zf⟩:=bE B1) | (go_at_call 142;(with_reducible refine (lu.calls aG bG true _ A9.o).mono ?_);rintro e w18 ⟨rfl,hb⟩;refine dI B0 B1 B2 hb ?_;clear B0 B1 B2;intro B0 B1 B2;replace HB:=bX HB hb;(try clear hb);obtain ⟨zg,zh,zi,zj⟩:=bE B0) | (go_at_call 143;(with_reducible refine (eF.calls ai aD t2 _ A11.o).mono ?_);rintro e w20 ⟨rfl,hb⟩;refine dI B0 B1 B2 hb ?_;clear B0 B1 B2;intro B0 B1 B2;replace HB:=bX HB hb;(try clear hb)));try go_wp2_with (first | (go_at_call 141;(with_reducible refine (bO.calls ai aD true _ A7.o).mono ?_);rintro e w15 ⟨rfl,hb⟩;refine dI B0 B1 B2 hb ?_;clear B0 B1 B2;intro B0 B1 B2;replace HB:=bX HB hb;(try clear hb);obtain ⟨hnb16,hnc16⟩:=dU N1_2;obtain ⟨zc,zd,ze,zf⟩:=bE B1) | (go_at_call 142;(with_reducible refine (lu.calls aG bG true _ A9.o).mono ?_);rintro e w18 ⟨rfl,hb⟩;refine dI B0 B1 B2 hb ?_;clear B0 B1 B2;intro B0 B1 B2;replace HB:=bX HB hb;(try clear hb);obtain ⟨zg,zh,zi,zj⟩:=bE B0) | (go_at_call 143;(with_reducible refine (eF.calls ai aD t2 _ A11.o).mono ?_);rintro e w20 ⟨rfl,hb⟩;refine dI B0 B1 B2 hb ?_;clear B0 B1 B2;intro B0 B1 B2;replace HB:=bX HB hb;(try clear hb))))
  go_meet
  case rel=>exact ⟨_,(t2),fw,H',⟨ng⟩,fE B0,fE B1,fE B2,lD HB⟩
 case rest =>
  clear HC3;obtain ⟨kq,x0,rfl,HA,HJ2,B0,B1,B2,HB⟩:=hcut;cases kq with
  | zero=>exact absurd HA.o (by simp [gB.j0])
  | succ kj2 =>
   have H:=HA.o;clear HA;simp only [gB.j0] at H
   by_cases c32 : x0 = true
   ·subst c32;rw [if_pos rfl] at H;replace H:=bK H;obtain ⟨⟨t3,t4,t5,t6⟩,A33,H⟩:=H;(try dsimp only at H);simp only [Option.some.injEq,Prod.mk.injEq] at H;obtain ⟨rfl,rfl,rfl,rfl⟩:=H;go_wp2_with (first | (go_at_call 107;(with_reducible refine (gJ.calls  t3 t4 t5 t6 _ A33.o).mono ?_);rintro e w34 ⟨rfl,hb⟩;refine dI B0 B1 B2 hb ?_;clear B0 B1 B2;intro B0 B1 B2;replace HB:=bX HB hb;(try clear hb);obtain ⟨hnb35,hnc35,hnb36,hnc36⟩:=eY N2_0 N2_1;obtain ⟨zk,zl,zm,zn,zo,zp,zq,zr⟩:=fU B2))
    repeat (go_quiet (first | (go_at_call 107;(with_reducible refine (gJ.calls  t3 t4 t5 t6 _ A33.o).mono ?_);rintro e w34 ⟨rfl,hb⟩;refine dI B0 B1 B2 hb ?_;clear B0 B1 B2;intro B0 B1 B2;replace HB:=bX HB hb;(try clear hb);obtain ⟨hnb35,hnc35,hnb36,hnc36⟩:=eY N2_0 N2_1;obtain ⟨zk,zl,zm,zn,zo,zp,zq,zr⟩:=fU B2));try go_wp2_with (first | (go_at_call 107;(with_reducible refine (gJ.calls  t3 t4 t5 t6 _ A33.o).mono ?_);rintro e w34 ⟨rfl,hb⟩;refine dI B0 B1 B2 hb ?_;clear B0 B1 B2;intro B0 B1 B2;replace HB:=bX HB hb;(try clear hb);obtain ⟨hnb35,hnc35,hnb36,hnc36⟩:=eY N2_0 N2_1;obtain ⟨zk,zl,zm,zn,zo,zp,zq,zr⟩:=fU B2)))
    refine iC #[.int .i64 t3,.int .i64 t4,.int .i64 t5,.int .i64 t6] (lV B2) underlying58 ?_;exact iw HB
   replace c32:=Bool.eq_false_iff.mpr c32;subst c32;rw [gD] at H;replace H:=qc H;rcases H with ⟨c38,H⟩ | ⟨c38,H⟩
   ·have j4 : (aG == 0) = true:=beq_iff_eq.mpr c38;have j5 : (aG != 0) = false:=bne_eq_false_iff_eq.mpr c38;clear c38;replace H:=bK H;obtain ⟨t7,A39,H⟩:=H;(try dsimp only at H);rcases qm (t7 = true) with c40 | c40
    ·replace c40:=Bool.eq_false_iff.mpr c40;subst c40;rw [gD] at H;replace H:=bK H;obtain ⟨⟨t8,t9,t10,t11⟩,A51,H⟩:=H;(try dsimp only at H);simp only [Option.some.injEq,Prod.mk.injEq] at H;obtain ⟨rfl,rfl,rfl,rfl⟩:=H;obtain ⟨hnb52,hnc52,hnb53,hnc53⟩:=eY N1_0 N1_2;obtain ⟨jl,jm,jn,jo⟩:=bE B1;obtain ⟨hnb55,hnc55⟩:=dU N0_2;obtain ⟨jp,jq,jr,js⟩:=bE B0;go_wp2_with (first | (go_at_call 124;(with_reducible refine (l6.calls ai aD bG false _ A39.o).mono ?_);rintro e w57 ⟨rfl,hb⟩;refine dI B0 B1 B2 hb ?_;clear B0 B1 B2;intro B0 B1 B2;replace HB:=bX HB hb;(try clear hb)) | (go_at_call 107;(with_reducible refine (gJ.calls  t8 t9 t10 t11 _ A51.o).mono ?_);rintro e w58 ⟨rfl,hb⟩;refine dI B0 B1 B2 hb ?_;clear B0 B1 B2;intro B0 B1 B2;replace HB:=bX HB hb;(try clear hb);obtain ⟨zt,zu,zv,zw,zx,zy,zz,zA⟩:=fU B2))
     repeat (go_quiet (first | (go_at_call 124;(with_reducible refine (l6.calls ai aD bG false _ A39.o).mono ?_);rintro e w57 ⟨rfl,hb⟩;refine dI B0 B1 B2 hb ?_;clear B0 B1 B2;intro B0 B1 B2;replace HB:=bX HB hb;(try clear hb)) | (go_at_call 107;(with_reducible refine (gJ.calls  t8 t9 t10 t11 _ A51.o).mono ?_);rintro e w58 ⟨rfl,hb⟩;refine dI B0 B1 B2 hb ?_;clear B0 B1 B2;intro B0 B1 B2;replace HB:=bX HB hb;(try clear hb);obtain ⟨zt,zu,zv,zw,zx,zy,zz,zA⟩:=fU B2));try go_wp2_with (first | (go_at_call 124;(with_reducible refine (l6.calls ai aD bG false _ A39.o).mono ?_);rintro e w57 ⟨rfl,hb⟩;refine dI B0 B1 B2 hb ?_;clear B0 B1 B2;intro B0 B1 B2;replace HB:=bX HB hb;(try clear hb)) | (go_at_call 107;(with_reducible refine (gJ.calls  t8 t9 t10 t11 _ A51.o).mono ?_);rintro e w58 ⟨rfl,hb⟩;refine dI B0 B1 B2 hb ?_;clear B0 B1 B2;intro B0 B1 B2;replace HB:=bX HB hb;(try clear hb);obtain ⟨zt,zu,zv,zw,zx,zy,zz,zA⟩:=fU B2)))
     refine iC #[.int .i64 t8,.int .i64 t9,.int .i64 t10,.int .i64 t11] (lV B2) underlying58 ?_;exact iw HB
    subst c40;rw [if_pos rfl] at H;replace H:=bK H;obtain ⟨⟨t12,t13,t14,t15⟩,A41,H⟩:=H;(try dsimp only at H);simp only [Option.some.injEq,Prod.mk.injEq] at H;obtain ⟨rfl,rfl,rfl,rfl⟩:=H;obtain ⟨hnb42,hnc42,hnb43,hnc43⟩:=eY N1_0 N1_2;obtain ⟨jt,ju,jv,jw⟩:=bE B1;obtain ⟨hnb45,hnc45⟩:=dU N0_2;obtain ⟨jx,jy,jz,jA⟩:=bE B0;go_wp2_with (first | (go_at_call 124;(with_reducible refine (l6.calls ai aD bG true _ A39.o).mono ?_);rintro e w47 ⟨rfl,hb⟩;refine dI B0 B1 B2 hb ?_;clear B0 B1 B2;intro B0 B1 B2;replace HB:=bX HB hb;(try clear hb);obtain ⟨zB,zC,zD,zE⟩:=bE B1) | (go_at_call 144;(with_reducible refine (mY.calls bG t12 t13 t14 t15 _ A41.o).mono ?_);rintro e w49 ⟨rfl,hb⟩;refine dI B0 B1 B2 hb ?_;clear B0 B1 B2;intro B0 B1 B2;replace HB:=bX HB hb;(try clear hb);obtain ⟨zF,zG,zH,zI,zJ,zK,zL,zM⟩:=fU B2))
    repeat (go_quiet (first | (go_at_call 124;(with_reducible refine (l6.calls ai aD bG true _ A39.o).mono ?_);rintro e w47 ⟨rfl,hb⟩;refine dI B0 B1 B2 hb ?_;clear B0 B1 B2;intro B0 B1 B2;replace HB:=bX HB hb;(try clear hb);obtain ⟨zB,zC,zD,zE⟩:=bE B1) | (go_at_call 144;(with_reducible refine (mY.calls bG t12 t13 t14 t15 _ A41.o).mono ?_);rintro e w49 ⟨rfl,hb⟩;refine dI B0 B1 B2 hb ?_;clear B0 B1 B2;intro B0 B1 B2;replace HB:=bX HB hb;(try clear hb);obtain ⟨zF,zG,zH,zI,zJ,zK,zL,zM⟩:=fU B2));try go_wp2_with (first | (go_at_call 124;(with_reducible refine (l6.calls ai aD bG true _ A39.o).mono ?_);rintro e w47 ⟨rfl,hb⟩;refine dI B0 B1 B2 hb ?_;clear B0 B1 B2;intro B0 B1 B2;replace HB:=bX HB hb;(try clear hb);obtain ⟨zB,zC,zD,zE⟩:=bE B1) | (go_at_call 144;(with_reducible refine (mY.calls bG t12 t13 t14 t15 _ A41.o).mono ?_);rintro e w49 ⟨rfl,hb⟩;refine dI B0 B1 B2 hb ?_;clear B0 B1 B2;intro B0 B1 B2;replace HB:=bX HB hb;(try clear hb);obtain ⟨zF,zG,zH,zI,zJ,zK,zL,zM⟩:=fU B2)))
    refine iC #[.int .i64 t12,.int .i64 t13,.int .i64 t14,.int .i64 t15] (lV B2) underlying58 ?_;exact iw HB
   have j4 : (aG == 0) = false:=beq_eq_false_iff_ne.mpr c38;have j5 : (aG != 0) = true:=bne_iff_ne.mpr c38;replace H:=bK H;obtain ⟨t16,A60,H⟩:=H;(try dsimp only at H);replace H:=bK H;obtain ⟨t17,A61,H⟩:=H;(try dsimp only at H);replace H:=qc H;rcases H with ⟨c62,H⟩ | ⟨c62,H⟩
   ·have j6 : decide ((wrap64 (aD - t17)) < (wrap64 (ai + t16))) = true:=decide_eq_true c62;clear c62;replace H:=bK H;obtain ⟨⟨t18,t19,t20,t21⟩,A63,H⟩:=H;(try dsimp only at H);simp only [Option.some.injEq,Prod.mk.injEq] at H;obtain ⟨rfl,rfl,rfl,rfl⟩:=H;obtain ⟨hnb64,hnc64,hnb65,hnc65⟩:=eY N1_0 N1_2;obtain ⟨jB,jC,jD,jE⟩:=bE B1;obtain ⟨hnb67,hnc67⟩:=dU N0_2;obtain ⟨jF,jG,jH,jI⟩:=bE B0;go_wp2_with (first | (go_at_call 145;(with_reducible refine (dZ.calls (wrap64 (bG - ai)) aG t16 _ A60.o).mono ?_);rintro e w' ⟨rfl,⟨nd,rfl⟩⟩;(try exact ui)) | (go_at_call 145;(with_reducible refine (dZ.calls (wrap64 (aD - bG)) aG t17 _ A61.o).mono ?_);rintro e w' ⟨rfl,⟨nd,rfl⟩⟩;(try exact ui)) | (go_at_call 107;(with_reducible refine (gJ.calls  t18 t19 t20 t21 _ A63.o).mono ?_);rintro e w69 ⟨rfl,hb⟩;refine dI B0 B1 B2 hb ?_;clear B0 B1 B2;intro B0 B1 B2;replace HB:=bX HB hb;(try clear hb);obtain ⟨zN,zO,zP,zQ,zR,zS,zT,zU⟩:=fU B2))
    repeat (go_quiet (first | (go_at_call 145;(with_reducible refine (dZ.calls (wrap64 (bG - ai)) aG t16 _ A60.o).mono ?_);rintro e w' ⟨rfl,⟨nd,rfl⟩⟩;(try exact ui)) | (go_at_call 145;(with_reducible refine (dZ.calls (wrap64 (aD - bG)) aG t17 _ A61.o).mono ?_);rintro e w' ⟨rfl,⟨nd,rfl⟩⟩;(try exact ui)) | (go_at_call 107;(with_reducible refine (gJ.calls  t18 t19 t20 t21 _ A63.o).mono ?_);rintro e w69 ⟨rfl,hb⟩;refine dI B0 B1 B2 hb ?_;clear B0 B1 B2;intro B0 B1 B2;replace HB:=bX HB hb;(try clear hb);obtain ⟨zN,zO,zP,zQ,zR,zS,zT,zU⟩:=fU B2));try go_wp2_with (first | (go_at_call 145;(with_reducible refine (dZ.calls (wrap64 (bG - ai)) aG t16 _ A60.o).mono ?_);rintro e w' ⟨rfl,⟨nd,rfl⟩⟩;(try exact ui)) | (go_at_call 145;(with_reducible refine (dZ.calls (wrap64 (aD - bG)) aG t17 _ A61.o).mono ?_);rintro e w' ⟨rfl,⟨nd,rfl⟩⟩;(try exact ui)) | (go_at_call 107;(with_reducible refine (gJ.calls  t18 t19 t20 t21 _ A63.o).mono ?_);rintro e w69 ⟨rfl,hb⟩;refine dI B0 B1 B2 hb ?_;clear B0 B1 B2;intro B0 B1 B2;replace HB:=bX HB hb;(try clear hb);obtain ⟨zN,zO,zP,zQ,zR,zS,zT,zU⟩:=fU B2)))
    refine iC #[.int .i64 t18,.int .i64 t19,.int .i64 t20,.int .i64 t21] (lV B2) underlying58 ?_;exact iw HB
   have j6 : decide ((wrap64 (aD - t17)) < (wrap64 (ai + t16))) = false:=decide_eq_false c62;clear c62;replace H:=gy H;rcases H with ⟨c71,H⟩ | ⟨c71,H⟩
   ·have j7 : ((wrap64 (ai + t16)) == (wrap64 (aD - t17))) = false:=beq_eq_false_iff_ne.mpr c71;have j8 : ((wrap64 (ai + t16)) != (wrap64 (aD - t17))) = true:=bne_iff_ne.mpr c71;simp only [Option.some.injEq,Prod.mk.injEq] at H;obtain ⟨rfl,rfl,rfl,rfl⟩:=H;obtain ⟨hnb80,hnc80,hnb81,hnc81⟩:=eY N1_0 N1_2;obtain ⟨jJ,jK,jL,jM⟩:=bE B1;obtain ⟨hnb83,hnc83⟩:=dU N0_2;obtain ⟨jN,jO,jP,jQ⟩:=bE B0;obtain ⟨z0,z1,z2,z3,z4,z5,z6,z7⟩:=fU B2;go_wp2_with (first | (go_at_call 145;(with_reducible refine (dZ.calls (wrap64 (bG - ai)) aG t16 _ A60.o).mono ?_);rintro e w' ⟨rfl,⟨nd,rfl⟩⟩;(try exact ui)) | (go_at_call 145;(with_reducible refine (dZ.calls (wrap64 (aD - bG)) aG t17 _ A61.o).mono ?_);rintro e w' ⟨rfl,⟨nd,rfl⟩⟩;(try exact ui);(try (obtain ⟨z0,z1,z2,z3,z4,z5,z6,z7⟩:=fU B2))))
    repeat (go_quiet (first | (go_at_call 145;(with_reducible refine (dZ.calls (wrap64 (bG - ai)) aG t16 _ A60.o).mono ?_);rintro e w' ⟨rfl,⟨nd,rfl⟩⟩;(try exact ui)) | (go_at_call 145;(with_reducible refine (dZ.calls (wrap64 (aD - bG)) aG t17 _ A61.o).mono ?_);rintro e w' ⟨rfl,⟨nd,rfl⟩⟩;(try exact ui);(try (obtain ⟨z0,z1,z2,z3,z4,z5,z6,z7⟩:=fU B2))));try go_wp2_with (first | (go_at_call 145;(with_reducible refine (dZ.calls (wrap64 (bG - ai)) aG t16 _ A60.o).mono ?_);rintro e w' ⟨rfl,⟨nd,rfl⟩⟩;(try exact ui)) | (go_at_call 145;(with_reducible refine (dZ.calls (wrap64 (aD - bG)) aG t17 _ A61.o).mono ?_);rintro e w' ⟨rfl,⟨nd,rfl⟩⟩;(try exact ui);(try (obtain ⟨z0,z1,z2,z3,z4,z5,z6,z7⟩:=fU B2)))))
    refine iC #[.int .i64 (wrap64 (ai + t16)),.int .i64 (wrap64 (aD - t17)),.int .i64 aG,.int .i64 bG] (lV B2) underlying58 ?_;exact iw HB
   have j7 : ((wrap64 (ai + t16)) == (wrap64 (aD - t17))) = true:=beq_iff_eq.mpr c71;have j8 : ((wrap64 (ai + t16)) != (wrap64 (aD - t17))) = false:=bne_eq_false_iff_eq.mpr c71;clear c71;replace H:=bK H;obtain ⟨⟨t22,t23,t24,t25⟩,A72,H⟩:=H;(try dsimp only at H);simp only [Option.some.injEq,Prod.mk.injEq] at H;obtain ⟨rfl,rfl,rfl,rfl⟩:=H;obtain ⟨hnb73,hnc73,hnb74,hnc74⟩:=eY N1_0 N1_2;obtain ⟨jR,jS,jT,jU⟩:=bE B1;obtain ⟨hnb76,hnc76⟩:=dU N0_2;obtain ⟨jV,jW,jX,jY⟩:=bE B0;go_wp2_with (first | (go_at_call 145;(with_reducible refine (dZ.calls (wrap64 (bG - ai)) aG t16 _ A60.o).mono ?_);rintro e w' ⟨rfl,⟨nd,rfl⟩⟩;(try exact ui)) | (go_at_call 145;(with_reducible refine (dZ.calls (wrap64 (aD - bG)) aG t17 _ A61.o).mono ?_);rintro e w' ⟨rfl,⟨nd,rfl⟩⟩;(try exact ui)) | (go_at_call 144;(with_reducible refine (mY.calls (wrap64 (ai + t16)) t22 t23 t24 t25 _ A72.o).mono ?_);rintro e w78 ⟨rfl,hb⟩;refine dI B0 B1 B2 hb ?_;clear B0 B1 B2;intro B0 B1 B2;replace HB:=bX HB hb;(try clear hb);obtain ⟨zV,zW,zX,zY,zZ,j1,j2,j3⟩:=fU B2))
   repeat (go_quiet (first | (go_at_call 145;(with_reducible refine (dZ.calls (wrap64 (bG - ai)) aG t16 _ A60.o).mono ?_);rintro e w' ⟨rfl,⟨nd,rfl⟩⟩;(try exact ui)) | (go_at_call 145;(with_reducible refine (dZ.calls (wrap64 (aD - bG)) aG t17 _ A61.o).mono ?_);rintro e w' ⟨rfl,⟨nd,rfl⟩⟩;(try exact ui)) | (go_at_call 144;(with_reducible refine (mY.calls (wrap64 (ai + t16)) t22 t23 t24 t25 _ A72.o).mono ?_);rintro e w78 ⟨rfl,hb⟩;refine dI B0 B1 B2 hb ?_;clear B0 B1 B2;intro B0 B1 B2;replace HB:=bX HB hb;(try clear hb);obtain ⟨zV,zW,zX,zY,zZ,j1,j2,j3⟩:=fU B2));try go_wp2_with (first | (go_at_call 145;(with_reducible refine (dZ.calls (wrap64 (bG - ai)) aG t16 _ A60.o).mono ?_);rintro e w' ⟨rfl,⟨nd,rfl⟩⟩;(try exact ui)) | (go_at_call 145;(with_reducible refine (dZ.calls (wrap64 (aD - bG)) aG t17 _ A61.o).mono ?_);rintro e w' ⟨rfl,⟨nd,rfl⟩⟩;(try exact ui)) | (go_at_call 144;(with_reducible refine (mY.calls (wrap64 (ai + t16)) t22 t23 t24 t25 _ A72.o).mono ?_);rintro e w78 ⟨rfl,hb⟩;refine dI B0 B1 B2 hb ?_;clear B0 B1 B2;intro B0 B1 B2;replace HB:=bX HB hb;(try clear hb);obtain ⟨zV,zW,zX,zY,zZ,j1,j2,j3⟩:=fU B2)))
   refine iC #[.int .i64 t22,.int .i64 t23,.int .i64 t24,.int .i64 t25] (lV B2) underlying58 ?_;exact iw HB
theorem iZ.calls (ai : Int) (aD : Int) (bM : Int) (bL : Int) (r1 : Int) (r2 : Int) (w : World) (h : iZ.f ai aD bM bL = some (r1,r2)) :
  Calls prog 109 #[.agg #[.int .i64 ai,.int .i64 aD,.int .i64 bM,.int .i64 bL]] w fun e w'=>e = .returned (.agg #[.int .i64 r1,.int .i64 r2])∧Below w.heap.size w w':=by
 have hu58:=underlying58;have hu108:=underlying108;have HB:=af.mk (Below.refl w.heap.size w);have H:=h;unfold iZ.f at H;clear h;simp only [Option.some.injEq,Prod.mk.injEq] at H;obtain ⟨rfl,rfl⟩:=H;go_enter func109,ntmps109;go_wp2_with (first | ((with_reducible refine gd 1 rfl ?_);refine eO 1 #[.int .i64 ai,.int .i64 aD,.int .i64 bM,.int .i64 bL] 58 HB ?_;clear HB;intro gb0 hg w2 hb B0 GW0 HB;clear hb hg) | ((with_reducible refine gd 2 rfl ?_);refine eO 2 #[.int .i64 0,.int .i64 0] 108 HB ?_;clear HB;intro gb1 hg w3 hb B1 GW1 HB;have N0_1:=fC B0 hg;have N1_0:=fD B0 hg;replace B0:=bF B0 hb;clear hb hg;obtain ⟨_,_⟩:=dU N0_1;obtain ⟨_,_,_,_,_,_,_,_⟩:=fU B0;obtain ⟨_,_,_,_⟩:=bE B1));refine iC #[.int .i64 ai,.int .i64 aD] (lV B1) underlying108 ?_;exact iw HB
theorem iY.calls (ai : Int) (aD : Int) (bM : Int) (bL : Int) (r1 : Int) (r2 : Int) (w : World) (h : iY.f ai aD bM bL = some (r1,r2)) :
  Calls prog 111 #[.agg #[.int .i64 ai,.int .i64 aD,.int .i64 bM,.int .i64 bL]] w fun e w'=>e = .returned (.agg #[.int .i64 r1,.int .i64 r2])∧Below w.heap.size w w':=by
 have hu58:=underlying58;have hu111:=underlying111;have HB:=af.mk (Below.refl w.heap.size w);have H:=h;unfold iY.f at H;clear h;simp only [Option.some.injEq,Prod.mk.injEq] at H;obtain ⟨rfl,rfl⟩:=H;go_enter func111,ntmps111;go_wp2_with (first | ((with_reducible refine gd 1 rfl ?_);refine eO 1 #[.int .i64 ai,.int .i64 aD,.int .i64 bM,.int .i64 bL] 58 HB ?_;clear HB;intro gb0 hg w2 hb B0 GW0 HB;clear hb hg) | ((with_reducible refine gd 2 rfl ?_);refine eO 2 #[.int .i64 0,.int .i64 0] 111 HB ?_;clear HB;intro gb1 hg w3 hb B1 GW1 HB;have N0_1:=fC B0 hg;have N1_0:=fD B0 hg;replace B0:=bF B0 hb;clear hb hg;obtain ⟨_,_⟩:=dU N0_1;obtain ⟨_,_,_,_,_,_,_,_⟩:=fU B0;obtain ⟨_,_,_,_⟩:=bE B1));refine iC #[.int .i64 bM,.int .i64 bL] (lV B1) underlying111 ?_;exact iw HB
def dY.T1 : Bool × List (List Nat × List Nat):=(true,[([],[]),([],[]),([1],[1]),([],[]),([3,2],[3]),([2,4,4],[2,4]),([0,5],[0,5]),([6,5,0,1,2,3,4,5,6],[6])])
def dY.B1 : List Nat:=[0,0,2,0,14,30,63,127]
theorem dY.qo : l9 .any (opsOf f69 1) = dY.T1:=by kernel_rfl
theorem dY.nP : fQ dY.T1.2 dY.B1 = true:=by kernel_rfl
theorem dY.calls (k : Nat) (ai : Int) (aD : Int) (bM : Int) (bL : Int) (r : Bool) (w : World) (h : dY.f k ai aD bM bL = some r) :
  Calls prog 69 #[.agg #[.int .i64 ai,.int .i64 aD,.int .i64 bM,.int .i64 bL]] w fun e w'=>e = .returned (.bool r)∧Below w.heap.size w w':=by
 have hu58:=underlying58;have HB:=af.mk (Below.refl w.heap.size w);have H:=h;unfold dY.f at H;clear h;replace H:=bK H;obtain ⟨⟨t0,t1⟩,A2,H⟩:=H;(try dsimp only at H);replace H:=bK H;obtain ⟨⟨t2,t3⟩,A3,H⟩:=H;(try dsimp only at H);replace H:=bK H;obtain ⟨⟨t4,t5,t6,t7⟩,A4,H⟩:=H;(try dsimp only at H);obtain rfl:=Option.some.inj H;go_enter func69,ntmps69
 try go_wp2_with (first | ((with_reducible refine gd 1 rfl ?_);refine eO 1 #[.int .i64 ai,.int .i64 aD,.int .i64 bM,.int .i64 bL] 58 HB ?_;clear HB;intro gb0 hg w5 hb B0 GW0 HB;clear hb hg))
 replace B0:=bU B0;replace HB:=iI HB;refine mI 8 (fun w'=>vE w' gb0 (.int .i64 ai) (.int .i64 aD) (.int .i64 bM) (.int .i64 bL)) gu (fun hHeld=>?_);refine bD dY.qo dY.nP (fun ax dM=>?_);generalize w5.drew = w6 at B0 HB hHeld ⊢;refine fA ax dM 0 3 hHeld ?_;refine fA ax dM 1 4 hHeld ?_;refine fA ax dM 3 6 hHeld ?_;refine gL ax 2 5 (fun K hK=>?_);refine fF rfl func109 (iZ.calls _ _ _ _ _ _ _ A2.o) ?_;intro w7 hb;replace B0:=bF B0 hb;replace HB:=bX HB hb;(try clear hb);refine hK.out _ _ gu (fun hHeld=>?_);clear hK K;refine bP ?_;refine gL ax 4 7 (fun K hK=>?_);refine fF rfl func111 (iY.calls _ _ _ _ _ _ _ A3.o) ?_;intro w8 hb;replace B0:=bF B0 hb;replace HB:=bX HB hb;(try clear hb);refine hK.out _ _ gu (fun hHeld=>?_);clear hK K;refine bP ?_;refine gL ax 5 8 (fun K hK=>?_);refine fF rfl func83 (gB.calls _ _ _ _ _ _ _ _ _ _ A4.o) ?_;intro w9 hb;replace B0:=bF B0 hb;replace HB:=bX HB hb;(try clear hb);refine hK.out _ _ gu (fun hHeld=>?_);clear hK K;refine bP ?_;refine bC ax 6 9 ?_;refine bC ax 7 2 ?_;refine eX (cO ax.o (by kernel_rfl)) ?_
 try go_wp2
 go_ret
 exact iw HB
def dV.T1 : Bool × List (List Nat × List Nat):=(true,[([],[]),([0],[0]),([1],[1]),([2],[2]),([3,2],[3]),([4],[4]),([5,4],[4,5]),([6,4,4],[4,6]),([4],[4]),([8,4],[4,8]),([9,4],[4,9]),([10,4],[4,10]),([7,11,4],[4,7,11]),([4,12],[4,12])])
def dV.B1 : List Nat:=[0,1,3,7,15,31,63,127,31,287,799,1823,4095,8191]
theorem dV.qo : l9 .any (opsOf f70 1) = dV.T1:=by kernel_rfl
theorem dV.nP : fQ dV.T1.2 dV.B1 = true:=by kernel_rfl
theorem dV.calls (k : Nat) (ai : Bool) (bB : Option Addr) (bu : Nat) (av : List Int) (bM : Int) (bL : Int) (bf : Int) (lL : Int) (r : Bool) (w : World) (dB : Kd.C (Kd.int .i64) w bB av.length av) (dC : av.length ≤ bu) (h : dV.f k ai av bM bL bf lL = some r) :
  Calls prog 70 #[.agg #[.bool ai,.slice bB av.length bu,.int .i64 bM,.int .i64 bL,.int .i64 bf,.int .i64 lL]] w fun e w'=>e = .returned (.bool r)∧Below w.heap.size w w':=by
 have hu84:=underlying84;have hu58:=underlying58;have bZ:=af.mk dB;have dN:=af.mk dC;clear dB dC;have HB:=af.mk (Below.refl w.heap.size w);have H:=h;unfold dV.f at H;clear h;have HC2:=af.mk H;clear H;go_enter func70,ntmps70;go_upto_region 1 with (first | ((with_reducible refine gd 1 rfl ?_);(try (refine bJ (by rfl) ?_;dsimp only));refine eO 1 #[.bool ai,.slice bB av.length bu,.int .i64 bM,.int .i64 bL,.int .i64 bf,.int .i64 lL] 84 HB ?_;clear HB;intro gb0 hg w3 hb B0 GW0 HB;clear hb hg))
 (try simp only [Act.put,List.setIfInBounds_toArray,List.set_cons_zero,List.set_cons_succ])
 go_cut [19] (fun v19 wc=>∃ (kq : Nat) (x0 : Bool),v19 = .bool x0∧af (dV.j0 kq x0 ai av bM bL bf lL = some r)∧af (kq ≤ k)∧af (wc.heap[gb0]? = some (.cells #[.bool ai,(.slice bB av.length bu),.int .i64 bM,.int .i64 bL,.int .i64 bf,.int .i64 lL] 84 (0,0)))∧af (Below w.heap.size w wc))
 case first =>
  have H:=HC2.o;clear HC2;replace H:=bK H;obtain ⟨t0,A4,H⟩:=H;(try dsimp only at H);rcases qm (t0 = true) with c5 | c5
  ·replace c5:=Bool.eq_false_iff.mpr c5;subst c5;rw [gD] at H;have H':=af.mk H;clear H
   try go_wp2
   replace B0:=bU B0;replace HB:=iI HB;refine mI 14 (fun w'=>rU w' gb0 (.bool ai) (.slice bB av.length bu) (.int .i64 bM) (.int .i64 bL) (.int .i64 bf) (.int .i64 lL)) gu (fun hHeld=>?_);refine bD dV.qo dV.nP (fun ax dM=>?_);generalize w3.drew = w10 at B0 HB hHeld ⊢;refine bC ax 0 6 ?_;refine fA ax dM 1 7 hHeld ?_;refine gL ax 2 8 (fun K hK=>?_);refine fF rfl func69 (dY.calls _ _ _ _ _ _ _ A4.o) ?_;intro w11 hb;replace B0:=bF B0 hb;replace HB:=bX HB hb;(try clear hb);refine hK.out _ _ gu (fun hHeld=>?_);clear hK K;refine bP ?_;refine bC ax 3 9 ?_;refine bC ax 4 10 ?_;refine bY ax 5 11 ?_;refine bY ax 6 12 ?_;refine bY ax 7 13 ?_;refine bY ax 8 14 ?_;refine bY ax 9 15 ?_;refine bY ax 10 16 ?_;refine bY ax 11 17 ?_;refine bY ax 12 18 ?_;refine bC ax 13 19 ?_;refine eX (cO ax.o (by kernel_rfl)) ?_
   try go_wp2
   go_meet
   case rel=>exact ⟨_,(true),fw,H',⟨ng⟩,fE B0,lD HB⟩
  subst c5;rw [if_pos rfl] at H;replace H:=bK H;obtain ⟨t1,A6,H⟩:=H;(try dsimp only at H);have H':=af.mk H;clear H
  try go_wp2
  replace B0:=bU B0;replace HB:=iI HB;refine mI 14 (fun w'=>rU w' gb0 (.bool ai) (.slice bB av.length bu) (.int .i64 bM) (.int .i64 bL) (.int .i64 bf) (.int .i64 lL)) gu (fun hHeld=>?_);refine bD dV.qo dV.nP (fun ax dM=>?_);generalize w3.drew = w7 at B0 HB hHeld ⊢;refine bC ax 0 6 ?_;refine fA ax dM 1 7 hHeld ?_;refine gL ax 2 8 (fun K hK=>?_);refine fF rfl func69 (dY.calls _ _ _ _ _ _ _ A4.o) ?_;intro w8 hb;replace B0:=bF B0 hb;replace HB:=bX HB hb;(try clear hb);refine hK.out _ _ gu (fun hHeld=>?_);clear hK K;refine bP ?_;refine bC ax 3 9 ?_;refine bC ax 4 10 ?_;refine bC ax 5 11 ?_;refine bC ax 8 14 ?_;refine fA ax dM 6 12 hHeld ?_;refine fA ax dM 9 15 hHeld ?_;refine bC ax 10 16 ?_;refine bC ax 11 17 ?_;refine gL ax 7 13 (fun K hK=>?_);refine fF rfl func68 (ed.calls _ _ _ _ _ _ A6.o) ?_;intro w9 hb;replace B0:=bF B0 hb;replace HB:=bX HB hb;(try clear hb);refine hK.out _ _ gu (fun hHeld=>?_);clear hK K;refine bP ?_;refine bC ax 12 18 ?_;refine bC ax 13 19 ?_;refine eX (cO ax.o (by kernel_rfl)) ?_
  try go_wp2
  go_meet
  case rel=>exact ⟨_,((t1 != ((av.length : Int) == 0))),fw,H',⟨ng⟩,fE B0,lD HB⟩
 case rest =>
  clear HC2;obtain ⟨kq,x0,rfl,HA,HJ1,B0,HB⟩:=hcut;cases kq with
  | zero=>exact absurd HA.o (by simp [dV.j0])
  | succ kj1 =>
   have H:=HA.o;clear HA;simp only [dV.j0] at H
   by_cases c12 : x0 = true
   ·subst c12;rw [if_pos rfl] at H;obtain rfl:=Option.some.inj H
    go_wp2
    go_ret
    exact iw HB
   replace c12:=Bool.eq_false_iff.mpr c12;subst c12;rw [gD] at H;have H':=af.mk H;clear H;obtain ⟨_,_,_,_,_,_,_,_,_,_,_,_⟩:=bH B0
   go_wp2
   go_loopg [3,23] kj1 (fun kq v3 v23 w'=>∃ (x1 : Int) (x2 : Int),v3 = .int .i64 x1∧v23 = .int .i64 x2∧af (dV.l0 kq x1 av (av.length : Int) x2 ai av bM bL bf lL = some r)∧af (kq ≤ kj1)∧af (w'.heap[gb0]? = some (.cells #[.bool ai,(.slice bB av.length bu),.int .i64 bM,.int .i64 bL,.int .i64 bf,.int .i64 lL] 84 (0,0)))∧af (Below w.heap.size w w'))
   case atStart=>exact ⟨((-1)),(0),fw,fw,H',⟨Nat.le_refl _⟩,fE B0,lD HB⟩
   case round =>
    clear H';obtain ⟨x1,x2,rfl,rfl,HA,HK2,B0,HB⟩:=hrel;cases gk with
    | zero=>exact absurd HA.o (by simp [dV.l0])
    | succ k2 =>
     have H:=HA.o;clear HA;simp only [dV.l0] at H;replace H:=gy H;rcases H with ⟨c14,H⟩ | ⟨c14,H⟩
     ·have z4:=decide_eq_false c14;clear c14
      by_cases c18 : ai = true
      ·subst c18;rw [if_pos rfl] at H;obtain rfl:=Option.some.inj H;obtain ⟨_,_,_,_,_,_,_,_,_,_,_,_⟩:=bH B0
       go_wp2
       go_ret
       exact iw HB
      replace c18:=Bool.eq_false_iff.mpr c18;subst c18;rw [gD] at H;obtain rfl:=Option.some.inj H;obtain ⟨_,_,_,_,_,_,_,_,_,_,_,_⟩:=bH B0
      go_wp2
      go_ret
      exact iw HB
     have z4:=decide_eq_true c14;clear c14;replace H:=gy H;rcases H with ⟨c15,H⟩ | ⟨c15,H⟩
     ·cases H
     have z7:=decide_eq_true c15;clear c15;replace H:=gy H;rcases H with ⟨c16,H⟩ | ⟨c16,H⟩
     ·cases H
     have z8:=decide_eq_true c16;clear c16;replace H:=qc H;rcases H with ⟨c17,H⟩ | ⟨c17,H⟩
     ·have z5:=decide_eq_true c17;clear c17;obtain rfl:=Option.some.inj H;have z0 : 0 ≤ (x2 : Int):=df;have z1 : x2 < (av.length : Int):=df;obtain ⟨z6,z3,z2⟩:=Kd.eB bZ.o x2 z0 z1;cases z3;replace z2:=aX HB z2;replace z0:=eq_true z0;replace z1:=eq_true z1
      go_wp2
      go_ret
      exact iw HB
     have z5:=decide_eq_false c17;clear c17;have H':=af.mk H;clear H;have z0 : 0 ≤ (x2 : Int):=df;have z1 : x2 < (av.length : Int):=df;obtain ⟨z6,z3,z2⟩:=Kd.eB bZ.o x2 z0 z1;cases z3;replace z2:=aX HB z2;replace z0:=eq_true z0;replace z1:=eq_true z1
     go_wp2
     go_roundg k2
     case measure=>have:=HJ1.o;have:=HK2.o;omega
     case rel=>exact ⟨(rd av x2),(wrap64 (x2 + 1)),fw,fw,H',⟨by have:=HJ1.o;have:=HK2.o;omega⟩,fE B0,lD HB⟩
theorem oO.calls (ai : Int) (bB : Option Addr) (bu : Nat) (av : List Int) (a1 : Int) (a2 : Int) (r : Int) (w : World) (dB : Kd.C (Kd.int .i64) w bB av.length av) (dC : av.length ≤ bu) (h : oO.f ai av a1 a2 = some r) :
  Calls prog 80 #[.agg #[.int .i64 ai,.slice bB av.length bu],.int .i64 a1,.int .i64 a2] w fun e w'=>e = .returned (.int .i64 r)∧Below w.heap.size w w':=by
 have hu32:=underlying32;have bZ:=af.mk dB;have dN:=af.mk dC;clear dB dC;have HB:=af.mk (Below.refl w.heap.size w);have H:=h;unfold oO.f at H;clear h;obtain rfl:=Option.some.inj H;go_enter func80,ntmps80;go_wp2_with (first | ((with_reducible refine gd 3 rfl ?_);refine eO 3 #[.int .i64 ai,.slice bB av.length bu] 32 HB ?_;clear HB;intro gb0 hg w4 hb B0 GW0 HB;clear hb hg;obtain ⟨_,_,_,_⟩:=bE B0))
 go_ret
 exact iw HB
def bI.T6 : Bool × List (List Nat × List Nat):=(true,[([],[]),([0],[0]),([],[]),([],[]),([],[]),([2,3,4],[2,3,4]),([1,5],[1,5]),([6],[6]),([7],[7])])
def bI.B6 : List Nat:=[0,1,0,0,0,28,63,127,255]
theorem bI.tab6 : l9 .any (opsOf f71 6) = bI.T6:=by kernel_rfl
theorem bI.tu : fQ bI.T6.2 bI.B6 = true:=by kernel_rfl
theorem bI.calls (k : Nat) (ai : Int) (bB : Option Addr) (bu : Nat) (av : List Int) (r : Bool) (w : World) (dB : Kd.C (Kd.int .i64) w bB av.length av) (dC : av.length ≤ bu) (h : bI.f k ai av = some r) :
  Calls prog 71 #[.agg #[.int .i64 ai,.slice bB av.length bu]] w fun e w'=>e = .returned (.bool r)∧Below w.heap.size w w':=by
 have hu32:=underlying32;have bZ:=af.mk dB;have dN:=af.mk dC;clear dB dC;have HB:=af.mk (Below.refl w.heap.size w);have H:=h;unfold bI.f at H;clear h;have HC2:=af.mk H;clear H;go_enter func71,ntmps71;go_upto_region 1 with (first | ((with_reducible refine gd 1 rfl ?_);(try (refine bJ (by rfl) ?_;dsimp only));refine eO 1 #[.int .i64 ai,.slice bB av.length bu] 32 HB ?_;clear HB;intro gb0 hg w3 hb B0 GW0 HB;clear hb hg))
 (try simp only [Act.put,List.setIfInBounds_toArray,List.set_cons_zero,List.set_cons_succ])
 go_cut [26] (fun v26 wc=>∃ (kq : Nat) (x0 : Bool),v26 = .bool x0∧af (bI.j0 kq x0 ai av = some r)∧af (kq ≤ k)∧af (wc.heap[gb0]? = some (.cells #[.int .i64 ai,(.slice bB av.length bu)] 32 (0,0)))∧af (Below w.heap.size w wc))
 case first =>
  have H:=HC2.o;clear HC2;replace H:=qc H;rcases H with ⟨c4,H⟩ | ⟨c4,H⟩
  ·have z6:=decide_eq_true c4;clear c4
   (first | rw [z6] | (simp only [iQ,lg];rw [z6]) | skip)
   have H':=af.mk H;clear H;obtain ⟨_,_,_,_⟩:=bE B0
   go_wp2
   go_meet
   case rel=>exact ⟨_,(true),fw,H',⟨ng⟩,fE B0,lD HB⟩
  have z6:=decide_eq_false c4;clear c4
  (first | rw [z6] | (simp only [iQ,lg];rw [z6]) | skip)
  replace H:=qc H;rcases H with ⟨c6,H⟩ | ⟨c6,H⟩
  ·have zc : decide (12 < ai) = true:=decide_eq_true c6;clear c6;have H':=af.mk H;clear H;obtain ⟨_,_,_,_⟩:=bE B0
   go_wp2
   go_meet
   case rel=>exact ⟨_,(true),fw,H',⟨ng⟩,fE B0,lD HB⟩
  have zc : decide (12 < ai) = false:=decide_eq_false c6;clear c6;have H':=af.mk H;clear H;obtain ⟨_,_,_,_⟩:=bE B0
  go_wp2
  go_meet
  case rel=>exact ⟨_,(((av.length : Int) != (wrap64 ((wrap64 (ai + 1)) * (wrap64 (ai + 1)))))),fw,H',⟨ng⟩,fE B0,lD HB⟩
 case rest =>
  clear HC2;obtain ⟨kq,x0,rfl,HA,HJ1,B0,HB⟩:=hcut;cases kq with
  | zero=>exact absurd HA.o (by simp [bI.j0])
  | succ kj1 =>
   have H:=HA.o;clear HA;simp only [bI.j0] at H
   by_cases c9 : x0 = true
   ·subst c9;rw [if_pos rfl] at H;obtain rfl:=Option.some.inj H
    go_wp2
    go_ret
    exact iw HB
   replace c9:=Bool.eq_false_iff.mpr c9;subst c9;rw [gD] at H;have H':=af.mk H;clear H;obtain ⟨_,_,_,_⟩:=bE B0
   go_wp2
   go_loopg [30] kj1 (fun kq v30 w'=>∃ (x1 : Int),v30 = .int .i64 x1∧af (bI.l0 kq (wrap64 (ai + 1)) x1 ai av = some r)∧af (kq ≤ kj1)∧af (w'.heap[gb0]? = some (.cells #[.int .i64 ai,(.slice bB av.length bu)] 32 (0,0)))∧af (Below w.heap.size w w'))
   case atStart=>exact ⟨(0),fw,H',⟨Nat.le_refl _⟩,fE B0,lD HB⟩
   case round =>
    clear H';obtain ⟨x1,rfl,HA,HK2,B0,HB⟩:=hrel;cases gk with
    | zero=>exact absurd HA.o (by simp [bI.l0])
    | succ k2 =>
     have H:=HA.o;clear HA;simp only [bI.l0] at H;replace H:=gy H;rcases H with ⟨c11,H⟩ | ⟨c11,H⟩
     ·have zd:=decide_eq_false c11;clear c11;have H':=af.mk H;clear H;obtain ⟨_,_,_,_⟩:=bE B0
      go_wp2
      go_loopg [46] k2 (fun kq v46 w'=>∃ (x2 : Int),v46 = .int .i64 x2∧af (bI.l1 kq av (av.length : Int) x2 = some r)∧af (kq ≤ k2)∧af (w'.heap[gb0]? = some (.cells #[.int .i64 ai,(.slice bB av.length bu)] 32 (0,0)))∧af (Below w.heap.size w w'))
      case atStart=>exact ⟨(0),fw,H',⟨Nat.le_refl _⟩,fE B0,lD HB⟩
      case round =>
       clear H';obtain ⟨x2,rfl,HA,HK3,B0,HB⟩:=hrel;cases gk with
       | zero=>exact absurd HA.o (by simp [bI.l1])
       | succ k3 =>
        have H:=HA.o;clear HA;simp only [bI.l1] at H;replace H:=gy H;rcases H with ⟨c21,H⟩ | ⟨c21,H⟩
        ·have ze:=decide_eq_false c21;clear c21;obtain rfl:=Option.some.inj H
         go_wp2
         go_ret
         exact iw HB
        have ze:=decide_eq_true c21;clear c21;replace H:=gy H;rcases H with ⟨c22,H⟩ | ⟨c22,H⟩
        ·cases H
        have zj:=decide_eq_true c22;clear c22;replace H:=gy H;rcases H with ⟨c23,H⟩ | ⟨c23,H⟩
        ·cases H
        have zk:=decide_eq_true c23;clear c23;replace H:=qc H;rcases H with ⟨c24,H⟩ | ⟨c24,H⟩
        ·have zf:=decide_eq_true c24;clear c24;obtain rfl:=Option.some.inj H;have z0 : 0 ≤ (x2 : Int):=df;have z1 : x2 < (av.length : Int):=df;obtain ⟨zb,z7,z3⟩:=Kd.eB bZ.o x2 z0 z1;cases z7;replace z3:=aX HB z3;replace z0:=eq_true z0;replace z1:=eq_true z1
         go_wp2
         go_ret
         exact iw HB
        have zf:=decide_eq_false c24;clear c24;replace H:=qc H;rcases H with ⟨c25,H⟩ | ⟨c25,H⟩
        ·have zg : decide (1099511627776 < (rd av x2)) = true:=decide_eq_true c25;clear c25;obtain rfl:=Option.some.inj H;have z0 : 0 ≤ (x2 : Int):=df;have z1 : x2 < (av.length : Int):=df;obtain ⟨zb,z7,z3⟩:=Kd.eB bZ.o x2 z0 z1;cases z7;replace z3:=aX HB z3;replace z0:=eq_true z0;replace z1:=eq_true z1
         go_wp2
         go_ret
         exact iw HB
        have zg : decide (1099511627776 < (rd av x2)) = false:=decide_eq_false c25;clear c25;have H':=af.mk H;clear H;have z0 : 0 ≤ (x2 : Int):=df;have z1 : x2 < (av.length : Int):=df;obtain ⟨zb,z7,z3⟩:=Kd.eB bZ.o x2 z0 z1;cases z7;replace z3:=aX HB z3;replace z0:=eq_true z0;replace z1:=eq_true z1
        go_wp2
        go_roundg k3
        case measure=>have:=HJ1.o;have:=HK2.o;have:=HK3.o;omega
        case rel=>exact ⟨(wrap64 (x2 + 1)),fw,H',⟨by have:=HJ1.o;have:=HK2.o;have:=HK3.o;omega⟩,fE B0,lD HB⟩
     have zd:=decide_eq_true c11;clear c11;replace H:=bK H;obtain ⟨t0,A12,H⟩:=H;(try dsimp only at H);replace H:=gy H;rcases H with ⟨c13,H⟩ | ⟨c13,H⟩
     ·cases H
     have zl:=decide_eq_true c13;clear c13;replace H:=gy H;rcases H with ⟨c14,H⟩ | ⟨c14,H⟩
     ·cases H
     have zm:=decide_eq_true c14;clear c14;replace H:=gy H;rcases H with ⟨c15,H⟩ | ⟨c15,H⟩
     ·have zh : ((rd av t0) == 0) = false:=beq_eq_false_iff_ne.mpr c15;have zi : ((rd av t0) != 0) = true:=bne_iff_ne.mpr c15;obtain rfl:=Option.some.inj H
      try go_wp2
      replace B0:=bU B0;replace HB:=iI HB;have z4 : 0 ≤ (t0 : Int):=df;have z5 : t0 < (av.length : Int):=df;obtain ⟨z8,za,z2⟩:=Kd.eB bZ.o t0 z4 z5;have z9:=z2;cases za;replace z2:=aX HB z2;replace z4:=eq_true z4;replace z5:=eq_true z5;refine rO 9 (fun w'=>rf w' gb0 (.int .i64 ai) (.slice (some z8) av.length bu)∧w'.cell? (z8.add (t0).toNat) = some (.int .i64 (rd av t0))) [] ⟨rZ B0,(aX HB z9 :)⟩ (fun hHeld=>?_);refine bD bI.tab6 bI.tu (fun ax dM=>?_);generalize wr.drew = w18 at B0 HB z2 hHeld ⊢;refine bC ax 0 33 ?_;refine bC ax 3 36 ?_;refine bC ax 4 37 ?_;refine fA ax dM 1 34 hHeld ?_;refine fA ax dM 2 35 hHeld ?_;refine gL ax 5 38 (fun K hK=>?_);refine fF rfl func80 (oO.calls _ _ _ _ _ _ _ _ (bN (Kd.aj bZ.o HB.o)) dN.o A12.o) ?_;intro w19 hb;replace B0:=bF B0 hb;replace HB:=bX HB hb;(try clear hb);refine hK.out _ _ ⟨rZ B0,(aX HB z9 :)⟩ (fun hHeld=>?_);clear hK K;refine bP ?_;refine bC ax 6 39 ?_;refine fA ax dM 7 40 hHeld ?_;refine bC ax 8 41 ?_;refine eX (cO ax.o (by kernel_rfl)) ?_
      try go_wp2
      go_ret
      exact iw HB
     have zh : ((rd av t0) == 0) = true:=beq_iff_eq.mpr c15;have zi : ((rd av t0) != 0) = false:=bne_eq_false_iff_eq.mpr c15;clear c15;have H':=af.mk H;clear H
     try go_wp2
     replace B0:=bU B0;replace HB:=iI HB;have z4 : 0 ≤ (t0 : Int):=df;have z5 : t0 < (av.length : Int):=df;obtain ⟨z8,za,z2⟩:=Kd.eB bZ.o t0 z4 z5;have z9:=z2;cases za;replace z2:=aX HB z2;replace z4:=eq_true z4;replace z5:=eq_true z5;refine rO 9 (fun w'=>rf w' gb0 (.int .i64 ai) (.slice (some z8) av.length bu)∧w'.cell? (z8.add (t0).toNat) = some (.int .i64 (rd av t0))) [] ⟨rZ B0,(aX HB z9 :)⟩ (fun hHeld=>?_);refine bD bI.tab6 bI.tu (fun ax dM=>?_);generalize wr.drew = w16 at B0 HB z2 hHeld ⊢;refine bC ax 0 33 ?_;refine bC ax 3 36 ?_;refine bC ax 4 37 ?_;refine fA ax dM 1 34 hHeld ?_;refine fA ax dM 2 35 hHeld ?_;refine gL ax 5 38 (fun K hK=>?_);refine fF rfl func80 (oO.calls _ _ _ _ _ _ _ _ (bN (Kd.aj bZ.o HB.o)) dN.o A12.o) ?_;intro w17 hb;replace B0:=bF B0 hb;replace HB:=bX HB hb;(try clear hb);refine hK.out _ _ ⟨rZ B0,(aX HB z9 :)⟩ (fun hHeld=>?_);clear hK K;refine bP ?_;refine bC ax 6 39 ?_;refine fA ax dM 7 40 hHeld ?_;refine bC ax 8 41 ?_;refine eX (cO ax.o (by kernel_rfl)) ?_
     try go_wp2
     go_roundg k2
     case measure=>have:=HJ1.o;have:=HK2.o;omega
     case rel=>exact ⟨(wrap64 (x1 + 1)),fw,H',⟨by have:=HJ1.o;have:=HK2.o;omega⟩,fE B0,lD HB⟩
end Go.Proofs.YtklkdpcopfjmcaaGreat.PFnExactAbsWiden
