/- Functions of the program as plain Lean functions, and that calls of them come to what these tell. Conditions: those in each law. -/
import Derived.Test.YtklkdpcopfjmcaaGreatSqV
import Derived.Test.YtklkdpcopfjmcaaGreatDFnExactAbsWidenV
import Derived.Test.YtklkdpcopfjmcaaGreatQFnExactAbsWidenx0V
import Derived.Test.YtklkdpcopfjmcaaGreatQFnExactAbsWidenx16V
import Derived.Test.YtklkdpcopfjmcaaGreatQFnExactAbsWidenx9V
import Derived.Test.YtklkdpcopfjmcaaGreatQFnExactAbsWidenx3V
namespace Go.Proofs.YtklkdpcopfjmcaaGreat.PFnExactAbsWiden
open Go.RowKit Tryz Go.Proofs.YtklkdpcopfjmcaaGreat.Sq Go.Proofs.YtklkdpcopfjmcaaGreatW.PrintWords Go.Proofs.YtklkdpcopfjmcaaGreatW.PrintLast Go.Proofs.YtklkdpcopfjmcaaGreatW.PrintMore
attribute [local go_sem] nV nT o8 pz mV mW nW nS 
set_option linter.unusedVariables false
set_option linter.unusedSimpArgs false
set_option maxHeartbeats 8000000
set_option maxRecDepth 100000
theorem qw.calls (ai : Bool) (bB : Option Addr) (bu : Nat) (av : List (bV)) (dS : Option Addr) (dD : Nat) (ay : List (fT)) (dK : Option Addr) (dE : Nat) (aK : List (bV)) (bf : Int) (dH : Option Addr) (dF : Nat) (bz : List Int) (aG : Bool) (eT : Option Addr) (eG : Nat) (bn : List (bV)) (iG : Option Addr) (gV : Nat) (aU : List (fT)) (ib : Option Addr) (gU : Nat) (cK : List (bV)) (dW : Int) (gW : Option Addr) (gQ : Nat) (dm : List Int) (r : Bool) (w : World) (dB : Kd.C mo w bB av.length av) (dC : av.length ≤ bu) (iJ : Kd.C pW w dS ay.length ay) (iK : ay.length ≤ dD) (iL : Kd.C mo w dK aK.length aK) (iN : aK.length ≤ dE) (iM : Kd.C (Kd.int .i64) w dH bz.length bz) (iO : bz.length ≤ dF) (iW : Kd.C mo w eT bn.length bn) (iT : bn.length ≤ eG) (nk : Kd.C pW w iG aU.length aU) (nC : aU.length ≤ gV) (nE : Kd.C mo w ib cK.length cK) (nH : cK.length ≤ gU) (nu : Kd.C (Kd.int .i64) w gW dm.length dm) (ny : dm.length ≤ gQ) (h : qw.f ai av ay aK bf bz aG bn aU cK dW dm = some r) :
  Calls prog 94 #[.agg #[.bool ai,.slice bB av.length bu,.slice dS ay.length dD,.slice dK aK.length dE,.int .i64 bf,.slice dH bz.length dF],.agg #[.bool aG,.slice eT bn.length eG,.slice iG aU.length gV,.slice ib cK.length gU,.int .i64 dW,.slice gW dm.length gQ]] w fun e w'=>e = .returned (.bool r)∧Below w.heap.size w w':=by
 have hu34:=underlying34;have bZ:=af.mk dB;have dN:=af.mk dC;clear dB dC;have gY:=af.mk iJ;have lh:=af.mk iK;clear iJ iK;have iy:=af.mk iL;have lC:=af.mk iN;clear iL iN;have iE:=af.mk iM;have iF:=af.mk iO;clear iM iO;have il:=af.mk iW;have iP:=af.mk iT;clear iW iT;have mJ:=af.mk nk;have nJ:=af.mk nC;clear nk nC;have nz:=af.mk nE;have nM:=af.mk nH;clear nE nH;have nD:=af.mk nu;have nA:=af.mk ny;clear nu ny;have HB:=af.mk (Below.refl w.heap.size w);have H:=h;unfold qw.f at H;clear h;replace H:=gy H;rcases H with ⟨c3,H⟩ | ⟨c3,H⟩
 ·have z0 : ((av.length : Int) == (bn.length : Int)) = false:=beq_eq_false_iff_ne.mpr c3;have z1 : ((av.length : Int) != (bn.length : Int)) = true:=bne_iff_ne.mpr c3
  have z2 : (av.length == bn.length) = false:=by first | simpa using c3 | (simp at c3 ⊢;omega)
  obtain rfl:=Option.some.inj H;go_enter func94,ntmps94;go_wp2_with (first | ((with_reducible refine gd 2 rfl ?_);(try (refine bJ (by rfl) ?_;dsimp only));refine eO 2 #[.bool ai,.slice bB av.length bu,.slice dS ay.length dD,.slice dK aK.length dE,.int .i64 bf,.slice dH bz.length dF] 34 HB ?_;clear HB;intro gb0 hg w15 hb B0 GW0 HB;clear hb hg) | ((with_reducible refine gd 3 rfl ?_);(try (refine bJ (by rfl) ?_;dsimp only));refine eO 3 #[.bool aG,.slice eT bn.length eG,.slice iG aU.length gV,.slice ib cK.length gU,.int .i64 dW,.slice gW dm.length gQ] 34 HB ?_;clear HB;intro gb1 hg w16 hb B1 GW1 HB;have N0_1:=fC B0 hg;have N1_0:=fD B0 hg;replace B0:=bF B0 hb;clear hb hg;obtain ⟨_,_⟩:=dU N0_1;obtain ⟨_,_,_,_,_,_,_,_,_,_,_,_⟩:=bH B0;obtain ⟨_,_,_,_,_,_,_,_,_,_,_,_⟩:=bH B1))
  go_ret
  exact iw HB
 have z0 : ((av.length : Int) == (bn.length : Int)) = true:=beq_iff_eq.mpr c3;have z1 : ((av.length : Int) != (bn.length : Int)) = false:=bne_eq_false_iff_eq.mpr c3
 have z2 : (av.length == bn.length) = true:=by first | simpa using c3 | (simp at c3 ⊢;omega)
 clear c3;replace H:=qc H;rcases H with ⟨c4,H⟩ | ⟨c4,H⟩
 ·have z3 : ((ay.length : Int) == (aU.length : Int)) = true:=beq_iff_eq.mpr c4;have z4 : ((ay.length : Int) != (aU.length : Int)) = false:=bne_eq_false_iff_eq.mpr c4
  have z5 : (ay.length == aU.length) = true:=by first | simpa using c4 | (simp at c4 ⊢;omega)
  clear c4;obtain rfl:=Option.some.inj H;go_enter func94,ntmps94;go_wp2_with (first | ((with_reducible refine gd 2 rfl ?_);(try (refine bJ (by rfl) ?_;dsimp only));refine eO 2 #[.bool ai,.slice bB av.length bu,.slice dS ay.length dD,.slice dK aK.length dE,.int .i64 bf,.slice dH bz.length dF] 34 HB ?_;clear HB;intro gb0 hg w5 hb B0 GW0 HB;clear hb hg) | ((with_reducible refine gd 3 rfl ?_);(try (refine bJ (by rfl) ?_;dsimp only));refine eO 3 #[.bool aG,.slice eT bn.length eG,.slice iG aU.length gV,.slice ib cK.length gU,.int .i64 dW,.slice gW dm.length gQ] 34 HB ?_;clear HB;intro gb1 hg w6 hb B1 GW1 HB;have N0_1:=fC B0 hg;have N1_0:=fD B0 hg;replace B0:=bF B0 hb;clear hb hg;obtain ⟨_,_⟩:=dU N0_1;obtain ⟨_,_,_,_,_,_,_,_,_,_,_,_⟩:=bH B0;obtain ⟨_,_,_,_,_,_,_,_,_,_,_,_⟩:=bH B1))
  go_ret
  exact iw HB
 have z3 : ((ay.length : Int) == (aU.length : Int)) = false:=beq_eq_false_iff_ne.mpr c4;have z4 : ((ay.length : Int) != (aU.length : Int)) = true:=bne_iff_ne.mpr c4
 have z5 : (ay.length == aU.length) = false:=by first | simpa using c4 | (simp at c4 ⊢;omega)
 obtain rfl:=Option.some.inj H;go_enter func94,ntmps94;go_wp2_with (first | ((with_reducible refine gd 2 rfl ?_);(try (refine bJ (by rfl) ?_;dsimp only));refine eO 2 #[.bool ai,.slice bB av.length bu,.slice dS ay.length dD,.slice dK aK.length dE,.int .i64 bf,.slice dH bz.length dF] 34 HB ?_;clear HB;intro gb0 hg w10 hb B0 GW0 HB;clear hb hg) | ((with_reducible refine gd 3 rfl ?_);(try (refine bJ (by rfl) ?_;dsimp only));refine eO 3 #[.bool aG,.slice eT bn.length eG,.slice iG aU.length gV,.slice ib cK.length gU,.int .i64 dW,.slice gW dm.length gQ] 34 HB ?_;clear HB;intro gb1 hg w11 hb B1 GW1 HB;have N0_1:=fC B0 hg;have N1_0:=fD B0 hg;replace B0:=bF B0 hb;clear hb hg;obtain ⟨_,_⟩:=dU N0_1;obtain ⟨_,_,_,_,_,_,_,_,_,_,_,_⟩:=bH B0;obtain ⟨_,_,_,_,_,_,_,_,_,_,_,_⟩:=bH B1))
 go_ret
 exact iw HB
theorem nN.calls (k : Nat) (ai : Int) (bB : Option Addr) (bu : Nat) (av : List Int) (aG : Int) (eT : Option Addr) (eG : Nat) (bn : List Int) (r : Bool) (w : World) (dB : Kd.C (Kd.int .i64) w bB av.length av) (dC : av.length ≤ bu) (iW : Kd.C (Kd.int .i64) w eT bn.length bn) (iT : bn.length ≤ eG) (h : nN.f k ai av aG bn = some r) :
  Calls prog 160 #[.agg #[.int .i64 ai,.slice bB av.length bu],.agg #[.int .i64 aG,.slice eT bn.length eG]] w fun e w'=>e = .returned (.bool r)∧Below w.heap.size w w':=by
 have hu32:=underlying32;have bZ:=af.mk dB;have dN:=af.mk dC;clear dB dC;have il:=af.mk iW;have iP:=af.mk iT;clear iW iT;have HB:=af.mk (Below.refl w.heap.size w);have H:=h;unfold nN.f at H;clear h;replace H:=bK H;obtain ⟨t0,A3,H⟩:=H;(try dsimp only at H);rcases qm (t0 = true) with c4 | c4
 ·replace c4:=Bool.eq_false_iff.mpr c4;subst c4;rw [gD] at H;obtain rfl:=Option.some.inj H;go_enter func160,ntmps160;go_wp2_with (first | ((with_reducible refine gd 2 rfl ?_);refine eO 2 #[.int .i64 ai,.slice bB av.length bu] 32 HB ?_;clear HB;intro gb0 hg w23 hb B0 GW0 HB;clear hb hg) | ((with_reducible refine gd 3 rfl ?_);refine eO 3 #[.int .i64 aG,.slice eT bn.length eG] 32 HB ?_;clear HB;intro gb1 hg w24 hb B1 GW1 HB;have N0_1:=fC B0 hg;have N1_0:=fD B0 hg;replace B0:=bF B0 hb;clear hb hg;obtain ⟨_,_⟩:=dU N0_1;obtain ⟨_,_,_,_⟩:=bE B0) | ((with_reducible refine gf 74 rfl ?_);refine eZ rfl (some 6) func74 (cz.calls _ _ _ _ _ _ _ (bN (Kd.aj bZ.o HB.o)) dN.o A3.o) ?_;intro w27 hb;refine mM B0 B1 hb ?_;clear B0 B1;intro B0 B1;replace HB:=bX HB hb;(try clear hb)))
  go_ret
  exact iw HB
 subst c4;rw [if_pos rfl] at H;replace H:=bK H;obtain ⟨t1,A5,H⟩:=H;(try dsimp only at H);rcases qm (t1 = true) with c6 | c6
 ·replace c6:=Bool.eq_false_iff.mpr c6;subst c6;rw [gD] at H;obtain rfl:=Option.some.inj H;go_enter func160,ntmps160;go_wp2_with (first | ((with_reducible refine gd 2 rfl ?_);refine eO 2 #[.int .i64 ai,.slice bB av.length bu] 32 HB ?_;clear HB;intro gb0 hg w16 hb B0 GW0 HB;clear hb hg) | ((with_reducible refine gd 3 rfl ?_);refine eO 3 #[.int .i64 aG,.slice eT bn.length eG] 32 HB ?_;clear HB;intro gb1 hg w17 hb B1 GW1 HB;have N0_1:=fC B0 hg;have N1_0:=fD B0 hg;replace B0:=bF B0 hb;clear hb hg;obtain ⟨_,_⟩:=dU N0_1;obtain ⟨_,_,_,_⟩:=bE B0) | ((with_reducible refine gf 74 rfl ?_);refine eZ rfl (some 6) func74 (cz.calls _ _ _ _ _ _ _ (bN (Kd.aj bZ.o HB.o)) dN.o A3.o) ?_;intro w20 hb;refine mM B0 B1 hb ?_;clear B0 B1;intro B0 B1;replace HB:=bX HB hb;(try clear hb);obtain ⟨_,_,_,_⟩:=bE B1) | (go_at_call 74;(with_reducible refine (cz.calls k aG _ _ bn false _ ?side1 ?side2 A5.o).mono ?_);(case side1=>exact bN (Kd.aj il.o HB.o));(case side2=>exact iP.o);rintro e w22 ⟨rfl,hb⟩;refine mM B0 B1 hb ?_;clear B0 B1;intro B0 B1;replace HB:=bX HB hb;(try clear hb)))
  go_ret
  exact iw HB
 subst c6;rw [if_pos rfl] at H;obtain rfl:=Option.some.inj H;go_enter func160,ntmps160;go_wp2_with (first | ((with_reducible refine gd 2 rfl ?_);refine eO 2 #[.int .i64 ai,.slice bB av.length bu] 32 HB ?_;clear HB;intro gb0 hg w7 hb B0 GW0 HB;clear hb hg) | ((with_reducible refine gd 3 rfl ?_);refine eO 3 #[.int .i64 aG,.slice eT bn.length eG] 32 HB ?_;clear HB;intro gb1 hg w8 hb B1 GW1 HB;have N0_1:=fC B0 hg;have N1_0:=fD B0 hg;replace B0:=bF B0 hb;clear hb hg;obtain ⟨_,_⟩:=dU N0_1;obtain ⟨_,_,_,_⟩:=bE B0) | ((with_reducible refine gf 74 rfl ?_);refine eZ rfl (some 6) func74 (cz.calls _ _ _ _ _ _ _ (bN (Kd.aj bZ.o HB.o)) dN.o A3.o) ?_;intro w11 hb;refine mM B0 B1 hb ?_;clear B0 B1;intro B0 B1;replace HB:=bX HB hb;(try clear hb);obtain ⟨_,_,_,_⟩:=bE B1) | (go_at_call 74;(with_reducible refine (cz.calls k aG _ _ bn true _ ?side1 ?side2 A5.o).mono ?_);(case side1=>exact bN (Kd.aj il.o HB.o));(case side2=>exact iP.o);rintro e w13 ⟨rfl,hb⟩;refine mM B0 B1 hb ?_;clear B0 B1;intro B0 B1;replace HB:=bX HB hb;(try clear hb);obtain ⟨_,_,_,_⟩:=bE B0;obtain ⟨_,_,_,_⟩:=bE B1))
 go_ret
 exact iw HB
theorem pR.calls (a0 : Int) (a1 : Int) (r : Int) (w : World) (h : pR.f a0 a1 = some r) :
  Calls prog 161 #[.int .i64 a0,.int .i64 a1] w fun e w'=>e = .returned (.int .i64 r)∧iU w w':=by
 have H:=h;unfold pR.f at H;clear h;replace H:=qc H;rcases H with ⟨c3,H⟩ | ⟨c3,H⟩
 ·have z0 : decide (a1 < a0) = true:=decide_eq_true c3;clear c3;obtain rfl:=Option.some.inj H;go_enter func161,ntmps161
  go_wp2
  go_ret
  exact ⟨fw,qE⟩
 have z0 : decide (a1 < a0) = false:=decide_eq_false c3;clear c3;obtain rfl:=Option.some.inj H;go_enter func161,ntmps161
 go_wp2
 go_ret
 exact ⟨fw,qE⟩
def d9.T7 : Bool × List (List Nat × List Nat):=(true,[([],[]),([0],[0]),([],[]),([2],[2]),([],[]),([3,4],[3,4]),([5],[5]),([],[]),([7],[7]),([],[]),([8,9],[8,9]),([10],[10]),([6,11],[6,11]),([12],[12]),([1,13,12],[1,13]),([0,1,2,3,4,5,6,7,8,9,10,11,12,13,14],[]),([15,14,14,0,1,2,3,4,5,6,7,8,9,10,11,12,13,14],[14,15])])
def d9.B7 : List Nat:=[0,1,0,4,0,28,60,0,128,0,896,1920,4092,8188,16383,32767,65535]
theorem d9.xA : l9 .any (opsOf f100 7) = d9.T7:=by kernel_rfl
theorem d9.uD : fQ d9.T7.2 d9.B7 = true:=by kernel_rfl
theorem d9.calls (k : Nat) (ai : Int) (bB : Option Addr) (bu : Nat) (av : List Int) (aG : Int) (eT : Option Addr) (eG : Nat) (bn : List Int) (r1 : Int) (r2 : List Int) (w : World) (dB : Kd.C (Kd.int .i64) w bB av.length av) (dC : av.length ≤ bu) (iW : Kd.C (Kd.int .i64) w eT bn.length bn) (iT : bn.length ≤ eG) (h : d9.f k ai av aG bn = some (r1,r2)) :
  Calls prog 100 #[.agg #[.int .i64 ai,.slice bB av.length bu],.agg #[.int .i64 aG,.slice eT bn.length eG]] w fun e w'=>∃ v1_ : Value,e = .returned (.agg #[.int .i64 r1,v1_])∧Kd.R (Kd.int .i64) 3 w' w.heap.size (fun _=>True) v1_ r2∧Below w.heap.size w w':=by
 have hu32:=underlying32;have bZ:=af.mk dB;have dN:=af.mk dC;clear dB dC;have il:=af.mk iW;have iP:=af.mk iT;clear iW iT;have HB:=af.mk (Below.refl w.heap.size w);have H:=h;unfold d9.f at H;clear h;replace H:=bK H;obtain ⟨t0,A3,H⟩:=H;(try dsimp only at H);rcases qm (t0 = true) with c4 | c4
 ·replace c4:=Bool.eq_false_iff.mpr c4;subst c4;rw [gD] at H;simp only [Option.some.injEq,Prod.mk.injEq] at H;obtain ⟨rfl,rfl⟩:=H;go_enter func100,ntmps100;go_wp2_with (first | ((with_reducible refine gd 2 rfl ?_);refine eO 2 #[.int .i64 ai,.slice bB av.length bu] 32 HB ?_;clear HB;intro gb0 hg w43 hb B0 GW0 HB;clear hb hg) | ((with_reducible refine gd 3 rfl ?_);refine eO 3 #[.int .i64 aG,.slice eT bn.length eG] 32 HB ?_;clear HB;intro gb1 hg w44 hb B1 GW1 HB;have N0_1:=fC B0 hg;have N1_0:=fD B0 hg;replace B0:=bF B0 hb;clear hb hg) | ((with_reducible refine gd 4 rfl ?_);refine eO 4 #[.int .i64 0,.slice none 0 0] 32 HB ?_;clear HB;intro gb2 hg w45 hb B2 GW2 HB;have N0_2:=fC B0 hg;have N2_0:=fD B0 hg;have N1_2:=fC B1 hg;have N2_1:=fD B1 hg;refine mM B0 B1 hb ?_;clear B0 B1;intro B0 B1;clear hb hg;obtain ⟨_,_,_,_⟩:=eY N0_1 N0_2;obtain ⟨_,_,_,_⟩:=bE B0;obtain ⟨_,_⟩:=dU N1_2;obtain ⟨_,_,_,_⟩:=bE B1) | ((with_reducible refine gf 160 rfl ?_);refine eZ rfl (some 9) func160 (nN.calls _ _ _ _ _ _ _ _ _ _ _ (bN (Kd.aj bZ.o HB.o)) dN.o (bN (Kd.aj il.o HB.o)) iP.o A3.o) ?_;intro w51 hb;refine dI B0 B1 B2 hb ?_;clear B0 B1 B2;intro B0 B1 B2;replace HB:=bX HB hb;(try clear hb);obtain ⟨_,_,_,_⟩:=bE B2));refine iC #[.int .i64 0,.slice none 0 0] (lV B2) underlying32 ?_;exact ⟨_,qB,oP,ig HB⟩
 subst c4;rw [if_pos rfl] at H;have H':=af.mk H;clear H;go_enter func100,ntmps100;go_wp2_with (first | ((with_reducible refine gd 2 rfl ?_);refine eO 2 #[.int .i64 ai,.slice bB av.length bu] 32 HB ?_;clear HB;intro gb0 hg w5 hb B0 GW0 HB;clear hb hg) | ((with_reducible refine gd 3 rfl ?_);refine eO 3 #[.int .i64 aG,.slice eT bn.length eG] 32 HB ?_;clear HB;intro gb1 hg w6 hb B1 GW1 HB;have N0_1:=fC B0 hg;have N1_0:=fD B0 hg;replace B0:=bF B0 hb;clear hb hg) | ((with_reducible refine gd 4 rfl ?_);refine eO 4 #[.int .i64 0,.slice none 0 0] 32 HB ?_;clear HB;intro gb2 hg w7 hb B2 GW2 HB;have N0_2:=fC B0 hg;have N2_0:=fD B0 hg;have N1_2:=fC B1 hg;have N2_1:=fD B1 hg;refine mM B0 B1 hb ?_;clear B0 B1;intro B0 B1;clear hb hg;obtain ⟨_,_,_,_⟩:=eY N0_1 N0_2;obtain ⟨_,_,_,_⟩:=bE B0;obtain ⟨_,_⟩:=dU N1_2;obtain ⟨_,_,_,_⟩:=bE B1) | ((with_reducible refine gf 160 rfl ?_);refine eZ rfl (some 9) func160 (nN.calls _ _ _ _ _ _ _ _ _ _ _ (bN (Kd.aj bZ.o HB.o)) dN.o (bN (Kd.aj il.o HB.o)) iP.o A3.o) ?_;intro w13 hb;refine dI B0 B1 B2 hb ?_;clear B0 B1 B2;intro B0 B1 B2;replace HB:=bX HB hb;(try clear hb);obtain ⟨_,_,_,_⟩:=bE B0) | ((with_reducible refine gd 5 rfl ?_);refine eO 5 #[.int .i64 0,.slice none 0 0] 32 HB ?_;clear HB;intro gb3 hg w15 hb B3 GW3 HB;have N0_3:=fC B0 hg;have N3_0:=fD B0 hg;have N1_3:=fC B1 hg;have N3_1:=fD B1 hg;have N2_3:=fC B2 hg;have N3_2:=fD B2 hg;refine dI B0 B1 B2 hb ?_;clear B0 B1 B2;intro B0 B1 B2;clear hb hg;obtain ⟨_,_,_,_,_,_⟩:=nG N3_0 N3_1 N3_2;obtain ⟨_,_,_,_⟩:=bE B3))
 go_loopg [6] k (fun kq v6 w'=>∃ (x0 : Int) (x1 : List Int) (z1 : Value),v6 = .int .i64 x0∧af (d9.l0 kq x0 ai av aG bn ai x1 = some (r1,r2))∧af (kq ≤ k)∧af (Kd.R (Kd.int .i64) 3 w' w.heap.size (fun _=>True) z1 x1)∧af (w'.heap[gb0]? = some (.cells #[.int .i64 ai,(.slice bB av.length bu)] 32 (0,0)))∧af (w'.heap[gb1]? = some (.cells #[.int .i64 aG,(.slice eT bn.length eG)] 32 (0,0)))∧af (w'.heap[gb2]? = some (.cells #[.int .i64 0,(.slice none 0 0)] 32 (0,0)))∧af (w'.heap[gb3]? = some (.cells #[.int .i64 ai,z1] 32 (0,0)))∧af (Below w.heap.size w w'))
 case atStart=>exact ⟨(0),(([] : List Int)),(.slice none 0 0),fw,H',⟨Nat.le_refl _⟩,⟨oP⟩,⟨nR B0⟩,⟨nR B1⟩,⟨nR B2⟩,⟨lV B3⟩,lD HB⟩
 case round =>
  clear H';obtain ⟨x0,x1,z1,rfl,HA,HK1,z0,B0,B1,B2,B3,HB⟩:=hrel;cases gk with
  | zero=>exact absurd HA.o (by simp [d9.l0])
  | succ k1 =>
   have H:=HA.o;clear HA;simp only [d9.l0] at H;replace H:=gy H;rcases H with ⟨c20,H⟩ | ⟨c20,H⟩
   ·have zg:=decide_eq_false c20;clear c20;simp only [Option.some.injEq,Prod.mk.injEq] at H;obtain ⟨rfl,rfl⟩:=H;obtain ⟨_,_,_,_,_,_⟩:=nG N0_1 N0_2 N0_3;obtain ⟨_,_,_,_⟩:=bE B0;obtain ⟨_,_,_,_⟩:=eY N3_1 N3_2;obtain ⟨_,_,_,_⟩:=bE B3;obtain ⟨_,_⟩:=dU N2_1;obtain ⟨_,_,_,_⟩:=bE B2;obtain ⟨zh,zi,zj⟩:=Kd.aH z0.o;subst zj
    go_wp2
    refine iC #[.int .i64 ai,.slice zh x1.length zi] (lV B2) underlying32 ?_;exact ⟨_,qB,fG (dz z0 B2) (fun _ hk=>trivial),ig HB⟩
   have zg:=decide_eq_true c20;clear c20;replace H:=gy H;rcases H with ⟨c21,H⟩ | ⟨c21,H⟩
   ·cases H
   have zp:=decide_eq_true c21;clear c21;replace H:=gy H;rcases H with ⟨c22,H⟩ | ⟨c22,H⟩
   ·cases H
   have zq:=decide_eq_true c22;clear c22;replace H:=bK H;obtain ⟨t1,A23,H⟩:=H;(try dsimp only at H);replace H:=gy H;rcases H with ⟨c24,H⟩ | ⟨c24,H⟩
   ·cases H
   have LMc24:=af.mk c24;clear c24;obtain ⟨z7,z2⟩ : ∃ y_ : List Int,y_ = (x1 ++ [t1]):=⟨_,rfl⟩
   replace H : (d9.l0 k1 (wrap64 (x0 + 1)) ai av aG bn ai z7) = some (r1,r2):=sj z2 H
   have zk:=af.mk z2;clear z2;have H':=af.mk H;clear H;obtain ⟨_,_,_,_,_,_⟩:=nG N0_1 N0_2 N0_3;obtain ⟨_,_,_,_⟩:=bE B0
   try go_wp2
   replace z0:=oh z0;replace B0:=bU B0;replace B1:=bU B1;replace B2:=bU B2;replace B3:=bU B3;replace HB:=iI HB;have z8 : 0 ≤ (x0 : Int):=df;have z9 : x0 < (av.length : Int):=df;obtain ⟨za,zl,z5⟩:=Kd.eB bZ.o x0 z8 z9;have z3:=z5;cases zl;replace z5:=aX HB z5;replace z8:=eq_true z8;replace z9:=eq_true z9;have zb : 0 ≤ (x0 : Int):=df;have zc : x0 < (bn.length : Int):=df;obtain ⟨zd,zm,z6⟩:=Kd.eB il.o x0 zb zc;have z4:=z6;cases zm;replace z6:=aX HB z6;replace zb:=eq_true zb;replace zc:=eq_true zc;refine rO 17 (fun w'=>rf w' gb3 (.int .i64 ai) z1∧rf w' gb0 (.int .i64 ai) (.slice (some za) av.length bu)∧rf w' gb1 (.int .i64 aG) (.slice (some zd) bn.length eG)∧w'.cell? (za.add (x0).toNat) = some (.int .i64 (rd av x0))∧w'.cell? (zd.add (x0).toNat) = some (.int .i64 (rd bn x0))) [16] ⟨rZ B3,rZ B0,rZ B1,(aX HB z3 :),(aX HB z4 :)⟩ (fun hHeld=>?_);refine bD d9.xA d9.uD (fun ax dM=>?_);generalize wr.drew = w29 at z0 B0 B1 B2 B3 HB z5 z6 hHeld ⊢;refine bC ax 0 22 ?_;refine bC ax 2 24 ?_;refine bC ax 4 26 ?_;refine bC ax 7 29 ?_;refine bC ax 9 31 ?_;refine fA ax dM 1 23 hHeld ?_;refine fA ax dM 3 25 hHeld ?_;refine bC ax 5 27 ?_;refine fA ax dM 6 28 hHeld ?_;refine fA ax dM 8 30 hHeld ?_;refine bC ax 10 32 ?_;refine fA ax dM 11 33 hHeld ?_;refine gL ax 12 34 (fun K hK=>?_);refine su rfl func161 (pR.calls _ _ _ _ A23.o) ?_;intro nd;refine hK.out _ _ ⟨rZ B3,rZ B0,rZ B1,(aX HB z3 :),(aX HB z4 :)⟩ (fun hHeld=>?_);clear hK K;refine bP ?_;refine gL ax 13 35 (fun K hK=>?_);refine qK (w1:=?_) (v:=?_) (by rfl) rfl ?_ ?_;rotate_left 2
   ·go_simp
    constructor
    ·rfl
    ·rfl
   refine hK.out _ _ ⟨rZ ⟨aW B3.o _⟩,rZ ⟨aW B0.o _⟩,rZ ⟨aW B1.o _⟩,(World.cell?_alloc_lt _ _ _ (World.block_lt_of_cell? _ _ ((aX HB z3 :)))).trans ((aX HB z3 :)),(World.cell?_alloc_lt _ _ _ (World.block_lt_of_cell? _ _ ((aX HB z4 :)))).trans ((aX HB z4 :))⟩ (fun hHeld=>?_);clear hK K;refine bP ?_;refine gL ax 14 36 (fun K hK=>?_);refine Kd.nK (Kd.int .i64) (w0:=w) w.heap.size (by rfl) (.tmp 23) (.tmp 35) 24 3 (.int .i64 0) 8 rfl underlying24 info3 rfl (by decide) (by omega) z1 x1 t1 [.int .i64 t1] (fun _=>True) (fun _=>False) rfl rfl ?aP (fun _ hk=>hk.elim) ?aF ?aO ?aB ?aS ?aL ?_;(case aP=>exact rfl);(case aB=>exact (ig HB));(case aF=>exact (fun _ _=>trivial));(case aO=>exact (lI z0.o));(case aS=>exact (bA (ig HB)))
   (case aL=>have:=LMc24.o;omega)
   intro zr w30 ho hb hg hat;rw [← zk.o] at ho;replace B0:=af.mk (bg (g:=gb0) (o:=.cells #[.int .i64 ai,.slice (some za) av.length bu] 32 (0,0)) (mH B0.o) hg (Kd.oV z0.o B0.o (by decide)));replace B1:=af.mk (bg (g:=gb1) (o:=.cells #[.int .i64 aG,.slice (some zd) bn.length eG] 32 (0,0)) (mH B1.o) hg (Kd.oV z0.o B1.o (by decide)));replace B2:=af.mk (bg (g:=gb2) (o:=.cells #[.int .i64 0,.slice none 0 0] 32 (0,0)) (mH B2.o) hg (Kd.oV z0.o B2.o (by decide)));replace B3:=af.mk (bg (g:=gb3) (o:=.cells #[.int .i64 ai,z1] 32 (0,0)) (mH B3.o) hg (Kd.oV z0.o B3.o (by decide)));replace HB:=af.mk (hb);have ze:=af.mk (ho);clear z0;clear ho hb hg hat;obtain ⟨zn,zo,zf⟩:=Kd.aH ze.o
   (first | subst zf | (injection zf with f1_ f2_ f3_;have f4_:=f1_.symm;have f5_:=f3_.symm;clear f1_ f2_ f3_;subst f4_;subst f5_))
   refine hK.out _ _ ⟨rZ B3,rZ B0,rZ B1,(aX HB z3 :),(aX HB z4 :)⟩ (fun hHeld=>?_);clear hK K;refine bP ?_;refine bC ax 15 37 ?_;refine yn ax 16 none (fun K hK=>?_);obtain ⟨_,_,_,_⟩:=bE B3;obtain ⟨_,_,_,_,_,_⟩:=nG N0_3 N1_3 N2_3;refine qP ?_;refine hK.out _ _ ?_;clear hK K;refine eX (cO ax.o (by kernel_rfl)) ?_
   try go_wp2
   go_roundg k1
   case measure=>have:=HK1.o;omega
   case rel=>exact ⟨(wrap64 (x0 + 1)),(z7),(.slice zn z7.length zo),fw,H',⟨by have:=HK1.o;omega⟩,⟨fG (dz ze B3) (fun _ hk=>trivial)⟩,⟨nR B0⟩,⟨nR B1⟩,⟨nR B2⟩,⟨lV B3⟩,lD HB⟩
theorem fP.calls (k : Nat) (ai : Int) (bB : Option Addr) (bu : Nat) (av : List Int) (aG : Int) (eT : Option Addr) (eG : Nat) (bn : List Int) (r1 : Int) (r2 : List Int) (w : World) (dB : Kd.C (Kd.int .i64) w bB av.length av) (dC : av.length ≤ bu) (iW : Kd.C (Kd.int .i64) w eT bn.length bn) (iT : bn.length ≤ eG) (h : fP.f k ai av aG bn = some (r1,r2)) :
  Calls prog 101 #[.agg #[.int .i64 ai,.slice bB av.length bu],.agg #[.int .i64 aG,.slice eT bn.length eG]] w fun e w'=>∃ v1_ : Value,e = .returned (.agg #[.int .i64 r1,v1_])∧Kd.R (Kd.int .i64) 3 w' w.heap.size (fun _=>True) v1_ r2∧Below w.heap.size w w':=by
 have hu32:=underlying32;have bZ:=af.mk dB;have dN:=af.mk dC;clear dB dC;have il:=af.mk iW;have iP:=af.mk iT;clear iW iT;have HB:=af.mk (Below.refl w.heap.size w);have H:=h;unfold fP.f at H;clear h;replace H:=bK H;obtain ⟨t0,A3,H⟩:=H;(try dsimp only at H);rcases qm (t0 = true) with c4 | c4
 ·replace c4:=Bool.eq_false_iff.mpr c4;subst c4;rw [gD] at H;simp only [Option.some.injEq,Prod.mk.injEq] at H;obtain ⟨rfl,rfl⟩:=H;go_enter func101,ntmps101;go_wp2_with (first | ((with_reducible refine gd 2 rfl ?_);refine eO 2 #[.int .i64 ai,.slice bB av.length bu] 32 HB ?_;clear HB;intro gb0 hg w60 hb B0 GW0 HB;clear hb hg) | ((with_reducible refine gd 3 rfl ?_);refine eO 3 #[.int .i64 aG,.slice eT bn.length eG] 32 HB ?_;clear HB;intro gb1 hg w61 hb B1 GW1 HB;have N0_1:=fC B0 hg;have N1_0:=fD B0 hg;replace B0:=bF B0 hb;clear hb hg) | ((with_reducible refine gd 4 rfl ?_);refine eO 4 #[.int .i64 0,.slice none 0 0] 32 HB ?_;clear HB;intro gb2 hg w62 hb B2 GW2 HB;have N0_2:=fC B0 hg;have N2_0:=fD B0 hg;have N1_2:=fC B1 hg;have N2_1:=fD B1 hg;refine mM B0 B1 hb ?_;clear B0 B1;intro B0 B1;clear hb hg;obtain ⟨_,_,_,_⟩:=eY N0_1 N0_2;obtain ⟨_,_,_,_⟩:=bE B0;obtain ⟨_,_⟩:=dU N1_2;obtain ⟨_,_,_,_⟩:=bE B1) | ((with_reducible refine gf 160 rfl ?_);refine eZ rfl (some 10) func160 (nN.calls _ _ _ _ _ _ _ _ _ _ _ (bN (Kd.aj bZ.o HB.o)) dN.o (bN (Kd.aj il.o HB.o)) iP.o A3.o) ?_;intro w68 hb;refine dI B0 B1 B2 hb ?_;clear B0 B1 B2;intro B0 B1 B2;replace HB:=bX HB hb;(try clear hb);obtain ⟨_,_,_,_⟩:=bE B2));refine iC #[.int .i64 0,.slice none 0 0] (lV B2) underlying32 ?_;exact ⟨_,qB,oP,ig HB⟩
 subst c4;rw [if_pos rfl] at H;have H':=af.mk H;clear H;go_enter func101,ntmps101;go_wp2_with (first | ((with_reducible refine gd 2 rfl ?_);refine eO 2 #[.int .i64 ai,.slice bB av.length bu] 32 HB ?_;clear HB;intro gb0 hg w5 hb B0 GW0 HB;clear hb hg) | ((with_reducible refine gd 3 rfl ?_);refine eO 3 #[.int .i64 aG,.slice eT bn.length eG] 32 HB ?_;clear HB;intro gb1 hg w6 hb B1 GW1 HB;have N0_1:=fC B0 hg;have N1_0:=fD B0 hg;replace B0:=bF B0 hb;clear hb hg) | ((with_reducible refine gd 4 rfl ?_);refine eO 4 #[.int .i64 0,.slice none 0 0] 32 HB ?_;clear HB;intro gb2 hg w7 hb B2 GW2 HB;have N0_2:=fC B0 hg;have N2_0:=fD B0 hg;have N1_2:=fC B1 hg;have N2_1:=fD B1 hg;refine mM B0 B1 hb ?_;clear B0 B1;intro B0 B1;clear hb hg;obtain ⟨_,_,_,_⟩:=eY N0_1 N0_2;obtain ⟨_,_,_,_⟩:=bE B0;obtain ⟨_,_⟩:=dU N1_2;obtain ⟨_,_,_,_⟩:=bE B1) | ((with_reducible refine gf 160 rfl ?_);refine eZ rfl (some 10) func160 (nN.calls _ _ _ _ _ _ _ _ _ _ _ (bN (Kd.aj bZ.o HB.o)) dN.o (bN (Kd.aj il.o HB.o)) iP.o A3.o) ?_;intro w13 hb;refine dI B0 B1 B2 hb ?_;clear B0 B1 B2;intro B0 B1 B2;replace HB:=bX HB hb;(try clear hb);obtain ⟨_,_,_,_⟩:=bE B0) | ((with_reducible refine gd 5 rfl ?_);refine eO 5 #[.int .i64 0,.slice none 0 0] 32 HB ?_;clear HB;intro gb3 hg w15 hb B3 GW3 HB;have N0_3:=fC B0 hg;have N3_0:=fD B0 hg;have N1_3:=fC B1 hg;have N3_1:=fD B1 hg;have N2_3:=fC B2 hg;have N3_2:=fD B2 hg;refine dI B0 B1 B2 hb ?_;clear B0 B1 B2;intro B0 B1 B2;clear hb hg;obtain ⟨_,_,_,_,_,_⟩:=nG N3_0 N3_1 N3_2;obtain ⟨_,_,_,_⟩:=bE B3))
 go_loopg [6] k (fun kq v6 w'=>∃ (x0 : Int) (x1 : List Int) (z1 : Value),v6 = .int .i64 x0∧af (fP.l0 kq x0 ai av aG bn ai x1 = some (r1,r2))∧af (kq ≤ k)∧af (Kd.R (Kd.int .i64) 3 w' w.heap.size (fun _=>True) z1 x1)∧af (w'.heap[gb0]? = some (.cells #[.int .i64 ai,(.slice bB av.length bu)] 32 (0,0)))∧af (w'.heap[gb1]? = some (.cells #[.int .i64 aG,(.slice eT bn.length eG)] 32 (0,0)))∧af (w'.heap[gb2]? = some (.cells #[.int .i64 0,(.slice none 0 0)] 32 (0,0)))∧af (w'.heap[gb3]? = some (.cells #[.int .i64 ai,z1] 32 (0,0)))∧af (Below w.heap.size w w'))
 case atStart=>exact ⟨(0),(([] : List Int)),(.slice none 0 0),fw,H',⟨Nat.le_refl _⟩,⟨oP⟩,⟨nR B0⟩,⟨nR B1⟩,⟨nR B2⟩,⟨lV B3⟩,lD HB⟩
 case round =>
  clear H';obtain ⟨x0,x1,z1,rfl,HA,HK1,z0,B0,B1,B2,B3,HB⟩:=hrel;cases gk with
  | zero=>exact absurd HA.o (by simp [fP.l0])
  | succ k1 =>
   have H:=HA.o;clear HA;simp only [fP.l0] at H;replace H:=gy H;rcases H with ⟨c20,H⟩ | ⟨c20,H⟩
   ·have zi:=decide_eq_false c20;clear c20;simp only [Option.some.injEq,Prod.mk.injEq] at H;obtain ⟨rfl,rfl⟩:=H;obtain ⟨_,_,_,_,_,_⟩:=nG N0_1 N0_2 N0_3;obtain ⟨_,_,_,_⟩:=bE B0;obtain ⟨_,_,_,_⟩:=eY N3_1 N3_2;obtain ⟨_,_,_,_⟩:=bE B3;obtain ⟨_,_⟩:=dU N2_1;obtain ⟨_,_,_,_⟩:=bE B2;obtain ⟨zj,zk,zl⟩:=Kd.aH z0.o;subst zl
    go_wp2
    refine iC #[.int .i64 ai,.slice zj x1.length zk] (lV B2) underlying32 ?_;exact ⟨_,qB,fG (dz z0 B2) (fun _ hk=>trivial),ig HB⟩
   have zi:=decide_eq_true c20;clear c20;replace H:=gy H;rcases H with ⟨c21,H⟩ | ⟨c21,H⟩
   ·cases H
   have zw:=decide_eq_true c21;clear c21;replace H:=gy H;rcases H with ⟨c22,H⟩ | ⟨c22,H⟩
   ·cases H
   have zx:=decide_eq_true c22;clear c22;replace H:=qc H;rcases H with ⟨c23,H⟩ | ⟨c23,H⟩
   ·have zm : decide ((rd av x0) < (rd bn x0)) = true:=decide_eq_true c23;clear c23;replace H:=gy H;rcases H with ⟨c24,H⟩ | ⟨c24,H⟩
    ·cases H
    have LMc24:=af.mk c24;clear c24;obtain ⟨za,z6⟩ : ∃ y_ : List Int,y_ = (x1 ++ [1099511627776]):=⟨_,rfl⟩
    replace H : (fP.l0 k1 (wrap64 (x0 + 1)) ai av aG bn ai za) = some (r1,r2):=sj z6 H
    have zn:=af.mk z6;clear z6;have H':=af.mk H;clear H;obtain ⟨_,_,_,_,_,_⟩:=nG N0_1 N0_2 N0_3;obtain ⟨_,_,_,_⟩:=bE B0;have z2 : 0 ≤ (x0 : Int):=df;have z3 : x0 < (av.length : Int):=df;obtain ⟨zb,zc,z7⟩:=Kd.eB bZ.o x0 z2 z3;cases zc;replace z7:=aX HB z7;replace z2:=eq_true z2;replace z3:=eq_true z3;obtain ⟨_,_,_,_⟩:=eY N1_2 N1_3;obtain ⟨_,_,_,_⟩:=bE B1;have z4 : 0 ≤ (x0 : Int):=df;have z5 : x0 < (bn.length : Int):=df;obtain ⟨zd,ze,z8⟩:=Kd.eB il.o x0 z4 z5;cases ze;replace z8:=aX HB z8;replace z4:=eq_true z4;replace z5:=eq_true z5;obtain ⟨_,_⟩:=dU N3_2;obtain ⟨_,_,_,_⟩:=bE B3;go_wp2_with (first | ((with_reducible refine eU (b:=.append) (xs:=#[.tmp 36,.tmp 38]) rfl ?_);at_builtin;refine Kd.lq (Kd.int .i64) (w0:=w) w.heap.size rfl (.tmp 36) (.tmp 38) 24 3 (.int .i64 0) 8 rfl underlying24 info3 rfl (by decide) (by omega) z1 x1 1099511627776 [.int .i64 1099511627776] (fun _=>True) (fun _=>False) rfl rfl ?aP (fun _ hk=>hk.elim) ?aF ?aO ?aB ?aS ?aL ?_;(case aP=>exact rfl);(case aB=>exact (ig HB));(case aF=>exact (fun _ _=>trivial));(case aO=>exact (lI z0.o));(case aS=>exact (bA (ig HB)));(case aL=>have:=LMc24.o;omega);intro zy w34 ho hb hg hat;rw [← zn.o] at ho;replace B0:=af.mk (bg (g:=gb0) (o:=.cells #[.int .i64 ai,.slice (some zb) av.length bu] 32 (0,0)) (mH B0.o) hg (Kd.oV z0.o B0.o (by decide)));replace B1:=af.mk (bg (g:=gb1) (o:=.cells #[.int .i64 aG,.slice (some zd) bn.length eG] 32 (0,0)) (mH B1.o) hg (Kd.oV z0.o B1.o (by decide)));replace B2:=af.mk (bg (g:=gb2) (o:=.cells #[.int .i64 0,.slice none 0 0] 32 (0,0)) (mH B2.o) hg (Kd.oV z0.o B2.o (by decide)));replace B3:=af.mk (bg (g:=gb3) (o:=.cells #[.int .i64 ai,z1] 32 (0,0)) (mH B3.o) hg (Kd.oV z0.o B3.o (by decide)));replace HB:=af.mk (hb);have zg:=af.mk (ho);clear z0;clear ho hb hg hat;obtain ⟨zo,zp,zq⟩:=Kd.aH zg.o;subst zq;obtain ⟨_,_,_,_⟩:=bE B3));go_roundg k1
    case measure=>have:=HK1.o;omega
    case rel=>exact ⟨(wrap64 (x0 + 1)),(za),(.slice zo za.length zp),fw,H',⟨by have:=HK1.o;omega⟩,⟨fG (dz zg B3) (fun _ hk=>trivial)⟩,⟨nR B0⟩,⟨nR B1⟩,⟨nR B2⟩,⟨lV B3⟩,lD HB⟩
   have zm : decide ((rd av x0) < (rd bn x0)) = false:=decide_eq_false c23;clear c23;replace H:=gy H;rcases H with ⟨c37,H⟩ | ⟨c37,H⟩
   ·cases H
   have LMc37:=af.mk c37;clear c37;obtain ⟨zf,z9⟩ : ∃ y_ : List Int,y_ = (x1 ++ [rd av x0]):=⟨_,rfl⟩
   replace H : (fP.l0 k1 (wrap64 (x0 + 1)) ai av aG bn ai zf) = some (r1,r2):=sj z9 H
   have zr:=af.mk z9;clear z9;have H':=af.mk H;clear H;obtain ⟨_,_,_,_,_,_⟩:=nG N0_1 N0_2 N0_3;obtain ⟨_,_,_,_⟩:=bE B0;have z2 : 0 ≤ (x0 : Int):=df;have z3 : x0 < (av.length : Int):=df;obtain ⟨zb,zc,z7⟩:=Kd.eB bZ.o x0 z2 z3;cases zc;replace z7:=aX HB z7;replace z2:=eq_true z2;replace z3:=eq_true z3;obtain ⟨_,_,_,_⟩:=eY N1_2 N1_3;obtain ⟨_,_,_,_⟩:=bE B1;have z4 : 0 ≤ (x0 : Int):=df;have z5 : x0 < (bn.length : Int):=df;obtain ⟨zd,ze,z8⟩:=Kd.eB il.o x0 z4 z5;cases ze;replace z8:=aX HB z8;replace z4:=eq_true z4;replace z5:=eq_true z5;obtain ⟨_,_⟩:=dU N3_2;obtain ⟨_,_,_,_⟩:=bE B3;go_wp2_with (first | ((with_reducible refine eU (b:=.append) (xs:=#[.tmp 36,.tmp 38]) rfl ?_);at_builtin;refine Kd.lq (Kd.int .i64) (w0:=w) w.heap.size rfl (.tmp 36) (.tmp 38) 24 3 (.int .i64 0) 8 rfl underlying24 info3 rfl (by decide) (by omega) z1 x1 (rd av x0) [.int .i64 (rd av x0)] (fun _=>True) (fun _=>False) rfl rfl ?aP (fun _ hk=>hk.elim) ?aF ?aO ?aB ?aS ?aL ?_;(case aP=>exact rfl);(case aB=>exact (ig HB));(case aF=>exact (fun _ _=>trivial));(case aO=>exact (lI z0.o));(case aS=>exact (bA (ig HB)));(case aL=>have:=LMc37.o;omega);intro zz w47 ho hb hg hat;rw [← zr.o] at ho;replace B0:=af.mk (bg (g:=gb0) (o:=.cells #[.int .i64 ai,.slice (some zb) av.length bu] 32 (0,0)) (mH B0.o) hg (Kd.oV z0.o B0.o (by decide)));replace B1:=af.mk (bg (g:=gb1) (o:=.cells #[.int .i64 aG,.slice (some zd) bn.length eG] 32 (0,0)) (mH B1.o) hg (Kd.oV z0.o B1.o (by decide)));replace B2:=af.mk (bg (g:=gb2) (o:=.cells #[.int .i64 0,.slice none 0 0] 32 (0,0)) (mH B2.o) hg (Kd.oV z0.o B2.o (by decide)));replace B3:=af.mk (bg (g:=gb3) (o:=.cells #[.int .i64 ai,z1] 32 (0,0)) (mH B3.o) hg (Kd.oV z0.o B3.o (by decide)));replace HB:=af.mk (hb);have zh:=af.mk (ho);clear z0;clear ho hb hg hat;obtain ⟨zt,zu,zv⟩:=Kd.aH zh.o;subst zv;obtain ⟨_,_,_,_⟩:=bE B3));go_roundg k1
   case measure=>have:=HK1.o;omega
   case rel=>exact ⟨(wrap64 (x0 + 1)),(zf),(.slice zt zf.length zu),fw,H',⟨by have:=HK1.o;omega⟩,⟨fG (dz zh B3) (fun _ hk=>trivial)⟩,⟨nR B0⟩,⟨nR B1⟩,⟨nR B2⟩,⟨lV B3⟩,lD HB⟩
theorem qO.calls  (r1 : Int) (r2 : Int) (w : World) (h : qO.f  = some (r1,r2)) :
  Calls prog 92 #[] w fun e w'=>e = .returned (.agg #[.int .i64 r1,.int .i64 r2])∧Below w.heap.size w w':=by
 have hu111:=underlying111;have HB:=af.mk (Below.refl w.heap.size w);have H:=h;unfold qO.f at H;clear h;simp only [Option.some.injEq,Prod.mk.injEq] at H;obtain ⟨rfl,rfl⟩:=H;go_enter func92,ntmps92;go_wp2_with (first | ((with_reducible refine gd 0 rfl ?_);refine eO 0 #[.int .i64 0,.int .i64 0] 111 HB ?_;clear HB;intro gb0 hg w1 hb B0 GW0 HB;clear hb hg;obtain ⟨_,_,_,_⟩:=bE B0));refine iC #[.int .i64 1,.int .i64 0] (lV B0) underlying111 ?_;exact iw HB
theorem eD.calls (k : Nat) (a0 : Int) (a1 : Int) (r : Int) (w : World) (h : eD.f k a0 a1 = some r) :
  Calls prog 169 #[.int .i64 a0,.int .i64 a1] w fun e w'=>e = .returned (.int .i64 r)∧iU w w':=by
 have H:=h;unfold eD.f at H;clear h;have HC3:=af.mk H;clear H;go_enter func169,ntmps169
 go_upto_if 7 with (fail)
 go_cut [0] (fun v0 wc=>∃ (kq : Nat) (x0 : Int),v0 = .int .i64 x0∧af (eD.j0 kq x0 a1 = some r)∧af (kq ≤ k)∧iU w wc)
 case first =>
  have H:=HC3.o;clear HC3;replace H:=gy H;rcases H with ⟨c4,H⟩ | ⟨c4,H⟩
  ·have z0:=decide_eq_false c4;clear c4
   (first | rw [z0] | (simp only [iQ,lg];rw [z0]) | skip)
   have H':=af.mk H;clear H
   go_wp2
   go_meet
   case rel=>exact ⟨_,(a0),fw,H',⟨ng⟩,qE⟩
  have z0:=decide_eq_true c4;clear c4
  (first | rw [z0] | (simp only [iQ,lg];rw [z0]) | skip)
  have H':=af.mk H;clear H
  go_wp2
  go_meet
  case rel=>exact ⟨_,(wrap64 (-a0)),fw,H',⟨ng⟩,qE⟩
 case rest =>
  clear HC3;obtain ⟨kq,x0,rfl,HA,HJ2,⟨mc2,rfl⟩⟩:=hcut;cases kq with
  | zero=>exact absurd HA.o (by simp [eD.j0])
  | succ kj2 =>
   have H:=HA.o;clear HA;simp only [eD.j0] at H;have HC5:=af.mk H;clear H
   go_upto_if 11 with (fail)
   go_cut [1] (fun v1 wc=>∃ (kq : Nat) (x1 : Int),v1 = .int .i64 x1∧af (eD.j1 kq x0 x1 = some r)∧af (kq ≤ kj2)∧iU w wc)
   case first =>
    have H:=HC5.o;clear HC5;replace H:=gy H;rcases H with ⟨c6,H⟩ | ⟨c6,H⟩
    ·have z1:=decide_eq_false c6;clear c6
     (first | rw [z1] | (simp only [iQ,lg];rw [z1]) | skip)
     have H':=af.mk H;clear H
     go_wp2
     go_meet
     case rel=>exact ⟨_,(a1),fw,H',⟨by have:=HJ2.o;first | omega | exact Nat.le_refl _⟩,qE⟩
    have z1:=decide_eq_true c6;clear c6
    (first | rw [z1] | (simp only [iQ,lg];rw [z1]) | skip)
    have H':=af.mk H;clear H
    go_wp2
    go_meet
    case rel=>exact ⟨_,(wrap64 (-a1)),fw,H',⟨by have:=HJ2.o;first | omega | exact Nat.le_refl _⟩,qE⟩
   case rest =>
    clear HC5;obtain ⟨kq,x1,rfl,HA,HJ4,⟨mc4,rfl⟩⟩:=hcut;cases kq with
    | zero=>exact absurd HA.o (by simp [eD.j1])
    | succ kj4 =>
     have H:=HA.o;clear HA;simp only [eD.j1] at H;have H':=af.mk H;clear H
     go_wp2
     go_loopg [0,1] kj4 (fun kq v0 v1 w'=>∃ (x2 : Int) (x3 : Int),v0 = .int .i64 x2∧v1 = .int .i64 x3∧af (eD.l0 kq x2 x3 = some r)∧af (kq ≤ kj4)∧iU w w')
     case atStart=>exact ⟨(x0),(x1),fw,fw,H',⟨Nat.le_refl _⟩,qE⟩
     case round =>
      clear H';obtain ⟨x2,x3,rfl,rfl,HA,HK3,⟨m3,rfl⟩⟩:=hrel;cases gk with
      | zero=>exact absurd HA.o (by simp [eD.l0])
      | succ k3 =>
       have H:=HA.o;clear HA;simp only [eD.l0] at H;replace H:=qc H;rcases H with ⟨c7,H⟩ | ⟨c7,H⟩
       ·have z2 : (x3 == 0) = true:=beq_iff_eq.mpr c7;have z3 : (x3 != 0) = false:=bne_eq_false_iff_eq.mpr c7;clear c7;obtain rfl:=Option.some.inj H
        go_wp2
        go_ret
        exact ⟨fw,qE⟩
       have z2 : (x3 == 0) = false:=beq_eq_false_iff_ne.mpr c7;have z3 : (x3 != 0) = true:=bne_iff_ne.mpr c7;have H':=af.mk H;clear H
       go_wp2
       go_roundg k3
       case measure=>have:=HJ2.o;have:=HJ4.o;have:=HK3.o;omega
       case rel=>exact ⟨(x3),(Int.tmod x2 x3),fw,fw,H',⟨by have:=HJ2.o;have:=HJ4.o;have:=HK3.o;omega⟩,qE⟩
theorem qi.calls (k : Nat) (a0 : Int) (a1 : Int) (r1 : Int) (r2 : Int) (w : World) (h : qi.f k a0 a1 = some (r1,r2)) :
  Calls prog 180 #[.int .i64 a0,.int .i64 a1] w fun e w'=>e = .returned (.agg #[.int .i64 r1,.int .i64 r2])∧Below w.heap.size w w':=by
 have hu111:=underlying111;have HB:=af.mk (Below.refl w.heap.size w);have H:=h;unfold qi.f at H;clear h;replace H:=gy H;rcases H with ⟨c3,H⟩ | ⟨c3,H⟩
 ·have z0 : decide (65536 < a0) = false:=decide_eq_false c3;clear c3;replace H:=qc H;rcases H with ⟨c11,H⟩ | ⟨c11,H⟩
  ·have z1 : (a0 == 0) = true:=beq_iff_eq.mpr c11;have z2 : (a0 != 0) = false:=bne_eq_false_iff_eq.mpr c11;clear c11;simp only [Option.some.injEq,Prod.mk.injEq] at H;obtain ⟨rfl,rfl⟩:=H;go_enter func180,ntmps180;go_wp2_with (first | ((with_reducible refine gd 4 rfl ?_);refine eO 4 #[.int .i64 0,.int .i64 0] 111 HB ?_;clear HB;intro gb0 hg w12 hb B0 GW0 HB;clear hb hg;obtain ⟨_,_,_,_⟩:=bE B0));refine iC #[.int .i64 0,.int .i64 a1] (lV B0) underlying111 ?_;exact iw HB
  have z1 : (a0 == 0) = false:=beq_eq_false_iff_ne.mpr c11;have z2 : (a0 != 0) = true:=bne_iff_ne.mpr c11;replace H:=bK H;obtain ⟨t0,A14,H⟩:=H;(try dsimp only at H);simp only [Option.some.injEq,Prod.mk.injEq] at H;obtain ⟨rfl,rfl⟩:=H;go_enter func180,ntmps180;go_wp2_with (first | ((with_reducible refine gd 4 rfl ?_);refine eO 4 #[.int .i64 0,.int .i64 0] 111 HB ?_;clear HB;intro gb0 hg w15 hb B0 GW0 HB;clear hb hg) | ((with_reducible refine gf 157 rfl ?_);refine mD rfl (some 16) func157 (lY.calls _ _ _ _ A14.o) ?_;intro nd;(try (rw [mP w15];generalize hq_ : World.drewN w15 _ = w15;replace B0:=wN B0 hq_;replace HB:=Dp HB hq_;clear hq_;obtain ⟨z5,z6,z7,z8⟩:=bE B0));obtain ⟨_,_,_,_⟩:=bE B0));refine iC #[.int .i64 a0,.int .i64 t0] (lV B0) underlying111 ?_;exact iw HB
 have z0 : decide (65536 < a0) = true:=decide_eq_true c3;clear c3;replace H:=bK H;obtain ⟨t1,A4,H⟩:=H;(try dsimp only at H);replace H:=qc H;rcases H with ⟨c5,H⟩ | ⟨c5,H⟩
 ·have z3 : (t1 == 0) = true:=beq_iff_eq.mpr c5;have z4 : (t1 != 0) = false:=bne_eq_false_iff_eq.mpr c5;clear c5;simp only [Option.some.injEq,Prod.mk.injEq] at H;obtain ⟨rfl,rfl⟩:=H;go_enter func180,ntmps180;go_wp2_with (first | ((with_reducible refine gd 4 rfl ?_);refine eO 4 #[.int .i64 0,.int .i64 0] 111 HB ?_;clear HB;intro gb0 hg w6 hb B0 GW0 HB;clear hb hg) | ((with_reducible refine gf 169 rfl ?_);refine mD rfl (some 8) func169 (eD.calls _ _ _ _ _ A4.o) ?_;intro nd;(try (rw [mP w6];generalize hq_ : World.drewN w6 _ = w6;replace B0:=wN B0 hq_;replace HB:=Dp HB hq_;clear hq_;obtain ⟨z9,za,zb,zc⟩:=bE B0));obtain ⟨_,_,_,_⟩:=bE B0));refine iC #[.int .i64 0,.int .i64 a1] (lV B0) underlying111 ?_;exact iw HB
 have z3 : (t1 == 0) = false:=beq_eq_false_iff_ne.mpr c5;have z4 : (t1 != 0) = true:=bne_iff_ne.mpr c5;replace H:=bK H;obtain ⟨t2,A8,H⟩:=H;(try dsimp only at H);simp only [Option.some.injEq,Prod.mk.injEq] at H;obtain ⟨rfl,rfl⟩:=H;go_enter func180,ntmps180;go_wp2_with (first | ((with_reducible refine gd 4 rfl ?_);refine eO 4 #[.int .i64 0,.int .i64 0] 111 HB ?_;clear HB;intro gb0 hg w9 hb B0 GW0 HB;clear hb hg) | ((with_reducible refine gf 169 rfl ?_);refine mD rfl (some 8) func169 (eD.calls _ _ _ _ _ A4.o) ?_;intro nd;(try (rw [mP w9];generalize hq_ : World.drewN w9 _ = w9;replace B0:=wN B0 hq_;replace HB:=Dp HB hq_;clear hq_;obtain ⟨zd,ze,zf,zg⟩:=bE B0))) | ((with_reducible refine gf 157 rfl ?_);refine mD rfl (some 16) func157 (lY.calls _ _ _ _ A8.o) ?_;intro nd;(try (rw [mP w9];generalize hq_ : World.drewN w9 _ = w9;replace B0:=wN B0 hq_;replace HB:=Dp HB hq_;clear hq_;obtain ⟨zh,zi,zj,zk⟩:=bE B0));obtain ⟨_,_,_,_⟩:=bE B0));refine iC #[.int .i64 t1,.int .i64 t2] (lV B0) underlying111 ?_;exact iw HB
def dO.T3 : Bool × List (List Nat × List Nat):=(true,[([],[]),([0],[0]),([],[]),([2],[2]),([1,3],[1,3]),([],[]),([5],[5]),([],[]),([7],[7]),([6,8],[6,8]),([4,9,4],[4,9]),([],[]),([11],[11]),([10,12,10],[10,12]),([13,13,0,1,2,3,4,5,6,7,8,9,10,11,12,13],[13])])
def dO.B3 : List Nat:=[0,1,0,4,15,0,32,0,128,480,1023,0,2048,8191,16383]
theorem dO.DZ : l9 .any (opsOf f174 3) = dO.T3:=by kernel_rfl
theorem dO.Bh : fQ dO.T3.2 dO.B3 = true:=by kernel_rfl
theorem dO.calls (k : Nat) (ai : Int) (aD : Int) (aG : Int) (bG : Int) (r1 : Int) (r2 : Int) (w : World) (h : dO.f k ai aD aG bG = some (r1,r2)) :
  Calls prog 174 #[.agg #[.int .i64 ai,.int .i64 aD],.agg #[.int .i64 aG,.int .i64 bG]] w fun e w'=>e = .returned (.agg #[.int .i64 r1,.int .i64 r2])∧Below w.heap.size w w':=by
 have hu111:=underlying111;have HB:=af.mk (Below.refl w.heap.size w);have H:=h;unfold dO.f at H;clear h;have HC3:=af.mk H;clear H;go_enter func174,ntmps174;go_upto_region 1 with (first | ((with_reducible refine gd 2 rfl ?_);refine eO 2 #[.int .i64 ai,.int .i64 aD] 111 HB ?_;clear HB;intro gb0 hg w4 hb B0 GW0 HB;clear hb hg) | ((with_reducible refine gd 3 rfl ?_);refine eO 3 #[.int .i64 aG,.int .i64 bG] 111 HB ?_;clear HB;intro gb1 hg w5 hb B1 GW1 HB;have N0_1:=fC B0 hg;have N1_0:=fD B0 hg;replace B0:=bF B0 hb;clear hb hg) | ((with_reducible refine gd 4 rfl ?_);refine eO 4 #[.int .i64 0,.int .i64 0] 111 HB ?_;clear HB;intro gb2 hg w6 hb B2 GW2 HB;have N0_2:=fC B0 hg;have N2_0:=fD B0 hg;have N1_2:=fC B1 hg;have N2_1:=fD B1 hg;refine mM B0 B1 hb ?_;clear B0 B1;intro B0 B1;clear hb hg))
 (try simp only [Act.put,List.setIfInBounds_toArray,List.set_cons_zero,List.set_cons_succ])
 go_cut [12] (fun v12 wc=>∃ (kq : Nat) (x0 : Bool),v12 = .bool x0∧af (dO.j0 kq x0 ai aD aG bG = some (r1,r2))∧af (kq ≤ k)∧af (wc.heap[gb0]? = some (.cells #[.int .i64 ai,.int .i64 aD] 111 (0,0)))∧af (wc.heap[gb1]? = some (.cells #[.int .i64 aG,.int .i64 bG] 111 (0,0)))∧af (wc.heap[gb2]? = some (.cells #[.int .i64 0,.int .i64 0] 111 (0,0)))∧af (Below w.heap.size w wc))
 case first =>
  have H:=HC3.o;clear HC3;replace H:=bK H;obtain ⟨t0,A7,H⟩:=H;(try dsimp only at H);rcases qm (t0 = true) with c8 | c8
  ·replace c8:=Bool.eq_false_iff.mpr c8;subst c8;rw [gD] at H;have H':=af.mk H;clear H;obtain ⟨_,_,_,_⟩:=eY N0_1 N0_2;obtain ⟨_,_,_,_⟩:=bE B0;go_wp2_with (first | ((with_reducible refine gf 155 rfl ?_);refine eZ rfl (some 6) func155 (lv.calls _ _ _ _ A7.o) ?_;intro w20 hb;refine dI B0 B1 B2 hb ?_;clear B0 B1 B2;intro B0 B1 B2;replace HB:=bX HB hb;(try clear hb)));go_meet
   case rel=>exact ⟨_,(true),fw,H',⟨ng⟩,fE B0,fE B1,fE B2,lD HB⟩
  subst c8;rw [if_pos rfl] at H;replace H:=bK H;obtain ⟨t1,A9,H⟩:=H;(try dsimp only at H);have H':=af.mk H;clear H;obtain ⟨_,_,_,_⟩:=eY N0_1 N0_2;obtain ⟨_,_,_,_⟩:=bE B0;go_wp2_with (first | ((with_reducible refine gf 155 rfl ?_);refine eZ rfl (some 6) func155 (lv.calls _ _ _ _ A7.o) ?_;intro w13 hb;refine dI B0 B1 B2 hb ?_;clear B0 B1 B2;intro B0 B1 B2;replace HB:=bX HB hb;(try clear hb);obtain ⟨_,_⟩:=dU N1_2;obtain ⟨_,_,_,_⟩:=bE B1) | (go_at_call 155;(with_reducible refine (lv.calls aG bG t1 _ A9.o).mono ?_);rintro e w16 ⟨rfl,hb⟩;refine dI B0 B1 B2 hb ?_;clear B0 B1 B2;intro B0 B1 B2;replace HB:=bX HB hb;(try clear hb)));go_meet
  case rel=>exact ⟨_,(!t1),fw,H',⟨ng⟩,fE B0,fE B1,fE B2,lD HB⟩
 case rest =>
  clear HC3;obtain ⟨kq,x0,rfl,HA,HJ2,B0,B1,B2,HB⟩:=hcut;cases kq with
  | zero=>exact absurd HA.o (by simp [dO.j0])
  | succ kj2 =>
   have H:=HA.o;clear HA;simp only [dO.j0] at H
   by_cases c21 : x0 = true
   ·subst c21;rw [if_pos rfl] at H;replace H:=bK H;obtain ⟨⟨t2,t3⟩,A22,H⟩:=H;(try dsimp only at H);simp only [Option.some.injEq,Prod.mk.injEq] at H;obtain ⟨rfl,rfl⟩:=H;go_wp2_with (first | ((with_reducible refine gf 92 rfl ?_);refine eZ rfl (some 13) func92 (qO.calls _ _ _ A22.o) ?_;intro w23 hb;refine dI B0 B1 B2 hb ?_;clear B0 B1 B2;intro B0 B1 B2;replace HB:=bX HB hb;(try clear hb);obtain ⟨_,_,_,_⟩:=eY N2_0 N2_1;obtain ⟨_,_,_,_⟩:=bE B2));refine iC #[.int .i64 t2,.int .i64 t3] (lV B2) underlying111 ?_;exact iw HB
   replace c21:=Bool.eq_false_iff.mpr c21;subst c21;rw [gD] at H;replace H:=bK H;obtain ⟨t4,A27,H⟩:=H;(try dsimp only at H);replace H:=bK H;obtain ⟨t5,A28,H⟩:=H;(try dsimp only at H);replace H:=bK H;obtain ⟨⟨t6,t7⟩,A29,H⟩:=H;(try dsimp only at H);simp only [Option.some.injEq,Prod.mk.injEq] at H;obtain ⟨rfl,rfl⟩:=H
   try go_wp2
   replace B0:=bU B0;replace B1:=bU B1;replace B2:=bU B2;replace HB:=iI HB;refine mI 15 (fun w'=>rf w' gb0 (.int .i64 ai) (.int .i64 aD)∧rf w' gb1 (.int .i64 aG) (.int .i64 bG)) gu (fun hHeld=>?_);refine bD dO.DZ dO.Bh (fun ax dM=>?_);generalize wc.drew = w30 at B0 B1 B2 HB hHeld ⊢;refine bC ax 0 14 ?_;refine bC ax 2 16 ?_;refine bC ax 5 19 ?_;refine bC ax 7 21 ?_;refine bC ax 11 25 ?_;refine fA ax dM 1 15 hHeld ?_;refine fA ax dM 3 17 hHeld ?_;refine fA ax dM 6 20 hHeld ?_;refine fA ax dM 8 22 hHeld ?_;refine bC ax 9 23 ?_;refine fA ax dM 12 26 hHeld ?_;refine gL ax 4 18 (fun K hK=>?_);refine su rfl func169 (eD.calls _ _ _ _ _ A27.o) ?_;intro nd;refine hK.out _ _ gu (fun hHeld=>?_);clear hK K;refine bP ?_;refine gL ax 10 24 (fun K hK=>?_);refine su rfl func169 (eD.calls _ _ _ _ _ A28.o) ?_;intro nd;refine hK.out _ _ gu (fun hHeld=>?_);clear hK K;refine bP ?_;refine gL ax 13 27 (fun K hK=>?_);refine fF rfl func180 (qi.calls _ _ _ _ _ _ A29.o) ?_;intro w31 hb;refine dI B0 B1 B2 hb ?_;clear B0 B1 B2;intro B0 B1 B2;replace HB:=bX HB hb;(try clear hb);refine hK.out _ _ gu (fun hHeld=>?_);clear hK K;refine bP ?_;refine xc ax 14 (fun K hK=>?_);obtain ⟨_,_,_,_⟩:=bE B2;obtain ⟨_,_,_,_⟩:=eY N0_2 N1_2;refine qP ?_;refine hK.out _ _ xH (fun hHeld=>?_);clear hK K;refine eX (cO ax.o (by kernel_rfl)) ?_
   try go_wp2
   refine iC #[.int .i64 t6,.int .i64 t7] (lV B2) underlying111 ?_;exact iw HB
theorem qH.calls (a0 : Int) (a1 : Int) (r : Int) (w : World) (h : qH.f a0 a1 = some r) :
  Calls prog 170 #[.int .i64 a0,.int .i64 a1] w fun e w'=>e = .returned (.int .i64 r)∧iU w w':=by
 have H:=h;unfold qH.f at H;clear h;replace H:=qc H;rcases H with ⟨c3,H⟩ | ⟨c3,H⟩
 ·have z0:=decide_eq_true c3;clear c3;obtain rfl:=Option.some.inj H;go_enter func170,ntmps170
  go_wp2
  go_ret
  exact ⟨fw,qE⟩
 have z0:=decide_eq_false c3;clear c3;obtain rfl:=Option.some.inj H;go_enter func170,ntmps170
 go_wp2
 go_ret
 exact ⟨fw,qE⟩
attribute [local go_sem high] xq
def dJ.T7 : Bool × List (List Nat × List Nat):=(true,[([],[]),([0],[0]),([],[]),([2],[2]),([1,3],[1,3]),([],[]),([5],[5]),([],[]),([7],[7]),([6,8,4],[6,8]),([4,9],[4,9]),([10,9,0,1,2,3,4,5,6,7,8,9,10],[10])])
def dJ.B7 : List Nat:=[0,1,0,4,15,0,32,0,128,511,1023,2047]
theorem dJ.xA : l9 .any (opsOf f175 7) = dJ.T7:=by kernel_rfl
theorem dJ.uD : fQ dJ.T7.2 dJ.B7 = true:=by kernel_rfl
theorem dJ.calls (k : Nat) (ai : Int) (aD : Int) (aG : Int) (bG : Int) (r1 : Int) (r2 : Int) (w : World) (h : dJ.f k ai aD aG bG = some (r1,r2)) :
  Calls prog 175 #[.agg #[.int .i64 ai,.int .i64 aD],.agg #[.int .i64 aG,.int .i64 bG]] w fun e w'=>e = .returned (.agg #[.int .i64 r1,.int .i64 r2])∧Below w.heap.size w w':=by
 have hu108:=underlying108;have HB:=af.mk (Below.refl w.heap.size w);have H:=h;unfold dJ.f at H;clear h;have HC3:=af.mk H;clear H;go_enter func175,ntmps175;go_upto_region 1 with (first | ((with_reducible refine gd 2 rfl ?_);refine eO 2 #[.int .i64 ai,.int .i64 aD] 108 HB ?_;clear HB;intro gb0 hg w4 hb B0 GW0 HB;clear hb hg) | ((with_reducible refine gd 3 rfl ?_);refine eO 3 #[.int .i64 aG,.int .i64 bG] 108 HB ?_;clear HB;intro gb1 hg w5 hb B1 GW1 HB;have N0_1:=fC B0 hg;have N1_0:=fD B0 hg;replace B0:=bF B0 hb;clear hb hg) | ((with_reducible refine gd 4 rfl ?_);refine eO 4 #[.int .i64 0,.int .i64 0] 108 HB ?_;clear HB;intro gb2 hg w6 hb B2 GW2 HB;have N0_2:=fC B0 hg;have N2_0:=fD B0 hg;have N1_2:=fC B1 hg;have N2_1:=fD B1 hg;refine mM B0 B1 hb ?_;clear B0 B1;intro B0 B1;clear hb hg))
 (try simp only [Act.put,List.setIfInBounds_toArray,List.set_cons_zero,List.set_cons_succ])
 go_cut [12] (fun v12 wc=>∃ (kq : Nat) (x0 : Bool),v12 = .bool x0∧af (dJ.j0 kq x0 ai aD aG bG = some (r1,r2))∧af (kq ≤ k)∧af (wc.heap[gb0]? = some (.cells #[.int .i64 ai,.int .i64 aD] 108 (0,0)))∧af (wc.heap[gb1]? = some (.cells #[.int .i64 aG,.int .i64 bG] 108 (0,0)))∧af (wc.heap[gb2]? = some (.cells #[.int .i64 0,.int .i64 0] 108 (0,0)))∧af (Below w.heap.size w wc))
 case first =>
  have H:=HC3.o;clear HC3;replace H:=bK H;obtain ⟨t0,A7,H⟩:=H;(try dsimp only at H);rcases qm (t0 = true) with c8 | c8
  ·replace c8:=Bool.eq_false_iff.mpr c8;subst c8;rw [gD] at H;have H':=af.mk H;clear H;obtain ⟨_,_,_,_⟩:=eY N0_1 N0_2;obtain ⟨_,_,_,_⟩:=bE B0;go_wp2_with (first | ((with_reducible refine gf 154 rfl ?_);refine eZ rfl (some 6) func154 (bT.calls _ _ _ _ A7.o) ?_;intro w20 hb;refine dI B0 B1 B2 hb ?_;clear B0 B1 B2;intro B0 B1 B2;replace HB:=bX HB hb;(try clear hb)));go_meet
   case rel=>exact ⟨_,(true),fw,H',⟨ng⟩,fE B0,fE B1,fE B2,lD HB⟩
  subst c8;rw [if_pos rfl] at H;replace H:=bK H;obtain ⟨t1,A9,H⟩:=H;(try dsimp only at H);have H':=af.mk H;clear H;obtain ⟨_,_,_,_⟩:=eY N0_1 N0_2;obtain ⟨_,_,_,_⟩:=bE B0;go_wp2_with (first | ((with_reducible refine gf 154 rfl ?_);refine eZ rfl (some 6) func154 (bT.calls _ _ _ _ A7.o) ?_;intro w13 hb;refine dI B0 B1 B2 hb ?_;clear B0 B1 B2;intro B0 B1 B2;replace HB:=bX HB hb;(try clear hb);obtain ⟨_,_⟩:=dU N1_2;obtain ⟨_,_,_,_⟩:=bE B1) | (go_at_call 154;(with_reducible refine (bT.calls aG bG t1 _ A9.o).mono ?_);rintro e w16 ⟨rfl,hb⟩;refine dI B0 B1 B2 hb ?_;clear B0 B1 B2;intro B0 B1 B2;replace HB:=bX HB hb;(try clear hb)));go_meet
  case rel=>exact ⟨_,(!t1),fw,H',⟨ng⟩,fE B0,fE B1,fE B2,lD HB⟩
 case rest =>
  clear HC3;obtain ⟨kq,x0,rfl,HA,HJ2,B0,B1,B2,HB⟩:=hcut;cases kq with
  | zero=>exact absurd HA.o (by simp [dJ.j0])
  | succ kj2 =>
   have H:=HA.o;clear HA;simp only [dJ.j0] at H
   by_cases c21 : x0 = true
   ·subst c21;rw [if_pos rfl] at H;replace H:=bK H;obtain ⟨⟨t2,t3⟩,A22,H⟩:=H;(try dsimp only at H);simp only [Option.some.injEq,Prod.mk.injEq] at H;obtain ⟨rfl,rfl⟩:=H;go_wp2_with (first | ((with_reducible refine gf 156 rfl ?_);refine eZ rfl (some 13) func156 (fH.calls _ _ _ A22.o) ?_;intro w23 hb;refine dI B0 B1 B2 hb ?_;clear B0 B1 B2;intro B0 B1 B2;replace HB:=bX HB hb;(try clear hb);obtain ⟨_,_,_,_⟩:=eY N2_0 N2_1;obtain ⟨_,_,_,_⟩:=bE B2));refine iC #[.int .i64 t2,.int .i64 t3] (lV B2) underlying108 ?_;exact iw HB
   replace c21:=Bool.eq_false_iff.mpr c21;subst c21;rw [gD] at H;replace H:=bK H;obtain ⟨⟨t4,t5⟩,A27,H⟩:=H;(try dsimp only at H);replace H:=qc H;rcases H with ⟨c28,H⟩ | ⟨c28,H⟩
   ·have z0 : (ai == t4 && (aD == t5)) = true:=c28
    (try (have z1 : decide (ai = t4 && (aD == t5)) = true:=by simpa using c28))
    (try (have z2 : (ai == t4 && (aD == t5)) = true:=by simpa using c28))
    clear c28;simp only [Option.some.injEq,Prod.mk.injEq] at H;obtain ⟨rfl,rfl⟩:=H
    try go_wp2
    replace B0:=bU B0;replace B1:=bU B1;replace B2:=bU B2;replace HB:=iI HB;refine mI 3 (fun w'=>rf w' gb0 (.int .i64 ai) (.int .i64 aD)) gu (fun hHeld=>?_);generalize wc.drew = w29 at B0 B1 B2 HB hHeld ⊢;refine rC (i:=0) (N:=some 14) (v:=?_) (a':=?_) #[true,false,false] rfl rfl (by kernel_rfl) (fun _ _ _ h=>h) (Or.inl ⟨by rfl,?_⟩) hHeld ?_ ?_;rotate_left
    ·rintro w' ⟨s0,s1⟩
     go_simp
     with_reducible rfl
    rotate_left
    ·simp only [Act.put,List.setIfInBounds_toArray,List.set_cons_zero,List.set_cons_succ,iQ,lg]
     rfl
    refine uZ (i:=1) (N:=some 15) #[true,true,false] rfl rfl (by kernel_rfl) (by decide) (fun K hK=>?_);refine fF rfl func156 (fH.calls _ _ _ A27.o) ?_;intro w30 hb;refine dI B0 B1 B2 hb ?_;clear B0 B1 B2;intro B0 B1 B2;replace HB:=bX HB hb;(try clear hb);refine hK.out _ _ gu (fun hHeld=>?_);clear hK K;refine bP ?_;refine qZ (i:=2) (N:=some 16) (v:=?_) (a':=?_) #[true,true,true] rfl rfl (by kernel_rfl) (fun _ _ _ h=>h) (Or.inl ⟨by rfl,?_⟩) ?_ ?_;rotate_left
    ·intro w'
     go_simp
     with_reducible rfl
    rotate_left
    ·simp only [Act.put,List.setIfInBounds_toArray,List.set_cons_zero,List.set_cons_succ,iQ,lg]
     rfl
    refine eX (by kernel_rfl) ?_;obtain ⟨_,_,_,_⟩:=eY N1_0 N1_2;obtain ⟨_,_,_,_⟩:=bE B1;obtain ⟨_,_⟩:=dU N2_0;obtain ⟨_,_,_,_⟩:=bE B2
    try go_wp2
    refine iC #[.int .i64 aG,.int .i64 bG] (lV B2) underlying108 ?_;exact iw HB
   have z0 : (ai == t4 && (aD == t5)) = false:=by simpa using c28
   (try (have z1 : decide (ai = t4 && (aD == t5)) = false:=by simpa using c28))
   (try (have z2 : (ai == t4 && (aD == t5)) = false:=by simpa using c28))
   (try (have z6 : ¬ (ai = t4 && (aD == t5)):=by simpa using c28))
   clear c28;replace H:=bK H;obtain ⟨⟨t6,t7⟩,A36,H⟩:=H;(try dsimp only at H);replace H:=qc H;rcases H with ⟨c37,H⟩ | ⟨c37,H⟩
   ·have z3 : (aG == t6 && (bG == t7)) = true:=c37
    (try (have z4 : decide (aG = t6 && (bG == t7)) = true:=by simpa using c37))
    (try (have z5 : (aG == t6 && (bG == t7)) = true:=by simpa using c37))
    clear c37;simp only [Option.some.injEq,Prod.mk.injEq] at H;obtain ⟨rfl,rfl⟩:=H
    try go_wp2
    replace B0:=bU B0;replace B1:=bU B1;replace B2:=bU B2;replace HB:=iI HB;refine mI 3 (fun w'=>rf w' gb0 (.int .i64 ai) (.int .i64 aD)) gu (fun hHeld=>?_);generalize wc.drew = w38 at B0 B1 B2 HB hHeld ⊢;refine rC (i:=0) (N:=some 14) (v:=?_) (a':=?_) #[true,false,false] rfl rfl (by kernel_rfl) (fun _ _ _ h=>h) (Or.inl ⟨by rfl,?_⟩) hHeld ?_ ?_;rotate_left
    ·rintro w' ⟨s0,s1⟩
     go_simp
     with_reducible rfl
    rotate_left
    ·simp only [Act.put,List.setIfInBounds_toArray,List.set_cons_zero,List.set_cons_succ,iQ,lg]
     rfl
    refine uZ (i:=1) (N:=some 15) #[true,true,false] rfl rfl (by kernel_rfl) (by decide) (fun K hK=>?_);refine fF rfl func156 (fH.calls _ _ _ A27.o) ?_;intro w39 hb;refine dI B0 B1 B2 hb ?_;clear B0 B1 B2;intro B0 B1 B2;replace HB:=bX HB hb;(try clear hb);refine hK.out _ _ gu (fun hHeld=>?_);clear hK K;refine bP ?_;refine qZ (i:=2) (N:=some 16) (v:=?_) (a':=?_) #[true,true,true] rfl rfl (by kernel_rfl) (fun _ _ _ h=>h) (Or.inl ⟨by rfl,?_⟩) ?_ ?_;rotate_left
    ·intro w'
     go_simp
     with_reducible rfl
    rotate_left
    ·simp only [Act.put,List.setIfInBounds_toArray,List.set_cons_zero,List.set_cons_succ,iQ,lg]
     rfl
    refine eX (by kernel_rfl) ?_
    try go_wp2
    replace B0:=bU B0;replace B1:=bU B1;replace B2:=bU B2;replace HB:=iI HB;refine mI 3 (fun w'=>rf w' gb1 (.int .i64 aG) (.int .i64 bG)) gu (fun hHeld=>?_);generalize w39.drew = w40 at B0 B1 B2 HB hHeld ⊢;refine rC (i:=0) (N:=some 18) (v:=?_) (a':=?_) #[true,false,false] rfl rfl (by kernel_rfl) (fun _ _ _ h=>h) (Or.inl ⟨by rfl,?_⟩) hHeld ?_ ?_;rotate_left
    ·rintro w' ⟨s0,s1⟩
     go_simp
     with_reducible rfl
    rotate_left
    ·simp only [Act.put,List.setIfInBounds_toArray,List.set_cons_zero,List.set_cons_succ,iQ,lg]
     rfl
    refine uZ (i:=1) (N:=some 19) #[true,true,false] rfl rfl (by kernel_rfl) (by decide) (fun K hK=>?_);refine fF rfl func156 (fH.calls _ _ _ A36.o) ?_;intro w41 hb;refine dI B0 B1 B2 hb ?_;clear B0 B1 B2;intro B0 B1 B2;replace HB:=bX HB hb;(try clear hb);refine hK.out _ _ gu (fun hHeld=>?_);clear hK K;refine bP ?_;refine qZ (i:=2) (N:=some 20) (v:=?_) (a':=?_) #[true,true,true] rfl rfl (by kernel_rfl) (fun _ _ _ h=>h) (Or.inl ⟨by rfl,?_⟩) ?_ ?_;rotate_left
    ·intro w'
     go_simp
     with_reducible rfl
    rotate_left
    ·simp only [Act.put,List.setIfInBounds_toArray,List.set_cons_zero,List.set_cons_succ,iQ,lg]
     rfl
    refine eX (by kernel_rfl) ?_;obtain ⟨_,_,_,_⟩:=eY N0_1 N0_2;obtain ⟨_,_,_,_⟩:=bE B0;obtain ⟨_,_⟩:=dU N2_1;obtain ⟨_,_,_,_⟩:=bE B2
    try go_wp2
    refine iC #[.int .i64 ai,.int .i64 aD] (lV B2) underlying108 ?_;exact iw HB
   have z3 : (aG == t6 && (bG == t7)) = false:=by simpa using c37
   (try (have z4 : decide (aG = t6 && (bG == t7)) = false:=by simpa using c37))
   (try (have z5 : (aG == t6 && (bG == t7)) = false:=by simpa using c37))
   (try (have z7 : ¬ (aG = t6 && (bG == t7)):=by simpa using c37))
   clear c37;replace H:=bK H;obtain ⟨t8,A47,H⟩:=H;(try dsimp only at H);replace H:=bK H;obtain ⟨t9,A48,H⟩:=H;(try dsimp only at H);simp only [Option.some.injEq,Prod.mk.injEq] at H;obtain ⟨rfl,rfl⟩:=H
   try go_wp2
   replace B0:=bU B0;replace B1:=bU B1;replace B2:=bU B2;replace HB:=iI HB;refine mI 3 (fun w'=>rf w' gb0 (.int .i64 ai) (.int .i64 aD)) gu (fun hHeld=>?_);generalize wc.drew = w49 at B0 B1 B2 HB hHeld ⊢;refine rC (i:=0) (N:=some 14) (v:=?_) (a':=?_) #[true,false,false] rfl rfl (by kernel_rfl) (fun _ _ _ h=>h) (Or.inl ⟨by rfl,?_⟩) hHeld ?_ ?_;rotate_left
   ·rintro w' ⟨s0,s1⟩
    go_simp
    with_reducible rfl
   rotate_left
   ·simp only [Act.put,List.setIfInBounds_toArray,List.set_cons_zero,List.set_cons_succ,iQ,lg]
    rfl
   refine uZ (i:=1) (N:=some 15) #[true,true,false] rfl rfl (by kernel_rfl) (by decide) (fun K hK=>?_);refine fF rfl func156 (fH.calls _ _ _ A27.o) ?_;intro w50 hb;refine dI B0 B1 B2 hb ?_;clear B0 B1 B2;intro B0 B1 B2;replace HB:=bX HB hb;(try clear hb);refine hK.out _ _ gu (fun hHeld=>?_);clear hK K;refine bP ?_;refine qZ (i:=2) (N:=some 16) (v:=?_) (a':=?_) #[true,true,true] rfl rfl (by kernel_rfl) (fun _ _ _ h=>h) (Or.inl ⟨by rfl,?_⟩) ?_ ?_;rotate_left
   ·intro w'
    go_simp
    with_reducible rfl
   rotate_left
   ·simp only [Act.put,List.setIfInBounds_toArray,List.set_cons_zero,List.set_cons_succ,iQ,lg]
    rfl
   refine eX (by kernel_rfl) ?_
   try go_wp2
   replace B0:=bU B0;replace B1:=bU B1;replace B2:=bU B2;replace HB:=iI HB;refine mI 3 (fun w'=>rf w' gb1 (.int .i64 aG) (.int .i64 bG)) gu (fun hHeld=>?_);generalize w50.drew = w51 at B0 B1 B2 HB hHeld ⊢;refine rC (i:=0) (N:=some 18) (v:=?_) (a':=?_) #[true,false,false] rfl rfl (by kernel_rfl) (fun _ _ _ h=>h) (Or.inl ⟨by rfl,?_⟩) hHeld ?_ ?_;rotate_left
   ·rintro w' ⟨s0,s1⟩
    go_simp
    with_reducible rfl
   rotate_left
   ·simp only [Act.put,List.setIfInBounds_toArray,List.set_cons_zero,List.set_cons_succ,iQ,lg]
    rfl
   refine uZ (i:=1) (N:=some 19) #[true,true,false] rfl rfl (by kernel_rfl) (by decide) (fun K hK=>?_);refine fF rfl func156 (fH.calls _ _ _ A36.o) ?_;intro w52 hb;refine dI B0 B1 B2 hb ?_;clear B0 B1 B2;intro B0 B1 B2;replace HB:=bX HB hb;(try clear hb);refine hK.out _ _ gu (fun hHeld=>?_);clear hK K;refine bP ?_;refine qZ (i:=2) (N:=some 20) (v:=?_) (a':=?_) #[true,true,true] rfl rfl (by kernel_rfl) (fun _ _ _ h=>h) (Or.inl ⟨by rfl,?_⟩) ?_ ?_;rotate_left
   ·intro w'
    go_simp
    with_reducible rfl
   rotate_left
   ·simp only [Act.put,List.setIfInBounds_toArray,List.set_cons_zero,List.set_cons_succ,iQ,lg]
    rfl
   refine eX (by kernel_rfl) ?_
   try go_wp2
   replace B0:=bU B0;replace B1:=bU B1;replace B2:=bU B2;replace HB:=iI HB;refine mI 12 (fun w'=>rf w' gb0 (.int .i64 ai) (.int .i64 aD)∧rf w' gb1 (.int .i64 aG) (.int .i64 bG)) gu (fun hHeld=>?_);refine bD dJ.xA dJ.uD (fun ax dM=>?_);generalize w52.drew = w53 at B0 B1 B2 HB hHeld ⊢;refine bC ax 0 22 ?_;refine bC ax 2 24 ?_;refine bC ax 5 27 ?_;refine bC ax 7 29 ?_;refine fA ax dM 1 23 hHeld ?_;refine fA ax dM 3 25 hHeld ?_;refine fA ax dM 6 28 hHeld ?_;refine fA ax dM 8 30 hHeld ?_;refine gL ax 4 26 (fun K hK=>?_);refine su rfl func170 (qH.calls _ _ _ _ A47.o) ?_;intro nd;refine hK.out _ _ gu (fun hHeld=>?_);clear hK K;refine bP ?_;refine gL ax 9 31 (fun K hK=>?_);refine su rfl func161 (pR.calls _ _ _ _ A48.o) ?_;intro nd;refine hK.out _ _ gu (fun hHeld=>?_);clear hK K;refine bP ?_;refine bC ax 10 32 ?_;refine xc ax 11 (fun K hK=>?_);obtain ⟨_,_,_,_⟩:=bE B2;obtain ⟨_,_,_,_⟩:=eY N0_2 N1_2;refine qP ?_;refine hK.out _ _ xH (fun hHeld=>?_);clear hK K;refine eX (cO ax.o (by kernel_rfl)) ?_
   try go_wp2
   refine iC #[.int .i64 t8,.int .i64 t9] (lV B2) underlying108 ?_;exact iw HB
end Go.Proofs.YtklkdpcopfjmcaaGreat.PFnExactAbsWiden
