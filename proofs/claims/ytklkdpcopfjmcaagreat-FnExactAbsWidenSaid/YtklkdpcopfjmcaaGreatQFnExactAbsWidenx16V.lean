/- Functions of the program as plain Lean functions, and that calls of them come to what these tell. Conditions: those in each law. -/
import Derived.Test.YtklkdpcopfjmcaaGreatSqV
import Derived.Test.YtklkdpcopfjmcaaGreatDFnExactAbsWidenV
import Derived.Test.YtklkdpcopfjmcaaGreatQFnExactAbsWidenx0V
import Derived.Test.YtklkdpcopfjmcaaGreatQFnExactAbsWidenx9V
import Derived.Test.YtklkdpcopfjmcaaGreatQFnExactAbsWidenx14V
namespace Go.Proofs.YtklkdpcopfjmcaaGreat.PFnExactAbsWiden
open Go.RowKit Tryz Go.Proofs.YtklkdpcopfjmcaaGreat.Sq Go.Proofs.YtklkdpcopfjmcaaGreatW.PrintWords Go.Proofs.YtklkdpcopfjmcaaGreatW.PrintLast Go.Proofs.YtklkdpcopfjmcaaGreatW.PrintMore
attribute [local go_sem] nV nT o8 pz mV mW nW nS 
set_option linter.unusedVariables false
set_option linter.unusedSimpArgs false
set_option maxHeartbeats 8000000
set_option maxRecDepth 100000
theorem cz.calls (k : Nat) (ai : Int) (bB : Option Addr) (bu : Nat) (av : List Int) (r : Bool) (w : World) (dB : Kd.C (Kd.int .i64) w bB av.length av) (dC : av.length ≤ bu) (h : cz.f k ai av = some r) :
  Calls prog 74 #[.agg #[.int .i64 ai,.slice bB av.length bu]] w fun e w'=>e = .returned (.bool r)∧Below w.heap.size w w':=by
 have hu32:=underlying32;have bZ:=af.mk dB;have dN:=af.mk dC;clear dB dC;have HB:=af.mk (Below.refl w.heap.size w);have H:=h;unfold cz.f at H;clear h;have HC2:=af.mk H;clear H;go_enter func74,ntmps74;go_upto_region 1 with (first | ((with_reducible refine gd 1 rfl ?_);(try (refine bJ (by rfl) ?_;dsimp only));refine eO 1 #[.int .i64 ai,.slice bB av.length bu] 32 HB ?_;clear HB;intro gb0 hg w3 hb B0 GW0 HB;clear hb hg))
 (try simp only [Act.put,List.setIfInBounds_toArray,List.set_cons_zero,List.set_cons_succ])
 go_cut [22] (fun v22 wc=>∃ (kq : Nat) (x0 : Bool),v22 = .bool x0∧af (cz.j0 kq x0 ai av = some r)∧af (kq ≤ k)∧af (wc.heap[gb0]? = some (.cells #[.int .i64 ai,(.slice bB av.length bu)] 32 (0,0)))∧af (Below w.heap.size w wc))
 case first =>
  have H:=HC2.o;clear HC2;replace H:=bK H;obtain ⟨t0,A4,H⟩:=H;(try dsimp only at H);rcases qm (t0 = true) with c5 | c5
  ·replace c5:=Bool.eq_false_iff.mpr c5;subst c5;rw [gD] at H;have H':=af.mk H;clear H;obtain ⟨_,_,_,_⟩:=bE B0;go_wp2_with (first | ((with_reducible refine gf 120 rfl ?_);refine mD rfl (some 8) func120 (iV.calls _ _ _ _ _ A4.o) ?_;intro nd));go_meet
   case rel=>exact ⟨_,(true),fw,H',⟨ng⟩,fE B0,lD HB⟩
  subst c5;rw [if_pos rfl] at H;have H':=af.mk H;clear H;obtain ⟨_,_,_,_⟩:=bE B0;go_wp2_with (first | ((with_reducible refine gf 120 rfl ?_);refine mD rfl (some 8) func120 (iV.calls _ _ _ _ _ A4.o) ?_;intro nd));go_meet
  case rel=>exact ⟨_,(((av.length : Int) != (wrap64 ((wrap64 (ai + 1)) * (wrap64 (ai + 1)))))),fw,H',⟨ng⟩,fE B0,lD HB⟩
 case rest =>
  clear HC2;obtain ⟨kq,x0,rfl,HA,HJ1,B0,HB⟩:=hcut;cases kq with
  | zero=>exact absurd HA.o (by simp [cz.j0])
  | succ kj1 =>
   have H:=HA.o;clear HA;simp only [cz.j0] at H
   by_cases c8 : x0 = true
   ·subst c8;rw [if_pos rfl] at H;obtain rfl:=Option.some.inj H
    go_wp2
    go_ret
    exact iw HB
   replace c8:=Bool.eq_false_iff.mpr c8;subst c8;rw [gD] at H;have H':=af.mk H;clear H
   go_wp2
   go_loopg [3] kj1 (fun kq v3 w'=>∃ (x1 : Int),v3 = .int .i64 x1∧af (cz.l0 kq x1 ai av = some r)∧af (kq ≤ kj1)∧af (w'.heap[gb0]? = some (.cells #[.int .i64 ai,(.slice bB av.length bu)] 32 (0,0)))∧af (Below w.heap.size w w'))
   case atStart=>exact ⟨(0),fw,H',⟨Nat.le_refl _⟩,fE B0,lD HB⟩
   case round =>
    clear H';obtain ⟨x1,rfl,HA,HK2,B0,HB⟩:=hrel;cases gk with
    | zero=>exact absurd HA.o (by simp [cz.l0])
    | succ k2 =>
     have H:=HA.o;clear HA;simp only [cz.l0] at H;replace H:=gy H;rcases H with ⟨c9,H⟩ | ⟨c9,H⟩
     ·have z0:=decide_eq_false c9;clear c9;obtain rfl:=Option.some.inj H;obtain ⟨_,_,_,_⟩:=bE B0
      go_wp2
      go_ret
      exact iw HB
     have z0:=decide_eq_true c9;clear c9;have H':=af.mk H;clear H;obtain ⟨_,_,_,_⟩:=bE B0
     go_wp2
     go_loopg [4] k2 (fun kq v4 w'=>∃ (x2 : Int),v4 = .int .i64 x2∧af (cz.l1 kq x1 x2 ai av = some r)∧af (kq ≤ k2)∧af (w'.heap[gb0]? = some (.cells #[.int .i64 ai,(.slice bB av.length bu)] 32 (0,0)))∧af (Below w.heap.size w w'))
     case atStart=>exact ⟨(0),fw,H',⟨Nat.le_refl _⟩,fE B0,lD HB⟩
     case round =>
      clear H';obtain ⟨x2,rfl,HA,HK3,B0,HB⟩:=hrel;cases gk with
      | zero=>exact absurd HA.o (by simp [cz.l1])
      | succ k3 =>
       have H:=HA.o;clear HA;simp only [cz.l1] at H;replace H:=gy H;rcases H with ⟨c11,H⟩ | ⟨c11,H⟩
       ·have z1:=decide_eq_false c11;clear c11;have H':=af.mk H;clear H;obtain ⟨_,_,_,_⟩:=bE B0
        go_wp2
        go_roundg k3
        case measure=>have:=HJ1.o;have:=HK2.o;have:=HK3.o;omega
        case rel=>exact ⟨(wrap64 (x1 + 1)),fw,H',⟨by have:=HJ1.o;have:=HK2.o;have:=HK3.o;omega⟩,fE B0,lD HB⟩
       have z1:=decide_eq_true c11;clear c11;replace H:=bK H;obtain ⟨t1,A12,H⟩:=H;(try dsimp only at H);replace H:=bK H;obtain ⟨t2,A13,H⟩:=H;(try dsimp only at H);rcases qm (t2 = true) with c14 | c14
       ·replace c14:=Bool.eq_false_iff.mpr c14;subst c14;rw [gD] at H;obtain rfl:=Option.some.inj H;obtain ⟨_,_,_,_⟩:=bE B0;go_wp2_with (first | ((with_reducible refine gf 135 rfl ?_);refine eZ rfl (some 38) func135 (oZ.calls _ _ _ _ _ _ _ _ (bN (Kd.aj bZ.o HB.o)) dN.o A12.o) ?_;intro w24 hb;replace B0:=bF B0 hb;replace HB:=bX HB hb;(try clear hb)) | ((with_reducible refine gf 120 rfl ?_);refine mD rfl (some 40) func120 (iV.calls _ _ _ _ _ A13.o) ?_;intro nd))
        go_ret
        exact iw HB
       subst c14;rw [if_pos rfl] at H;replace H:=gy H;rcases H with ⟨c15,H⟩ | ⟨c15,H⟩
       ·have z2 : (x1 == x2) = false:=beq_eq_false_iff_ne.mpr c15;have z3 : (x1 != x2) = true:=bne_iff_ne.mpr c15;have H':=af.mk H;clear H;obtain ⟨_,_,_,_⟩:=bE B0;go_wp2_with (first | ((with_reducible refine gf 135 rfl ?_);refine eZ rfl (some 38) func135 (oZ.calls _ _ _ _ _ _ _ _ (bN (Kd.aj bZ.o HB.o)) dN.o A12.o) ?_;intro w22 hb;replace B0:=bF B0 hb;replace HB:=bX HB hb;(try clear hb)) | ((with_reducible refine gf 120 rfl ?_);refine mD rfl (some 40) func120 (iV.calls _ _ _ _ _ A13.o) ?_;intro nd));go_roundg k3
        case measure=>have:=HJ1.o;have:=HK2.o;have:=HK3.o;omega
        case rel=>exact ⟨(wrap64 (x2 + 1)),fw,H',⟨by have:=HJ1.o;have:=HK2.o;have:=HK3.o;omega⟩,fE B0,lD HB⟩
       have z2 : (x1 == x2) = true:=beq_iff_eq.mpr c15;have z3 : (x1 != x2) = false:=bne_eq_false_iff_eq.mpr c15;clear c15;replace H:=gy H;rcases H with ⟨c16,H⟩ | ⟨c16,H⟩
       ·have z4 : (t1 == 0) = false:=beq_eq_false_iff_ne.mpr c16;have z5 : (t1 != 0) = true:=bne_iff_ne.mpr c16;obtain rfl:=Option.some.inj H;obtain ⟨_,_,_,_⟩:=bE B0;go_wp2_with (first | ((with_reducible refine gf 135 rfl ?_);refine eZ rfl (some 38) func135 (oZ.calls _ _ _ _ _ _ _ _ (bN (Kd.aj bZ.o HB.o)) dN.o A12.o) ?_;intro w20 hb;replace B0:=bF B0 hb;replace HB:=bX HB hb;(try clear hb)) | ((with_reducible refine gf 120 rfl ?_);refine mD rfl (some 40) func120 (iV.calls _ _ _ _ _ A13.o) ?_;intro nd))
        go_ret
        exact iw HB
       have z4 : (t1 == 0) = true:=beq_iff_eq.mpr c16;have z5 : (t1 != 0) = false:=bne_eq_false_iff_eq.mpr c16;clear c16;have H':=af.mk H;clear H;obtain ⟨_,_,_,_⟩:=bE B0;go_wp2_with (first | ((with_reducible refine gf 135 rfl ?_);refine eZ rfl (some 38) func135 (oZ.calls _ _ _ _ _ _ _ _ (bN (Kd.aj bZ.o HB.o)) dN.o A12.o) ?_;intro w18 hb;replace B0:=bF B0 hb;replace HB:=bX HB hb;(try clear hb)) | ((with_reducible refine gf 120 rfl ?_);refine mD rfl (some 40) func120 (iV.calls _ _ _ _ _ A13.o) ?_;intro nd));go_roundg k3
       case measure=>have:=HJ1.o;have:=HK2.o;have:=HK3.o;omega
       case rel=>exact ⟨(wrap64 (x2 + 1)),fw,H',⟨by have:=HJ1.o;have:=HK2.o;have:=HK3.o;omega⟩,fE B0,lD HB⟩
theorem gF.calls (k : Nat) (ai : Bool) (bB : Option Addr) (bu : Nat) (av : List (bV)) (dS : Option Addr) (dD : Nat) (ay : List (fT)) (dK : Option Addr) (dE : Nat) (aK : List (bV)) (bf : Int) (dH : Option Addr) (dF : Nat) (bz : List Int) (r : Bool) (w : World) (dB : Kd.C mo w bB av.length av) (dC : av.length ≤ bu) (iJ : Kd.C pW w dS ay.length ay) (iK : ay.length ≤ dD) (iL : Kd.C mo w dK aK.length aK) (iN : aK.length ≤ dE) (iM : Kd.C (Kd.int .i64) w dH bz.length bz) (iO : bz.length ≤ dF) (h : gF.f k ai av ay aK bf bz = some r) :
  Calls prog 26 #[.agg #[.bool ai,.slice bB av.length bu,.slice dS ay.length dD,.slice dK aK.length dE,.int .i64 bf,.slice dH bz.length dF]] w fun e w'=>e = .returned (.bool r)∧Below w.heap.size w w':=by
 have hu34:=underlying34;have hu84:=underlying84;have hu32:=underlying32;have bZ:=af.mk dB;have dN:=af.mk dC;clear dB dC;have gY:=af.mk iJ;have lh:=af.mk iK;clear iJ iK;have iy:=af.mk iL;have lC:=af.mk iN;clear iL iN;have iE:=af.mk iM;have iF:=af.mk iO;clear iM iO;have HB:=af.mk (Below.refl w.heap.size w);have H:=h;unfold gF.f at H;clear h;rcases qm (ai = true) with c2 | c2
 ·replace c2:=Bool.eq_false_iff.mpr c2;subst c2;rw [gD] at H;replace H:=gy H;rcases H with ⟨c38,H⟩ | ⟨c38,H⟩
  ·have zd : ((av.length : Int) == 0) = false:=beq_eq_false_iff_ne.mpr c38;have ze : ((av.length : Int) != 0) = true:=bne_iff_ne.mpr c38
   have zp : ¬ (av = []):=fun h_=>c38 (by rw [h_];rfl)
   obtain rfl:=Option.some.inj H;go_enter func26,ntmps26;go_wp2_with (first | ((with_reducible refine gd 1 rfl ?_);(try (refine bJ (by rfl) ?_;dsimp only));refine eO 1 #[.bool false,.slice bB av.length bu,.slice dS ay.length dD,.slice dK aK.length dE,.int .i64 bf,.slice dH bz.length dF] 34 HB ?_;clear HB;intro gb0 hg w50 hb B0 GW0 HB;clear hb hg;obtain ⟨_,_,_,_,_,_,_,_,_,_,_,_⟩:=bH B0))
   go_ret
   exact iw HB
  have zd : ((av.length : Int) == 0) = true:=beq_iff_eq.mpr c38;have ze : ((av.length : Int) != 0) = false:=bne_eq_false_iff_eq.mpr c38;clear c38;replace H:=gy H;rcases H with ⟨c39,H⟩ | ⟨c39,H⟩
  ·have zf : ((ay.length : Int) == 0) = false:=beq_eq_false_iff_ne.mpr c39;have zg : ((ay.length : Int) != 0) = true:=bne_iff_ne.mpr c39
   have zq : ¬ (ay = []):=fun h_=>c39 (by rw [h_];rfl)
   obtain rfl:=Option.some.inj H;go_enter func26,ntmps26;go_wp2_with (first | ((with_reducible refine gd 1 rfl ?_);(try (refine bJ (by rfl) ?_;dsimp only));refine eO 1 #[.bool false,.slice bB av.length bu,.slice dS ay.length dD,.slice dK aK.length dE,.int .i64 bf,.slice dH bz.length dF] 34 HB ?_;clear HB;intro gb0 hg w48 hb B0 GW0 HB;clear hb hg;obtain ⟨_,_,_,_,_,_,_,_,_,_,_,_⟩:=bH B0))
   go_ret
   exact iw HB
  have zf : ((ay.length : Int) == 0) = true:=beq_iff_eq.mpr c39;have zg : ((ay.length : Int) != 0) = false:=bne_eq_false_iff_eq.mpr c39;clear c39;replace H:=gy H;rcases H with ⟨c40,H⟩ | ⟨c40,H⟩
  ·have zh : ((aK.length : Int) == 0) = false:=beq_eq_false_iff_ne.mpr c40;have zi : ((aK.length : Int) != 0) = true:=bne_iff_ne.mpr c40
   have zr : ¬ (aK = []):=fun h_=>c40 (by rw [h_];rfl)
   obtain rfl:=Option.some.inj H;go_enter func26,ntmps26;go_wp2_with (first | ((with_reducible refine gd 1 rfl ?_);(try (refine bJ (by rfl) ?_;dsimp only));refine eO 1 #[.bool false,.slice bB av.length bu,.slice dS ay.length dD,.slice dK aK.length dE,.int .i64 bf,.slice dH bz.length dF] 34 HB ?_;clear HB;intro gb0 hg w46 hb B0 GW0 HB;clear hb hg;obtain ⟨_,_,_,_,_,_,_,_,_,_,_,_⟩:=bH B0))
   go_ret
   exact iw HB
  have zh : ((aK.length : Int) == 0) = true:=beq_iff_eq.mpr c40;have zi : ((aK.length : Int) != 0) = false:=bne_eq_false_iff_eq.mpr c40;clear c40;replace H:=gy H;rcases H with ⟨c41,H⟩ | ⟨c41,H⟩
  ·have zj : (bf == 0) = false:=beq_eq_false_iff_ne.mpr c41;have zk : (bf != 0) = true:=bne_iff_ne.mpr c41;obtain rfl:=Option.some.inj H;go_enter func26,ntmps26;go_wp2_with (first | ((with_reducible refine gd 1 rfl ?_);(try (refine bJ (by rfl) ?_;dsimp only));refine eO 1 #[.bool false,.slice bB av.length bu,.slice dS ay.length dD,.slice dK aK.length dE,.int .i64 bf,.slice dH bz.length dF] 34 HB ?_;clear HB;intro gb0 hg w44 hb B0 GW0 HB;clear hb hg;obtain ⟨_,_,_,_,_,_,_,_,_,_,_,_⟩:=bH B0))
   go_ret
   exact iw HB
  have zj : (bf == 0) = true:=beq_iff_eq.mpr c41;have zk : (bf != 0) = false:=bne_eq_false_iff_eq.mpr c41;clear c41;obtain rfl:=Option.some.inj H;go_enter func26,ntmps26;go_wp2_with (first | ((with_reducible refine gd 1 rfl ?_);(try (refine bJ (by rfl) ?_;dsimp only));refine eO 1 #[.bool false,.slice bB av.length bu,.slice dS ay.length dD,.slice dK aK.length dE,.int .i64 bf,.slice dH bz.length dF] 34 HB ?_;clear HB;intro gb0 hg w42 hb B0 GW0 HB;clear hb hg;obtain ⟨_,_,_,_,_,_,_,_,_,_,_,_⟩:=bH B0))
  go_ret
  exact iw HB
 subst c2;rw [if_pos rfl] at H;have H':=af.mk H;clear H;go_enter func26,ntmps26;go_wp2_with (first | ((with_reducible refine gd 1 rfl ?_);(try (refine bJ (by rfl) ?_;dsimp only));refine eO 1 #[.bool true,.slice bB av.length bu,.slice dS ay.length dD,.slice dK aK.length dE,.int .i64 bf,.slice dH bz.length dF] 34 HB ?_;clear HB;intro gb0 hg w3 hb B0 GW0 HB;clear hb hg;obtain ⟨_,_,_,_,_,_,_,_,_,_,_,_⟩:=bH B0))
 go_loopg [3] k (fun kq v3 w'=>∃ (x0 : Int),v3 = .int .i64 x0∧af (gF.l0 kq x0 true av ay aK bf bz = some r)∧af (kq ≤ k)∧af (w'.heap[gb0]? = some (.cells #[.bool true,(.slice bB av.length bu),(.slice dS ay.length dD),(.slice dK aK.length dE),.int .i64 bf,(.slice dH bz.length dF)] 34 (0,0)))∧af (Below w.heap.size w w'))
 case atStart=>exact ⟨(0),fw,H',⟨Nat.le_refl _⟩,fE B0,lD HB⟩
 case round =>
  clear H';obtain ⟨x0,rfl,HA,HK1,B0,HB⟩:=hrel;cases gk with
  | zero=>exact absurd HA.o (by simp [gF.l0])
  | succ k1 =>
   have H:=HA.o;clear HA;simp only [gF.l0] at H;replace H:=qc H;rcases H with ⟨c5,H⟩ | ⟨c5,H⟩
   ·have zl:=decide_eq_true c5;clear c5;replace H:=gy H;rcases H with ⟨c6,H⟩ | ⟨c6,H⟩
    ·cases H
    have zt:=decide_eq_true c6;clear c6;replace H:=bK H;obtain ⟨t0,A7,H⟩:=H;(try dsimp only at H);rcases qm (t0 = true) with c8 | c8
    ·replace c8:=Bool.eq_false_iff.mpr c8;subst c8;rw [gD] at H;obtain rfl:=Option.some.inj H;obtain ⟨_,_,_,_,_,_,_,_,_,_,_,_⟩:=bH B0;have z0 : 0 ≤ (x0 : Int):=df;have z1 : x0 < (ay.length : Int):=df;obtain ⟨zm,zn,zo,za,z2,z3,z4,z5,z6,z7,z8,z9⟩:=ik gY.o x0 z0 z1;cases za;replace z2:=aX HB z2;replace z3:=aX HB z3;replace z4:=aX HB z4;replace z5:=aX HB z5;replace z6:=aX HB z6;replace z7:=aX HB z7;have zb:=af.mk z9;have zc:=af.mk z8;clear z9 z8;replace z0:=eq_true z0;replace z1:=eq_true z1;go_wp2_with (first | ((with_reducible refine gf 72 rfl ?_);refine eZ rfl (some 48) func72 (aT.calls _ _ _ _ _ _ _ _ _ _ _ (bN (Kd.aj zb.o HB.o)) zc.o A7.o) ?_;intro w12 hb;replace B0:=bF B0 hb;replace HB:=bX HB hb;(try clear hb)))
     go_ret
     exact iw HB
    subst c8;rw [if_pos rfl] at H;have H':=af.mk H;clear H;obtain ⟨_,_,_,_,_,_,_,_,_,_,_,_⟩:=bH B0;have z0 : 0 ≤ (x0 : Int):=df;have z1 : x0 < (ay.length : Int):=df;obtain ⟨zm,zn,zo,za,z2,z3,z4,z5,z6,z7,z8,z9⟩:=ik gY.o x0 z0 z1;cases za;replace z2:=aX HB z2;replace z3:=aX HB z3;replace z4:=aX HB z4;replace z5:=aX HB z5;replace z6:=aX HB z6;replace z7:=aX HB z7;have zb:=af.mk z9;have zc:=af.mk z8;clear z9 z8;replace z0:=eq_true z0;replace z1:=eq_true z1;go_wp2_with (first | ((with_reducible refine gf 72 rfl ?_);refine eZ rfl (some 48) func72 (aT.calls _ _ _ _ _ _ _ _ _ _ _ (bN (Kd.aj zb.o HB.o)) zc.o A7.o) ?_;intro w10 hb;replace B0:=bF B0 hb;replace HB:=bX HB hb;(try clear hb)));go_roundg k1
    case measure=>have:=HK1.o;omega
    case rel=>exact ⟨(wrap64 (x0 + 1)),fw,H',⟨by have:=HK1.o;omega⟩,fE B0,lD HB⟩
   have zl:=decide_eq_false c5;clear c5;replace H:=bK H;obtain ⟨t1,A13,H⟩:=H;(try dsimp only at H);rcases qm (t1 = true) with c14 | c14
   ·replace c14:=Bool.eq_false_iff.mpr c14;subst c14;rw [gD] at H;obtain rfl:=Option.some.inj H;obtain ⟨_,_,_,_,_,_,_,_,_,_,_,_⟩:=bH B0;go_wp2_with (first | ((with_reducible refine gf 73 rfl ?_);refine eZ rfl (some 52) func73 (dh.calls _ _ _ _ _ _ (bN (Kd.aj bZ.o HB.o)) dN.o A13.o) ?_;intro w37 hb;replace B0:=bF B0 hb;replace HB:=bX HB hb;(try clear hb)))
    go_ret
    exact iw HB
   subst c14;rw [if_pos rfl] at H;replace H:=bK H;obtain ⟨t2,A15,H⟩:=H;(try dsimp only at H);rcases qm (t2 = true) with c16 | c16
   ·replace c16:=Bool.eq_false_iff.mpr c16;subst c16;rw [gD] at H;obtain rfl:=Option.some.inj H;obtain ⟨_,_,_,_,_,_,_,_,_,_,_,_⟩:=bH B0;go_wp2_with (first | ((with_reducible refine gf 73 rfl ?_);refine eZ rfl (some 52) func73 (dh.calls _ _ _ _ _ _ (bN (Kd.aj bZ.o HB.o)) dN.o A13.o) ?_;intro w33 hb;replace B0:=bF B0 hb;replace HB:=bX HB hb;(try clear hb);obtain ⟨_,_,_,_,_,_,_,_,_,_,_,_⟩:=bH B0) | (go_at_call 73;(with_reducible refine (dh.calls k1 _ _ aK false _ ?side1 ?side2 A15.o).mono ?_);(case side1=>exact bN (Kd.aj iy.o HB.o));(case side2=>exact lC.o);rintro e w35 ⟨rfl,hb⟩;replace B0:=bF B0 hb;replace HB:=bX HB hb;(try clear hb)))
    go_ret
    exact iw HB
   subst c16;rw [if_pos rfl] at H;replace H:=bK H;obtain ⟨t3,A17,H⟩:=H;(try dsimp only at H);rcases qm (t3 = true) with c18 | c18
   ·replace c18:=Bool.eq_false_iff.mpr c18;subst c18;rw [gD] at H;obtain rfl:=Option.some.inj H;obtain ⟨_,_,_,_,_,_,_,_,_,_,_,_⟩:=bH B0;go_wp2_with (first | ((with_reducible refine gf 73 rfl ?_);refine eZ rfl (some 52) func73 (dh.calls _ _ _ _ _ _ (bN (Kd.aj bZ.o HB.o)) dN.o A13.o) ?_;intro w27 hb;replace B0:=bF B0 hb;replace HB:=bX HB hb;(try clear hb);obtain ⟨_,_,_,_,_,_,_,_,_,_,_,_⟩:=bH B0) | (go_at_call 73;(with_reducible refine (dh.calls k1 _ _ aK true _ ?side1 ?side2 A15.o).mono ?_);(case side1=>exact bN (Kd.aj iy.o HB.o));(case side2=>exact lC.o);rintro e w29 ⟨rfl,hb⟩;replace B0:=bF B0 hb;replace HB:=bX HB hb;(try clear hb);obtain ⟨_,_,_,_,_,_,_,_,_,_,_,_⟩:=bH B0) | (go_at_call 74;(with_reducible refine (cz.calls k1 bf _ _ bz false _ ?side1 ?side2 A17.o).mono ?_);(case side1=>exact bN (Kd.aj iE.o HB.o));(case side2=>exact iF.o);rintro e w31 ⟨rfl,hb⟩;replace B0:=bF B0 hb;replace HB:=bX HB hb;(try clear hb)))
    go_ret
    exact iw HB
   subst c18;rw [if_pos rfl] at H;obtain rfl:=Option.some.inj H;obtain ⟨_,_,_,_,_,_,_,_,_,_,_,_⟩:=bH B0;go_wp2_with (first | ((with_reducible refine gf 73 rfl ?_);refine eZ rfl (some 52) func73 (dh.calls _ _ _ _ _ _ (bN (Kd.aj bZ.o HB.o)) dN.o A13.o) ?_;intro w20 hb;replace B0:=bF B0 hb;replace HB:=bX HB hb;(try clear hb);obtain ⟨_,_,_,_,_,_,_,_,_,_,_,_⟩:=bH B0) | (go_at_call 73;(with_reducible refine (dh.calls k1 _ _ aK true _ ?side1 ?side2 A15.o).mono ?_);(case side1=>exact bN (Kd.aj iy.o HB.o));(case side2=>exact lC.o);rintro e w22 ⟨rfl,hb⟩;replace B0:=bF B0 hb;replace HB:=bX HB hb;(try clear hb);obtain ⟨_,_,_,_,_,_,_,_,_,_,_,_⟩:=bH B0) | (go_at_call 74;(with_reducible refine (cz.calls k1 bf _ _ bz true _ ?side1 ?side2 A17.o).mono ?_);(case side1=>exact bN (Kd.aj iE.o HB.o));(case side2=>exact iF.o);rintro e w24 ⟨rfl,hb⟩;replace B0:=bF B0 hb;replace HB:=bX HB hb;(try clear hb);obtain ⟨_,_,_,_,_,_,_,_,_,_,_,_⟩:=bH B0))
   go_ret
   exact iw HB
theorem aY.calls (k : Nat) (A0 : Option Addr) (c0 : Nat) (l0 : List Int) (A1 : Option Addr) (c1 : Nat) (l1 : List Int) (r : List Int) (w : World) (hr0 : Kd.C (Kd.int .i64) w A0 l0.length l0) (hc0 : l0.length ≤ c0) (hr1 : Kd.C (Kd.int .i64) w A1 l1.length l1) (hc1 : l1.length ≤ c1) (h : aY.f k l0 l1 = some r) :
  Calls prog 103 #[.slice A0 l0.length c0,.slice A1 l1.length c1] w fun e w'=>∃ v0_ : Value,e = .returned (v0_)∧Kd.R (Kd.int .i64) 3 w' w.heap.size (fun _=>True) v0_ r∧Below w.heap.size w w':=by
 have HR0:=af.mk hr0;have HC0:=af.mk hc0;clear hr0 hc0;have HR1:=af.mk hr1;have HC1:=af.mk hc1;clear hr1 hc1;have HB:=af.mk (Below.refl w.heap.size w);have H:=h;unfold aY.f at H;clear h;obtain ⟨zE,z6⟩ : ∃ y_ : List Int,y_ = (([] : List Int)):=⟨_,rfl⟩
 replace H : (aY.l0 k l0 l1 zE 0 0) = some r:=sj z6 H
 have z5:=af.mk z6;clear z6;have H':=af.mk H;clear H;go_enter func103,ntmps103;go_wp2_with (first | ((with_reducible refine gd 8 rfl ?_);(try (refine bJ (by rfl) ?_;dsimp only));refine Kd.yB (Kd.int .i64) _ 3 ?hg (N:=8) ?hd (xs:=([] : List Int)) (inner:=[]) (ok:=fun _=>True) (okp:=fun _=>True) ?hr ?hp (fun _ hk=>hk) trivial (Below.refl _ _) (Nat.le_refl _) (by simp) ?_;(case hd=>rfl);(case hg=>rfl);(case hr=>first | (go_simp;done) | (go_simp;rfl));(case hp=>exact (iX.none _ _));intro zF w3 ho4 hb hg_ hnew_;clear hg_ hnew_;(first | rw [← z5.o] at ho4 | (simp only [Int.reduceToNat] at ho4;rw [← z5.o] at ho4));have zf:=mZ ho4 HB;replace HB:=bX HB hb;clear hb ho4))
 repeat (go_quiet (first | ((with_reducible refine gd 8 rfl ?_);(try (refine bJ (by rfl) ?_;dsimp only));refine Kd.yB (Kd.int .i64) _ 3 ?hg (N:=8) ?hd (xs:=([] : List Int)) (inner:=[]) (ok:=fun _=>True) (okp:=fun _=>True) ?hr ?hp (fun _ hk=>hk) trivial (Below.refl _ _) (Nat.le_refl _) (by simp) ?_;(case hd=>rfl);(case hg=>rfl);(case hr=>first | (go_simp;done) | (go_simp;rfl));(case hp=>exact (iX.none _ _));intro zF w3 ho4 hb hg_ hnew_;clear hg_ hnew_;(first | rw [← z5.o] at ho4 | (simp only [Int.reduceToNat] at ho4;rw [← z5.o] at ho4));have zf:=mZ ho4 HB;replace HB:=bX HB hb;clear hb ho4));try go_wp2_with (first | ((with_reducible refine gd 8 rfl ?_);(try (refine bJ (by rfl) ?_;dsimp only));refine Kd.yB (Kd.int .i64) _ 3 ?hg (N:=8) ?hd (xs:=([] : List Int)) (inner:=[]) (ok:=fun _=>True) (okp:=fun _=>True) ?hr ?hp (fun _ hk=>hk) trivial (Below.refl _ _) (Nat.le_refl _) (by simp) ?_;(case hd=>rfl);(case hg=>rfl);(case hr=>first | (go_simp;done) | (go_simp;rfl));(case hp=>exact (iX.none _ _));intro zF w3 ho4 hb hg_ hnew_;clear hg_ hnew_;(first | rw [← z5.o] at ho4 | (simp only [Int.reduceToNat] at ho4;rw [← z5.o] at ho4));have zf:=mZ ho4 HB;replace HB:=bX HB hb;clear hb ho4)))
 go_loopg [5,6,7] k (fun kq v5 v6 v7 w'=>∃ (x0 : List Int) (x1 : Int) (x2 : Int),v6 = .int .i64 x1∧v7 = .int .i64 x2∧af (aY.l0 kq l0 l1 x0 x1 x2 = some r)∧af (kq ≤ k)∧af (Kd.R (Kd.int .i64) 3 w' w.heap.size (fun _=>True) v5 x0)∧af (Below w.heap.size w w'))
 case atStart=>exact ⟨(zE),(0),(0),fw,fw,H',⟨Nat.le_refl _⟩,⟨lI zf.o⟩,lD HB⟩
 case round =>
  clear H';obtain ⟨x0,x1,x2,rfl,rfl,HA,HK1,z0,HB⟩:=hrel;cases gk with
  | zero=>exact absurd HA.o (by simp [aY.l0])
  | succ k1 =>
   have H:=HA.o;clear HA;simp only [aY.l0] at H;have HC5:=af.mk H;clear H;go_upto_region 4 with (fail)
   repeat (go_quiet (fail);go_upto_region 4 with (fail))
   go_cut [18] (fun v18 wc=>∃ (kq : Nat) (x3 : Bool),v18 = .bool x3∧af (aY.j1 kq l0 l1 x0 x1 x2 x3 = some r)∧af (kq ≤ k1)∧af (Kd.R (Kd.int .i64) 3 wc w.heap.size (fun _=>True) u5 x0)∧af (Below w.heap.size w wc))
   case first =>
    have H:=HC5.o;clear HC5;replace H:=qc H;rcases H with ⟨c6,H⟩ | ⟨c6,H⟩
    ·have z7:=decide_eq_true c6;clear c6
     (first | rw [z7] | (simp only [iQ,lg];rw [z7]) | skip)
     have H':=af.mk H;clear H
     go_wp2
     repeat (go_quiet (fail);try go_wp2)
     go_meet
     case rel=>exact ⟨_,(true),fw,H',⟨by have:=HK1.o;first | omega | exact Nat.le_refl _⟩,⟨lI z0.o⟩,lD HB⟩
    have z7:=decide_eq_false c6;clear c6
    (first | rw [z7] | (simp only [iQ,lg];rw [z7]) | skip)
    have H':=af.mk H;clear H
    go_wp2
    repeat (go_quiet (fail);try go_wp2)
    go_meet
    case rel=>exact ⟨_,(decide (x2 < (l1.length : Int))),fw,H',⟨by have:=HK1.o;first | omega | exact Nat.le_refl _⟩,⟨lI z0.o⟩,lD HB⟩
   case rest =>
    clear HC5;obtain ⟨kq,x3,rfl,HA,HJ4,z0,HB⟩:=hcut;cases kq with
    | zero=>exact absurd HA.o (by simp [aY.j1])
    | succ kj4 =>
     have H:=HA.o;clear HA;simp only [aY.j1] at H;rcases qm (x3 = true) with c7 | c7
     ·replace c7:=Bool.eq_false_iff.mpr c7;subst c7;rw [gD] at H;obtain rfl:=Option.some.inj H
      go_wp2
      repeat (go_quiet (fail);try go_wp2)
      go_ret
      exact ⟨_,qB,lI z0.o,ig HB⟩
     subst c7;rw [if_pos rfl] at H;have HC8:=af.mk H;clear H;go_upto_region 5 with (fail)
     repeat (go_quiet (fail);go_upto_region 5 with (fail))
     go_cut [39] (fun v39 wc=>∃ (kq : Nat) (x4 : Bool),v39 = .bool x4∧af (aY.j2 kq l0 l1 x0 x1 x2 x4 = some r)∧af (kq ≤ kj4)∧af (Kd.R (Kd.int .i64) 3 wc w.heap.size (fun _=>True) u5 x0)∧af (Below w.heap.size w wc))
     case first =>
      have H:=HC8.o;clear HC8;replace H:=qc H;rcases H with ⟨c9,H⟩ | ⟨c9,H⟩
      ·have z8 : decide ((l1.length : Int) ≤ x2) = true:=decide_eq_true c9;clear c9
       (first | rw [z8] | (simp only [iQ,lg];rw [z8]) | skip)
       have H':=af.mk H;clear H
       go_wp2
       repeat (go_quiet (fail);try go_wp2)
       go_meet
       case rel=>exact ⟨_,(true),fw,H',⟨by have:=HK1.o;have:=HJ4.o;first | omega | exact Nat.le_refl _⟩,⟨lI z0.o⟩,lD HB⟩
      have z8 : decide ((l1.length : Int) ≤ x2) = false:=decide_eq_false c9;clear c9
      (first | rw [z8] | (simp only [iQ,lg];rw [z8]) | skip)
      replace H:=gy H;rcases H with ⟨c10,H⟩ | ⟨c10,H⟩
      ·have zU:=decide_eq_false c10;clear c10;have H':=af.mk H;clear H
       go_wp2
       repeat (go_quiet (fail);try go_wp2)
       go_meet
       case rel=>exact ⟨_,(false),fw,H',⟨by have:=HK1.o;have:=HJ4.o;first | omega | exact Nat.le_refl _⟩,⟨lI z0.o⟩,lD HB⟩
      have zU:=decide_eq_true c10;clear c10;replace H:=gy H;rcases H with ⟨c11,H⟩ | ⟨c11,H⟩
      ·cases H
      have j9:=decide_eq_true c11;clear c11;replace H:=gy H;rcases H with ⟨c12,H⟩ | ⟨c12,H⟩
      ·cases H
      have ja:=decide_eq_true c12;clear c12;replace H:=gy H;rcases H with ⟨c13,H⟩ | ⟨c13,H⟩
      ·cases H
      have jb:=decide_eq_true c13;clear c13;have H':=af.mk H;clear H;have zg : 0 ≤ (x1 : Int):=df;have zh : x1 < (l0.length : Int):=df;obtain ⟨jc,zV,zG⟩:=Kd.eB HR0.o x1 zg zh;cases zV;replace zG:=aX HB zG;replace zg:=eq_true zg;replace zh:=eq_true zh;have zi : 0 ≤ (x2 : Int):=df;have zj : x2 < (l1.length : Int):=df;obtain ⟨jd,zW,zH⟩:=Kd.eB HR1.o x2 zi zj;cases zW;replace zH:=aX HB zH;replace zi:=eq_true zi;replace zj:=eq_true zj
      go_wp2
      repeat (go_quiet (fail);try go_wp2)
      go_meet
      case rel=>exact ⟨_,(decide ((rd l0 x1) < (rd l1 x2))),fw,H',⟨by have:=HK1.o;have:=HJ4.o;first | omega | exact Nat.le_refl _⟩,⟨lI z0.o⟩,lD HB⟩
     case rest =>
      clear HC8;obtain ⟨kq,x4,rfl,HA,HJ7,z0,HB⟩:=hcut;cases kq with
      | zero=>exact absurd HA.o (by simp [aY.j2])
      | succ kj7 =>
       have H:=HA.o;clear HA;simp only [aY.j2] at H
       by_cases c14 : x4 = true
       ·subst c14;rw [if_pos rfl] at H;replace H:=gy H;rcases H with ⟨c15,H⟩ | ⟨c15,H⟩
        ·cases H
        have je:=decide_eq_true c15;clear c15;replace H:=gy H;rcases H with ⟨c16,H⟩ | ⟨c16,H⟩
        ·cases H
        have jf:=decide_eq_true c16;clear c16;replace H:=gy H;rcases H with ⟨c17,H⟩ | ⟨c17,H⟩
        ·cases H
        have LMc17:=af.mk c17;clear c17;obtain ⟨zI,z9⟩ : ∃ y_ : List Int,y_ = (x0 ++ [rd l0 x1]):=⟨_,rfl⟩
        replace H : (aY.l0 kj7 l0 l1 zI (wrap64 (x1 + 1)) x2) = some r:=sj z9 H
        have zk:=af.mk z9;clear z9;have H':=af.mk H;clear H;have zl : 0 ≤ (x1 : Int):=df;have zm : x1 < (l0.length : Int):=df;obtain ⟨jg,zX,zJ⟩:=Kd.eB HR0.o x1 zl zm;cases zX;replace zJ:=aX HB zJ;replace zl:=eq_true zl;replace zm:=eq_true zm;go_wp2_with (first | ((with_reducible refine eU (b:=.append) (xs:=#[.tmp 40,.tmp 45]) rfl ?_);(try (refine bJ (by rfl) ?_;dsimp only));at_builtin;refine Kd.lq (Kd.int .i64) (w0:=w) w.heap.size rfl (.tmp 40) (.tmp 45) 24 3 (.int .i64 0) 8 rfl underlying24 info3 rfl (by decide) (by omega) u5 x0 (rd l0 x1) [.int .i64 (rd l0 x1)] (fun _=>True) (fun _=>False) rfl rfl ?aP (fun _ hk=>hk.elim) ?aF ?aO ?aB ?aS ?aL ?_;(case aP=>exact rfl);(case aB=>exact (ig HB));(case aF=>exact (fun _ _=>trivial));(case aO=>exact (lI z0.o));(case aS=>exact (bA (ig HB)));(case aL=>have:=LMc17.o;omega);intro zK w18 ho hb hg hat;rw [← zk.o] at ho;have zn:=af.mk (ho);replace HB:=af.mk (hb);clear z0;clear ho hb hg hat))
        repeat (go_quiet (first | ((with_reducible refine eU (b:=.append) (xs:=#[.tmp 40,.tmp 45]) rfl ?_);(try (refine bJ (by rfl) ?_;dsimp only));at_builtin;refine Kd.lq (Kd.int .i64) (w0:=w) w.heap.size rfl (.tmp 40) (.tmp 45) 24 3 (.int .i64 0) 8 rfl underlying24 info3 rfl (by decide) (by omega) u5 x0 (rd l0 x1) [.int .i64 (rd l0 x1)] (fun _=>True) (fun _=>False) rfl rfl ?aP (fun _ hk=>hk.elim) ?aF ?aO ?aB ?aS ?aL ?_;(case aP=>exact rfl);(case aB=>exact (ig HB));(case aF=>exact (fun _ _=>trivial));(case aO=>exact (lI z0.o));(case aS=>exact (bA (ig HB)));(case aL=>have:=LMc17.o;omega);intro zK w18 ho hb hg hat;rw [← zk.o] at ho;have zn:=af.mk (ho);replace HB:=af.mk (hb);clear z0;clear ho hb hg hat));try go_wp2_with (first | ((with_reducible refine eU (b:=.append) (xs:=#[.tmp 40,.tmp 45]) rfl ?_);(try (refine bJ (by rfl) ?_;dsimp only));at_builtin;refine Kd.lq (Kd.int .i64) (w0:=w) w.heap.size rfl (.tmp 40) (.tmp 45) 24 3 (.int .i64 0) 8 rfl underlying24 info3 rfl (by decide) (by omega) u5 x0 (rd l0 x1) [.int .i64 (rd l0 x1)] (fun _=>True) (fun _=>False) rfl rfl ?aP (fun _ hk=>hk.elim) ?aF ?aO ?aB ?aS ?aL ?_;(case aP=>exact rfl);(case aB=>exact (ig HB));(case aF=>exact (fun _ _=>trivial));(case aO=>exact (lI z0.o));(case aS=>exact (bA (ig HB)));(case aL=>have:=LMc17.o;omega);intro zK w18 ho hb hg hat;rw [← zk.o] at ho;have zn:=af.mk (ho);replace HB:=af.mk (hb);clear z0;clear ho hb hg hat)))
        go_roundg kj7
        case measure=>have:=HK1.o;have:=HJ4.o;have:=HJ7.o;omega
        case rel=>exact ⟨(zI),(wrap64 (x1 + 1)),(x2),fw,fw,H',⟨by have:=HK1.o;have:=HJ4.o;have:=HJ7.o;omega⟩,⟨lI zn.o⟩,lD HB⟩
       replace c14:=Bool.eq_false_iff.mpr c14;subst c14;rw [gD] at H;replace H:=gy H;rcases H with ⟨c19,H⟩ | ⟨c19,H⟩
       ·have zY:=decide_eq_false c19;clear c19;replace H:=gy H;rcases H with ⟨c28,H⟩ | ⟨c28,H⟩
        ·cases H
        have jh:=decide_eq_true c28;clear c28;replace H:=gy H;rcases H with ⟨c29,H⟩ | ⟨c29,H⟩
        ·cases H
        have ji:=decide_eq_true c29;clear c29;replace H:=gy H;rcases H with ⟨c30,H⟩ | ⟨c30,H⟩
        ·cases H
        have LMc30:=af.mk c30;clear c30;obtain ⟨zL,za⟩ : ∃ y_ : List Int,y_ = (x0 ++ [rd l1 x2]):=⟨_,rfl⟩
        replace H : (aY.l0 kj7 l0 l1 zL x1 (wrap64 (x2 + 1))) = some r:=sj za H
        have zo:=af.mk za;clear za;have H':=af.mk H;clear H;have zp : 0 ≤ (x2 : Int):=df;have zq : x2 < (l1.length : Int):=df;obtain ⟨jj,zZ,zM⟩:=Kd.eB HR1.o x2 zp zq;cases zZ;replace zM:=aX HB zM;replace zp:=eq_true zp;replace zq:=eq_true zq;go_wp2_with (first | ((with_reducible refine eU (b:=.append) (xs:=#[.tmp 66,.tmp 71]) rfl ?_);(try (refine bJ (by rfl) ?_;dsimp only));at_builtin;refine Kd.lq (Kd.int .i64) (w0:=w) w.heap.size rfl (.tmp 66) (.tmp 71) 24 3 (.int .i64 0) 8 rfl underlying24 info3 rfl (by decide) (by omega) u5 x0 (rd l1 x2) [.int .i64 (rd l1 x2)] (fun _=>True) (fun _=>False) rfl rfl ?aP (fun _ hk=>hk.elim) ?aF ?aO ?aB ?aS ?aL ?_;(case aP=>exact rfl);(case aB=>exact (ig HB));(case aF=>exact (fun _ _=>trivial));(case aO=>exact (lI z0.o));(case aS=>exact (bA (ig HB)));(case aL=>have:=LMc30.o;omega);intro zN w31 ho hb hg hat;rw [← zo.o] at ho;have zr:=af.mk (ho);replace HB:=af.mk (hb);clear z0;clear ho hb hg hat))
        repeat (go_quiet (first | ((with_reducible refine eU (b:=.append) (xs:=#[.tmp 66,.tmp 71]) rfl ?_);(try (refine bJ (by rfl) ?_;dsimp only));at_builtin;refine Kd.lq (Kd.int .i64) (w0:=w) w.heap.size rfl (.tmp 66) (.tmp 71) 24 3 (.int .i64 0) 8 rfl underlying24 info3 rfl (by decide) (by omega) u5 x0 (rd l1 x2) [.int .i64 (rd l1 x2)] (fun _=>True) (fun _=>False) rfl rfl ?aP (fun _ hk=>hk.elim) ?aF ?aO ?aB ?aS ?aL ?_;(case aP=>exact rfl);(case aB=>exact (ig HB));(case aF=>exact (fun _ _=>trivial));(case aO=>exact (lI z0.o));(case aS=>exact (bA (ig HB)));(case aL=>have:=LMc30.o;omega);intro zN w31 ho hb hg hat;rw [← zo.o] at ho;have zr:=af.mk (ho);replace HB:=af.mk (hb);clear z0;clear ho hb hg hat));try go_wp2_with (first | ((with_reducible refine eU (b:=.append) (xs:=#[.tmp 66,.tmp 71]) rfl ?_);(try (refine bJ (by rfl) ?_;dsimp only));at_builtin;refine Kd.lq (Kd.int .i64) (w0:=w) w.heap.size rfl (.tmp 66) (.tmp 71) 24 3 (.int .i64 0) 8 rfl underlying24 info3 rfl (by decide) (by omega) u5 x0 (rd l1 x2) [.int .i64 (rd l1 x2)] (fun _=>True) (fun _=>False) rfl rfl ?aP (fun _ hk=>hk.elim) ?aF ?aO ?aB ?aS ?aL ?_;(case aP=>exact rfl);(case aB=>exact (ig HB));(case aF=>exact (fun _ _=>trivial));(case aO=>exact (lI z0.o));(case aS=>exact (bA (ig HB)));(case aL=>have:=LMc30.o;omega);intro zN w31 ho hb hg hat;rw [← zo.o] at ho;have zr:=af.mk (ho);replace HB:=af.mk (hb);clear z0;clear ho hb hg hat)))
        go_roundg kj7
        case measure=>have:=HK1.o;have:=HJ4.o;have:=HJ7.o;omega
        case rel=>exact ⟨(zL),(x1),(wrap64 (x2 + 1)),fw,fw,H',⟨by have:=HK1.o;have:=HJ4.o;have:=HJ7.o;omega⟩,⟨lI zr.o⟩,lD HB⟩
       have zY:=decide_eq_true c19;clear c19;replace H:=gy H;rcases H with ⟨c20,H⟩ | ⟨c20,H⟩
       ·cases H
       have jk:=decide_eq_true c20;clear c20;replace H:=gy H;rcases H with ⟨c21,H⟩ | ⟨c21,H⟩
       ·cases H
       have jl:=decide_eq_true c21;clear c21;replace H:=gy H;rcases H with ⟨c22,H⟩ | ⟨c22,H⟩
       ·cases H
       have jm:=decide_eq_true c22;clear c22;replace H:=gy H;rcases H with ⟨c23,H⟩ | ⟨c23,H⟩
       ·have j0 : ((rd l0 x1) == (rd l1 x2)) = false:=beq_eq_false_iff_ne.mpr c23;have j3 : ((rd l0 x1) != (rd l1 x2)) = true:=bne_iff_ne.mpr c23;replace H:=gy H;rcases H with ⟨c26,H⟩ | ⟨c26,H⟩
        ·cases H
        have LMc26:=af.mk c26;clear c26;obtain ⟨zO,zb⟩ : ∃ y_ : List Int,y_ = (x0 ++ [rd l1 x2]):=⟨_,rfl⟩
        replace H : (aY.l0 kj7 l0 l1 zO x1 (wrap64 (x2 + 1))) = some r:=sj zb H
        have zt:=af.mk zb;clear zb;have H':=af.mk H;clear H;have z1 : 0 ≤ (x1 : Int):=df;have z2 : x1 < (l0.length : Int):=df;obtain ⟨j4,zu,zc⟩:=Kd.eB HR0.o x1 z1 z2;cases zu;replace zc:=aX HB zc;replace z1:=eq_true z1;replace z2:=eq_true z2;have z3 : 0 ≤ (x2 : Int):=df;have z4 : x2 < (l1.length : Int):=df;obtain ⟨zv,zw,zd⟩:=Kd.eB HR1.o x2 z3 z4;cases zw;replace zd:=aX HB zd;replace z3:=eq_true z3;replace z4:=eq_true z4;have zx : 0 ≤ (x2 : Int):=df;have zy : x2 < (l1.length : Int):=df;obtain ⟨j5,j6,zP⟩:=Kd.eB HR1.o x2 zx zy;obtain rfl : zv = j5:=(by injection j6);replace zP:=aX HB zP;replace zx:=eq_true zx;replace zy:=eq_true zy;go_wp2_with (first | ((with_reducible refine eU (b:=.append) (xs:=#[.tmp 66,.tmp 71]) rfl ?_);(try (refine bJ (by rfl) ?_;dsimp only));at_builtin;refine Kd.lq (Kd.int .i64) (w0:=w) w.heap.size rfl (.tmp 66) (.tmp 71) 24 3 (.int .i64 0) 8 rfl underlying24 info3 rfl (by decide) (by omega) u5 x0 (rd l1 x2) [.int .i64 (rd l1 x2)] (fun _=>True) (fun _=>False) rfl rfl ?aP (fun _ hk=>hk.elim) ?aF ?aO ?aB ?aS ?aL ?_;(case aP=>exact rfl);(case aB=>exact (ig HB));(case aF=>exact (fun _ _=>trivial));(case aO=>exact (lI z0.o));(case aS=>exact (bA (ig HB)));(case aL=>have:=LMc26.o;omega);intro zQ w27 ho hb hg hat;rw [← zt.o] at ho;have zz:=af.mk (ho);replace HB:=af.mk (hb);clear z0;clear ho hb hg hat))
        repeat (go_quiet (first | ((with_reducible refine eU (b:=.append) (xs:=#[.tmp 66,.tmp 71]) rfl ?_);(try (refine bJ (by rfl) ?_;dsimp only));at_builtin;refine Kd.lq (Kd.int .i64) (w0:=w) w.heap.size rfl (.tmp 66) (.tmp 71) 24 3 (.int .i64 0) 8 rfl underlying24 info3 rfl (by decide) (by omega) u5 x0 (rd l1 x2) [.int .i64 (rd l1 x2)] (fun _=>True) (fun _=>False) rfl rfl ?aP (fun _ hk=>hk.elim) ?aF ?aO ?aB ?aS ?aL ?_;(case aP=>exact rfl);(case aB=>exact (ig HB));(case aF=>exact (fun _ _=>trivial));(case aO=>exact (lI z0.o));(case aS=>exact (bA (ig HB)));(case aL=>have:=LMc26.o;omega);intro zQ w27 ho hb hg hat;rw [← zt.o] at ho;have zz:=af.mk (ho);replace HB:=af.mk (hb);clear z0;clear ho hb hg hat));try go_wp2_with (first | ((with_reducible refine eU (b:=.append) (xs:=#[.tmp 66,.tmp 71]) rfl ?_);(try (refine bJ (by rfl) ?_;dsimp only));at_builtin;refine Kd.lq (Kd.int .i64) (w0:=w) w.heap.size rfl (.tmp 66) (.tmp 71) 24 3 (.int .i64 0) 8 rfl underlying24 info3 rfl (by decide) (by omega) u5 x0 (rd l1 x2) [.int .i64 (rd l1 x2)] (fun _=>True) (fun _=>False) rfl rfl ?aP (fun _ hk=>hk.elim) ?aF ?aO ?aB ?aS ?aL ?_;(case aP=>exact rfl);(case aB=>exact (ig HB));(case aF=>exact (fun _ _=>trivial));(case aO=>exact (lI z0.o));(case aS=>exact (bA (ig HB)));(case aL=>have:=LMc26.o;omega);intro zQ w27 ho hb hg hat;rw [← zt.o] at ho;have zz:=af.mk (ho);replace HB:=af.mk (hb);clear z0;clear ho hb hg hat)))
        go_roundg kj7
        case measure=>have:=HK1.o;have:=HJ4.o;have:=HJ7.o;omega
        case rel=>exact ⟨(zO),(x1),(wrap64 (x2 + 1)),fw,fw,H',⟨by have:=HK1.o;have:=HJ4.o;have:=HJ7.o;omega⟩,⟨lI zz.o⟩,lD HB⟩
       have j0 : ((rd l0 x1) == (rd l1 x2)) = true:=beq_iff_eq.mpr c23;have j3 : ((rd l0 x1) != (rd l1 x2)) = false:=bne_eq_false_iff_eq.mpr c23;clear c23;replace H:=gy H;rcases H with ⟨c24,H⟩ | ⟨c24,H⟩
       ·cases H
       have LMc24:=af.mk c24;clear c24;obtain ⟨zR,ze⟩ : ∃ y_ : List Int,y_ = (x0 ++ [rd l1 x2]):=⟨_,rfl⟩
       replace H : (aY.l0 kj7 l0 l1 zR (wrap64 (x1 + 1)) (wrap64 (x2 + 1))) = some r:=sj ze H
       have zA:=af.mk ze;clear ze;have H':=af.mk H;clear H;have z1 : 0 ≤ (x1 : Int):=df;have z2 : x1 < (l0.length : Int):=df;obtain ⟨j4,zu,zc⟩:=Kd.eB HR0.o x1 z1 z2;cases zu;replace zc:=aX HB zc;replace z1:=eq_true z1;replace z2:=eq_true z2;have z3 : 0 ≤ (x2 : Int):=df;have z4 : x2 < (l1.length : Int):=df;obtain ⟨zv,zw,zd⟩:=Kd.eB HR1.o x2 z3 z4;cases zw;replace zd:=aX HB zd;replace z3:=eq_true z3;replace z4:=eq_true z4;have zB : 0 ≤ (x2 : Int):=df;have zC : x2 < (l1.length : Int):=df;obtain ⟨j7,j8,zS⟩:=Kd.eB HR1.o x2 zB zC;obtain rfl : zv = j7:=(by injection j8);replace zS:=aX HB zS;replace zB:=eq_true zB;replace zC:=eq_true zC;go_wp2_with (first | ((with_reducible refine eU (b:=.append) (xs:=#[.tmp 66,.tmp 71]) rfl ?_);(try (refine bJ (by rfl) ?_;dsimp only));at_builtin;refine Kd.lq (Kd.int .i64) (w0:=w) w.heap.size rfl (.tmp 66) (.tmp 71) 24 3 (.int .i64 0) 8 rfl underlying24 info3 rfl (by decide) (by omega) u5 x0 (rd l1 x2) [.int .i64 (rd l1 x2)] (fun _=>True) (fun _=>False) rfl rfl ?aP (fun _ hk=>hk.elim) ?aF ?aO ?aB ?aS ?aL ?_;(case aP=>exact rfl);(case aB=>exact (ig HB));(case aF=>exact (fun _ _=>trivial));(case aO=>exact (lI z0.o));(case aS=>exact (bA (ig HB)));(case aL=>have:=LMc24.o;omega);intro zT w25 ho hb hg hat;rw [← zA.o] at ho;have zD:=af.mk (ho);replace HB:=af.mk (hb);clear z0;clear ho hb hg hat))
       repeat (go_quiet (first | ((with_reducible refine eU (b:=.append) (xs:=#[.tmp 66,.tmp 71]) rfl ?_);(try (refine bJ (by rfl) ?_;dsimp only));at_builtin;refine Kd.lq (Kd.int .i64) (w0:=w) w.heap.size rfl (.tmp 66) (.tmp 71) 24 3 (.int .i64 0) 8 rfl underlying24 info3 rfl (by decide) (by omega) u5 x0 (rd l1 x2) [.int .i64 (rd l1 x2)] (fun _=>True) (fun _=>False) rfl rfl ?aP (fun _ hk=>hk.elim) ?aF ?aO ?aB ?aS ?aL ?_;(case aP=>exact rfl);(case aB=>exact (ig HB));(case aF=>exact (fun _ _=>trivial));(case aO=>exact (lI z0.o));(case aS=>exact (bA (ig HB)));(case aL=>have:=LMc24.o;omega);intro zT w25 ho hb hg hat;rw [← zA.o] at ho;have zD:=af.mk (ho);replace HB:=af.mk (hb);clear z0;clear ho hb hg hat));try go_wp2_with (first | ((with_reducible refine eU (b:=.append) (xs:=#[.tmp 66,.tmp 71]) rfl ?_);(try (refine bJ (by rfl) ?_;dsimp only));at_builtin;refine Kd.lq (Kd.int .i64) (w0:=w) w.heap.size rfl (.tmp 66) (.tmp 71) 24 3 (.int .i64 0) 8 rfl underlying24 info3 rfl (by decide) (by omega) u5 x0 (rd l1 x2) [.int .i64 (rd l1 x2)] (fun _=>True) (fun _=>False) rfl rfl ?aP (fun _ hk=>hk.elim) ?aF ?aO ?aB ?aS ?aL ?_;(case aP=>exact rfl);(case aB=>exact (ig HB));(case aF=>exact (fun _ _=>trivial));(case aO=>exact (lI z0.o));(case aS=>exact (bA (ig HB)));(case aL=>have:=LMc24.o;omega);intro zT w25 ho hb hg hat;rw [← zA.o] at ho;have zD:=af.mk (ho);replace HB:=af.mk (hb);clear z0;clear ho hb hg hat)))
       go_roundg kj7
       case measure=>have:=HK1.o;have:=HJ4.o;have:=HJ7.o;omega
       case rel=>exact ⟨(zR),(wrap64 (x1 + 1)),(wrap64 (x2 + 1)),fw,fw,H',⟨by have:=HK1.o;have:=HJ4.o;have:=HJ7.o;omega⟩,⟨lI zD.o⟩,lD HB⟩
def eQ.T5 : Bool × List (List Nat × List Nat):=(true,[([],[]),([0],[0]),([],[]),([2],[2]),([],[]),([3,4],[3,4]),([5],[5]),([6],[6]),([1,7],[1,7]),([0,1,2,3,4,5,6,7,8],[]),([9,8,8,0,1,2,3,4,5,6,7,8],[8,9])])
def eQ.B5 : List Nat:=[0,1,0,4,0,28,60,124,255,511,1023]
theorem eQ.Dz : l9 .any (opsOf f148 5) = eQ.T5:=by kernel_rfl
theorem eQ.Ai : fQ eQ.T5.2 eQ.B5 = true:=by kernel_rfl
theorem eQ.calls (k : Nat) (ai : Int) (bB : Option Addr) (bu : Nat) (av : List Int) (r1 : Int) (r2 : List Int) (w : World) (dB : Kd.C (Kd.int .i64) w bB av.length av) (dC : av.length ≤ bu) (h : eQ.f k ai av = some (r1,r2)) :
  Calls prog 148 #[.agg #[.int .i64 ai,.slice bB av.length bu]] w fun e w'=>∃ v1_ : Value,e = .returned (.agg #[.int .i64 r1,v1_])∧Kd.R (Kd.int .i64) 3 w' w.heap.size (fun _=>True) v1_ r2∧Below w.heap.size w w':=by
 have hu32:=underlying32;have bZ:=af.mk dB;have dN:=af.mk dC;clear dB dC;have HB:=af.mk (Below.refl w.heap.size w);have H:=h;unfold eQ.f at H;clear h;have H':=af.mk H;clear H;go_enter func148,ntmps148;go_wp2_with (first | ((with_reducible refine gd 1 rfl ?_);refine eO 1 #[.int .i64 ai,.slice bB av.length bu] 32 HB ?_;clear HB;intro gb0 hg w2 hb B0 GW0 HB;clear hb hg) | ((with_reducible refine gd 2 rfl ?_);refine eO 2 #[.int .i64 0,.slice none 0 0] 32 HB ?_;clear HB;intro gb1 hg w3 hb B1 GW1 HB;have N0_1:=fC B0 hg;have N1_0:=fD B0 hg;replace B0:=bF B0 hb;clear hb hg;obtain ⟨_,_⟩:=dU N0_1;obtain ⟨_,_,_,_⟩:=bE B0) | ((with_reducible refine gd 3 rfl ?_);refine eO 3 #[.int .i64 0,.slice none 0 0] 32 HB ?_;clear HB;intro gb2 hg w6 hb B2 GW2 HB;have N0_2:=fC B0 hg;have N2_0:=fD B0 hg;have N1_2:=fC B1 hg;have N2_1:=fD B1 hg;refine mM B0 B1 hb ?_;clear B0 B1;intro B0 B1;clear hb hg;obtain ⟨_,_,_,_⟩:=eY N2_0 N2_1;obtain ⟨_,_,_,_⟩:=bE B2))
 go_loopg [4] k (fun kq v4 w'=>∃ (x0 : Int) (x1 : List Int) (z1 : Value),v4 = .int .i64 x0∧af (eQ.l0 kq x0 ai av ai x1 = some (r1,r2))∧af (kq ≤ k)∧af (Kd.R (Kd.int .i64) 3 w' w.heap.size (fun _=>True) z1 x1)∧af (w'.heap[gb0]? = some (.cells #[.int .i64 ai,(.slice bB av.length bu)] 32 (0,0)))∧af (w'.heap[gb1]? = some (.cells #[.int .i64 0,(.slice none 0 0)] 32 (0,0)))∧af (w'.heap[gb2]? = some (.cells #[.int .i64 ai,z1] 32 (0,0)))∧af (Below w.heap.size w w'))
 case atStart=>exact ⟨(0),(([] : List Int)),(.slice none 0 0),fw,H',⟨Nat.le_refl _⟩,⟨oP⟩,⟨nR B0⟩,⟨nR B1⟩,⟨lV B2⟩,lD HB⟩
 case round =>
  clear H';obtain ⟨x0,x1,z1,rfl,HA,HK1,z0,B0,B1,B2,HB⟩:=hrel;cases gk with
  | zero=>exact absurd HA.o (by simp [eQ.l0])
  | succ k1 =>
   have H:=HA.o;clear HA;simp only [eQ.l0] at H;replace H:=gy H;rcases H with ⟨c10,H⟩ | ⟨c10,H⟩
   ·have zb:=decide_eq_false c10;clear c10;simp only [Option.some.injEq,Prod.mk.injEq] at H;obtain ⟨rfl,rfl⟩:=H;obtain ⟨_,_,_,_⟩:=eY N0_1 N0_2;obtain ⟨_,_,_,_⟩:=bE B0;obtain ⟨_,_⟩:=dU N2_1;obtain ⟨_,_,_,_⟩:=bE B2;obtain ⟨_,_,_,_⟩:=bE B1;obtain ⟨zc,zd,ze⟩:=Kd.aH z0.o;subst ze
    go_wp2
    refine iC #[.int .i64 ai,.slice zc x1.length zd] (lV B1) underlying32 ?_;exact ⟨_,qB,fG (dz z0 B1) (fun _ hk=>trivial),ig HB⟩
   have zb:=decide_eq_true c10;clear c10;replace H:=gy H;rcases H with ⟨c11,H⟩ | ⟨c11,H⟩
   ·cases H
   have zj:=decide_eq_true c11;clear c11;replace H:=gy H;rcases H with ⟨c12,H⟩ | ⟨c12,H⟩
   ·cases H
   have LMc12:=af.mk c12;clear c12;obtain ⟨z5,z2⟩ : ∃ y_ : List Int,y_ = (x1 ++ [rd av x0]):=⟨_,rfl⟩
   replace H : (eQ.l0 k1 (wrap64 (x0 + 1)) ai av ai z5) = some (r1,r2):=sj z2 H
   have zf:=af.mk z2;clear z2;have H':=af.mk H;clear H;obtain ⟨_,_,_,_⟩:=eY N0_1 N0_2;obtain ⟨_,_,_,_⟩:=bE B0
   try go_wp2
   replace z0:=oh z0;replace B0:=bU B0;replace B1:=bU B1;replace B2:=bU B2;replace HB:=iI HB;have z6 : 0 ≤ (x0 : Int):=df;have z7 : x0 < (av.length : Int):=df;obtain ⟨z8,zg,z3⟩:=Kd.eB bZ.o x0 z6 z7;have z4:=z3;cases zg;replace z3:=aX HB z3;replace z6:=eq_true z6;replace z7:=eq_true z7;refine rO 11 (fun w'=>rf w' gb2 (.int .i64 ai) z1∧rf w' gb0 (.int .i64 ai) (.slice (some z8) av.length bu)∧w'.cell? (z8.add (x0).toNat) = some (.int .i64 (rd av x0))) [10] ⟨rZ B2,rZ B0,(aX HB z4 :)⟩ (fun hHeld=>?_);refine bD eQ.Dz eQ.Ai (fun ax dM=>?_);generalize wr.drew = w16 at z0 B0 B1 B2 HB z3 hHeld ⊢;refine bC ax 0 15 ?_;refine bC ax 2 17 ?_;refine bC ax 4 19 ?_;refine fA ax dM 1 16 hHeld ?_;refine fA ax dM 3 18 hHeld ?_;refine bC ax 5 20 ?_;refine fA ax dM 6 21 hHeld ?_;refine gL ax 7 22 (fun K hK=>?_);refine qK (w1:=?_) (v:=?_) (by rfl) rfl ?_ ?_;rotate_left 2
   ·go_simp
    constructor
    ·rfl
    ·rfl
   refine hK.out _ _ ⟨rZ ⟨aW B2.o _⟩,rZ ⟨aW B0.o _⟩,(World.cell?_alloc_lt _ _ _ (World.block_lt_of_cell? _ _ ((aX HB z4 :)))).trans ((aX HB z4 :))⟩ (fun hHeld=>?_);clear hK K;refine bP ?_;refine gL ax 8 23 (fun K hK=>?_);refine Kd.nK (Kd.int .i64) (w0:=w) w.heap.size (by rfl) (.tmp 16) (.tmp 22) 24 3 (.int .i64 0) 8 rfl underlying24 info3 rfl (by decide) (by omega) z1 x1 (rd av x0) [.int .i64 (rd av x0)] (fun _=>True) (fun _=>False) rfl rfl ?aP (fun _ hk=>hk.elim) ?aF ?aO ?aB ?aS ?aL ?_;(case aP=>exact rfl);(case aB=>exact (ig HB));(case aF=>exact (fun _ _=>trivial));(case aO=>exact (lI z0.o));(case aS=>exact (bA (ig HB)))
   (case aL=>have:=LMc12.o;omega)
   intro zk w17 ho hb hg hat;rw [← zf.o] at ho;replace B0:=af.mk (bg (g:=gb0) (o:=.cells #[.int .i64 ai,.slice (some z8) av.length bu] 32 (0,0)) (mH B0.o) hg (Kd.oV z0.o B0.o (by decide)));replace B1:=af.mk (bg (g:=gb1) (o:=.cells #[.int .i64 0,.slice none 0 0] 32 (0,0)) (mH B1.o) hg (Kd.oV z0.o B1.o (by decide)));replace B2:=af.mk (bg (g:=gb2) (o:=.cells #[.int .i64 ai,z1] 32 (0,0)) (mH B2.o) hg (Kd.oV z0.o B2.o (by decide)));replace HB:=af.mk (hb);have z9:=af.mk (ho);clear z0;clear ho hb hg hat;obtain ⟨zh,zi,za⟩:=Kd.aH z9.o
   (first | subst za | (injection za with f1_ f2_ f3_;have f4_:=f1_.symm;have f5_:=f3_.symm;clear f1_ f2_ f3_;subst f4_;subst f5_))
   refine hK.out _ _ ⟨rZ B2,rZ B0,(aX HB z4 :)⟩ (fun hHeld=>?_);clear hK K;refine bP ?_;refine bC ax 9 24 ?_;refine yn ax 10 none (fun K hK=>?_);obtain ⟨_,_,_,_⟩:=bE B2;obtain ⟨_,_,_,_⟩:=eY N0_2 N1_2;refine qP ?_;refine hK.out _ _ ?_;clear hK K;refine eX (cO ax.o (by kernel_rfl)) ?_
   try go_wp2
   go_roundg k1
   case measure=>have:=HK1.o;omega
   case rel=>exact ⟨(wrap64 (x0 + 1)),(z5),(.slice zh z5.length zi),fw,H',⟨by have:=HK1.o;omega⟩,⟨fG (dz z9 B2) (fun _ hk=>trivial)⟩,⟨nR B0⟩,⟨nR B1⟩,⟨lV B2⟩,lD HB⟩
end Go.Proofs.YtklkdpcopfjmcaaGreat.PFnExactAbsWiden
