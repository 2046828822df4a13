/- Functions of the program as plain Lean functions, and that calls of them come to what these tell. Conditions: those in each law. -/
import Derived.Test.YtklkdpcopfjmcaaGreatSqV
import Derived.Test.YtklkdpcopfjmcaaGreatDFnExactAbsWidenV
import Derived.Test.YtklkdpcopfjmcaaGreatQFnExactAbsWidenx0V
import Derived.Test.YtklkdpcopfjmcaaGreatQFnExactAbsWidenx31V
import Derived.Test.YtklkdpcopfjmcaaGreatQFnExactAbsWidenx34V
namespace Go.Proofs.YtklkdpcopfjmcaaGreat.PFnExactAbsWiden
open Go.RowKit Tryz Go.Proofs.YtklkdpcopfjmcaaGreat.Sq Go.Proofs.YtklkdpcopfjmcaaGreatW.PrintWords Go.Proofs.YtklkdpcopfjmcaaGreatW.PrintLast Go.Proofs.YtklkdpcopfjmcaaGreatW.PrintMore
attribute [local go_sem] nV nT o8 pz mV mW nW nS 
set_option linter.unusedVariables false
set_option linter.unusedSimpArgs false
set_option maxHeartbeats 8000000
set_option maxRecDepth 100000
theorem dA.calls (k : Nat) (ai : Int) (bB : Option Addr) (bu : Nat) (av : List Int) (aG : Int) (eT : Option Addr) (eG : Nat) (bn : List Int) (r1 : Int) (r2 : List Int) (w : World) (dB : Kd.C (Kd.int .i64) w bB av.length av) (dC : av.length ≤ bu) (iW : Kd.C (Kd.int .i64) w eT bn.length bn) (iT : bn.length ≤ eG) (h : dA.f k ai av aG bn = some (r1,r2)) :
  Calls prog 53 #[.agg #[.int .i64 ai,.slice bB av.length bu],.agg #[.int .i64 aG,.slice eT bn.length eG]] w fun e w'=>∃ v1_ : Value,e = .returned (.agg #[.int .i64 r1,v1_])∧Kd.R (Kd.int .i64) 3 w' w.heap.size (fun _=>True) v1_ r2∧Below w.heap.size w w':=by
 have hu32:=underlying32;have bZ:=af.mk dB;have dN:=af.mk dC;clear dB dC;have il:=af.mk iW;have iP:=af.mk iT;clear iW iT;have HB:=af.mk (Below.refl w.heap.size w);have H:=h;unfold dA.f at H;clear h;have HC3:=af.mk H;clear H;go_enter func53,ntmps53;go_upto_region 1 with (first | ((with_reducible refine gd 2 rfl ?_);refine eO 2 #[.int .i64 ai,.slice bB av.length bu] 32 HB ?_;clear HB;intro gb0 hg w4 hb B0 GW0 HB;clear hb hg) | ((with_reducible refine gd 3 rfl ?_);refine eO 3 #[.int .i64 aG,.slice eT bn.length eG] 32 HB ?_;clear HB;intro gb1 hg w5 hb B1 GW1 HB;have N0_1:=fC B0 hg;have N1_0:=fD B0 hg;replace B0:=bF B0 hb;clear hb hg) | ((with_reducible refine gd 4 rfl ?_);refine eO 4 #[.int .i64 0,.slice none 0 0] 32 HB ?_;clear HB;intro gb2 hg w6 hb B2 GW2 HB;have N0_2:=fC B0 hg;have N2_0:=fD B0 hg;have N1_2:=fC B1 hg;have N2_1:=fD B1 hg;refine mM B0 B1 hb ?_;clear B0 B1;intro B0 B1;clear hb hg))
 (try simp only [Act.put,List.setIfInBounds_toArray,List.set_cons_zero,List.set_cons_succ])
 go_cut [22] (fun v22 wc=>∃ (kq : Nat) (x0 : Bool),v22 = .bool x0∧af (dA.j0 kq x0 ai av aG bn = some (r1,r2))∧af (kq ≤ k)∧af (wc.heap[gb0]? = some (.cells #[.int .i64 ai,(.slice bB av.length bu)] 32 (0,0)))∧af (wc.heap[gb1]? = some (.cells #[.int .i64 aG,(.slice eT bn.length eG)] 32 (0,0)))∧af (wc.heap[gb2]? = some (.cells #[.int .i64 0,(.slice none 0 0)] 32 (0,0)))∧af (Below w.heap.size w wc))
 case first =>
  have H:=HC3.o;clear HC3;replace H:=bK H;obtain ⟨t0,A7,H⟩:=H;(try dsimp only at H);rcases qm (t0 = true) with c8 | c8
  ·replace c8:=Bool.eq_false_iff.mpr c8;subst c8;rw [gD] at H;have H':=af.mk H;clear H;obtain ⟨_,_,_,_⟩:=eY N0_1 N0_2;obtain ⟨_,_,_,_⟩:=bE B0;go_wp2_with (first | ((with_reducible refine gf 71 rfl ?_);refine eZ rfl (some 9) func71 (bI.calls _ _ _ _ _ _ _ (bN (Kd.aj bZ.o HB.o)) dN.o A7.o) ?_;intro w30 hb;refine dI B0 B1 B2 hb ?_;clear B0 B1 B2;intro B0 B1 B2;replace HB:=bX HB hb;(try clear hb)));go_meet
   case rel=>exact ⟨_,(true),fw,H',⟨ng⟩,fE B0,fE B1,fE B2,lD HB⟩
  subst c8;rw [if_pos rfl] at H;replace H:=bK H;obtain ⟨t1,A9,H⟩:=H;(try dsimp only at H);rcases qm (t1 = true) with c10 | c10
  ·replace c10:=Bool.eq_false_iff.mpr c10;subst c10;rw [gD] at H;have H':=af.mk H;clear H;obtain ⟨_,_,_,_⟩:=eY N0_1 N0_2;obtain ⟨_,_,_,_⟩:=bE B0;go_wp2_with (first | ((with_reducible refine gf 71 rfl ?_);refine eZ rfl (some 9) func71 (bI.calls _ _ _ _ _ _ _ (bN (Kd.aj bZ.o HB.o)) dN.o A7.o) ?_;intro w23 hb;refine dI B0 B1 B2 hb ?_;clear B0 B1 B2;intro B0 B1 B2;replace HB:=bX HB hb;(try clear hb);obtain ⟨_,_⟩:=dU N1_2;obtain ⟨_,_,_,_⟩:=bE B1) | (go_at_call 71;(with_reducible refine (bI.calls k aG _ _ bn false _ ?side1 ?side2 A9.o).mono ?_);(case side1=>exact bN (Kd.aj il.o HB.o));(case side2=>exact iP.o);rintro e w26 ⟨rfl,hb⟩;refine dI B0 B1 B2 hb ?_;clear B0 B1 B2;intro B0 B1 B2;replace HB:=bX HB hb;(try clear hb)));go_meet
   case rel=>exact ⟨_,(true),fw,H',⟨ng⟩,fE B0,fE B1,fE B2,lD HB⟩
  subst c10;rw [if_pos rfl] at H;have H':=af.mk H;clear H;obtain ⟨_,_,_,_⟩:=eY N0_1 N0_2;obtain ⟨_,_,_,_⟩:=bE B0;go_wp2_with (first | ((with_reducible refine gf 71 rfl ?_);refine eZ rfl (some 9) func71 (bI.calls _ _ _ _ _ _ _ (bN (Kd.aj bZ.o HB.o)) dN.o A7.o) ?_;intro w14 hb;refine dI B0 B1 B2 hb ?_;clear B0 B1 B2;intro B0 B1 B2;replace HB:=bX HB hb;(try clear hb);obtain ⟨_,_⟩:=dU N1_2;obtain ⟨_,_,_,_⟩:=bE B1) | (go_at_call 71;(with_reducible refine (bI.calls k aG _ _ bn true _ ?side1 ?side2 A9.o).mono ?_);(case side1=>exact bN (Kd.aj il.o HB.o));(case side2=>exact iP.o);rintro e w17 ⟨rfl,hb⟩;refine dI B0 B1 B2 hb ?_;clear B0 B1 B2;intro B0 B1 B2;replace HB:=bX HB hb;(try clear hb);obtain ⟨_,_,_,_⟩:=bE B0;obtain ⟨_,_,_,_⟩:=bE B1));go_meet
  case rel=>exact ⟨_,((ai != aG)),fw,H',⟨ng⟩,fE B0,fE B1,fE B2,lD HB⟩
 case rest =>
  clear HC3;obtain ⟨kq,x0,rfl,HA,HJ2,B0,B1,B2,HB⟩:=hcut;cases kq with
  | zero=>exact absurd HA.o (by simp [dA.j0])
  | succ kj2 =>
   have H:=HA.o;clear HA;simp only [dA.j0] at H
   by_cases c31 : x0 = true
   ·subst c31;rw [if_pos rfl] at H;simp only [Option.some.injEq,Prod.mk.injEq] at H;obtain ⟨rfl,rfl⟩:=H;obtain ⟨_,_,_,_⟩:=eY N2_0 N2_1;obtain ⟨_,_,_,_⟩:=bE B2
    go_wp2
    refine iC #[.int .i64 0,.slice none 0 0] (lV B2) underlying32 ?_;exact ⟨_,qB,oP,ig HB⟩
   replace c31:=Bool.eq_false_iff.mpr c31;subst c31;rw [gD] at H;replace H:=bK H;obtain ⟨⟨t2,t3⟩,A35,H⟩:=H;(try dsimp only at H);have H':=af.mk H;clear H;obtain ⟨_,_,_,_⟩:=eY N0_1 N0_2;obtain ⟨_,_,_,_⟩:=bE B0;go_wp2_with (first | ((with_reducible refine gf 112 rfl ?_);refine qJ rfl (some 25) func112 (ic.calls _ _ _ _ _ _ _ (bN (Kd.aj bZ.o HB.o)) dN.o A35.o) ?_;rintro e w39 ⟨zy,rfl,ho0,hb⟩;refine ⟨_,rfl,?_⟩;have z7:=mZ ho0 HB;refine dI B0 B1 B2 hb ?_;clear B0 B1 B2;intro B0 B1 B2;replace HB:=bX HB hb;(try clear hb);(try clear ho0)) | ((with_reducible refine gd 5 rfl ?_);refine eO 5 #[.int .i64 0,.slice none 0 0] 32 HB ?_;clear HB;intro gb3 hg w40 hb B3 GW3 HB;replace z7:=gI z7 hb;have N0_3:=fC B0 hg;have N3_0:=fD B0 hg;replace B0:=bF B0 hb;have N1_3:=fC B1 hg;have N3_1:=fD B1 hg;replace B1:=bF B1 hb;have N2_3:=fC B2 hg;have N3_2:=fD B2 hg;replace B2:=bF B2 hb;clear hb hg;obtain ⟨_,_,_,_,_,_⟩:=nG N3_0 N3_1 N3_2;obtain ⟨_,_,_,_⟩:=bE B3;obtain ⟨zj,zk,zl⟩:=Kd.aH z7.o;subst zl;obtain ⟨_,_⟩:=dU N1_2;obtain ⟨_,_,_,_⟩:=bE B1))
   go_loopg [29] kj2 (fun kq v29 w'=>∃ (x1 : Int) (x2 : List Int) (z8 : Value),v29 = .int .i64 x1∧af (dA.l0 kq bn (bn.length : Int) x1 t2 x2 = some (r1,r2))∧af (kq ≤ kj2)∧af (Kd.R (Kd.int .i64) 3 w' w.heap.size (fun _=>True) z8 x2)∧af (w'.heap[gb0]? = some (.cells #[.int .i64 ai,(.slice bB av.length bu)] 32 (0,0)))∧af (w'.heap[gb1]? = some (.cells #[.int .i64 aG,(.slice eT bn.length eG)] 32 (0,0)))∧af (w'.heap[gb2]? = some (.cells #[.int .i64 0,(.slice none 0 0)] 32 (0,0)))∧af (w'.heap[gb3]? = some (.cells #[.int .i64 t2,z8] 32 (0,0)))∧af (Below w.heap.size w w'))
   case atStart=>exact ⟨(0),(t3),(.slice zj t3.length zk),fw,H',⟨Nat.le_refl _⟩,⟨fG (dz z7 B3) (fun _ hk=>trivial)⟩,⟨nR B0⟩,⟨nR B1⟩,⟨nR B2⟩,⟨lV B3⟩,lD HB⟩
   case round =>
    clear H';obtain ⟨x1,x2,z8,rfl,HA,HK2,z0,B0,B1,B2,B3,HB⟩:=hrel;cases gk with
    | zero=>exact absurd HA.o (by simp [dA.l0])
    | succ k2 =>
     have H:=HA.o;clear HA;simp only [dA.l0] at H;replace H:=gy H;rcases H with ⟨c48,H⟩ | ⟨c48,H⟩
     ·have zm:=decide_eq_false c48;clear c48;simp only [Option.some.injEq,Prod.mk.injEq] at H;obtain ⟨rfl,rfl⟩:=H;obtain ⟨_,_,_,_,_,_⟩:=nG N3_0 N3_1 N3_2;obtain ⟨_,_,_,_⟩:=bE B3;obtain ⟨_,_,_,_⟩:=eY N2_0 N2_1;obtain ⟨_,_,_,_⟩:=bE B2;obtain ⟨zn,zo,zp⟩:=Kd.aH z0.o;subst zp
      go_wp2
      refine iC #[.int .i64 t2,.slice zn x2.length zo] (lV B2) underlying32 ?_;exact ⟨_,qB,fG (dz z0 B2) (fun _ hk=>trivial),ig HB⟩
     have zm:=decide_eq_true c48;clear c48;replace H:=gy H;rcases H with ⟨c49,H⟩ | ⟨c49,H⟩
     ·cases H
     have zz:=decide_eq_true c49;clear c49;replace H:=gy H;rcases H with ⟨c50,H⟩ | ⟨c50,H⟩
     ·cases H
     have zA:=decide_eq_true c50;clear c50;replace H:=gy H;rcases H with ⟨c51,H⟩ | ⟨c51,H⟩
     ·cases H
     have zB:=decide_eq_true c51;clear c51;replace H:=gy H;rcases H with ⟨c52,H⟩ | ⟨c52,H⟩
     ·have zq : decide ((rd x2 x1) < (rd bn x1)) = false:=decide_eq_false c52;clear c52;have H':=af.mk H;clear H;have z1 : 0 ≤ (x1 : Int):=df;have z2 : x1 < (bn.length : Int):=df;obtain ⟨ze,z9,z5⟩:=Kd.eB il.o x1 z1 z2;cases z9;replace z5:=aX HB z5;replace z1:=eq_true z1;replace z2:=eq_true z2;obtain ⟨_,_,_,_,_,_⟩:=nG N3_0 N3_1 N3_2;obtain ⟨_,_,_,_⟩:=bE B3;obtain ⟨zC,zr,zt⟩:=Kd.aH z0.o;subst zt;have z3 : 0 ≤ (x1 : Int):=df;have z4 : x1 < (x2.length : Int):=df;obtain ⟨zf,za,zg⟩:=Kd.eB (Kd.au z0.o).2.2 x1 z3 z4;cases za;replace z3:=eq_true z3;replace z4:=eq_true z4
      go_wp2
      go_roundg k2
      case measure=>have:=HJ2.o;have:=HK2.o;omega
      case rel=>exact ⟨(wrap64 (x1 + 1)),(x2),(.slice (some zf) x2.length zr),fw,H',⟨by have:=HJ2.o;have:=HK2.o;omega⟩,⟨lI z0.o⟩,fE B0,fE B1,fE B2,fE B3,lD HB⟩
     have zq : decide ((rd x2 x1) < (rd bn x1)) = true:=decide_eq_true c52;clear c52;obtain ⟨zb,z6⟩ : ∃ y_ : List Int,y_ = (x2.set (x1 : Int).toNat 1099511627776):=⟨_,rfl⟩
     replace H : (dA.l0 k2 bn (bn.length : Int) (wrap64 (x1 + 1)) t2 zb) = some (r1,r2):=sj z6 H
     have zu:=af.mk z6;clear z6;have H':=af.mk H;clear H;have z1 : 0 ≤ (x1 : Int):=df;have z2 : x1 < (bn.length : Int):=df;obtain ⟨ze,z9,z5⟩:=Kd.eB il.o x1 z1 z2;cases z9;replace z5:=aX HB z5;replace z1:=eq_true z1;replace z2:=eq_true z2;obtain ⟨_,_,_,_,_,_⟩:=nG N3_0 N3_1 N3_2;obtain ⟨_,_,_,_⟩:=bE B3;obtain ⟨zD,zc,zv⟩:=Kd.aH z0.o;subst zv;have z3 : 0 ≤ (x1 : Int):=df;have z4 : x1 < (x2.length : Int):=df;obtain ⟨zf,za,zg⟩:=Kd.eB (Kd.au z0.o).2.2 x1 z3 z4;cases za;replace z3:=eq_true z3;replace z4:=eq_true z4;have p53 : 0 ≤ (x1 : Int):=df;have q53 : (x1 : Int) < ((x2.length : Int) : Int):=df;obtain ⟨go53,zE,zh,gb4,zw,zF,zi⟩:=Kd.wF z0.o (by omega)
     (first | cases zh | (injection zh with ea_ en_ ec_;(first | subst ea_ | (injection ea_ with ea_;subst ea_));subst ec_;clear en_))
     have zx:=af.mk gb4;have zG:=af.mk zi;clear gb4 zw zi
     (first | simp only [add_plain] at zg | skip)
     obtain ⟨zH,zI⟩:=Kd.Af 0 z0.o (x1 : Int) p53 q53;replace p53:=eq_true p53;replace q53:=eq_true q53;have zd:=Kd.Bz z0.o (x1 : Int) 1099511627776;go_wp2_with (first | ((with_reducible refine pX (t:=3) (p:=44) rfl ?_);refine oM (t:=3) (p:=44) (v:=?vo_w60) (w1:=(wr.setCell ⟨go53,(x1 : Int).toNat,none⟩ (.int .i64 1099511627776))) ?hg ?ho ?hn ?hr ?_;(case ho=>rfl);(case hg=>rfl);(case hn=>rfl);(case hr=>first | (go_simp;done) | (go_simp;rfl));intro w60 hw;have hg : wr.grownBy w60 (some go53):=(by rw [hw];exact zd.2);have hp_ : Kd.R (Kd.int .i64) 3 w60 w.heap.size (fun _=>True) (.slice (some ⟨go53,0,none⟩) x2.length zc) zb:=(by rw [hw,zu.o];exact zd.1);clear zd;replace B0:=af.mk (bg (g:=gb0) (o:=.cells #[.int .i64 ai,.slice bB av.length bu] 32 (0,0)) (mH B0.o) hg (Kd.oV z0.o B0.o (by decide)));replace B1:=af.mk (bg (g:=gb1) (o:=.cells #[.int .i64 aG,.slice (some ze) bn.length eG] 32 (0,0)) (mH B1.o) hg (Kd.oV z0.o B1.o (by decide)));replace B2:=af.mk (bg (g:=gb2) (o:=.cells #[.int .i64 0,.slice none 0 0] 32 (0,0)) (mH B2.o) hg (Kd.oV z0.o B2.o (by decide)));replace B3:=af.mk (bg (g:=gb3) (o:=.cells #[.int .i64 t2,.slice (some ⟨go53,0,none⟩) x2.length zc] 32 (0,0)) (mH B3.o) hg (Kd.oV z0.o B3.o (by decide)));replace z0:=af.mk (hp_);replace HB:=af.mk ((by rw [hw];exact gX (HB.o) zx.o : Below w.heap.size w w60));clear hg hw hp_));go_roundg k2
     case measure=>have:=HJ2.o;have:=HK2.o;omega
     case rel=>exact ⟨(wrap64 (x1 + 1)),(zb),(.slice (some ⟨go53,0,none⟩) x2.length zc),fw,H',⟨by have:=HJ2.o;have:=HK2.o;omega⟩,⟨lI z0.o⟩,fE B0,fE B1,fE B2,fE B3,lD HB⟩
-- NOT PRINTED: function 17 (impl_AbsWiden)
-- NOT PRINTED: function 4 (laws_FnExactAbsWiden)
end Go.Proofs.YtklkdpcopfjmcaaGreat.PFnExactAbsWiden
