/- Functions of the program as plain Lean functions, and that calls of them come to what these tell. Conditions: those in each law. -/
import Derived.Test.YtklkdpcopfjmcaaGreatZ0V
import Derived.Test.YtklkdpcopfjmcaaGreatSqV
import Derived.Test.YtklkdpcopfjmcaaGreatProg
import Derived.Below
import Derived.Deep.Draws
import Derived.Deep.AppendLies
import Derived.Maps.AppendAt
import Derived.OwnWalk
import Derived.Laws.BytesArg
import Derived.Laws.MakeOwn
import Derived.Laws.OwnMore
import Derived.Deep.OwnRows
import Derived.Tactics
import Derived.Lib.ConvBytes
import Derived.Laws.Slices
import Derived.WalkKit
import Derived.KernelRfl
import Derived.RowKit3
import Derived.Deep.LoopGhost
import Derived.Deep.QuietTactic
import Derived.BigQuiet
import Derived.WideLaws
import Derived.Deep.DeepCutAuto
import Derived.Deep.CutBlock
import Derived.Deep.RegionHeld3
import Derived.Laws.Rows
import Derived.Lib.AppendStr
import Derived.ArgAppend
import Derived.Laws.IdiomCopy
import Derived.OrdersHeld
import Derived.Laws.BitsLemmas
import Derived.RowKit
namespace Go.Proofs.YtklkdpcopfjmcaaGreat.PFnExactAbsWiden
open Go.RowKit Go.Proofs.YtklkdpcopfjmcaaGreat.Sq Go.Proofs.YtklkdpcopfjmcaaGreatW.PrintWords Go.Proofs.YtklkdpcopfjmcaaGreatW.PrintLast Go.Proofs.YtklkdpcopfjmcaaGreatW.PrintMore
attribute [local go_sem] nV nT o8 pz mV mW nW nS 
set_option linter.unusedVariables false
set_option linter.unusedSimpArgs false
def GI : Option Int→Value
 | none=>.nilIface
 | some c=>.iface 0 (.int .i64 c)
theorem oq : GI none = .nilIface:=rfl
theorem ou (c : Int) : GI (some c) = .iface 0 (.int .i64 c):=rfl
theorem info3 : (Tryz.prog.info? 3).map (fun i=>(i.zero,i.size,i.bytes)) = some (some (.int .i64 0),1,8):=by kernel_rfl
theorem ru : (Tryz.prog.info? 58).map (fun i=>(i.zero,i.size,i.bytes)) = some (some (.agg #[(.int .i64 0),(.int .i64 0),(.int .i64 0),(.int .i64 0)]),4,32):=by kernel_rfl
theorem vz : (Tryz.prog.info? 84).map (fun i=>(i.zero,i.size,i.bytes)) = some (some (.agg #[(.bool false),(.slice none 0 0),(.int .i64 0),(.int .i64 0),(.int .i64 0),(.int .i64 0)]),6,64):=by kernel_rfl
-- the values' own types
structure mF where
 f0 : Int
 f1 : Int
 f2 : Int
 f3 : Int
def z116 : mF:=⟨(0 : Int),(0 : Int),(0 : Int),(0 : Int)⟩
def qd : Kd mF:=Kd.Gv (Kd.pair (Kd.int .i64) (Kd.pair (Kd.int .i64) (Kd.pair (Kd.int .i64) (Kd.int .i64)))) (fun x : mF=>(x.f0,x.f1,x.f2,x.f3))
theorem yw {w : World} {x : mF} {cs : List Value} (h : qd.K w x cs) : cs = [.int .i64 x.f0,.int .i64 x.f1,.int .i64 x.f2,.int .i64 x.f3]:=by
 obtain ⟨_,_,rfl,rfl,⟨_,_,rfl,rfl,⟨_,_,rfl,rfl,rfl⟩⟩⟩:=h;exact rfl
theorem BB {w : World} {base : Nat} {ok : Nat→Prop} {x : mF} {cs : List Value} (h : qd.M w base ok x cs) : cs = [.int .i64 x.f0,.int .i64 x.f1,.int .i64 x.f2,.int .i64 x.f3]:=by
 obtain ⟨_,_,rfl,rfl,⟨_,_,rfl,rfl,⟨_,_,rfl,rfl,rfl⟩⟩⟩:=h;exact rfl
theorem BP (w : World) (x : mF)  : qd.K w x [.int .i64 x.f0,.int .i64 x.f1,.int .i64 x.f2,.int .i64 x.f3]:=⟨[.int .i64 x.f0],[.int .i64 x.f1,.int .i64 x.f2,.int .i64 x.f3],rfl,rfl,⟨[.int .i64 x.f1],[.int .i64 x.f2,.int .i64 x.f3],rfl,rfl,⟨[.int .i64 x.f2],[.int .i64 x.f3],rfl,rfl,rfl⟩⟩⟩
theorem DY (w : World) (base : Nat) (ok : Nat→Prop) (x : mF)  : qd.M w base ok x [.int .i64 x.f0,.int .i64 x.f1,.int .i64 x.f2,.int .i64 x.f3]:=⟨[.int .i64 x.f0],[.int .i64 x.f1,.int .i64 x.f2,.int .i64 x.f3],rfl,rfl,⟨[.int .i64 x.f1],[.int .i64 x.f2,.int .i64 x.f3],rfl,rfl,⟨[.int .i64 x.f2],[.int .i64 x.f3],rfl,rfl,rfl⟩⟩⟩
theorem Gt (W : World) (ok : Nat→Prop) (x : mF) : Kd.FK qd W ok x [.int .i64 x.f0,.int .i64 x.f1,.int .i64 x.f2,.int .i64 x.f3]:=fun W2 _=>BP W2 x
def qX (xs : List mF) (i : Int) : mF:=xs.getD i.toNat z116
theorem Ez {w : World} {A : Option Addr} {n : Nat} {xs : List mF} (h : Kd.C qd w A n xs) (i : Int) (h0 : 0 ≤ i) (h1 : i < n) : ∃ ad,A = some ad∧w.cell? (ad.add (i.toNat * 4)) = some (.int .i64 (qX xs i).f0)∧w.cell? ⟨(ad.add (i.toNat * 4)).block,(ad.add (i.toNat * 4)).off + 1,none⟩ = some (.int .i64 (qX xs i).f1)∧w.cell? ⟨(ad.add (i.toNat * 4)).block,(ad.add (i.toNat * 4)).off + 2,none⟩ = some (.int .i64 (qX xs i).f2)∧w.cell? ⟨(ad.add (i.toNat * 4)).block,(ad.add (i.toNat * 4)).off + 3,none⟩ = some (.int .i64 (qX xs i).f3):=by
 obtain ⟨ad,c,e,_,hK,hc0⟩:=Kd.Aq h z116 i h0 h1;have hc : ∀ j u,c[j]? = some u→w.cell? (ad.add (i.toNat * 4 + j)) = some u:=hc0;obtain rfl:=yw hK;exact ⟨ad,e,hc 0 _ rfl,by rw [← mR _ _ 1 (by omega)];exact hc 1 _ rfl,by rw [← mR _ _ 2 (by omega)];exact hc 2 _ rfl,by rw [← mR _ _ 3 (by omega)];exact hc 3 _ rfl⟩
def CB (xs : List (List Int)) (i : Int) : (List Int):=xs.getD i.toNat ([] : List Int)
theorem Hm {w : World} {A : Option Addr} {n : Nat} {xs : List (List Int)} (h : Kd.C (Kd.slice 3 (Kd.int .i64)) w A n xs) (i : Int) (h0 : 0 ≤ i) (h1 : i < n) : ∃ ad A0 c0,A = some ad∧w.cell? (ad.add i.toNat) = some (.slice A0 (CB xs i).length c0)∧(CB xs i).length ≤ c0∧(Kd.int .i64).C w A0 (CB xs i).length (CB xs i):=by
 obtain ⟨ad,c,e,_,hK,hc0⟩:=Kd.Aq h ([] : List Int) i h0 h1;have hc : ∀ j u,c[j]? = some u→w.cell? (ad.add (i.toNat * 1 + j)) = some u:=hc0;obtain ⟨A0,c0,rfl,l0,g0⟩:=hK;exact ⟨ad,A0,c0,e,by have hq:=hc 0 _ rfl;rwa [Nat.mul_one,Nat.add_zero] at hq,l0,g0⟩
structure oN where
 f0 : Bool
 f1 : (List Int)
 f2 : mF
def Du : oN:=⟨false,([] : List Int),z116⟩
def rV : Kd oN:=Kd.Gv (Kd.pair Kd.bool (Kd.pair (Kd.slice 3 (Kd.int .i64)) qd)) (fun x : oN=>(x.f0,x.f1,x.f2))
theorem wG {w : World} {x : oN} {cs : List Value} (h : rV.K w x cs) : ∃ A1 c1,cs = [.bool x.f0,.slice A1 x.f1.length c1,.int .i64 x.f2.f0,.int .i64 x.f2.f1,.int .i64 x.f2.f2,.int .i64 x.f2.f3]∧x.f1.length ≤ c1∧(Kd.int .i64).C w A1 x.f1.length x.f1:=by
 obtain ⟨_,_,rfl,rfl,⟨_,_,rfl,⟨A1,c1,rfl,l1,g1⟩,s2⟩⟩:=h;obtain rfl:=yw s2;exact ⟨A1,c1,rfl,l1,g1⟩
theorem Fj {w : World} {base : Nat} {ok : Nat→Prop} {x : oN} {cs : List Value} (h : rV.M w base ok x cs) : ∃ v1,cs = [.bool x.f0,v1,.int .i64 x.f2.f0,.int .i64 x.f2.f1,.int .i64 x.f2.f2,.int .i64 x.f2.f3]∧(Kd.int .i64).R 3 w base ok v1 x.f1:=by
 obtain ⟨_,_,rfl,rfl,⟨_,_,rfl,⟨v1,rfl,g1⟩,s2⟩⟩:=h;obtain rfl:=BB s2;exact ⟨v1,rfl,g1⟩
theorem EH (w : World) (x : oN) {A1 : Option Addr} {c1 : Nat} (l1 : x.f1.length ≤ c1) (g1 : (Kd.int .i64).C w A1 x.f1.length x.f1) : rV.K w x [.bool x.f0,.slice A1 x.f1.length c1,.int .i64 x.f2.f0,.int .i64 x.f2.f1,.int .i64 x.f2.f2,.int .i64 x.f2.f3]:=⟨[.bool x.f0],[.slice A1 x.f1.length c1,.int .i64 x.f2.f0,.int .i64 x.f2.f1,.int .i64 x.f2.f2,.int .i64 x.f2.f3],rfl,rfl,⟨[.slice A1 x.f1.length c1],[.int .i64 x.f2.f0,.int .i64 x.f2.f1,.int .i64 x.f2.f2,.int .i64 x.f2.f3],rfl,⟨A1,c1,rfl,l1,g1⟩,(BP w x.f2)⟩⟩
theorem GJ (w : World) (base : Nat) (ok : Nat→Prop) (x : oN) {v1 : Value} (g1 : (Kd.int .i64).R 3 w base ok v1 x.f1) : rV.M w base ok x [.bool x.f0,v1,.int .i64 x.f2.f0,.int .i64 x.f2.f1,.int .i64 x.f2.f2,.int .i64 x.f2.f3]:=⟨[.bool x.f0],[v1,.int .i64 x.f2.f0,.int .i64 x.f2.f1,.int .i64 x.f2.f2,.int .i64 x.f2.f3],rfl,rfl,⟨[v1],[.int .i64 x.f2.f0,.int .i64 x.f2.f1,.int .i64 x.f2.f2,.int .i64 x.f2.f3],rfl,⟨v1,rfl,g1⟩,(DY w base ok x.f2)⟩⟩
theorem FW {W : World} {ok : Nat→Prop} {x : oN} {cs : List Value} (h : Kd.FK rV W ok x cs) : ∃ A1 c1,cs = [.bool x.f0,.slice A1 x.f1.length c1,.int .i64 x.f2.f0,.int .i64 x.f2.f1,.int .i64 x.f2.f2,.int .i64 x.f2.f3]∧x.f1.length ≤ c1∧Kd.F (Kd.int .i64) W ok A1 x.f1.length x.f1:=by
 obtain ⟨A1,c1,rfl,l1,_⟩:=wG (Kd.Ec h);exact ⟨A1,c1,rfl,l1,(fun W' hW=>by obtain ⟨A1_,c1_,he,l1_,g1_⟩:=wG (h W' hW);injection (Option.some.inj (show some (Value.slice A1 x.f1.length c1) = some (Value.slice A1_ x.f1.length c1_) from congrArg (fun l=>l[1]?) he)) with ha_ _ _;rw [ha_];exact g1_)⟩
theorem Gz (W : World) (ok : Nat→Prop) (x : oN) {A1 : Option Addr} {c1 : Nat} (l1 : x.f1.length ≤ c1) (g1 : Kd.F (Kd.int .i64) W ok A1 x.f1.length x.f1) : Kd.FK rV W ok x [.bool x.f0,.slice A1 x.f1.length c1,.int .i64 x.f2.f0,.int .i64 x.f2.f1,.int .i64 x.f2.f2,.int .i64 x.f2.f3]:=fun W2 hW=>EH W2 x l1 (g1 W2 hW)
def gK (xs : List oN) (i : Int) : oN:=xs.getD i.toNat Du
theorem Ae {w : World} {A : Option Addr} {n : Nat} {xs : List oN} (h : Kd.C rV w A n xs) (i : Int) (h0 : 0 ≤ i) (h1 : i < n) : ∃ ad A1 c1,A = some ad∧w.cell? (ad.add (i.toNat * 6)) = some (.bool (gK xs i).f0)∧w.cell? ⟨(ad.add (i.toNat * 6)).block,(ad.add (i.toNat * 6)).off + 1,none⟩ = some (.slice A1 (gK xs i).f1.length c1)∧w.cell? ⟨(ad.add (i.toNat * 6)).block,(ad.add (i.toNat * 6)).off + 2,none⟩ = some (.int .i64 (gK xs i).f2.f0)∧w.cell? ⟨(ad.add (i.toNat * 6)).block,(ad.add (i.toNat * 6)).off + 3,none⟩ = some (.int .i64 (gK xs i).f2.f1)∧w.cell? ⟨(ad.add (i.toNat * 6)).block,(ad.add (i.toNat * 6)).off + 4,none⟩ = some (.int .i64 (gK xs i).f2.f2)∧w.cell? ⟨(ad.add (i.toNat * 6)).block,(ad.add (i.toNat * 6)).off + 5,none⟩ = some (.int .i64 (gK xs i).f2.f3)∧(gK xs i).f1.length ≤ c1∧(Kd.int .i64).C w A1 (gK xs i).f1.length (gK xs i).f1:=by
 obtain ⟨ad,c,e,_,hK,hc0⟩:=Kd.Aq h Du i h0 h1;have hc : ∀ j u,c[j]? = some u→w.cell? (ad.add (i.toNat * 6 + j)) = some u:=hc0;obtain ⟨A1,c1,rfl,l1,g1⟩:=wG hK;exact ⟨ad,A1,c1,e,hc 0 _ rfl,by rw [← mR _ _ 1 (by omega)];exact hc 1 _ rfl,by rw [← mR _ _ 2 (by omega)];exact hc 2 _ rfl,by rw [← mR _ _ 3 (by omega)];exact hc 3 _ rfl,by rw [← mR _ _ 4 (by omega)];exact hc 4 _ rfl,by rw [← mR _ _ 5 (by omega)];exact hc 5 _ rfl,l1,g1⟩
structure bV where
 f0 : Int
 f1 : Int
 f2 : Int
 f3 : Int
def z58 : bV:=⟨(0 : Int),(0 : Int),(0 : Int),(0 : Int)⟩
def mo : Kd bV:=Kd.Gv (Kd.pair (Kd.int .i64) (Kd.pair (Kd.int .i64) (Kd.pair (Kd.int .i64) (Kd.int .i64)))) (fun x : bV=>(x.f0,x.f1,x.f2,x.f3))
theorem Aj {w : World} {x : bV} {cs : List Value} (h : mo.K w x cs) : cs = [.int .i64 x.f0,.int .i64 x.f1,.int .i64 x.f2,.int .i64 x.f3]:=by
 obtain ⟨_,_,rfl,rfl,⟨_,_,rfl,rfl,⟨_,_,rfl,rfl,rfl⟩⟩⟩:=h;exact rfl
theorem pF {w : World} {base : Nat} {ok : Nat→Prop} {x : bV} {cs : List Value} (h : mo.M w base ok x cs) : cs = [.int .i64 x.f0,.int .i64 x.f1,.int .i64 x.f2,.int .i64 x.f3]:=by
 obtain ⟨_,_,rfl,rfl,⟨_,_,rfl,rfl,⟨_,_,rfl,rfl,rfl⟩⟩⟩:=h;exact rfl
theorem DU (w : World) (x : bV)  : mo.K w x [.int .i64 x.f0,.int .i64 x.f1,.int .i64 x.f2,.int .i64 x.f3]:=⟨[.int .i64 x.f0],[.int .i64 x.f1,.int .i64 x.f2,.int .i64 x.f3],rfl,rfl,⟨[.int .i64 x.f1],[.int .i64 x.f2,.int .i64 x.f3],rfl,rfl,⟨[.int .i64 x.f2],[.int .i64 x.f3],rfl,rfl,rfl⟩⟩⟩
theorem qp (w : World) (base : Nat) (ok : Nat→Prop) (x : bV)  : mo.M w base ok x [.int .i64 x.f0,.int .i64 x.f1,.int .i64 x.f2,.int .i64 x.f3]:=⟨[.int .i64 x.f0],[.int .i64 x.f1,.int .i64 x.f2,.int .i64 x.f3],rfl,rfl,⟨[.int .i64 x.f1],[.int .i64 x.f2,.int .i64 x.f3],rfl,rfl,⟨[.int .i64 x.f2],[.int .i64 x.f3],rfl,rfl,rfl⟩⟩⟩
theorem GZ (W : World) (ok : Nat→Prop) (x : bV) : Kd.FK mo W ok x [.int .i64 x.f0,.int .i64 x.f1,.int .i64 x.f2,.int .i64 x.f3]:=fun W2 _=>DU W2 x
def ak (xs : List bV) (i : Int) : bV:=xs.getD i.toNat z58
theorem lF {w : World} {A : Option Addr} {n : Nat} {xs : List bV} (h : Kd.C mo w A n xs) (i : Int) (h0 : 0 ≤ i) (h1 : i < n) : ∃ ad,A = some ad∧w.cell? (ad.add (i.toNat * 4)) = some (.int .i64 (ak xs i).f0)∧w.cell? ⟨(ad.add (i.toNat * 4)).block,(ad.add (i.toNat * 4)).off + 1,none⟩ = some (.int .i64 (ak xs i).f1)∧w.cell? ⟨(ad.add (i.toNat * 4)).block,(ad.add (i.toNat * 4)).off + 2,none⟩ = some (.int .i64 (ak xs i).f2)∧w.cell? ⟨(ad.add (i.toNat * 4)).block,(ad.add (i.toNat * 4)).off + 3,none⟩ = some (.int .i64 (ak xs i).f3):=by
 obtain ⟨ad,c,e,_,hK,hc0⟩:=Kd.Aq h z58 i h0 h1;have hc : ∀ j u,c[j]? = some u→w.cell? (ad.add (i.toNat * 4 + j)) = some u:=hc0;obtain rfl:=Aj hK;exact ⟨ad,e,hc 0 _ rfl,by rw [← mR _ _ 1 (by omega)];exact hc 1 _ rfl,by rw [← mR _ _ 2 (by omega)];exact hc 2 _ rfl,by rw [← mR _ _ 3 (by omega)];exact hc 3 _ rfl⟩
structure fT where
 f0 : Bool
 f1 : (List Int)
 f2 : bV
def z84 : fT:=⟨false,([] : List Int),z58⟩
def pW : Kd fT:=Kd.Gv (Kd.pair Kd.bool (Kd.pair (Kd.slice 3 (Kd.int .i64)) mo)) (fun x : fT=>(x.f0,x.f1,x.f2))
theorem xN {w : World} {x : fT} {cs : List Value} (h : pW.K w x cs) : ∃ A1 c1,cs = [.bool x.f0,.slice A1 x.f1.length c1,.int .i64 x.f2.f0,.int .i64 x.f2.f1,.int .i64 x.f2.f2,.int .i64 x.f2.f3]∧x.f1.length ≤ c1∧(Kd.int .i64).C w A1 x.f1.length x.f1:=by
 obtain ⟨_,_,rfl,rfl,⟨_,_,rfl,⟨A1,c1,rfl,l1,g1⟩,s2⟩⟩:=h;obtain rfl:=Aj s2;exact ⟨A1,c1,rfl,l1,g1⟩
theorem wD {w : World} {base : Nat} {ok : Nat→Prop} {x : fT} {cs : List Value} (h : pW.M w base ok x cs) : ∃ v1,cs = [.bool x.f0,v1,.int .i64 x.f2.f0,.int .i64 x.f2.f1,.int .i64 x.f2.f2,.int .i64 x.f2.f3]∧(Kd.int .i64).R 3 w base ok v1 x.f1:=by
 obtain ⟨_,_,rfl,rfl,⟨_,_,rfl,⟨v1,rfl,g1⟩,s2⟩⟩:=h;obtain rfl:=pF s2;exact ⟨v1,rfl,g1⟩
theorem Fh (w : World) (x : fT) {A1 : Option Addr} {c1 : Nat} (l1 : x.f1.length ≤ c1) (g1 : (Kd.int .i64).C w A1 x.f1.length x.f1) : pW.K w x [.bool x.f0,.slice A1 x.f1.length c1,.int .i64 x.f2.f0,.int .i64 x.f2.f1,.int .i64 x.f2.f2,.int .i64 x.f2.f3]:=⟨[.bool x.f0],[.slice A1 x.f1.length c1,.int .i64 x.f2.f0,.int .i64 x.f2.f1,.int .i64 x.f2.f2,.int .i64 x.f2.f3],rfl,rfl,⟨[.slice A1 x.f1.length c1],[.int .i64 x.f2.f0,.int .i64 x.f2.f1,.int .i64 x.f2.f2,.int .i64 x.f2.f3],rfl,⟨A1,c1,rfl,l1,g1⟩,(DU w x.f2)⟩⟩
theorem rD (w : World) (base : Nat) (ok : Nat→Prop) (x : fT) {v1 : Value} (g1 : (Kd.int .i64).R 3 w base ok v1 x.f1) : pW.M w base ok x [.bool x.f0,v1,.int .i64 x.f2.f0,.int .i64 x.f2.f1,.int .i64 x.f2.f2,.int .i64 x.f2.f3]:=⟨[.bool x.f0],[v1,.int .i64 x.f2.f0,.int .i64 x.f2.f1,.int .i64 x.f2.f2,.int .i64 x.f2.f3],rfl,rfl,⟨[v1],[.int .i64 x.f2.f0,.int .i64 x.f2.f1,.int .i64 x.f2.f2,.int .i64 x.f2.f3],rfl,⟨v1,rfl,g1⟩,(qp w base ok x.f2)⟩⟩
theorem F7 {W : World} {ok : Nat→Prop} {x : fT} {cs : List Value} (h : Kd.FK pW W ok x cs) : ∃ A1 c1,cs = [.bool x.f0,.slice A1 x.f1.length c1,.int .i64 x.f2.f0,.int .i64 x.f2.f1,.int .i64 x.f2.f2,.int .i64 x.f2.f3]∧x.f1.length ≤ c1∧Kd.F (Kd.int .i64) W ok A1 x.f1.length x.f1:=by
 obtain ⟨A1,c1,rfl,l1,_⟩:=xN (Kd.Ec h);exact ⟨A1,c1,rfl,l1,(fun W' hW=>by obtain ⟨A1_,c1_,he,l1_,g1_⟩:=xN (h W' hW);injection (Option.some.inj (show some (Value.slice A1 x.f1.length c1) = some (Value.slice A1_ x.f1.length c1_) from congrArg (fun l=>l[1]?) he)) with ha_ _ _;rw [ha_];exact g1_)⟩
theorem GV (W : World) (ok : Nat→Prop) (x : fT) {A1 : Option Addr} {c1 : Nat} (l1 : x.f1.length ≤ c1) (g1 : Kd.F (Kd.int .i64) W ok A1 x.f1.length x.f1) : Kd.FK pW W ok x [.bool x.f0,.slice A1 x.f1.length c1,.int .i64 x.f2.f0,.int .i64 x.f2.f1,.int .i64 x.f2.f2,.int .i64 x.f2.f3]:=fun W2 hW=>Fh W2 x l1 (g1 W2 hW)
def ag (xs : List fT) (i : Int) : fT:=xs.getD i.toNat z84
theorem ik {w : World} {A : Option Addr} {n : Nat} {xs : List fT} (h : Kd.C pW w A n xs) (i : Int) (h0 : 0 ≤ i) (h1 : i < n) : ∃ ad A1 c1,A = some ad∧w.cell? (ad.add (i.toNat * 6)) = some (.bool (ag xs i).f0)∧w.cell? ⟨(ad.add (i.toNat * 6)).block,(ad.add (i.toNat * 6)).off + 1,none⟩ = some (.slice A1 (ag xs i).f1.length c1)∧w.cell? ⟨(ad.add (i.toNat * 6)).block,(ad.add (i.toNat * 6)).off + 2,none⟩ = some (.int .i64 (ag xs i).f2.f0)∧w.cell? ⟨(ad.add (i.toNat * 6)).block,(ad.add (i.toNat * 6)).off + 3,none⟩ = some (.int .i64 (ag xs i).f2.f1)∧w.cell? ⟨(ad.add (i.toNat * 6)).block,(ad.add (i.toNat * 6)).off + 4,none⟩ = some (.int .i64 (ag xs i).f2.f2)∧w.cell? ⟨(ad.add (i.toNat * 6)).block,(ad.add (i.toNat * 6)).off + 5,none⟩ = some (.int .i64 (ag xs i).f2.f3)∧(ag xs i).f1.length ≤ c1∧(Kd.int .i64).C w A1 (ag xs i).f1.length (ag xs i).f1:=by
 obtain ⟨ad,c,e,_,hK,hc0⟩:=Kd.Aq h z84 i h0 h1;have hc : ∀ j u,c[j]? = some u→w.cell? (ad.add (i.toNat * 6 + j)) = some u:=hc0;obtain ⟨A1,c1,rfl,l1,g1⟩:=xN hK;exact ⟨ad,A1,c1,e,hc 0 _ rfl,by rw [← mR _ _ 1 (by omega)];exact hc 1 _ rfl,by rw [← mR _ _ 2 (by omega)];exact hc 2 _ rfl,by rw [← mR _ _ 3 (by omega)];exact hc 3 _ rfl,by rw [← mR _ _ 4 (by omega)];exact hc 4 _ rfl,by rw [← mR _ _ 5 (by omega)];exact hc 5 _ rfl,l1,g1⟩
end Go.Proofs.YtklkdpcopfjmcaaGreat.PFnExactAbsWiden
