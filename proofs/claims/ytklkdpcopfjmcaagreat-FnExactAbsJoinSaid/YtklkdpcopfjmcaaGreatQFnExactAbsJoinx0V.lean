/- Functions of the program as plain Lean functions, and that calls of them come to what these tell. Conditions: those in each law. -/
import Derived.Test.YtklkdpcopfjmcaaGreatZ0V
import Derived.Test.YtklkdpcopfjmcaaGreatSqV
import Derived.Test.YtklkdpcopfjmcaaGreatProg
import Derived.Below
import Derived.Deep.Draws
import Derived.Deep.AppendLies
import Derived.Maps.AppendAt
import Derived.OwnWalk
import Derived.Laws.BytesArg
import Derived.Laws.MakeOwn
import Derived.Laws.OwnMore
import Derived.Deep.OwnRows
import Derived.Tactics
import Derived.Lib.ConvBytes
import Derived.Laws.Slices
import Derived.WalkKit
import Derived.KernelRfl
import Derived.RowKit3
import Derived.Deep.LoopGhost
import Derived.Deep.QuietTactic
import Derived.BigQuiet
import Derived.WideLaws
import Derived.Deep.DeepCutAuto
import Derived.Deep.CutBlock
import Derived.Deep.RegionHeld3
import Derived.Laws.Rows
import Derived.Lib.AppendStr
import Derived.ArgAppend
import Derived.Laws.IdiomCopy
import Derived.OrdersHeld
import Derived.Laws.BitsLemmas
import Derived.RowKit
namespace Go.Proofs.YtklkdpcopfjmcaaGreat.PFnExactAbsJoin
open Go.RowKit Go.Proofs.YtklkdpcopfjmcaaGreat.Sq Go.Proofs.YtklkdpcopfjmcaaGreatW.PrintWords Go.Proofs.YtklkdpcopfjmcaaGreatW.PrintLast Go.Proofs.YtklkdpcopfjmcaaGreatW.PrintMore
attribute [local go_sem] max2_int min2_int max_two min_two max_three min_three max_four min_four   -- for this text's walks alone
set_option linter.unusedVariables false
set_option linter.unusedSimpArgs false



def errW : Option Int→Value
 | none=>.nilIface
 | some c=>.iface 0 (.int .i64 c)
theorem errW_none : errW none = .nilIface:=rfl
theorem errW_some (c : Int) : errW (some c) = .iface 0 (.int .i64 c):=rfl

theorem info3 : (Tryz.prog.info? 3).map (fun i=>(i.zero,i.size,i.bytes)) = some (some (.int .i64 0),1,8):=by kernel_rfl
theorem info58 : (Tryz.prog.info? 58).map (fun i=>(i.zero,i.size,i.bytes)) = some (some (.agg #[(.int .i64 0),(.int .i64 0),(.int .i64 0),(.int .i64 0)]),4,32):=by kernel_rfl
theorem info84 : (Tryz.prog.info? 84).map (fun i=>(i.zero,i.size,i.bytes)) = some (some (.agg #[(.bool false),(.slice none 0 0),(.int .i64 0),(.int .i64 0),(.int .i64 0),(.int .i64 0)]),6,64):=by kernel_rfl
-- the values' own types
/-! #### struct type 116 -/
structure S116 where
 f0 : Int
 f1 : Int
 f2 : Int
 f3 : Int
def z116 : S116:=⟨(0 : Int),(0 : Int),(0 : Int),(0 : Int)⟩
def k116 : Kd S116:=Kd.iso (Kd.pair (Kd.int .i64) (Kd.pair (Kd.int .i64) (Kd.pair (Kd.int .i64) (Kd.int .i64)))) (fun x : S116=>(x.f0,x.f1,x.f2,x.f3))
theorem k116_heap : Kd.Heap k116:=Kd.heap_iso _ (Kd.heap_pair (Kd.heap_int .i64) (Kd.heap_pair (Kd.heap_int .i64) (Kd.heap_pair (Kd.heap_int .i64) (Kd.heap_int .i64))))
theorem k116_open {w : World} {x : S116} {cs : List Value} (h : k116.K w x cs) : cs = [.int .i64 x.f0,.int .i64 x.f1,.int .i64 x.f2,.int .i64 x.f3]:=by
 obtain ⟨_,_,rfl,rfl,⟨_,_,rfl,rfl,⟨_,_,rfl,rfl,rfl⟩⟩⟩:=h;exact rfl
theorem k116_openM {w : World} {base : Nat} {ok : Nat→Prop} {x : S116} {cs : List Value} (h : k116.M w base ok x cs) : cs = [.int .i64 x.f0,.int .i64 x.f1,.int .i64 x.f2,.int .i64 x.f3]:=by
 obtain ⟨_,_,rfl,rfl,⟨_,_,rfl,rfl,⟨_,_,rfl,rfl,rfl⟩⟩⟩:=h;exact rfl
theorem k116_mk (w : World) (x : S116)  : k116.K w x [.int .i64 x.f0,.int .i64 x.f1,.int .i64 x.f2,.int .i64 x.f3]:=⟨[.int .i64 x.f0],[.int .i64 x.f1,.int .i64 x.f2,.int .i64 x.f3],rfl,rfl,⟨[.int .i64 x.f1],[.int .i64 x.f2,.int .i64 x.f3],rfl,rfl,⟨[.int .i64 x.f2],[.int .i64 x.f3],rfl,rfl,rfl⟩⟩⟩
theorem k116_mkM (w : World) (base : Nat) (ok : Nat→Prop) (x : S116)  : k116.M w base ok x [.int .i64 x.f0,.int .i64 x.f1,.int .i64 x.f2,.int .i64 x.f3]:=⟨[.int .i64 x.f0],[.int .i64 x.f1,.int .i64 x.f2,.int .i64 x.f3],rfl,rfl,⟨[.int .i64 x.f1],[.int .i64 x.f2,.int .i64 x.f3],rfl,rfl,⟨[.int .i64 x.f2],[.int .i64 x.f3],rfl,rfl,rfl⟩⟩⟩
theorem k116_mkF (W : World) (ok : Nat→Prop) (x : S116) : Kd.FK k116 W ok x [.int .i64 x.f0,.int .i64 x.f1,.int .i64 x.f2,.int .i64 x.f3]:=fun W2 _=>k116_mk W2 x
def rd_T116 (xs : List S116) (i : Int) : S116:=xs.getD i.toNat z116
theorem at_T116 {w : World} {A : Option Addr} {n : Nat} {xs : List S116} (h : Kd.C k116 w A n xs) (i : Int) (h0 : 0 ≤ i) (h1 : i < n) : ∃ ad,A = some ad∧w.cell? (ad.add (i.toNat * 4)) = some (.int .i64 (rd_T116 xs i).f0)∧w.cell? ⟨(ad.add (i.toNat * 4)).block,(ad.add (i.toNat * 4)).off + 1,none⟩ = some (.int .i64 (rd_T116 xs i).f1)∧w.cell? ⟨(ad.add (i.toNat * 4)).block,(ad.add (i.toNat * 4)).off + 2,none⟩ = some (.int .i64 (rd_T116 xs i).f2)∧w.cell? ⟨(ad.add (i.toNat * 4)).block,(ad.add (i.toNat * 4)).off + 3,none⟩ = some (.int .i64 (rd_T116 xs i).f3):=by
 obtain ⟨ad,c,e,_,hK,hc0⟩:=Kd.C_get h z116 i h0 h1;have hc : ∀ j u,c[j]? = some u→w.cell? (ad.add (i.toNat * 4 + j)) = some u:=hc0;obtain rfl:=k116_open hK;exact ⟨ad,e,hc 0 _ rfl,by rw [← add_field _ _ 1 (by omega)];exact hc 1 _ rfl,by rw [← add_field _ _ 2 (by omega)];exact hc 2 _ rfl,by rw [← add_field _ _ 3 (by omega)];exact hc 3 _ rfl⟩

def rd_L3 (xs : List (List Int)) (i : Int) : (List Int):=xs.getD i.toNat ([] : List Int)
theorem at_L3 {w : World} {A : Option Addr} {n : Nat} {xs : List (List Int)} (h : Kd.C (Kd.slice 3 (Kd.int .i64)) w A n xs) (i : Int) (h0 : 0 ≤ i) (h1 : i < n) : ∃ ad A0 c0,A = some ad∧w.cell? (ad.add i.toNat) = some (.slice A0 (rd_L3 xs i).length c0)∧(rd_L3 xs i).length ≤ c0∧(Kd.int .i64).C w A0 (rd_L3 xs i).length (rd_L3 xs i):=by
 obtain ⟨ad,c,e,_,hK,hc0⟩:=Kd.C_get h ([] : List Int) i h0 h1;have hc : ∀ j u,c[j]? = some u→w.cell? (ad.add (i.toNat * 1 + j)) = some u:=hc0;obtain ⟨A0,c0,rfl,l0,g0⟩:=hK;exact ⟨ad,A0,c0,e,by have hq:=hc 0 _ rfl;rwa [Nat.mul_one,Nat.add_zero] at hq,l0,g0⟩

/-! #### struct type 118 -/
structure S118 where
 f0 : Bool
 f1 : (List Int)
 f2 : S116
def z118 : S118:=⟨false,([] : List Int),z116⟩
def k118 : Kd S118:=Kd.iso (Kd.pair Kd.bool (Kd.pair (Kd.slice 3 (Kd.int .i64)) k116)) (fun x : S118=>(x.f0,x.f1,x.f2))
theorem k118_heap : Kd.Heap k118:=Kd.heap_iso _ (Kd.heap_pair Kd.heap_bool (Kd.heap_pair (Kd.heap_slice 3 (Kd.heap_int .i64)) k116_heap))
theorem k118_open {w : World} {x : S118} {cs : List Value} (h : k118.K w x cs) : ∃ A1 c1,cs = [.bool x.f0,.slice A1 x.f1.length c1,.int .i64 x.f2.f0,.int .i64 x.f2.f1,.int .i64 x.f2.f2,.int .i64 x.f2.f3]∧x.f1.length ≤ c1∧(Kd.int .i64).C w A1 x.f1.length x.f1:=by
 obtain ⟨_,_,rfl,rfl,⟨_,_,rfl,⟨A1,c1,rfl,l1,g1⟩,s2⟩⟩:=h;obtain rfl:=k116_open s2;exact ⟨A1,c1,rfl,l1,g1⟩
theorem k118_openM {w : World} {base : Nat} {ok : Nat→Prop} {x : S118} {cs : List Value} (h : k118.M w base ok x cs) : ∃ v1,cs = [.bool x.f0,v1,.int .i64 x.f2.f0,.int .i64 x.f2.f1,.int .i64 x.f2.f2,.int .i64 x.f2.f3]∧(Kd.int .i64).R 3 w base ok v1 x.f1:=by
 obtain ⟨_,_,rfl,rfl,⟨_,_,rfl,⟨v1,rfl,g1⟩,s2⟩⟩:=h;obtain rfl:=k116_openM s2;exact ⟨v1,rfl,g1⟩
theorem k118_mk (w : World) (x : S118) {A1 : Option Addr} {c1 : Nat} (l1 : x.f1.length ≤ c1) (g1 : (Kd.int .i64).C w A1 x.f1.length x.f1) : k118.K w x [.bool x.f0,.slice A1 x.f1.length c1,.int .i64 x.f2.f0,.int .i64 x.f2.f1,.int .i64 x.f2.f2,.int .i64 x.f2.f3]:=⟨[.bool x.f0],[.slice A1 x.f1.length c1,.int .i64 x.f2.f0,.int .i64 x.f2.f1,.int .i64 x.f2.f2,.int .i64 x.f2.f3],rfl,rfl,⟨[.slice A1 x.f1.length c1],[.int .i64 x.f2.f0,.int .i64 x.f2.f1,.int .i64 x.f2.f2,.int .i64 x.f2.f3],rfl,⟨A1,c1,rfl,l1,g1⟩,(k116_mk w x.f2)⟩⟩
theorem k118_mkM (w : World) (base : Nat) (ok : Nat→Prop) (x : S118) {v1 : Value} (g1 : (Kd.int .i64).R 3 w base ok v1 x.f1) : k118.M w base ok x [.bool x.f0,v1,.int .i64 x.f2.f0,.int .i64 x.f2.f1,.int .i64 x.f2.f2,.int .i64 x.f2.f3]:=⟨[.bool x.f0],[v1,.int .i64 x.f2.f0,.int .i64 x.f2.f1,.int .i64 x.f2.f2,.int .i64 x.f2.f3],rfl,rfl,⟨[v1],[.int .i64 x.f2.f0,.int .i64 x.f2.f1,.int .i64 x.f2.f2,.int .i64 x.f2.f3],rfl,⟨v1,rfl,g1⟩,(k116_mkM w base ok x.f2)⟩⟩
theorem k118_openF {W : World} {ok : Nat→Prop} {x : S118} {cs : List Value} (h : Kd.FK k118 W ok x cs) : ∃ A1 c1,cs = [.bool x.f0,.slice A1 x.f1.length c1,.int .i64 x.f2.f0,.int .i64 x.f2.f1,.int .i64 x.f2.f2,.int .i64 x.f2.f3]∧x.f1.length ≤ c1∧Kd.F (Kd.int .i64) W ok A1 x.f1.length x.f1:=by
 obtain ⟨A1,c1,rfl,l1,_⟩:=k118_open (Kd.FK_now h);exact ⟨A1,c1,rfl,l1,(fun W' hW=>by obtain ⟨A1_,c1_,he,l1_,g1_⟩:=k118_open (h W' hW);injection (Option.some.inj (show some (Value.slice A1 x.f1.length c1) = some (Value.slice A1_ x.f1.length c1_) from congrArg (fun l=>l[1]?) he)) with ha_ _ _;rw [ha_];exact g1_)⟩
theorem k118_mkF (W : World) (ok : Nat→Prop) (x : S118) {A1 : Option Addr} {c1 : Nat} (l1 : x.f1.length ≤ c1) (g1 : Kd.F (Kd.int .i64) W ok A1 x.f1.length x.f1) : Kd.FK k118 W ok x [.bool x.f0,.slice A1 x.f1.length c1,.int .i64 x.f2.f0,.int .i64 x.f2.f1,.int .i64 x.f2.f2,.int .i64 x.f2.f3]:=fun W2 hW=>k118_mk W2 x l1 (g1 W2 hW)
def rd_T118 (xs : List S118) (i : Int) : S118:=xs.getD i.toNat z118
theorem at_T118 {w : World} {A : Option Addr} {n : Nat} {xs : List S118} (h : Kd.C k118 w A n xs) (i : Int) (h0 : 0 ≤ i) (h1 : i < n) : ∃ ad A1 c1,A = some ad∧w.cell? (ad.add (i.toNat * 6)) = some (.bool (rd_T118 xs i).f0)∧w.cell? ⟨(ad.add (i.toNat * 6)).block,(ad.add (i.toNat * 6)).off + 1,none⟩ = some (.slice A1 (rd_T118 xs i).f1.length c1)∧w.cell? ⟨(ad.add (i.toNat * 6)).block,(ad.add (i.toNat * 6)).off + 2,none⟩ = some (.int .i64 (rd_T118 xs i).f2.f0)∧w.cell? ⟨(ad.add (i.toNat * 6)).block,(ad.add (i.toNat * 6)).off + 3,none⟩ = some (.int .i64 (rd_T118 xs i).f2.f1)∧w.cell? ⟨(ad.add (i.toNat * 6)).block,(ad.add (i.toNat * 6)).off + 4,none⟩ = some (.int .i64 (rd_T118 xs i).f2.f2)∧w.cell? ⟨(ad.add (i.toNat * 6)).block,(ad.add (i.toNat * 6)).off + 5,none⟩ = some (.int .i64 (rd_T118 xs i).f2.f3)∧(rd_T118 xs i).f1.length ≤ c1∧(Kd.int .i64).C w A1 (rd_T118 xs i).f1.length (rd_T118 xs i).f1:=by
 obtain ⟨ad,c,e,_,hK,hc0⟩:=Kd.C_get h z118 i h0 h1;have hc : ∀ j u,c[j]? = some u→w.cell? (ad.add (i.toNat * 6 + j)) = some u:=hc0;obtain ⟨A1,c1,rfl,l1,g1⟩:=k118_open hK;exact ⟨ad,A1,c1,e,hc 0 _ rfl,by rw [← add_field _ _ 1 (by omega)];exact hc 1 _ rfl,by rw [← add_field _ _ 2 (by omega)];exact hc 2 _ rfl,by rw [← add_field _ _ 3 (by omega)];exact hc 3 _ rfl,by rw [← add_field _ _ 4 (by omega)];exact hc 4 _ rfl,by rw [← add_field _ _ 5 (by omega)];exact hc 5 _ rfl,l1,g1⟩

/-! #### struct type 58 -/
structure S58 where
 f0 : Int
 f1 : Int
 f2 : Int
 f3 : Int
def z58 : S58:=⟨(0 : Int),(0 : Int),(0 : Int),(0 : Int)⟩
def k58 : Kd S58:=Kd.iso (Kd.pair (Kd.int .i64) (Kd.pair (Kd.int .i64) (Kd.pair (Kd.int .i64) (Kd.int .i64)))) (fun x : S58=>(x.f0,x.f1,x.f2,x.f3))
theorem k58_heap : Kd.Heap k58:=Kd.heap_iso _ (Kd.heap_pair (Kd.heap_int .i64) (Kd.heap_pair (Kd.heap_int .i64) (Kd.heap_pair (Kd.heap_int .i64) (Kd.heap_int .i64))))
theorem k58_open {w : World} {x : S58} {cs : List Value} (h : k58.K w x cs) : cs = [.int .i64 x.f0,.int .i64 x.f1,.int .i64 x.f2,.int .i64 x.f3]:=by
 obtain ⟨_,_,rfl,rfl,⟨_,_,rfl,rfl,⟨_,_,rfl,rfl,rfl⟩⟩⟩:=h;exact rfl
theorem k58_openM {w : World} {base : Nat} {ok : Nat→Prop} {x : S58} {cs : List Value} (h : k58.M w base ok x cs) : cs = [.int .i64 x.f0,.int .i64 x.f1,.int .i64 x.f2,.int .i64 x.f3]:=by
 obtain ⟨_,_,rfl,rfl,⟨_,_,rfl,rfl,⟨_,_,rfl,rfl,rfl⟩⟩⟩:=h;exact rfl
theorem k58_mk (w : World) (x : S58)  : k58.K w x [.int .i64 x.f0,.int .i64 x.f1,.int .i64 x.f2,.int .i64 x.f3]:=⟨[.int .i64 x.f0],[.int .i64 x.f1,.int .i64 x.f2,.int .i64 x.f3],rfl,rfl,⟨[.int .i64 x.f1],[.int .i64 x.f2,.int .i64 x.f3],rfl,rfl,⟨[.int .i64 x.f2],[.int .i64 x.f3],rfl,rfl,rfl⟩⟩⟩
theorem k58_mkM (w : World) (base : Nat) (ok : Nat→Prop) (x : S58)  : k58.M w base ok x [.int .i64 x.f0,.int .i64 x.f1,.int .i64 x.f2,.int .i64 x.f3]:=⟨[.int .i64 x.f0],[.int .i64 x.f1,.int .i64 x.f2,.int .i64 x.f3],rfl,rfl,⟨[.int .i64 x.f1],[.int .i64 x.f2,.int .i64 x.f3],rfl,rfl,⟨[.int .i64 x.f2],[.int .i64 x.f3],rfl,rfl,rfl⟩⟩⟩
theorem k58_mkF (W : World) (ok : Nat→Prop) (x : S58) : Kd.FK k58 W ok x [.int .i64 x.f0,.int .i64 x.f1,.int .i64 x.f2,.int .i64 x.f3]:=fun W2 _=>k58_mk W2 x
def rd_T58 (xs : List S58) (i : Int) : S58:=xs.getD i.toNat z58
theorem at_T58 {w : World} {A : Option Addr} {n : Nat} {xs : List S58} (h : Kd.C k58 w A n xs) (i : Int) (h0 : 0 ≤ i) (h1 : i < n) : ∃ ad,A = some ad∧w.cell? (ad.add (i.toNat * 4)) = some (.int .i64 (rd_T58 xs i).f0)∧w.cell? ⟨(ad.add (i.toNat * 4)).block,(ad.add (i.toNat * 4)).off + 1,none⟩ = some (.int .i64 (rd_T58 xs i).f1)∧w.cell? ⟨(ad.add (i.toNat * 4)).block,(ad.add (i.toNat * 4)).off + 2,none⟩ = some (.int .i64 (rd_T58 xs i).f2)∧w.cell? ⟨(ad.add (i.toNat * 4)).block,(ad.add (i.toNat * 4)).off + 3,none⟩ = some (.int .i64 (rd_T58 xs i).f3):=by
 obtain ⟨ad,c,e,_,hK,hc0⟩:=Kd.C_get h z58 i h0 h1;have hc : ∀ j u,c[j]? = some u→w.cell? (ad.add (i.toNat * 4 + j)) = some u:=hc0;obtain rfl:=k58_open hK;exact ⟨ad,e,hc 0 _ rfl,by rw [← add_field _ _ 1 (by omega)];exact hc 1 _ rfl,by rw [← add_field _ _ 2 (by omega)];exact hc 2 _ rfl,by rw [← add_field _ _ 3 (by omega)];exact hc 3 _ rfl⟩

/-! #### struct type 84 -/
structure S84 where
 f0 : Bool
 f1 : (List Int)
 f2 : S58
def z84 : S84:=⟨false,([] : List Int),z58⟩
def k84 : Kd S84:=Kd.iso (Kd.pair Kd.bool (Kd.pair (Kd.slice 3 (Kd.int .i64)) k58)) (fun x : S84=>(x.f0,x.f1,x.f2))
theorem k84_heap : Kd.Heap k84:=Kd.heap_iso _ (Kd.heap_pair Kd.heap_bool (Kd.heap_pair (Kd.heap_slice 3 (Kd.heap_int .i64)) k58_heap))
theorem k84_open {w : World} {x : S84} {cs : List Value} (h : k84.K w x cs) : ∃ A1 c1,cs = [.bool x.f0,.slice A1 x.f1.length c1,.int .i64 x.f2.f0,.int .i64 x.f2.f1,.int .i64 x.f2.f2,.int .i64 x.f2.f3]∧x.f1.length ≤ c1∧(Kd.int .i64).C w A1 x.f1.length x.f1:=by
 obtain ⟨_,_,rfl,rfl,⟨_,_,rfl,⟨A1,c1,rfl,l1,g1⟩,s2⟩⟩:=h;obtain rfl:=k58_open s2;exact ⟨A1,c1,rfl,l1,g1⟩
theorem k84_openM {w : World} {base : Nat} {ok : Nat→Prop} {x : S84} {cs : List Value} (h : k84.M w base ok x cs) : ∃ v1,cs = [.bool x.f0,v1,.int .i64 x.f2.f0,.int .i64 x.f2.f1,.int .i64 x.f2.f2,.int .i64 x.f2.f3]∧(Kd.int .i64).R 3 w base ok v1 x.f1:=by
 obtain ⟨_,_,rfl,rfl,⟨_,_,rfl,⟨v1,rfl,g1⟩,s2⟩⟩:=h;obtain rfl:=k58_openM s2;exact ⟨v1,rfl,g1⟩
theorem k84_mk (w : World) (x : S84) {A1 : Option Addr} {c1 : Nat} (l1 : x.f1.length ≤ c1) (g1 : (Kd.int .i64).C w A1 x.f1.length x.f1) : k84.K w x [.bool x.f0,.slice A1 x.f1.length c1,.int .i64 x.f2.f0,.int .i64 x.f2.f1,.int .i64 x.f2.f2,.int .i64 x.f2.f3]:=⟨[.bool x.f0],[.slice A1 x.f1.length c1,.int .i64 x.f2.f0,.int .i64 x.f2.f1,.int .i64 x.f2.f2,.int .i64 x.f2.f3],rfl,rfl,⟨[.slice A1 x.f1.length c1],[.int .i64 x.f2.f0,.int .i64 x.f2.f1,.int .i64 x.f2.f2,.int .i64 x.f2.f3],rfl,⟨A1,c1,rfl,l1,g1⟩,(k58_mk w x.f2)⟩⟩
theorem k84_mkM (w : World) (base : Nat) (ok : Nat→Prop) (x : S84) {v1 : Value} (g1 : (Kd.int .i64).R 3 w base ok v1 x.f1) : k84.M w base ok x [.bool x.f0,v1,.int .i64 x.f2.f0,.int .i64 x.f2.f1,.int .i64 x.f2.f2,.int .i64 x.f2.f3]:=⟨[.bool x.f0],[v1,.int .i64 x.f2.f0,.int .i64 x.f2.f1,.int .i64 x.f2.f2,.int .i64 x.f2.f3],rfl,rfl,⟨[v1],[.int .i64 x.f2.f0,.int .i64 x.f2.f1,.int .i64 x.f2.f2,.int .i64 x.f2.f3],rfl,⟨v1,rfl,g1⟩,(k58_mkM w base ok x.f2)⟩⟩
theorem k84_openF {W : World} {ok : Nat→Prop} {x : S84} {cs : List Value} (h : Kd.FK k84 W ok x cs) : ∃ A1 c1,cs = [.bool x.f0,.slice A1 x.f1.length c1,.int .i64 x.f2.f0,.int .i64 x.f2.f1,.int .i64 x.f2.f2,.int .i64 x.f2.f3]∧x.f1.length ≤ c1∧Kd.F (Kd.int .i64) W ok A1 x.f1.length x.f1:=by
 obtain ⟨A1,c1,rfl,l1,_⟩:=k84_open (Kd.FK_now h);exact ⟨A1,c1,rfl,l1,(fun W' hW=>by obtain ⟨A1_,c1_,he,l1_,g1_⟩:=k84_open (h W' hW);injection (Option.some.inj (show some (Value.slice A1 x.f1.length c1) = some (Value.slice A1_ x.f1.length c1_) from congrArg (fun l=>l[1]?) he)) with ha_ _ _;rw [ha_];exact g1_)⟩
theorem k84_mkF (W : World) (ok : Nat→Prop) (x : S84) {A1 : Option Addr} {c1 : Nat} (l1 : x.f1.length ≤ c1) (g1 : Kd.F (Kd.int .i64) W ok A1 x.f1.length x.f1) : Kd.FK k84 W ok x [.bool x.f0,.slice A1 x.f1.length c1,.int .i64 x.f2.f0,.int .i64 x.f2.f1,.int .i64 x.f2.f2,.int .i64 x.f2.f3]:=fun W2 hW=>k84_mk W2 x l1 (g1 W2 hW)
def rd_T84 (xs : List S84) (i : Int) : S84:=xs.getD i.toNat z84
theorem at_T84 {w : World} {A : Option Addr} {n : Nat} {xs : List S84} (h : Kd.C k84 w A n xs) (i : Int) (h0 : 0 ≤ i) (h1 : i < n) : ∃ ad A1 c1,A = some ad∧w.cell? (ad.add (i.toNat * 6)) = some (.bool (rd_T84 xs i).f0)∧w.cell? ⟨(ad.add (i.toNat * 6)).block,(ad.add (i.toNat * 6)).off + 1,none⟩ = some (.slice A1 (rd_T84 xs i).f1.length c1)∧w.cell? ⟨(ad.add (i.toNat * 6)).block,(ad.add (i.toNat * 6)).off + 2,none⟩ = some (.int .i64 (rd_T84 xs i).f2.f0)∧w.cell? ⟨(ad.add (i.toNat * 6)).block,(ad.add (i.toNat * 6)).off + 3,none⟩ = some (.int .i64 (rd_T84 xs i).f2.f1)∧w.cell? ⟨(ad.add (i.toNat * 6)).block,(ad.add (i.toNat * 6)).off + 4,none⟩ = some (.int .i64 (rd_T84 xs i).f2.f2)∧w.cell? ⟨(ad.add (i.toNat * 6)).block,(ad.add (i.toNat * 6)).off + 5,none⟩ = some (.int .i64 (rd_T84 xs i).f2.f3)∧(rd_T84 xs i).f1.length ≤ c1∧(Kd.int .i64).C w A1 (rd_T84 xs i).f1.length (rd_T84 xs i).f1:=by
 obtain ⟨ad,c,e,_,hK,hc0⟩:=Kd.C_get h z84 i h0 h1;have hc : ∀ j u,c[j]? = some u→w.cell? (ad.add (i.toNat * 6 + j)) = some u:=hc0;obtain ⟨A1,c1,rfl,l1,g1⟩:=k84_open hK;exact ⟨ad,A1,c1,e,hc 0 _ rfl,by rw [← add_field _ _ 1 (by omega)];exact hc 1 _ rfl,by rw [← add_field _ _ 2 (by omega)];exact hc 2 _ rfl,by rw [← add_field _ _ 3 (by omega)];exact hc 3 _ rfl,by rw [← add_field _ _ 4 (by omega)];exact hc 4 _ rfl,by rw [← add_field _ _ 5 (by omega)];exact hc 5 _ rfl,l1,g1⟩

end Go.Proofs.YtklkdpcopfjmcaaGreat.PFnExactAbsJoin
