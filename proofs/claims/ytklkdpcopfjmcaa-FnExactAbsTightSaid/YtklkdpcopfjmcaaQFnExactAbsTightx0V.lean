/- Functions of the program as plain Lean functions, and that calls of them come to what these tell. Conditions: those in each law. -/
import Derived.Test.YtklkdpcopfjmcaaZ0V
import Derived.Test.YtklkdpcopfjmcaaSqV
import Derived.Test.YtklkdpcopfjmcaaProg
import Derived.Below
import Derived.Deep.Draws
import Derived.Deep.AppendLies
import Derived.Maps.AppendAt
import Derived.OwnWalk
import Derived.Laws.BytesArg
import Derived.Laws.MakeOwn
import Derived.Laws.OwnMore
import Derived.Deep.OwnRows
import Derived.Tactics
import Derived.Lib.ConvBytes
import Derived.Laws.Slices
import Derived.WalkKit
import Derived.KernelRfl
import Derived.RowKit3
import Derived.Deep.LoopGhost
import Derived.Deep.QuietTactic
import Derived.BigQuiet
import Derived.WideLaws
import Derived.Deep.DeepCutAuto
import Derived.Deep.CutBlock
import Derived.Deep.RegionHeld3
import Derived.Laws.Rows
import Derived.Lib.AppendStr
import Derived.ArgAppend
import Derived.Laws.IdiomCopy
import Derived.OrdersHeld
import Derived.Laws.BitsLemmas
import Derived.RowKit
namespace Go.Proofs.Ytklkdpcopfjmcaa.PFnExactAbsTight
open Go.RowKit Go.Proofs.Ytklkdpcopfjmcaa.Sq Go.Proofs.YtklkdpcopfjmcaaW.PrintWords Go.Proofs.YtklkdpcopfjmcaaW.PrintLast Go.Proofs.YtklkdpcopfjmcaaW.PrintMore
attribute [local go_sem] max2_int min2_int max_two min_two max_three min_three max_four min_four   -- for this text's walks alone
set_option linter.unusedVariables false
set_option linter.unusedSimpArgs false



def errW : Option Int→Value
 | none=>.nilIface
 | some c=>.iface 0 (.int .i64 c)
theorem errW_none : errW none = .nilIface:=rfl
theorem errW_some (c : Int) : errW (some c) = .iface 0 (.int .i64 c):=rfl

theorem info3 : (Try.prog.info? 3).map (fun i=>(i.zero,i.size,i.bytes)) = some (some (.int .i64 0),1,8):=by kernel_rfl
theorem info51 : (Try.prog.info? 51).map (fun i=>(i.zero,i.size,i.bytes)) = some (some (.agg #[(.int .i64 0),(.int .i64 0),(.int .i64 0),(.int .i64 0)]),4,32):=by kernel_rfl
theorem info82 : (Try.prog.info? 82).map (fun i=>(i.zero,i.size,i.bytes)) = some (some (.agg #[(.bool false),(.slice none 0 0),(.int .i64 0),(.int .i64 0),(.int .i64 0),(.int .i64 0)]),6,64):=by kernel_rfl
-- the values' own types
/-! #### struct type 85 -/
structure S85 where
 f0 : Int
 f1 : Int
 f2 : Int
 f3 : Int
def z85 : S85:=⟨(0 : Int),(0 : Int),(0 : Int),(0 : Int)⟩
def k85 : Kd S85:=Kd.iso (Kd.pair (Kd.int .i64) (Kd.pair (Kd.int .i64) (Kd.pair (Kd.int .i64) (Kd.int .i64)))) (fun x : S85=>(x.f0,x.f1,x.f2,x.f3))
theorem k85_open {w : World} {x : S85} {cs : List Value} (h : k85.K w x cs) : cs = [.int .i64 x.f0,.int .i64 x.f1,.int .i64 x.f2,.int .i64 x.f3]:=by
 obtain ⟨_,_,rfl,rfl,⟨_,_,rfl,rfl,⟨_,_,rfl,rfl,rfl⟩⟩⟩:=h;exact rfl
theorem k85_openM {w : World} {base : Nat} {ok : Nat→Prop} {x : S85} {cs : List Value} (h : k85.M w base ok x cs) : cs = [.int .i64 x.f0,.int .i64 x.f1,.int .i64 x.f2,.int .i64 x.f3]:=by
 obtain ⟨_,_,rfl,rfl,⟨_,_,rfl,rfl,⟨_,_,rfl,rfl,rfl⟩⟩⟩:=h;exact rfl
theorem k85_mk (w : World) (x : S85)  : k85.K w x [.int .i64 x.f0,.int .i64 x.f1,.int .i64 x.f2,.int .i64 x.f3]:=⟨[.int .i64 x.f0],[.int .i64 x.f1,.int .i64 x.f2,.int .i64 x.f3],rfl,rfl,⟨[.int .i64 x.f1],[.int .i64 x.f2,.int .i64 x.f3],rfl,rfl,⟨[.int .i64 x.f2],[.int .i64 x.f3],rfl,rfl,rfl⟩⟩⟩
theorem k85_mkM (w : World) (base : Nat) (ok : Nat→Prop) (x : S85)  : k85.M w base ok x [.int .i64 x.f0,.int .i64 x.f1,.int .i64 x.f2,.int .i64 x.f3]:=⟨[.int .i64 x.f0],[.int .i64 x.f1,.int .i64 x.f2,.int .i64 x.f3],rfl,rfl,⟨[.int .i64 x.f1],[.int .i64 x.f2,.int .i64 x.f3],rfl,rfl,⟨[.int .i64 x.f2],[.int .i64 x.f3],rfl,rfl,rfl⟩⟩⟩
def rd_T85 (xs : List S85) (i : Int) : S85:=xs.getD i.toNat z85
theorem at_T85 {w : World} {A : Option Addr} {n : Nat} {xs : List S85} (h : Kd.C k85 w A n xs) (i : Int) (h0 : 0 ≤ i) (h1 : i < n) : ∃ ad,A = some ad∧w.cell? (ad.add (i.toNat * 4)) = some (.int .i64 (rd_T85 xs i).f0)∧w.cell? ⟨(ad.add (i.toNat * 4)).block,(ad.add (i.toNat * 4)).off + 1,none⟩ = some (.int .i64 (rd_T85 xs i).f1)∧w.cell? ⟨(ad.add (i.toNat * 4)).block,(ad.add (i.toNat * 4)).off + 2,none⟩ = some (.int .i64 (rd_T85 xs i).f2)∧w.cell? ⟨(ad.add (i.toNat * 4)).block,(ad.add (i.toNat * 4)).off + 3,none⟩ = some (.int .i64 (rd_T85 xs i).f3):=by
 obtain ⟨ad,c,e,_,hK,hc0⟩:=Kd.C_get h z85 i h0 h1;have hc : ∀ j u,c[j]? = some u→w.cell? (ad.add (i.toNat * 4 + j)) = some u:=hc0;obtain rfl:=k85_open hK;exact ⟨ad,e,hc 0 _ rfl,by rw [← add_field _ _ 1 (by omega)];exact hc 1 _ rfl,by rw [← add_field _ _ 2 (by omega)];exact hc 2 _ rfl,by rw [← add_field _ _ 3 (by omega)];exact hc 3 _ rfl⟩

def rd_L3 (xs : List (List Int)) (i : Int) : (List Int):=xs.getD i.toNat ([] : List Int)
theorem at_L3 {w : World} {A : Option Addr} {n : Nat} {xs : List (List Int)} (h : Kd.C (Kd.slice 3 (Kd.int .i64)) w A n xs) (i : Int) (h0 : 0 ≤ i) (h1 : i < n) : ∃ ad A0 c0,A = some ad∧w.cell? (ad.add i.toNat) = some (.slice A0 (rd_L3 xs i).length c0)∧(rd_L3 xs i).length ≤ c0∧(Kd.int .i64).C w A0 (rd_L3 xs i).length (rd_L3 xs i):=by
 obtain ⟨ad,c,e,_,hK,hc0⟩:=Kd.C_get h ([] : List Int) i h0 h1;have hc : ∀ j u,c[j]? = some u→w.cell? (ad.add (i.toNat * 1 + j)) = some u:=hc0;obtain ⟨A0,c0,rfl,l0,g0⟩:=hK;exact ⟨ad,A0,c0,e,by have hq:=hc 0 _ rfl;rwa [Nat.mul_one,Nat.add_zero] at hq,l0,g0⟩

/-! #### struct type 87 -/
structure S87 where
 f0 : Bool
 f1 : (List Int)
 f2 : S85
def z87 : S87:=⟨false,([] : List Int),z85⟩
def k87 : Kd S87:=Kd.iso (Kd.pair Kd.bool (Kd.pair (Kd.slice 3 (Kd.int .i64)) k85)) (fun x : S87=>(x.f0,x.f1,x.f2))
theorem k87_open {w : World} {x : S87} {cs : List Value} (h : k87.K w x cs) : ∃ A1 c1,cs = [.bool x.f0,.slice A1 x.f1.length c1,.int .i64 x.f2.f0,.int .i64 x.f2.f1,.int .i64 x.f2.f2,.int .i64 x.f2.f3]∧x.f1.length ≤ c1∧(Kd.int .i64).C w A1 x.f1.length x.f1:=by
 obtain ⟨_,_,rfl,rfl,⟨_,_,rfl,⟨A1,c1,rfl,l1,g1⟩,s2⟩⟩:=h;obtain rfl:=k85_open s2;exact ⟨A1,c1,rfl,l1,g1⟩
theorem k87_openM {w : World} {base : Nat} {ok : Nat→Prop} {x : S87} {cs : List Value} (h : k87.M w base ok x cs) : ∃ v1,cs = [.bool x.f0,v1,.int .i64 x.f2.f0,.int .i64 x.f2.f1,.int .i64 x.f2.f2,.int .i64 x.f2.f3]∧(Kd.int .i64).R 3 w base ok v1 x.f1:=by
 obtain ⟨_,_,rfl,rfl,⟨_,_,rfl,⟨v1,rfl,g1⟩,s2⟩⟩:=h;obtain rfl:=k85_openM s2;exact ⟨v1,rfl,g1⟩
theorem k87_mk (w : World) (x : S87) {A1 : Option Addr} {c1 : Nat} (l1 : x.f1.length ≤ c1) (g1 : (Kd.int .i64).C w A1 x.f1.length x.f1) : k87.K w x [.bool x.f0,.slice A1 x.f1.length c1,.int .i64 x.f2.f0,.int .i64 x.f2.f1,.int .i64 x.f2.f2,.int .i64 x.f2.f3]:=⟨[.bool x.f0],[.slice A1 x.f1.length c1,.int .i64 x.f2.f0,.int .i64 x.f2.f1,.int .i64 x.f2.f2,.int .i64 x.f2.f3],rfl,rfl,⟨[.slice A1 x.f1.length c1],[.int .i64 x.f2.f0,.int .i64 x.f2.f1,.int .i64 x.f2.f2,.int .i64 x.f2.f3],rfl,⟨A1,c1,rfl,l1,g1⟩,(k85_mk w x.f2)⟩⟩
theorem k87_mkM (w : World) (base : Nat) (ok : Nat→Prop) (x : S87) {v1 : Value} (g1 : (Kd.int .i64).R 3 w base ok v1 x.f1) : k87.M w base ok x [.bool x.f0,v1,.int .i64 x.f2.f0,.int .i64 x.f2.f1,.int .i64 x.f2.f2,.int .i64 x.f2.f3]:=⟨[.bool x.f0],[v1,.int .i64 x.f2.f0,.int .i64 x.f2.f1,.int .i64 x.f2.f2,.int .i64 x.f2.f3],rfl,rfl,⟨[v1],[.int .i64 x.f2.f0,.int .i64 x.f2.f1,.int .i64 x.f2.f2,.int .i64 x.f2.f3],rfl,⟨v1,rfl,g1⟩,(k85_mkM w base ok x.f2)⟩⟩
def rd_T87 (xs : List S87) (i : Int) : S87:=xs.getD i.toNat z87
theorem at_T87 {w : World} {A : Option Addr} {n : Nat} {xs : List S87} (h : Kd.C k87 w A n xs) (i : Int) (h0 : 0 ≤ i) (h1 : i < n) : ∃ ad A1 c1,A = some ad∧w.cell? (ad.add (i.toNat * 6)) = some (.bool (rd_T87 xs i).f0)∧w.cell? ⟨(ad.add (i.toNat * 6)).block,(ad.add (i.toNat * 6)).off + 1,none⟩ = some (.slice A1 (rd_T87 xs i).f1.length c1)∧w.cell? ⟨(ad.add (i.toNat * 6)).block,(ad.add (i.toNat * 6)).off + 2,none⟩ = some (.int .i64 (rd_T87 xs i).f2.f0)∧w.cell? ⟨(ad.add (i.toNat * 6)).block,(ad.add (i.toNat * 6)).off + 3,none⟩ = some (.int .i64 (rd_T87 xs i).f2.f1)∧w.cell? ⟨(ad.add (i.toNat * 6)).block,(ad.add (i.toNat * 6)).off + 4,none⟩ = some (.int .i64 (rd_T87 xs i).f2.f2)∧w.cell? ⟨(ad.add (i.toNat * 6)).block,(ad.add (i.toNat * 6)).off + 5,none⟩ = some (.int .i64 (rd_T87 xs i).f2.f3)∧(rd_T87 xs i).f1.length ≤ c1∧(Kd.int .i64).C w A1 (rd_T87 xs i).f1.length (rd_T87 xs i).f1:=by
 obtain ⟨ad,c,e,_,hK,hc0⟩:=Kd.C_get h z87 i h0 h1;have hc : ∀ j u,c[j]? = some u→w.cell? (ad.add (i.toNat * 6 + j)) = some u:=hc0;obtain ⟨A1,c1,rfl,l1,g1⟩:=k87_open hK;exact ⟨ad,A1,c1,e,hc 0 _ rfl,by rw [← add_field _ _ 1 (by omega)];exact hc 1 _ rfl,by rw [← add_field _ _ 2 (by omega)];exact hc 2 _ rfl,by rw [← add_field _ _ 3 (by omega)];exact hc 3 _ rfl,by rw [← add_field _ _ 4 (by omega)];exact hc 4 _ rfl,by rw [← add_field _ _ 5 (by omega)];exact hc 5 _ rfl,l1,g1⟩

/-! #### struct type 51 -/
structure S51 where
 f0 : Int
 f1 : Int
 f2 : Int
 f3 : Int
def z51 : S51:=⟨(0 : Int),(0 : Int),(0 : Int),(0 : Int)⟩
def k51 : Kd S51:=Kd.iso (Kd.pair (Kd.int .i64) (Kd.pair (Kd.int .i64) (Kd.pair (Kd.int .i64) (Kd.int .i64)))) (fun x : S51=>(x.f0,x.f1,x.f2,x.f3))
theorem k51_open {w : World} {x : S51} {cs : List Value} (h : k51.K w x cs) : cs = [.int .i64 x.f0,.int .i64 x.f1,.int .i64 x.f2,.int .i64 x.f3]:=by
 obtain ⟨_,_,rfl,rfl,⟨_,_,rfl,rfl,⟨_,_,rfl,rfl,rfl⟩⟩⟩:=h;exact rfl
theorem k51_openM {w : World} {base : Nat} {ok : Nat→Prop} {x : S51} {cs : List Value} (h : k51.M w base ok x cs) : cs = [.int .i64 x.f0,.int .i64 x.f1,.int .i64 x.f2,.int .i64 x.f3]:=by
 obtain ⟨_,_,rfl,rfl,⟨_,_,rfl,rfl,⟨_,_,rfl,rfl,rfl⟩⟩⟩:=h;exact rfl
theorem k51_mk (w : World) (x : S51)  : k51.K w x [.int .i64 x.f0,.int .i64 x.f1,.int .i64 x.f2,.int .i64 x.f3]:=⟨[.int .i64 x.f0],[.int .i64 x.f1,.int .i64 x.f2,.int .i64 x.f3],rfl,rfl,⟨[.int .i64 x.f1],[.int .i64 x.f2,.int .i64 x.f3],rfl,rfl,⟨[.int .i64 x.f2],[.int .i64 x.f3],rfl,rfl,rfl⟩⟩⟩
theorem k51_mkM (w : World) (base : Nat) (ok : Nat→Prop) (x : S51)  : k51.M w base ok x [.int .i64 x.f0,.int .i64 x.f1,.int .i64 x.f2,.int .i64 x.f3]:=⟨[.int .i64 x.f0],[.int .i64 x.f1,.int .i64 x.f2,.int .i64 x.f3],rfl,rfl,⟨[.int .i64 x.f1],[.int .i64 x.f2,.int .i64 x.f3],rfl,rfl,⟨[.int .i64 x.f2],[.int .i64 x.f3],rfl,rfl,rfl⟩⟩⟩
def rd_T51 (xs : List S51) (i : Int) : S51:=xs.getD i.toNat z51
theorem at_T51 {w : World} {A : Option Addr} {n : Nat} {xs : List S51} (h : Kd.C k51 w A n xs) (i : Int) (h0 : 0 ≤ i) (h1 : i < n) : ∃ ad,A = some ad∧w.cell? (ad.add (i.toNat * 4)) = some (.int .i64 (rd_T51 xs i).f0)∧w.cell? ⟨(ad.add (i.toNat * 4)).block,(ad.add (i.toNat * 4)).off + 1,none⟩ = some (.int .i64 (rd_T51 xs i).f1)∧w.cell? ⟨(ad.add (i.toNat * 4)).block,(ad.add (i.toNat * 4)).off + 2,none⟩ = some (.int .i64 (rd_T51 xs i).f2)∧w.cell? ⟨(ad.add (i.toNat * 4)).block,(ad.add (i.toNat * 4)).off + 3,none⟩ = some (.int .i64 (rd_T51 xs i).f3):=by
 obtain ⟨ad,c,e,_,hK,hc0⟩:=Kd.C_get h z51 i h0 h1;have hc : ∀ j u,c[j]? = some u→w.cell? (ad.add (i.toNat * 4 + j)) = some u:=hc0;obtain rfl:=k51_open hK;exact ⟨ad,e,hc 0 _ rfl,by rw [← add_field _ _ 1 (by omega)];exact hc 1 _ rfl,by rw [← add_field _ _ 2 (by omega)];exact hc 2 _ rfl,by rw [← add_field _ _ 3 (by omega)];exact hc 3 _ rfl⟩

/-! #### struct type 82 -/
structure S82 where
 f0 : Bool
 f1 : (List Int)
 f2 : S51
def z82 : S82:=⟨false,([] : List Int),z51⟩
def k82 : Kd S82:=Kd.iso (Kd.pair Kd.bool (Kd.pair (Kd.slice 3 (Kd.int .i64)) k51)) (fun x : S82=>(x.f0,x.f1,x.f2))
theorem k82_open {w : World} {x : S82} {cs : List Value} (h : k82.K w x cs) : ∃ A1 c1,cs = [.bool x.f0,.slice A1 x.f1.length c1,.int .i64 x.f2.f0,.int .i64 x.f2.f1,.int .i64 x.f2.f2,.int .i64 x.f2.f3]∧x.f1.length ≤ c1∧(Kd.int .i64).C w A1 x.f1.length x.f1:=by
 obtain ⟨_,_,rfl,rfl,⟨_,_,rfl,⟨A1,c1,rfl,l1,g1⟩,s2⟩⟩:=h;obtain rfl:=k51_open s2;exact ⟨A1,c1,rfl,l1,g1⟩
theorem k82_openM {w : World} {base : Nat} {ok : Nat→Prop} {x : S82} {cs : List Value} (h : k82.M w base ok x cs) : ∃ v1,cs = [.bool x.f0,v1,.int .i64 x.f2.f0,.int .i64 x.f2.f1,.int .i64 x.f2.f2,.int .i64 x.f2.f3]∧(Kd.int .i64).R 3 w base ok v1 x.f1:=by
 obtain ⟨_,_,rfl,rfl,⟨_,_,rfl,⟨v1,rfl,g1⟩,s2⟩⟩:=h;obtain rfl:=k51_openM s2;exact ⟨v1,rfl,g1⟩
theorem k82_mk (w : World) (x : S82) {A1 : Option Addr} {c1 : Nat} (l1 : x.f1.length ≤ c1) (g1 : (Kd.int .i64).C w A1 x.f1.length x.f1) : k82.K w x [.bool x.f0,.slice A1 x.f1.length c1,.int .i64 x.f2.f0,.int .i64 x.f2.f1,.int .i64 x.f2.f2,.int .i64 x.f2.f3]:=⟨[.bool x.f0],[.slice A1 x.f1.length c1,.int .i64 x.f2.f0,.int .i64 x.f2.f1,.int .i64 x.f2.f2,.int .i64 x.f2.f3],rfl,rfl,⟨[.slice A1 x.f1.length c1],[.int .i64 x.f2.f0,.int .i64 x.f2.f1,.int .i64 x.f2.f2,.int .i64 x.f2.f3],rfl,⟨A1,c1,rfl,l1,g1⟩,(k51_mk w x.f2)⟩⟩
theorem k82_mkM (w : World) (base : Nat) (ok : Nat→Prop) (x : S82) {v1 : Value} (g1 : (Kd.int .i64).R 3 w base ok v1 x.f1) : k82.M w base ok x [.bool x.f0,v1,.int .i64 x.f2.f0,.int .i64 x.f2.f1,.int .i64 x.f2.f2,.int .i64 x.f2.f3]:=⟨[.bool x.f0],[v1,.int .i64 x.f2.f0,.int .i64 x.f2.f1,.int .i64 x.f2.f2,.int .i64 x.f2.f3],rfl,rfl,⟨[v1],[.int .i64 x.f2.f0,.int .i64 x.f2.f1,.int .i64 x.f2.f2,.int .i64 x.f2.f3],rfl,⟨v1,rfl,g1⟩,(k51_mkM w base ok x.f2)⟩⟩
def rd_T82 (xs : List S82) (i : Int) : S82:=xs.getD i.toNat z82
theorem at_T82 {w : World} {A : Option Addr} {n : Nat} {xs : List S82} (h : Kd.C k82 w A n xs) (i : Int) (h0 : 0 ≤ i) (h1 : i < n) : ∃ ad A1 c1,A = some ad∧w.cell? (ad.add (i.toNat * 6)) = some (.bool (rd_T82 xs i).f0)∧w.cell? ⟨(ad.add (i.toNat * 6)).block,(ad.add (i.toNat * 6)).off + 1,none⟩ = some (.slice A1 (rd_T82 xs i).f1.length c1)∧w.cell? ⟨(ad.add (i.toNat * 6)).block,(ad.add (i.toNat * 6)).off + 2,none⟩ = some (.int .i64 (rd_T82 xs i).f2.f0)∧w.cell? ⟨(ad.add (i.toNat * 6)).block,(ad.add (i.toNat * 6)).off + 3,none⟩ = some (.int .i64 (rd_T82 xs i).f2.f1)∧w.cell? ⟨(ad.add (i.toNat * 6)).block,(ad.add (i.toNat * 6)).off + 4,none⟩ = some (.int .i64 (rd_T82 xs i).f2.f2)∧w.cell? ⟨(ad.add (i.toNat * 6)).block,(ad.add (i.toNat * 6)).off + 5,none⟩ = some (.int .i64 (rd_T82 xs i).f2.f3)∧(rd_T82 xs i).f1.length ≤ c1∧(Kd.int .i64).C w A1 (rd_T82 xs i).f1.length (rd_T82 xs i).f1:=by
 obtain ⟨ad,c,e,_,hK,hc0⟩:=Kd.C_get h z82 i h0 h1;have hc : ∀ j u,c[j]? = some u→w.cell? (ad.add (i.toNat * 6 + j)) = some u:=hc0;obtain ⟨A1,c1,rfl,l1,g1⟩:=k82_open hK;exact ⟨ad,A1,c1,e,hc 0 _ rfl,by rw [← add_field _ _ 1 (by omega)];exact hc 1 _ rfl,by rw [← add_field _ _ 2 (by omega)];exact hc 2 _ rfl,by rw [← add_field _ _ 3 (by omega)];exact hc 3 _ rfl,by rw [← add_field _ _ 4 (by omega)];exact hc 4 _ rfl,by rw [← add_field _ _ 5 (by omega)];exact hc 5 _ rfl,l1,g1⟩

end Go.Proofs.Ytklkdpcopfjmcaa.PFnExactAbsTight
