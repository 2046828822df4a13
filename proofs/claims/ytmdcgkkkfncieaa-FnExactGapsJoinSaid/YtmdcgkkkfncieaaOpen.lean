/- A struct of a number and a row of numbers that comes in as an argument: what it holds, and how large it is. Conditions: those in each law. -/
import Derived.Test.YtmdcgkkkfncieaaRows
import Derived.ChangeSame
import Derived.ChangeSlices
import Derived.WideShapes
import Derived.SizedLaws
import Derived.Below
namespace Go.Proofs.Ytmdcgkkkfncieaa.Open
open Go.ChangeShapes Go.WideShapes Go.RowKit
set_option linter.unusedVariables false
def IsRow (k : IntKind) (w : World) (a : Option Addr) (len cap : Nat) (zs : List Int) : Prop :=
  (a = none ∧ len = 0 ∧ cap = 0 ∧ zs = []) ∨
  ∃ x, a = some x ∧ len ≤ cap ∧ cap ≤ maxLen ∧ zs.length = cap ∧ (∀ i, i < zs.length → w.cell? (x.add i) = some (.int k (zs.getD i 0))) ∧ ∀ n ∈ zs, (Lit.int k n).wf = true
theorem open_rec {H : Type} {enc : TypeId × Value → H} {P : Program} {W : World} {base : Nat} {hd : Bool} {t e : TypeId} {f0 f1 : Field} {v : Value} {d : DataW H} {ps : List MemPlace} {r : Reach} {b0 : Nat}
    (ht : P.underlying t = some (.struct #[f0, f1])) (u0 : P.underlying f0.type = some (.int .i64)) (o0 : f0.offset = 0) (c0 : P.cellsOf f0.type = 1)
    (u1 : P.underlying f1.type = some (.slice e)) (o1 : f1.offset = 1) (c1 : P.cellsOf f1.type = 1) (ct : P.cellsOf t = 2) (he : P.underlying e = some (.int .i64)) (hc : P.cellsOf e = 1) (hB : P.bytesOf e = 8)
    (hval : Value.okWide P W r b0 t v) (h : DataW.Trod enc P W base (fun _ => true) hd t v d ps)
    (hsz : (d.weights P t).all (· ≤ reachBytes) = true) :
    ∃ n a len cap zs, v = .agg #[.int .i64 n, .slice a len cap] ∧ (Lit.int .i64 n).wf = true ∧ IsRow .i64 W a len cap zs ∧ len * 8 ≤ 140737488351232 := by
  obtain ⟨cs, rfl, hcs⟩ := okWide_struct ht hval
  obtain ⟨fuel, hf⟩ := h
  have hf' : DataW.trod enc P W base (fun _ => true) hd fuel t cs.toList = some (d, ps) := hf
  obtain ⟨y0, y1, n, hx, hl, t0, t1⟩ := trod_struct2 ht hf'
  obtain ⟨rfl, rfl⟩ := Prod.mk.inj hx
  rw [ct] at hl
  obtain ⟨x0, x1, hxx⟩ : ∃ x0 x1, cs = #[x0, x1] := by
    obtain ⟨l⟩ := cs
    match l, hl with
    | [a, b], _ => exact ⟨a, b, rfl⟩
  subst hxx
  rw [o0, c0] at t0; rw [o1, c1] at t1
  have t0' : DataW.trod enc P W base (fun _ => true) hd n f0.type [x0] = some y0 := t0
  have t1' : DataW.trod enc P W base (fun _ => true) hd n f1.type [x1] = some y1 := t1
  obtain ⟨m, hm, hy0, hw⟩ := DataW.trod_int u0 t0'
  obtain rfl : x0 = .int .i64 m := by simpa using hm
  rcases open_ints u1 he hc t1' with ⟨hs, _⟩ | ⟨x, l, c, zs, hs, _, hl', hm', hz, hy, hcell, hwz⟩
  · obtain rfl : x1 = .slice none 0 0 := by simpa using hs
    exact ⟨m, none, 0, 0, [], rfl, hw, .inl ⟨rfl, rfl, rfl, rfl⟩, by omega⟩
  · obtain rfl : x1 = .slice (some x) l c := by simpa using hs
    have hz' : zs.length = c := by simpa using hz
    refine ⟨m, some x, l, c, zs, rfl, hw, .inr ⟨x, rfl, hl', hm', hz', hcell, hwz⟩, ?_⟩
    have e1 : (DataW.agg [y0.1, y1.1]).weights P t = DataW.weightsEach P [f0.type, f1.type] [y0.1, y1.1] := by simp [DataW.weights, ht]
    rw [e1] at hsz
    have hd1 : [y0.1, y1.1][1]? = some (.slice (lits .i64 (zs.take l)) (lits .i64 (zs.drop l))) := by rw [hy]; rfl
    have z := sized_slice hsz (j := 1) (t := f1.type) rfl hd1 u1
    rw [hB] at z
    have h1 : (lits (H := H) .i64 (zs.take l)).length + (lits (H := H) .i64 (zs.drop l)).length = zs.length := by
      simp [lits]
      omega
    rw [h1] at z
    unfold reachBytes at z
    omega
end Go.Proofs.Ytmdcgkkkfncieaa.Open
