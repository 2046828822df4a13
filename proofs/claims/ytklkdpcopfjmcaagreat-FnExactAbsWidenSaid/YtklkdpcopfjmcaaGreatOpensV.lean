/- Data that comes in as an argument, opened by its kind: numbers, truth values, rows, structs; rows of structs, structs of rows. Conditions: those in each law. -/
import Derived.Test.YtklkdpcopfjmcaaGreatRows
import Derived.Test.YtklkdpcopfjmcaaGreatZ0V
import Derived.ChangeSame
import Derived.ChangeSlices
import Derived.WideShapes
import Derived.SizedLaws
import Derived.Below
namespace Go.Proofs.YtklkdpcopfjmcaaGreat.ug
open Go.ChangeShapes Go.WideShapes Go.RowKit Go.Proofs.YtklkdpcopfjmcaaGreatW.PrintWords
set_option linter.unusedVariables false
section
variable {H : Type} (enc : TypeId × Value → H) (P : Program) (W : World) (base : Nat) (sp : Nat → Bool) (hd : Bool)
/-- Whatever reads as data of the type t is of the kind d. -/
def ug {α : Type} (d : Kd α) (t : TypeId) (wf : α → Prop) : Prop :=
  P.cellsOf t = d.sz ∧ ∀ fuel cs y, DataW.trod enc P W base sp hd fuel t cs = some y → ∃ x, d.K W x cs ∧ wf x
/-- The same of a run of fields that begins at a cell. -/
def yS {α : Type} (d : Kd α) (fs : List Field) (off : Nat) (wf : α → Prop) : Prop :=
  ∀ (n : Nat) (cs : List Value), (∀ f ∈ fs, ∃ y, DataW.trod enc P W base sp hd n f.type ((cs.drop f.offset).take (P.cellsOf f.type)) = some y) → cs.length = off + d.sz → ∃ x, d.K W x (cs.drop off) ∧ wf x
variable {enc P W base sp hd}
theorem CY {t : TypeId} {k : IntKind} (ht : P.underlying t = some (.int k)) (hc : P.cellsOf t = 1) : ug enc P W base sp hd (Kd.int k) t (fun n => (Lit.int k n).wf = true) :=
  ⟨hc, fun fuel cs y hy => by
    obtain ⟨n, rfl, _, hw⟩ := DataW.trod_int ht hy
    exact ⟨n, rfl, hw⟩⟩
theorem Bt {t : TypeId} (ht : P.underlying t = some .bool) (hc : P.cellsOf t = 1) : ug enc P W base sp hd Kd.bool t (fun _ => True) :=
  ⟨hc, fun fuel cs y hy => by
    obtain ⟨b, rfl, _⟩ := DataW.trod_bool ht hy
    exact ⟨b, rfl, trivial⟩⟩
theorem uC {α : Type} {d : Kd α} {t e : TypeId} {wf : α → Prop} (q : Nat) (ht : P.underlying t = some (.slice e)) (hc : P.cellsOf t = 1) (h : ug enc P W base sp hd d e wf) :
    ug enc P W base sp hd (Kd.slice q d) t (fun xs => xs.length ≤ 9223372036854775807 ∧ ∀ x ∈ xs, wf x) := by
  refine ⟨hc, fun fuel cs y hy => ?_⟩
  rcases DataW.trod_slice ht hy with ⟨rfl, _⟩ | ⟨a, len, cap, elems, rest, n, _, rfl, _, hb, hl, hm, hlen, hel, hsp, hns⟩
  · exact ⟨[], ⟨none, 0, rfl, Nat.le_refl _, rfl, Nat.zero_le _, fun h => absurd h (Nat.lt_irrefl 0)⟩, Nat.zero_le _, by simp⟩
  have each : ∀ i, i < len → ∃ x, wf x ∧ ∃ c, c.length = d.sz ∧ d.K W x c ∧ ∀ j u, c[j]? = some u → W.cell? (a.add (i * d.sz + j)) = some u := by
    intro i hi
    have e1 := hel i hi
    rw [List.getElem?_eq_getElem (by omega), Option.bind_eq_some_iff] at e1
    obtain ⟨c, h1, h2⟩ := e1
    obtain ⟨x, h3, h4⟩ := h.2 _ _ _ h2
    obtain ⟨_, l, g⟩ := World.cells?_some h1
    rw [h.1] at l g
    refine ⟨x, h4, c, l, h3, fun j u hj => ?_⟩
    have := g j (by have := (List.getElem?_eq_some_iff.1 hj).1; omega)
    rw [hj, Addr.add_add] at this
    exact this
  let f : Fin len → α := fun i => Classical.choose (each i.1 i.2)
  have fs : ∀ i : Fin len, wf (f i) ∧ ∃ c, c.length = d.sz ∧ d.K W (f i) c ∧ ∀ j u, c[j]? = some u → W.cell? (a.add (i.1 * d.sz + j)) = some u := fun i => Classical.choose_spec (each i.1 i.2)
  have ll : (List.ofFn f).length = len := List.length_ofFn
  refine ⟨List.ofFn f, ⟨some a, cap, by rw [ll], by rw [ll]; exact hl, rfl, by rw [ll]; unfold maxLen at hm; omega, fun _ => ⟨a, rfl, fun j p hj => ?_⟩⟩, by rw [ll]; unfold maxLen at hm; omega, fun x hx => ?_⟩
  · have hj' := (List.getElem?_eq_some_iff.1 hj).1
    rw [ll] at hj'
    rw [List.getElem?_ofFn, dif_pos hj'] at hj
    obtain rfl := Option.some.inj hj
    exact (fs ⟨j, hj'⟩).2
  · obtain ⟨i, rfl⟩ := List.mem_ofFn.1 hx
    exact (fs i).1
theorem tL {α : Type} {d : Kd α} {f : Field} {off : Nat} {wf : α → Prop} (ho : f.offset = off) (h : ug enc P W base sp hd d f.type wf) : yS enc P W base sp hd d [f] off wf := by
  intro n cs hf hl
  obtain ⟨y, hy⟩ := hf f (by simp)
  rw [ho, h.1, List.take_of_length_le (by rw [List.length_drop]; omega)] at hy
  exact h.2 _ _ _ hy
theorem oU {α β : Type} {a : Kd α} {b : Kd β} {f : Field} {fs : List Field} {off : Nat} {wa : α → Prop} {wb : β → Prop} (ho : f.offset = off) (h : ug enc P W base sp hd a f.type wa) (r : yS enc P W base sp hd b fs (off + a.sz) wb) :
    yS enc P W base sp hd (Kd.pair a b) (f :: fs) off (fun x => wa x.1 ∧ wb x.2) := by
  intro n cs hf hl
  have hl : cs.length = off + (a.sz + b.sz) := hl
  obtain ⟨y, hy⟩ := hf f (by simp)
  rw [ho, h.1] at hy
  obtain ⟨x1, k1, w1⟩ := h.2 _ _ _ hy
  obtain ⟨x2, k2, w2⟩ := r n cs (fun g hg => hf g (by simp [hg])) (by omega)
  refine ⟨(x1, x2), ⟨_, _, ?_, k1, k2⟩, w1, w2⟩
  rw [← List.drop_drop, List.take_append_drop]
theorem rG {α β : Type} {d : Kd α} {t : TypeId} {fs : Array Field} {wf : α → Prop} (f : β → α) (g : α → β) (hfg : ∀ x, f (g x) = x) (ht : P.underlying t = some (.struct fs)) (hc : P.cellsOf t = d.sz) (h : yS enc P W base sp hd d fs.toList 0 wf) :
    ug enc P W base sp hd (Kd.Gv d f) t (fun y => wf (f y)) := by
  refine ⟨hc, fun fuel cs y hy => ?_⟩
  obtain ⟨xs, n, _, _, hl, hlen, hf⟩ := DataW.trod_struct ht hy
  obtain ⟨x, hx, hw⟩ := h n cs (fun fl hfl => by
    obtain ⟨i, hi, rfl⟩ := List.getElem_of_mem hfl
    have hi' : i < fs.size := by simpa using hi
    have := hf i fs[i] (Array.getElem?_eq_getElem hi')
    rw [List.getElem?_eq_getElem (by omega)] at this
    exact ⟨_, by simpa using this⟩) (by rw [hl, hc]; omega)
  refine ⟨g x, ?_, ?_⟩
  · show d.K W (f (g x)) cs
    rw [hfg]; simpa using hx
  · show wf (f (g x))
    rw [hfg]; exact hw
/-- An argument that is a struct. -/
theorem yH {α : Type} {d : Kd α} {t : TypeId} {fs : Array Field} {wf : α → Prop} {v : Value} {r : Reach} {b0 : Nat} {x : DataW H} {ps : List MemPlace} (h : ug enc P W base sp hd d t wf) (ht : P.underlying t = some (.struct fs))
    (hval : Value.okWide P W r b0 t v) (hy : DataW.Trod enc P W base sp hd t v x ps) : ∃ cs y, v = .agg cs ∧ d.K W y cs.toList ∧ wf y := by
  obtain ⟨cs, rfl, hcs⟩ := okWide_struct ht hval
  obtain ⟨fuel, hf⟩ := hy
  have hf' : DataW.trod enc P W base sp hd fuel t cs.toList = some (x, ps) := hf
  obtain ⟨y, k, w⟩ := h.2 _ _ _ hf'
  exact ⟨cs, y, rfl, k, w⟩
/-- An argument that is a row. -/
theorem BG {α : Type} {d : Kd α} {t e q : TypeId} {wf : α → Prop} {v : Value} {r : Reach} {b0 : Nat} {x : DataW H} {ps : List MemPlace} (h : ug enc P W base sp hd (Kd.slice q d) t (fun xs => xs.length ≤ 9223372036854775807 ∧ ∀ x ∈ xs, wf x)) (ht : P.underlying t = some (.slice e))
    (hval : Value.okWide P W r b0 t v) (hy : DataW.Trod enc P W base sp hd t v x ps) : ∃ (xs : List α) (A : Option Addr) (c : Nat), v = .slice A xs.length c ∧ xs.length ≤ c ∧ Kd.C d W A xs.length xs ∧ xs.length ≤ 9223372036854775807 ∧ ∀ x ∈ xs, wf x := by
  obtain ⟨a, len, cap, rfl⟩ := okWide_slice ht hval
  obtain ⟨fuel, hf⟩ := hy
  have hf' : DataW.trod enc P W base sp hd fuel t [.slice a len cap] = some (x, ps) := hf
  obtain ⟨xs, ⟨A, c, e1, l1, g1⟩, s1, t1⟩ := h.2 _ _ _ hf'
  injection e1 with e1 _
  exact ⟨xs, A, c, e1, l1, g1, s1, t1⟩
end
end Go.Proofs.YtklkdpcopfjmcaaGreat.ug
