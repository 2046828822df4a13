/- Short words for steps that walks repeat: what stood in memory still stands there behind a step, with the small proofs as defaults. Conditions: none. -/
import Derived.Test.YtklkdpcopfjmcaaGreatZ0V
namespace Go.Proofs.YtklkdpcopfjmcaaGreat.Sq
set_option linter.unusedVariables false
open Go.RowKit Go.Proofs.YtklkdpcopfjmcaaGreatW.PrintWords Go.Proofs.YtklkdpcopfjmcaaGreatW.PrintLast Go.Proofs.YtklkdpcopfjmcaaGreatW.PrintMore
abbrev rf (w : World) (g : Nat) (a b : Value) : Prop := w.cell? ⟨g, 0, none⟩ = some a ∧ w.cell? ⟨g, 1, none⟩ = some b
abbrev vE (w : World) (g : Nat) (a b c d : Value) : Prop := w.cell? ⟨g, 0, none⟩ = some a ∧ w.cell? ⟨g, 1, none⟩ = some b ∧ w.cell? ⟨g, 2, none⟩ = some c ∧ w.cell? ⟨g, 3, none⟩ = some d
abbrev rU (w : World) (g : Nat) (a b c d e f : Value) : Prop := w.cell? ⟨g, 0, none⟩ = some a ∧ w.cell? ⟨g, 1, none⟩ = some b ∧ w.cell? ⟨g, 2, none⟩ = some c ∧ w.cell? ⟨g, 3, none⟩ = some d ∧ w.cell? ⟨g, 4, none⟩ = some e ∧ w.cell? ⟨g, 5, none⟩ = some f
section
variable {w0 w1 w2 w3 : World} {g g' : Nat} {o : Obj}
theorem mH {W W1 : World} {r : Option Obj} (h : W.heap[g]? = r) (s : W.heap[g]? = r → W1.heap[g]? = r := by
    intro h_; (with_reducible repeat (first | refine lW ?_ _ | refine mE ?_ | refine aW ?_ _)); exact h_) : W1.heap[g]? = r := s h
theorem bF (H : af (w1.heap[g]? = some o)) (hb : Below w2.heap.size w2 w3) (s : w1.heap[g]? = some o → w2.heap[g]? = some o := by
    intro h_; (with_reducible repeat (first | refine lW ?_ _ | refine mE ?_ | refine aW ?_ _)); exact h_) : af (w3.heap[g]? = some o) := ⟨oz (s H.o) hb⟩
theorem wN {W : World} (H : af (w1.heap[g]? = some o)) (hq : W = w3) (s : w1.heap[g]? = some o → W.heap[g]? = some o := by
    intro h_; (with_reducible repeat (first | refine lW ?_ _ | refine mE ?_ | refine aW ?_ _)); exact h_) : af (w3.heap[g]? = some o) := ⟨hq ▸ s H.o⟩
theorem Dp {W : World} (H : af (Below w0.heap.size w0 w1)) (hq : W = w3) (s : Below w0.heap.size w0 w1 → Below w0.heap.size w0 W := by
    intro h_; repeat (first | (with_reducible first | exact h_ | apply gP | apply fV | apply mr | refine gX ?_ (af.o (by assumption))) | exact h_)) : af (Below w0.heap.size w0 w3) := ⟨hq ▸ s H.o⟩
theorem fE (H : af (w1.heap[g]? = some o)) (s : w1.heap[g]? = some o → w2.heap[g]? = some o := by
    intro h_; (with_reducible repeat (first | refine lW ?_ _ | refine mE ?_ | refine aW ?_ _)); exact h_) : af (w2.heap[g]? = some o) := ⟨s H.o⟩
theorem fC (H : af (w1.heap[g]? = some o)) (hg : g' = w2.heap.size) (s : w1.heap[g]? = some o → w2.heap[g]? = some o := by
    intro h_; (with_reducible repeat (first | refine lW ?_ _ | refine mE ?_ | refine aW ?_ _)); exact h_) : af (g ≠ g') := ⟨by rw [hg]; exact Nat.ne_of_lt (aN (s H.o))⟩
theorem fD (H : af (w1.heap[g]? = some o)) (hg : g' = w2.heap.size) (s : w1.heap[g]? = some o → w2.heap[g]? = some o := by
    intro h_; (with_reducible repeat (first | refine lW ?_ _ | refine mE ?_ | refine aW ?_ _)); exact h_) : af (g' ≠ g) := ⟨by rw [hg]; exact Nat.ne_of_gt (aN (s H.o))⟩
theorem bX (H : af (Below w0.heap.size w0 w1)) (hb : Below w2.heap.size w2 w3) (s : Below w0.heap.size w0 w1 → Below w0.heap.size w0 w2 := by
    intro h_; repeat (first | (with_reducible first | exact h_ | apply gP | apply fV | apply mr | refine gX ?_ (af.o (by assumption))) | exact h_)) : af (Below w0.heap.size w0 w3) := ⟨xP (s H.o) hb⟩
theorem lD (H : af (Below w0.heap.size w0 w1)) (s : Below w0.heap.size w0 w1 → Below w0.heap.size w0 w2 := by
    intro h_; repeat (first | (with_reducible first | exact h_ | apply gP | apply fV | apply mr | refine gX ?_ (af.o (by assumption))) | exact h_)) : af (Below w0.heap.size w0 w2) := ⟨s H.o⟩
theorem Bn (H : af (Below w0.heap.size w0 w1)) (hg : g' = w2.heap.size) (s : Below w0.heap.size w0 w1 → Below w0.heap.size w0 w2 := by
    intro h_; repeat (first | (with_reducible first | exact h_ | apply gP | apply fV | apply mr | refine gX ?_ (af.o (by assumption))) | exact h_)) : af (w0.heap.size ≤ g') := ⟨by rw [hg]; exact bA (s H.o)⟩
theorem iw {p : Prop} (H : af (Below w0.heap.size w0 w1)) (h : p := by first | rfl | (simp [oq, ou] <;> rfl) | (simp [*, oq, ou] <;> rfl)) (s : Below w0.heap.size w0 w1 → Below w0.heap.size w0 w2 := by
    intro h_; repeat (first | (with_reducible first | exact h_ | apply gP | apply fV | apply mr | refine gX ?_ (af.o (by assumption))) | exact h_)) : p ∧ Below w0.heap.size w0 w2 := ⟨h, s H.o⟩
end
section
variable {P : Program} {ops : Array Oper} {rest : List Oper} {oi : Oper} {a : Act} {Q : Exit → Act → World → Prop}
theorem GX {w : World} (N : Option Tmp) {f : FuncId} {fn : Func} {as : Array Operand} {ts : Array TypeId} (hf : P.funcs[f]? = some fn) (args : Array Value)
    (h : Calls P f args w fun e w' => ∃ v, e = .returned v ∧ wpList P ops Q rest (a.put N v) w')
    (hd : oi.dst = N := by rfl) (hg : oi.guard = none := by rfl) (hname : (fn.name == "runtime.NumGoroutine") = false := by kernel_rfl) (hb : fn.body.isSome = true := by rfl)
    (hop : oi.op = .call { callee := .value (.func f), args := as, argTypes := ts } := by rfl)
    (hargs : as.map a.eval = args := by (try simp only [List.map_toArray, List.map_cons, List.map_nil]); first | done | rfl | (simp only [List.length_drop, List.length_take]; rfl)) : wpList P ops Q (oi :: rest) a w :=
  FB N hd hg hf hname hb args hop hargs h
theorem G8 {N : Option Tmp} {w : World} {K : Act → World → Prop} {f : FuncId} {fn : Func} {as : Array Operand} {ts : Array TypeId} (hf : P.funcs[f]? = some fn) (args : Array Value)
    (h : Calls P f args w fun e w' => ∃ v, e = .returned v ∧ K (a.put N v) w')
    (hname : (fn.name == "runtime.NumGoroutine") = false := by kernel_rfl) (hb : fn.body.isSome = true := by rfl)
    (hw : Region.wanted oi (yielded ops a.tmps) = true := by rfl) (hN : oi.dst = N := by rfl) (hop : oi.op = .call { callee := .value (.func f), args := as, argTypes := ts } := by rfl)
    (hargs : as.map a.eval = args := by (try simp only [List.map_toArray, List.map_cons, List.map_nil]); first | done | rfl | (simp only [List.length_drop, List.length_take]; rfl)) :
    if Region.wanted oi (yielded ops a.tmps) = true then Oper.wp P oi a w K Q else K (a.put N undef) w :=
  Gq hf hname hb args hw hN hop hargs h
theorem Hu {W : World} (N : Tmp) (cs : Array Value) (t : TypeId)
    (h : ∀ g, g = W.heap.size → ∀ w1, w1.heap[g]? = some (.cells cs t (0, 0)) → Below W.heap.size W w1 → wpList P ops Q rest (a.put oi.dst (.pointer (some ⟨g, 0, none⟩))) w1)
    (hd : oi.dst = some N := by rfl) (hgd : oi.guard = none := by rfl)
    (hrun : (execOp a.eval oi).run P W = .ok (.value (.pointer (some ⟨W.heap.size, 0, none⟩))) (W.alloc (.cells cs t (0, 0))) := by first | (go_simp; done) | (go_simp; rfl)) : wpList P ops Q (oi :: rest) a W :=
  Dc hgd hd hrun h
end
section
variable {P : Program} {ops : Array Oper} {Q : Exit → Act → World → Prop} {md : Region.Mode} {S : World → Prop} {ds : List Nat}
theorem G9 {W : World} {g g' i j : Nat} {u : Value} {r : Option Value} (NB : af (g ≠ g')) (h : W.cell? ⟨g, j, none⟩ = r) : (W.setCell ⟨g', i, none⟩ u).cell? ⟨g, j, none⟩ = r := (cell_far (p := ⟨g', i, none⟩) NB.o u).trans h
theorem vW {w : World} {g i : Nat} {t : TypeId} {cs : Array Value} {v : Value} (H : af (w.heap[g]? = some (.cells cs t (0, 0)))) (e : cs[i]? = some v) : w.cell? ⟨g, i, none⟩ = some v := (aA H.o i).trans e
theorem gu {p : Prop} (h : p := by (repeat' apply And.intro) <;> (refine vW (by assumption) ?_; rfl)) : p := h
theorem bC {T : Bool × List (List Nat × List Nat)} (HT : af (l9 md ops = T)) {oi : Oper} {v : Value} {fuel : Nat} {l l' : Array Bool} {a a' : Act} {w : World} (i n : Nat) (h : cB P md ops Q S ds fuel l' a' w)
    (hi : ops[i]? = some oi := by rfl) (hN : oi.dst = some n := by rfl)
    (hl : l.setIfInBounds i true = l' := by simp only [List.setIfInBounds_toArray, List.set_cons_zero, List.set_cons_succ] <;> rfl)
    (hy : Yields P ops oi v a ∧ a.put (some n) v = a' := by
      constructor
      · refine Or.inl ⟨by rfl, ?_⟩
        intro w'
        go_simp
        with_reducible rfl
      · simp only [Act.put, List.setIfInBounds_toArray, List.set_cons_zero, List.set_cons_succ, iQ, lg]
        rfl)
    (hc : Es T l.toList l'.toList i = true := by kernel_rfl) (hQ : ∀ c a w, Q (.panic c) (a.put oi.dst v) w → Q (.panic c) a w := by exact fun _ _ _ h => h) : cB P md ops Q S ds (fuel + 1) l a w :=
  qZ l' hi hN (Dx HT.o hc) hQ hy.1 hy.2 h
theorem bY {T : Bool × List (List Nat × List Nat)} (HT : af (l9 md ops = T)) {oi : Oper} {fuel : Nat} {l l' : Array Bool} {a a' : Act} {w : World} (i n : Nat) (h : cB P md ops Q S ds fuel l' a' w)
    (hi : ops[i]? = some oi := by rfl) (hN : oi.dst = some n := by rfl)
    (hl : l.setIfInBounds i true = l' := by simp only [List.setIfInBounds_toArray, List.set_cons_zero, List.set_cons_succ] <;> rfl)
    (hy : Yields P ops oi undef a ∧ a.put (some n) undef = a' := by
      constructor
      · exact Or.inr ⟨by rfl, rfl⟩
      · simp only [Act.put, List.setIfInBounds_toArray, List.set_cons_zero, List.set_cons_succ, iQ, lg]
        rfl)
    (hc : Es T l.toList l'.toList i = true := by kernel_rfl) (hQ : ∀ c a w, Q (.panic c) (a.put oi.dst undef) w → Q (.panic c) a w := by exact fun _ _ _ h => h) : cB P md ops Q S ds (fuel + 1) l a w :=
  qZ l' hi hN (Dx HT.o hc) hQ hy.1 hy.2 h
theorem fA {T : Bool × List (List Nat × List Nat)} {B : List Nat} (HT : af (l9 md ops = T)) (HW : af (fQ T.2 B = true)) {oi : Oper} {v : Value} {fuel : Nat} {l l' : Array Bool} {a a' : Act} {w : World} (i n : Nat) (hS : S w) (h : cB P md ops Q S ds fuel l' a' w)
    (hi : ops[i]? = some oi := by rfl) (hN : oi.dst = some n := by rfl)
    (hl : l.setIfInBounds i true = l' := by simp only [List.setIfInBounds_toArray, List.set_cons_zero, List.set_cons_succ] <;> rfl)
    (hy : YieldsIf P ops S oi v a ∧ a.put (some n) v = a' := by
      constructor
      · refine Or.inl ⟨by rfl, ?_⟩
        intro w' hs_
        revert hs_
        (try simp only [rf, vE, rU, and_imp])
        (try simp only [add_plain])
        intros
        go_simp
        with_reducible rfl
      · simp only [Act.put, List.setIfInBounds_toArray, List.set_cons_zero, List.set_cons_succ, iQ, lg]
        rfl)
    (hc : DK T B ds l.toList l'.toList i = true := by kernel_rfl) (hQ : ∀ c a w, Q (.panic c) (a.put oi.dst v) w → Q (.panic c) a w := by exact fun _ _ _ h => h) : cB P md ops Q S ds (fuel + 1) l a w :=
  rC l' hi hN (Ej HT.o HW.o hc) hQ hy.1 hS hy.2 h
theorem gL {T : Bool × List (List Nat × List Nat)} (HT : af (l9 md ops = T)) {oi : Oper} {fuel : Nat} {l l' : Array Bool} {a : Act} {w : World} (i n : Nat)
    (h : ∀ K : Act → World → Prop, Shut (∀ a' w', S w' → (S w' → cB P md ops Q S ds fuel l' a' w') → K a' w') → if Region.wanted oi (yielded ops a.tmps) = true then Oper.wp P oi a w K Q else K (a.put (some n) undef) w)
    (hi : ops[i]? = some oi := by rfl) (hN : oi.dst = some n := by rfl)
    (hl : l.setIfInBounds i true = l' := by simp only [List.setIfInBounds_toArray, List.set_cons_zero, List.set_cons_succ] <;> rfl)
    (hc : (sV T.2 l.toList == [i] && l.toList.set i true == l'.toList) = true := by kernel_rfl) (hd : i ∉ ds := by decide) : cB P md ops Q S ds (fuel + 1) l a w :=
  uZ l' hi hN (vv HT.o hc) hd h
theorem bP {fuel : Nat} {l : Array Bool} {a a' : Act} {w : World} (h : cB P md ops Q S ds fuel l a' w)
    (ha : a = a' := by
      show Act.put _ (some _) _ = _
      simp only [Act.put, List.setIfInBounds_toArray, List.set_cons_zero, List.set_cons_succ, iQ, lg]
      rfl) : cB P md ops Q S ds fuel l a w := qN ha h
theorem mI {id : Nat} {a : Act} {w : World} {l : Array Bool} (n : Nat) (S : World → Prop) (hS : S w.drew) (h : S w.drew → cB P .any ops Q S [] n l a w.drew)
    (hm : P.follows .mixedOrders = true := by kernel_rfl) (hn : ops.size = n := by rfl) (hl : Array.replicate n false = l := by
      show (List.replicate _ false).toArray = _
      simp only [List.replicate]
      rfl) : (Code.region id ops true).wp P Q a w := wB l hm hn hl hS h
theorem EO {fuel : Nat} {l : Array Bool} {a a' : Act} {w : World} (h : cB P md ops Q S ds fuel l a' w)
    (ha : a = a' := by
      simp only [wo, Act.put, List.setIfInBounds_toArray, List.set_cons_zero, List.set_cons_succ]
      rfl) : cB P md ops Q S ds fuel l a w := qN ha h
theorem xc {T : Bool × List (List Nat × List Nat)} (HT : af (l9 md ops = T)) {oi : Oper} {fuel : Nat} {l l' : Array Bool} {a : Act} {w : World} (i : Nat)
    (h : ∀ K : Act → World → Prop, Shut (∀ a' w', S w' → (S w' → cB P md ops Q S ds fuel l' a' w') → K a' w') → if Region.wanted oi (yielded ops a.tmps) = true then Oper.wp P oi a w K Q else K (a.put none undef) w)
    (hi : ops[i]? = some oi := by rfl) (hN : oi.dst = none := by rfl)
    (hl : l.setIfInBounds i true = l' := by simp only [List.setIfInBounds_toArray, List.set_cons_zero, List.set_cons_succ] <;> rfl)
    (hc : (sV T.2 l.toList == [i] && l.toList.set i true == l'.toList) = true := by kernel_rfl) (hd : i ∉ ds := by decide) : cB P md ops Q S ds (fuel + 1) l a w :=
  uZ l' hi hN (vv HT.o hc) hd h
theorem xe {T : Bool × List (List Nat × List Nat)} (HT : af (l9 md ops = T)) {oi oj : Oper} {fuel : Nat} {l li lj : Array Bool} {a : Act} {w : World} (i j : Nat) (Ni Nj : Option Tmp)
    (h1 : ∀ K : Act → World → Prop, Shut (∀ a' w', S w' → (S w' → cB P md ops Q S ds fuel li a' w') → K a' w') → if Region.wanted oi (yielded ops a.tmps) = true then Oper.wp P oi a w K Q else K (a.put Ni undef) w)
    (h2 : ∀ K : Act → World → Prop, Shut (∀ a' w', S w' → (S w' → cB P md ops Q S ds fuel lj a' w') → K a' w') → if Region.wanted oj (yielded ops a.tmps) = true then Oper.wp P oj a w K Q else K (a.put Nj undef) w)
    (hi : ops[i]? = some oi := by rfl) (hj : ops[j]? = some oj := by rfl) (hNi : oi.dst = Ni := by rfl) (hNj : oj.dst = Nj := by rfl)
    (hli : l.setIfInBounds i true = li := by simp only [List.setIfInBounds_toArray, List.set_cons_zero, List.set_cons_succ] <;> rfl)
    (hlj : l.setIfInBounds j true = lj := by simp only [List.setIfInBounds_toArray, List.set_cons_zero, List.set_cons_succ] <;> rfl)
    (hc : (sV T.2 l.toList == [i, j] && l.toList.set i true == li.toList && l.toList.set j true == lj.toList) = true := by kernel_rfl) (hdi : i ∉ ds := by decide) (hdj : j ∉ ds := by decide) : cB P md ops Q S ds (fuel + 1) l a w :=
  He li lj hi hj hNi hNj (FY HT.o hc) hdi hdj h1 h2
theorem qP {oi : Oper} {a : Act} {w w1 : World} {K : Act → World → Prop} (h : K a w1) (hw : Region.wanted oi (yielded ops a.tmps) = true := by rfl) (hN : oi.dst = none := by rfl)
    (hrun : (execOp a.eval oi).run P w = .ok .skip w1 := by go_simp; rfl) : if Region.wanted oi (yielded ops a.tmps) = true then Oper.wp P oi a w K Q else K (a.put none undef) w :=
  Gm hw hN hrun h
theorem uQ {o : Oper} {a : Act} {Kc : Act → World → Prop} {W : World} (N : Tmp) (cs : Array Value) (t : TypeId)
    (h : ∀ g, g = W.heap.size → ∀ w1, w1.heap[g]? = some (.cells cs t (0, 0)) → Below W.heap.size W w1 → Kc (a.put o.dst (.pointer (some ⟨g, 0, none⟩))) w1)
    (hw : Region.wanted o (yielded ops a.tmps) = true := by rfl) (hd : o.dst = some N := by rfl)
    (hrun : (execOp a.eval o).run P W = .ok (.value (.pointer (some ⟨W.heap.size, 0, none⟩))) (W.alloc (.cells cs t (0, 0))) := by first | (go_simp; done) | (go_simp; rfl)) : if Region.wanted o (yielded ops a.tmps) = true then Oper.wp P o a W Kc Q else Kc (a.put o.dst undef) W :=
  D8 hw hd hrun h
theorem xH {p : Prop} (h : p := by (repeat' apply And.intro) <;> ((repeat (apply G9; · assumption)); refine vW (by assumption) ?_; rfl)) : p := h
end
section
variable {w : World} {g : Nat} {t : TypeId} {u0 u1 u2 u3 u4 : Value}
theorem bE (H : af (w.heap[g]? = some (.cells #[u0, u1] t (0, 0)))) : w.cell? ⟨g, 0, none⟩ = some u0 ∧ w.cell? ⟨g, 1, none⟩ = some u1 ∧ w.frozen? ⟨g, 0, none⟩ = false ∧ w.frozen? ⟨g, 1, none⟩ = false :=
  ⟨vW H rfl, vW H rfl, nI H.o 0, nI H.o 1⟩
theorem fU (H : af (w.heap[g]? = some (.cells #[u0, u1, u2, u3] t (0, 0)))) : w.cell? ⟨g, 0, none⟩ = some u0 ∧ w.cell? ⟨g, 1, none⟩ = some u1 ∧ w.cell? ⟨g, 2, none⟩ = some u2 ∧ w.cell? ⟨g, 3, none⟩ = some u3 ∧ w.frozen? ⟨g, 0, none⟩ = false ∧ w.frozen? ⟨g, 1, none⟩ = false ∧ w.frozen? ⟨g, 2, none⟩ = false ∧ w.frozen? ⟨g, 3, none⟩ = false :=
  ⟨vW H rfl, vW H rfl, vW H rfl, vW H rfl, nI H.o 0, nI H.o 1, nI H.o 2, nI H.o 3⟩
end
theorem lI {α : Type} {d : Kd α} {e : Nat} {W W1 : World} {base : Nat} {ok : Nat → Prop} {v : Value} {xs : List α} (h : d.R e W base ok v xs)
    (s : d.R e W base ok v xs → d.R e W1 base ok v xs := by
      intro h_; (with_reducible repeat (first | apply Kd.oG | apply Kd.oF | apply Kd.pQ)); exact h_) : d.R e W1 base ok v xs := s h
section
variable {w : World} {g : Nat} {t : TypeId}
theorem bH {u0 u1 u2 u3 u4 u5 : Value} (H : af (w.heap[g]? = some (.cells #[u0, u1, u2, u3, u4, u5] t (0, 0)))) : w.cell? ⟨g, 0, none⟩ = some u0 ∧ w.cell? ⟨g, 1, none⟩ = some u1 ∧ w.cell? ⟨g, 2, none⟩ = some u2 ∧ w.cell? ⟨g, 3, none⟩ = some u3 ∧ w.cell? ⟨g, 4, none⟩ = some u4 ∧ w.cell? ⟨g, 5, none⟩ = some u5 ∧ w.frozen? ⟨g, 0, none⟩ = false ∧ w.frozen? ⟨g, 1, none⟩ = false ∧ w.frozen? ⟨g, 2, none⟩ = false ∧ w.frozen? ⟨g, 3, none⟩ = false ∧ w.frozen? ⟨g, 4, none⟩ = false ∧ w.frozen? ⟨g, 5, none⟩ = false :=
  ⟨vW H rfl, vW H rfl, vW H rfl, vW H rfl, vW H rfl, vW H rfl, nI H.o 0, nI H.o 1, nI H.o 2, nI H.o 3, nI H.o 4, nI H.o 5⟩
end
theorem aX {w0 w : World} {a : Addr} {v : Value} (HB : af (Below w0.heap.size w0 w)) (h : w0.cell? a = some v) : w.cell? a = some v := (HB.o.cell (World.block_lt_of_cell? w0 _ h)).trans h
theorem df {p : Prop} [Decidable p] (h : decide p = true := by first | (with_reducible assumption) | assumption) : p := of_decide_eq_true h
theorem bN {α : Type} {d : Kd α} {w1 W : World} {A : Option Addr} {n : Nat} {xs : List α} (h : d.C w1 A n xs) (s : d.C w1 A n xs → d.C W A n xs := by
    intro h_; repeat (first | exact h_ | (with_reducible refine Kd.sw ?_ _) | (with_reducible refine Kd.sJ ?_ _) | (with_reducible refine Kd.uu ?_))) : d.C W A n xs := s h
theorem ig {w0 w1 w2 : World} (H : af (Below w0.heap.size w0 w1)) (s : Below w0.heap.size w0 w1 → Below w0.heap.size w0 w2 := by
    intro h_; repeat (first | (with_reducible first | exact h_ | apply gP | apply fV | apply mr | refine gX ?_ (af.o (by assumption))) | exact h_)) : Below w0.heap.size w0 w2 := s H.o
theorem nR {W W1 : World} {g : Nat} {o : Obj} (H : af (W.heap[g]? = some o)) (s : W.heap[g]? = some o → W1.heap[g]? = some o := by
    intro h_
    repeat (first | (with_reducible exact h_) | (with_reducible first | refine lW ?_ _ | refine mE ?_ | refine aW ?_ _ | refine xk ?_ (af.o (by assumption)) _) | exact h_)) : W1.heap[g]? = some o := s H.o
theorem nO {W W1 W2 : World} {g : Nat} {o : Obj} (H : af (W.heap[g]? = some o)) (hb : Below W1.heap.size W1 W2) (s : W.heap[g]? = some o → W1.heap[g]? = some o := by
    intro h_
    repeat (first | (with_reducible exact h_) | (with_reducible first | refine lW ?_ _ | refine mE ?_ | refine aW ?_ _ | refine xk ?_ (af.o (by assumption)) _) | exact h_)) : af (W2.heap[g]? = some o) := ⟨oz (s H.o) hb⟩
theorem G7 {w : World} {a b c : Nat} : (w.drewN (a + b)).drewN c = w.drewN (a + (b + c)) := Eq.trans (World.drewN_drewN _ _ _) (congrArg (World.drewN _) (Nat.add_assoc _ _ _))
theorem dU {a b : Nat} (h : af (a ≠ b)) : a ≠ b ∧ b ≠ a := ⟨h.o, Ne.symm h.o⟩
theorem eY {a b a' b' : Nat} (h : af (a ≠ b)) (h' : af (a' ≠ b')) : a ≠ b ∧ b ≠ a ∧ a' ≠ b' ∧ b' ≠ a' := ⟨h.o, Ne.symm h.o, dU h'⟩
theorem nG {a b a' b' c d : Nat} (h : af (a ≠ b)) (h' : af (a' ≠ b')) (h2 : af (c ≠ d)) : a ≠ b ∧ b ≠ a ∧ a' ≠ b' ∧ b' ≠ a' ∧ c ≠ d ∧ d ≠ c := ⟨h.o, Ne.symm h.o, eY h' h2⟩
theorem uN {a b a' b' c d e f : Nat} (h : af (a ≠ b)) (h' : af (a' ≠ b')) (h2 : af (c ≠ d)) (h3 : af (e ≠ f)) : a ≠ b ∧ b ≠ a ∧ a' ≠ b' ∧ b' ≠ a' ∧ c ≠ d ∧ d ≠ c ∧ e ≠ f ∧ f ≠ e := ⟨h.o, Ne.symm h.o, nG h' h2 h3⟩
theorem bU {w : World} {g : Nat} {o : Obj} (H : af (w.heap[g]? = some o)) : af (w.drew.heap[g]? = some o) := ⟨mE H.o⟩
theorem iI {w0 w : World} {n : Nat} (H : af (Below n w0 w)) : af (Below n w0 w.drew) := ⟨mr H.o⟩
theorem lU {W W1 w' : World} {g : Nat} {o : Obj} (e : w' = W1) (H : af (W.heap[g]? = some o)) (s : W.heap[g]? = some o → W1.heap[g]? = some o := by
    intro h_
    repeat (first | (with_reducible exact h_) | (with_reducible first | refine lW ?_ _ | refine mE ?_ | refine aW ?_ _ | refine xk ?_ (af.o (by assumption)) _) | exact h_)) : af (w'.heap[g]? = some o) := ⟨by rw [e]; exact s H.o⟩
theorem GH {w : World} {g g' i : Nat} {t : TypeId} {cs : Array Value} {u : Value} (NB : af (g ≠ g')) (h : w.heap[g]? = some (.cells cs t (0, 0))) : (w.setCell ⟨g', i, none⟩ u).heap[g]? = some (.cells cs t (0, 0)) := xk h NB.o u
theorem lV {W W1 : World} {g : Nat} {o o' : Obj} (H : af (W.heap[g]? = some o)) (s : W.heap[g]? = some o → W1.heap[g]? = some o' := by
    intro h_
    repeat (first | (with_reducible exact h_) | (with_reducible first | apply lW | apply mE | apply aW | (apply GH; · assumption)) | apply Cf | exact h_)
    all_goals rfl) : W1.heap[g]? = some o' := s H.o
theorem uO {a b : Act} (h : a = b := by first | (simp only [wo, Act.put, List.setIfInBounds_toArray, List.set_cons_zero, List.set_cons_succ]; done) | (simp only [wo, Act.put, List.setIfInBounds_toArray, List.set_cons_zero, List.set_cons_succ]; rfl)) : a = b := h
theorem bK {α β : Type} {g : Option α} {f : α → Option β} {r : β} (h : g.bind f = some r) : ∃ a, af (g = some a) ∧ f a = some r := by
  obtain ⟨a, h1, h2⟩ := Option.bind_eq_some_iff.mp h
  exact ⟨a, ⟨h1⟩, h2⟩
theorem gy {α : Type} {p : Prop} [Decidable p] {a b : Option α} {r : α} (h : (if p then a else b) = some r) : (¬ p ∧ b = some r) ∨ (p ∧ a = some r) := by
  by_cases c : p
  · rw [if_pos c] at h; exact .inr ⟨c, h⟩
  · rw [if_neg c] at h; exact .inl ⟨c, h⟩
theorem qc {α : Type} {p : Prop} [Decidable p] {a b : Option α} {r : α} (h : (if p then a else b) = some r) : (p ∧ a = some r) ∨ (¬ p ∧ b = some r) := (gy h).symm
theorem qm (p : Prop) [Decidable p] : ¬ p ∨ p := by by_cases c : p; exact .inr c; exact .inl c
section
variable {w2 w3 : World}
theorem mM {v0 v1 : World} {g0 g1 : Nat} {o0 o1 : Obj} {G : Prop} (H0 : af (v0.heap[g0]? = some o0)) (H1 : af (v1.heap[g1]? = some o1)) (hb : Below w2.heap.size w2 w3) (h : af (w3.heap[g0]? = some o0) → af (w3.heap[g1]? = some o1) → G)
    (s0 : v0.heap[g0]? = some o0 → w2.heap[g0]? = some o0 := by intro h_; (with_reducible repeat (first | refine lW ?_ _ | refine mE ?_ | refine aW ?_ _)); exact h_)
    (s1 : v1.heap[g1]? = some o1 → w2.heap[g1]? = some o1 := by intro h_; (with_reducible repeat (first | refine lW ?_ _ | refine mE ?_ | refine aW ?_ _)); exact h_) : G :=
  h ⟨oz (s0 H0.o) hb⟩ ⟨oz (s1 H1.o) hb⟩
theorem dI {v0 v1 v2 : World} {g0 g1 g2 : Nat} {o0 o1 o2 : Obj} {G : Prop} (H0 : af (v0.heap[g0]? = some o0)) (H1 : af (v1.heap[g1]? = some o1)) (H2 : af (v2.heap[g2]? = some o2)) (hb : Below w2.heap.size w2 w3) (h : af (w3.heap[g0]? = some o0) → af (w3.heap[g1]? = some o1) → af (w3.heap[g2]? = some o2) → G)
    (s0 : v0.heap[g0]? = some o0 → w2.heap[g0]? = some o0 := by intro h_; (with_reducible repeat (first | refine lW ?_ _ | refine mE ?_ | refine aW ?_ _)); exact h_)
    (s1 : v1.heap[g1]? = some o1 → w2.heap[g1]? = some o1 := by intro h_; (with_reducible repeat (first | refine lW ?_ _ | refine mE ?_ | refine aW ?_ _)); exact h_)
    (s2 : v2.heap[g2]? = some o2 → w2.heap[g2]? = some o2 := by intro h_; (with_reducible repeat (first | refine lW ?_ _ | refine mE ?_ | refine aW ?_ _)); exact h_) : G :=
  h ⟨oz (s0 H0.o) hb⟩ ⟨oz (s1 H1.o) hb⟩ ⟨oz (s2 H2.o) hb⟩
theorem qy {v0 v1 v2 v3 : World} {g0 g1 g2 g3 : Nat} {o0 o1 o2 o3 : Obj} {G : Prop} (H0 : af (v0.heap[g0]? = some o0)) (H1 : af (v1.heap[g1]? = some o1)) (H2 : af (v2.heap[g2]? = some o2)) (H3 : af (v3.heap[g3]? = some o3)) (hb : Below w2.heap.size w2 w3) (h : af (w3.heap[g0]? = some o0) → af (w3.heap[g1]? = some o1) → af (w3.heap[g2]? = some o2) → af (w3.heap[g3]? = some o3) → G)
    (s0 : v0.heap[g0]? = some o0 → w2.heap[g0]? = some o0 := by intro h_; (with_reducible repeat (first | refine lW ?_ _ | refine mE ?_ | refine aW ?_ _)); exact h_)
    (s1 : v1.heap[g1]? = some o1 → w2.heap[g1]? = some o1 := by intro h_; (with_reducible repeat (first | refine lW ?_ _ | refine mE ?_ | refine aW ?_ _)); exact h_)
    (s2 : v2.heap[g2]? = some o2 → w2.heap[g2]? = some o2 := by intro h_; (with_reducible repeat (first | refine lW ?_ _ | refine mE ?_ | refine aW ?_ _)); exact h_)
    (s3 : v3.heap[g3]? = some o3 → w2.heap[g3]? = some o3 := by intro h_; (with_reducible repeat (first | refine lW ?_ _ | refine mE ?_ | refine aW ?_ _)); exact h_) : G :=
  h ⟨oz (s0 H0.o) hb⟩ ⟨oz (s1 H1.o) hb⟩ ⟨oz (s2 H2.o) hb⟩ ⟨oz (s3 H3.o) hb⟩
end
section
variable {P : Program} {ops : Array Oper} {rest : List Oper} {oi : Oper} {a : Act} {Q : Exit → Act → World → Prop}
theorem yV {c : Tmp} {as : Array Operand} {ts : Array TypeId} {W : World} (_ho : oi.op = .call { callee := .value (.tmp c), args := as, argTypes := ts }) (h : wpList P ops Q (oi :: rest) a W) : wpList P ops Q (oi :: rest) a W := h
theorem G5 {w : World} (N : Option Tmp) {c : Operand} {f : FuncId} {fn : Func} {as : Array Operand} {ts : Array TypeId} (hf : P.funcs[f]? = some fn) (args : Array Value)
    (h : Calls P f args w fun e w' => ∃ v, e = .returned v ∧ wpList P ops Q rest (a.put N v) w')
    (hd : oi.dst = N := by rfl) (hg : oi.guard = none := by rfl) (hname : (fn.name == "runtime.NumGoroutine") = false := by kernel_rfl) (hb : fn.body.isSome = true := by rfl)
    (hop : oi.op = .call { callee := .value c, args := as, argTypes := ts } := by rfl) (hc : a.eval c = .func (.func f) #[] #[] := by rfl)
    (hargs : as.map a.eval = args := by (try simp only [List.map_toArray, List.map_cons, List.map_nil]); first | done | rfl | (simp only [List.length_drop, List.length_take]; rfl)) : wpList P ops Q (oi :: rest) a w := by
  refine wpList_plain hg fun K hK => ?_
  have he := xn hf hname hb args w
  have hrun : (execOp a.eval oi).run P w = .ok (.enter f args) w := by
    unfold execOp
    simp [hop, resolve, hc, Deferred.ofValue, invoke, hargs, he]
  unfold Oper.wp
  rw [hrun, Oper.upon_enter]
  refine h.mono fun e w'' hh => ?_
  obtain ⟨v, rfl, hk⟩ := hh
  subst hd
  exact hK _ _ hk
end
theorem fw {p : Prop} (h : p := by first | rfl | (simp; done) | (simp [*]; done)) : p := h
theorem qB {p : Prop} (h : p := by first | rfl | (simp [oq, ou] <;> rfl) | (simp [*, oq, ou] <;> rfl)) : p := h
theorem ng {p : Prop} (h : p := by first | omega | exact Nat.le_refl _) : p := h
theorem qE {p : Prop} (h : p := by repeat (first | exact iU.refl _ | apply iU.step)) : p := h
theorem oP {p : Prop} (h : p := by first | exact Kd.sH _ _ _ _ _ | exact Kd.E8 _ _ _ _ _ | exact Kd.Gl _ _ _ _ _ | exact Kd.Gp _ _ _ _ _ | exact Kd.GM _ _ _ _ _) : p := h
theorem gD {α : Type} {a b : α} [Decidable (false = true)] : (if false = true then a else b) = b := if_neg (fun h => by cases h)
theorem tZ {w : World} {g j k : Nat} {u : Value} (h : k ≠ g) : (w.setCell ⟨g, j, none⟩ u).heap[k]? = w.heap[k]? := Below.heap_setCell w ⟨g, j, none⟩ u k h
theorem sZ {w0 w1 w' W : World} (hw : w' = W) (H : af (Below w0.heap.size w0 w1)) (s : Below w0.heap.size w0 w1 → Below w0.heap.size w0 W := by
    intro h_; repeat (first | (with_reducible first | exact h_ | apply gP | apply fV | apply mr | refine gX ?_ (af.o (by assumption))) | exact h_)) : af (Below w0.heap.size w0 w') := ⟨by rw [hw]; exact s H.o⟩
section
variable {α : Type} {d : Kd α} {e b : Nat} {ok : Nat → Prop} {v : Value} {xs : List α}
theorem rE {w W : World} (h : d.S e w b ok v xs) (s : d.S e w b ok v xs → d.S e W b ok v xs := by
    intro h_; (with_reducible repeat (first | apply Kd.qh | apply Kd.qf | apply Kd.qI)); exact h_) : d.S e W b ok v xs := s h
theorem oh {w : World} (H : af (d.R e w b ok v xs)) : af (d.R e w.drew b ok v xs) := ⟨Kd.pQ H.o⟩
theorem gI {w w1 w2 : World} (H : af (d.R e w b ok v xs)) (hb : Below w2.heap.size w2 w1) (s : d.R e w b ok v xs → d.R e w2 b ok v xs := by
    intro h_; (with_reducible repeat (first | apply Kd.oG | apply Kd.oF | apply Kd.pQ)); exact h_) : af (d.R e w1 b ok v xs) := ⟨Kd.uG (s H.o) hb⟩
theorem sG {w1 w2 : World} (h : d.R e w2 b ok v xs) (hb : Below w2.heap.size w2 w1) : af (d.R e w1 b ok v xs) := ⟨Kd.uG h hb⟩
theorem DR {w w1 w2 : World} {a : Nat} (H : af (d.R e w b ok v xs)) (hg : a = w2.heap.size) (hb : Below w2.heap.size w2 w1) (s : d.R e w b ok v xs → d.R e w2 b ok v xs := by
    intro h_; (with_reducible repeat (first | apply Kd.oG | apply Kd.oF | apply Kd.pQ)); exact h_) : af (d.R e w1 b (fun k => ok k ∧ k ≠ a) v xs) := ⟨Kd.uG (Kd.DJ (s H.o) a (Nat.le_of_eq hg.symm)) hb⟩
theorem xx {β : Type} {d' : Kd β} {e' : Nat} {ok2 : Nat → Prop} {u : Value} {ys : List β} {w w1 w2 w3 : World} (H : af (d.R e w b ok v xs)) (ho : d'.R e' w3 w2.heap.size ok2 u ys) (hb : Below w2.heap.size w2 w1) (s : d.R e w b ok v xs → d.R e w2 b ok v xs := by
    intro h_; (with_reducible repeat (first | apply Kd.oG | apply Kd.oF | apply Kd.pQ)); exact h_) : af (d.R e w1 b (fun k => ok k ∧ some k ≠ u.ownBlock) v xs) := ⟨Kd.uE (s H.o) (Kd.vw ho) hb⟩
theorem mZ {w0 w1 w2 w3 : World} (h : d.R e w1 w2.heap.size ok v xs) (HB : af (Below w0.heap.size w0 w3)) (s : Below w0.heap.size w0 w3 → Below w0.heap.size w0 w2 := by
    intro h_; repeat (first | (with_reducible first | exact h_ | apply gP | apply fV | apply mr | refine gX ?_ (af.o (by assumption))) | exact h_)) : af (d.R e w1 w0.heap.size ok v xs) := ⟨Kd.oK h (bA (s HB.o))⟩
theorem dz {w : World} {g t : Nat} {cs : Array Value} (H : af (d.R e w b ok v xs)) (B : af (w.heap[g]? = some (.cells cs t (0, 0)))) (ht : ∀ q, q ∈ e :: d.E → q ≠ t := by decide) : d.R e w b (fun k => ok k ∧ k ≠ g) v xs := Kd.nQ H.o B.o ht
theorem DC {w : World} {g : Nat} (H : af (d.R e w b ok v xs)) (f : ∀ k, ok k → k ≠ g) : d.R e w b (fun k => ok k ∧ k ≠ g) v xs := Kd.fO H.o (fun k hk => ⟨hk, f k hk⟩)
theorem fG {w W W' : World} {g : Nat} {ok' : Nat → Prop} (h : d.R e w b (fun k => ok k ∧ k ≠ g) v xs) (f : ∀ k, ok k ∧ k ≠ g → ok' k)
    (q : d.R e W b ok' v xs → d.R e W' b ok' v xs := by intro h_; (with_reducible repeat (first | apply Kd.oG | apply Kd.oF | apply Kd.pQ)); exact h_)
    (s : ∀ k, k ≠ g → W.heap[k]? = w.heap[k]? := by intro k_ n_; repeat (first | (with_reducible rfl) | (with_reducible refine (tZ n_).trans ?_))) : d.R e W' b ok' v xs :=
  q (Kd.fO (Kd.sN h (fun k hk _ => s k hk.2)) f)
theorem lT {w W W' : World} {g : Nat} (h : d.R e w b (fun k => ok k ∧ k ≠ g) v xs)
    (q : d.R e W b ok v xs → d.R e W' b ok v xs := by intro h_; (with_reducible repeat (first | apply Kd.oG | apply Kd.oF | apply Kd.pQ)); exact h_)
    (s : ∀ k, k ≠ g → W.heap[k]? = w.heap[k]? := by intro k_ n_; repeat (first | (with_reducible rfl) | (with_reducible refine (tZ n_).trans ?_))) : d.R e W' b ok v xs :=
  q (Kd.fO (Kd.sN h (fun k hk _ => s k hk.2)) (fun _ hk => hk.1))
theorem xD {w W W' : World} {g g' : Nat} {ok' : Nat → Prop} (h : d.R e w b (fun k => (ok k ∧ k ≠ g) ∧ k ≠ g') v xs) (f : ∀ k, (ok k ∧ k ≠ g) ∧ k ≠ g' → ok' k)
    (q : d.R e W b ok' v xs → d.R e W' b ok' v xs := by intro h_; (with_reducible repeat (first | apply Kd.oG | apply Kd.oF | apply Kd.pQ)); exact h_)
    (s : ∀ k, k ≠ g → k ≠ g' → W.heap[k]? = w.heap[k]? := by intro k_ n_ n'_; repeat (first | (with_reducible rfl) | (with_reducible refine (tZ n_).trans ?_) | (with_reducible refine (tZ n'_).trans ?_))) : d.R e W' b ok' v xs :=
  q (Kd.fO (Kd.sN h (fun k hk _ => s k hk.1.2 hk.2)) f)
theorem yC {w w' W W' : World} {g : Nat} (hw : w' = W') (h : d.R e w b (fun k => ok k ∧ k ≠ g) v xs)
    (q : d.R e W b ok v xs → d.R e W' b ok v xs := by intro h_; (with_reducible repeat (first | apply Kd.oG | apply Kd.oF | apply Kd.pQ)); exact h_)
    (s : ∀ k, k ≠ g → W.heap[k]? = w.heap[k]? := by intro k_ n_; repeat (first | (with_reducible rfl) | (with_reducible refine (tZ n_).trans ?_))) : af (d.R e w' b ok v xs) := ⟨by rw [hw]; exact lT h q s⟩
theorem wR {w : World} (H : af (d.S e w b ok v xs)) : af (d.S e w.drew b ok v xs) := ⟨Kd.qI H.o⟩
theorem AU {w w1 w2 : World} (H : af (d.S e w b ok v xs)) (hb : Below w2.heap.size w2 w1) (s : d.S e w b ok v xs → d.S e w2 b ok v xs := by
    intro h_; (with_reducible repeat (first | apply Kd.qh | apply Kd.qf | apply Kd.qI)); exact h_) : af (d.S e w1 b ok v xs) := ⟨Kd.qW (s H.o) hb⟩
theorem Gx {w1 w2 : World} (h : d.S e w2 b ok v xs) (hb : Below w2.heap.size w2 w1) : af (d.S e w1 b ok v xs) := ⟨Kd.qW h hb⟩
theorem Ak {w w1 w2 : World} {a : Nat} (H : af (d.S e w b ok v xs)) (hg : a = w2.heap.size) (hb : Below w2.heap.size w2 w1) (s : d.S e w b ok v xs → d.S e w2 b ok v xs := by
    intro h_; (with_reducible repeat (first | apply Kd.qh | apply Kd.qf | apply Kd.qI)); exact h_) : af (d.S e w1 b (fun k => ok k ∧ k ≠ a) v xs) := ⟨Kd.qW (Kd.uy (s H.o) a (Nat.le_of_eq hg.symm)) hb⟩
theorem xu {β : Type} {d' : Kd β} {e' : Nat} {ok2 : Nat → Prop} {u : Value} {ys : List β} {w w1 w2 w3 : World} (H : af (d.S e w b ok v xs)) (ho : d'.R e' w3 w2.heap.size ok2 u ys) (hb : Below w2.heap.size w2 w1) (s : d.S e w b ok v xs → d.S e w2 b ok v xs := by
    intro h_; (with_reducible repeat (first | apply Kd.qh | apply Kd.qf | apply Kd.qI)); exact h_) : af (d.S e w1 b (fun k => ok k ∧ some k ≠ u.ownBlock) v xs) := ⟨Kd.xB (s H.o) (Kd.vw ho) hb⟩
theorem wS {w0 w1 w2 w3 : World} (h : d.S e w1 w2.heap.size ok v xs) (HB : af (Below w0.heap.size w0 w3)) (s : Below w0.heap.size w0 w3 → Below w0.heap.size w0 w2 := by
    intro h_; repeat (first | (with_reducible first | exact h_ | apply gP | apply fV | apply mr | refine gX ?_ (af.o (by assumption))) | exact h_)) : af (d.S e w1 w0.heap.size ok v xs) := ⟨Kd.BQ h (bA (s HB.o))⟩
theorem qA {w : World} {g t : Nat} {cs : Array Value} (H : af (d.S e w b ok v xs)) (B : af (w.heap[g]? = some (.cells cs t (0, 0)))) (ht : ∀ q, q ∈ e :: d.E → q ≠ t := by decide) : d.S e w b (fun k => ok k ∧ k ≠ g) v xs := Kd.Ep H.o B.o ht
theorem vX {w : World} {g : Nat} (H : af (d.S e w b ok v xs)) (f : ∀ k, ok k → k ≠ g) : d.S e w b (fun k => ok k ∧ k ≠ g) v xs := Kd.qb H.o (fun k hk => ⟨hk, f k hk⟩)
theorem rW {w W W' : World} {g : Nat} {ok' : Nat → Prop} (h : d.S e w b (fun k => ok k ∧ k ≠ g) v xs) (f : ∀ k, ok k ∧ k ≠ g → ok' k)
    (q : d.S e W b ok' v xs → d.S e W' b ok' v xs := by intro h_; (with_reducible repeat (first | apply Kd.qh | apply Kd.qf | apply Kd.qI)); exact h_)
    (s : ∀ k, k ≠ g → W.heap[k]? = w.heap[k]? := by intro k_ n_; repeat (first | (with_reducible rfl) | (with_reducible refine (tZ n_).trans ?_))) : d.S e W' b ok' v xs :=
  q (Kd.qb (Kd.wz h (fun k hk _ => s k hk.2)) f)
theorem qM {w W W' : World} {g : Nat} (h : d.S e w b (fun k => ok k ∧ k ≠ g) v xs)
    (q : d.S e W b ok v xs → d.S e W' b ok v xs := by intro h_; (with_reducible repeat (first | apply Kd.qh | apply Kd.qf | apply Kd.qI)); exact h_)
    (s : ∀ k, k ≠ g → W.heap[k]? = w.heap[k]? := by intro k_ n_; repeat (first | (with_reducible rfl) | (with_reducible refine (tZ n_).trans ?_))) : d.S e W' b ok v xs :=
  q (Kd.qb (Kd.wz h (fun k hk _ => s k hk.2)) (fun _ hk => hk.1))
theorem FU {w W W' : World} {g g' : Nat} {ok' : Nat → Prop} (h : d.S e w b (fun k => (ok k ∧ k ≠ g) ∧ k ≠ g') v xs) (f : ∀ k, (ok k ∧ k ≠ g) ∧ k ≠ g' → ok' k)
    (q : d.S e W b ok' v xs → d.S e W' b ok' v xs := by intro h_; (with_reducible repeat (first | apply Kd.qh | apply Kd.qf | apply Kd.qI)); exact h_)
    (s : ∀ k, k ≠ g → k ≠ g' → W.heap[k]? = w.heap[k]? := by intro k_ n_ n'_; repeat (first | (with_reducible rfl) | (with_reducible refine (tZ n_).trans ?_) | (with_reducible refine (tZ n'_).trans ?_))) : d.S e W' b ok' v xs :=
  q (Kd.qb (Kd.wz h (fun k hk _ => s k hk.1.2 hk.2)) f)
end
section
variable {P : Program} {ops : Array Oper} {Q : Exit → Act → World → Prop} {md : Region.Mode} {S : World → Prop} {ds : List Nat}
theorem rO {id : Nat} {a : Act} {w : World} {l : Array Bool} (n : Nat) (S : World → Prop) (ds : List Nat) (hS : S w.drew) (h : S w.drew → cB P .any ops Q S ds n l a w.drew)
    (hm : P.follows .mixedOrders = true := by kernel_rfl) (hn : ops.size = n := by rfl) (hl : Array.replicate n false = l := by
      show (List.replicate _ false).toArray = _
      simp only [List.replicate]
      rfl) : (Code.region id ops true).wp P Q a w := wB l hm hn hl hS h
theorem yn {T : Bool × List (List Nat × List Nat)} (HT : af (l9 md ops = T)) {oi : Oper} {fuel : Nat} {l l' : Array Bool} {a : Act} {w : World} (i : Nat) (N : Option Tmp)
    (h : ∀ K : Act → World → Prop, Shut (∀ a' w', cB P md ops Q S ds fuel l' a' w' → K a' w') → if Region.wanted oi (yielded ops a.tmps) = true then Oper.wp P oi a w K Q else K (a.put N undef) w)
    (hi : ops[i]? = some oi := by rfl) (hN : oi.dst = N := by rfl)
    (hl : l.setIfInBounds i true = l' := by simp only [List.setIfInBounds_toArray, List.set_cons_zero, List.set_cons_succ] <;> rfl)
    (hc : (sV T.2 l.toList == [i] && l.toList.set i true == l'.toList) = true := by kernel_rfl) (hd : i ∈ ds := by decide) : cB P md ops Q S ds (fuel + 1) l a w :=
  Ar l' hi hN (vv HT.o hc) hd h
end
section
variable {P : Program} {ops : Array Oper} {rest : List Oper} {oi : Oper} {a : Act} {Q : Exit → Act → World → Prop}
theorem qJ {w : World} {post : Ending → World → Prop} {f : FuncId} {as : Array Operand} {ts : Array TypeId} (hop : oi.op = .call { callee := .value (.func f), args := as, argTypes := ts }) (N : Option Tmp) {fn : Func} (hf : P.funcs[f]? = some fn) {args : Array Value} (C : Calls P f args w post)
    (h : ∀ e w', post e w' → ∃ v, e = .returned v ∧ wpList P ops Q rest (a.put N v) w')
    (hd : oi.dst = N := by rfl) (hg : oi.guard = none := by rfl) (hname : (fn.name == "runtime.NumGoroutine") = false := by kernel_rfl) (hb : fn.body.isSome = true := by rfl)
    (hargs : as.map a.eval = args := by (try simp only [List.map_toArray, List.map_cons, List.map_nil]); first | done | rfl | (simp only [List.length_drop, List.length_take]; rfl)) : wpList P ops Q (oi :: rest) a w :=
  GX N hf args (C.mono h) hd hg hname hb hop hargs
theorem o7 {N : Option Tmp} {w : World} {K : Act → World → Prop} {post : Ending → World → Prop} {f : FuncId} {as : Array Operand} {ts : Array TypeId} (hop : oi.op = .call { callee := .value (.func f), args := as, argTypes := ts }) {fn : Func} (hf : P.funcs[f]? = some fn) {args : Array Value} (C : Calls P f args w post)
    (h : ∀ e w', post e w' → ∃ v, e = .returned v ∧ K (a.put N v) w')
    (hname : (fn.name == "runtime.NumGoroutine") = false := by kernel_rfl) (hb : fn.body.isSome = true := by rfl)
    (hw : Region.wanted oi (yielded ops a.tmps) = true := by rfl) (hN : oi.dst = N := by rfl)
    (hargs : as.map a.eval = args := by (try simp only [List.map_toArray, List.map_cons, List.map_nil]); first | done | rfl | (simp only [List.length_drop, List.length_take]; rfl)) :
    if Region.wanted oi (yielded ops a.tmps) = true then Oper.wp P oi a w K Q else K (a.put N undef) w :=
  G8 hf args (C.mono h) hname hb hw hN hop hargs
theorem mD {w : World} {v : Value} {f : FuncId} {as : Array Operand} {ts : Array TypeId} (hop : oi.op = .call { callee := .value (.func f), args := as, argTypes := ts }) (N : Option Tmp) {fn : Func} (hf : P.funcs[f]? = some fn) {args : Array Value} (C : Calls P f args w (fun e w' => e = .returned v ∧ iU w w'))
    (h : ∀ nd, wpList P ops Q rest (a.put N v) (w.drewN nd))
    (hd : oi.dst = N := by rfl) (hg : oi.guard = none := by rfl) (hname : (fn.name == "runtime.NumGoroutine") = false := by kernel_rfl) (hb : fn.body.isSome = true := by rfl)
    (hargs : as.map a.eval = args := by (try simp only [List.map_toArray, List.map_cons, List.map_nil]); first | done | rfl | (simp only [List.length_drop, List.length_take]; rfl)) : wpList P ops Q (oi :: rest) a w :=
  GX N hf args (C.mono (by rintro e w' ⟨rfl, ⟨nd, rfl⟩⟩; exact ⟨_, rfl, h nd⟩)) hd hg hname hb hop hargs
theorem su {N : Option Tmp} {w : World} {K : Act → World → Prop} {v : Value} {f : FuncId} {as : Array Operand} {ts : Array TypeId} (hop : oi.op = .call { callee := .value (.func f), args := as, argTypes := ts }) {fn : Func} (hf : P.funcs[f]? = some fn) {args : Array Value} (C : Calls P f args w (fun e w' => e = .returned v ∧ iU w w'))
    (h : ∀ nd, K (a.put N v) (w.drewN nd))
    (hname : (fn.name == "runtime.NumGoroutine") = false := by kernel_rfl) (hb : fn.body.isSome = true := by rfl)
    (hw : Region.wanted oi (yielded ops a.tmps) = true := by rfl) (hN : oi.dst = N := by rfl)
    (hargs : as.map a.eval = args := by (try simp only [List.map_toArray, List.map_cons, List.map_nil]); first | done | rfl | (simp only [List.length_drop, List.length_take]; rfl)) :
    if Region.wanted oi (yielded ops a.tmps) = true then Oper.wp P oi a w K Q else K (a.put N undef) w :=
  G8 hf args (C.mono (by rintro e w' ⟨rfl, ⟨nd, rfl⟩⟩; exact ⟨_, rfl, h nd⟩)) hname hb hw hN hop hargs
theorem eZ {w : World} {v : Value} {f : FuncId} {as : Array Operand} {ts : Array TypeId} (hop : oi.op = .call { callee := .value (.func f), args := as, argTypes := ts }) (N : Option Tmp) {fn : Func} (hf : P.funcs[f]? = some fn) {args : Array Value} (C : Calls P f args w (fun e w' => e = .returned v ∧ Below w.heap.size w w'))
    (h : ∀ w', Below w.heap.size w w' → wpList P ops Q rest (a.put N v) w')
    (hd : oi.dst = N := by rfl) (hg : oi.guard = none := by rfl) (hname : (fn.name == "runtime.NumGoroutine") = false := by kernel_rfl) (hb : fn.body.isSome = true := by rfl)
    (hargs : as.map a.eval = args := by (try simp only [List.map_toArray, List.map_cons, List.map_nil]); first | done | rfl | (simp only [List.length_drop, List.length_take]; rfl)) : wpList P ops Q (oi :: rest) a w :=
  GX N hf args (C.mono (by rintro e w' ⟨rfl, hb⟩; exact ⟨_, rfl, h w' hb⟩)) hd hg hname hb hop hargs
theorem fF {N : Option Tmp} {w : World} {K : Act → World → Prop} {v : Value} {f : FuncId} {as : Array Operand} {ts : Array TypeId} (hop : oi.op = .call { callee := .value (.func f), args := as, argTypes := ts }) {fn : Func} (hf : P.funcs[f]? = some fn) {args : Array Value} (C : Calls P f args w (fun e w' => e = .returned v ∧ Below w.heap.size w w'))
    (h : ∀ w', Below w.heap.size w w' → K (a.put N v) w')
    (hname : (fn.name == "runtime.NumGoroutine") = false := by kernel_rfl) (hb : fn.body.isSome = true := by rfl)
    (hw : Region.wanted oi (yielded ops a.tmps) = true := by rfl) (hN : oi.dst = N := by rfl)
    (hargs : as.map a.eval = args := by (try simp only [List.map_toArray, List.map_cons, List.map_nil]); first | done | rfl | (simp only [List.length_drop, List.length_take]; rfl)) :
    if Region.wanted oi (yielded ops a.tmps) = true then Oper.wp P oi a w K Q else K (a.put N undef) w :=
  G8 hf args (C.mono (by rintro e w' ⟨rfl, hb⟩; exact ⟨_, rfl, h w' hb⟩)) hname hb hw hN hop hargs
theorem F9 {w : World} {c : Operand} {post : Ending → World → Prop} {f : FuncId} {as : Array Operand} {ts : Array TypeId} (hop : oi.op = .call { callee := .value c, args := as, argTypes := ts }) (N : Option Tmp) {fn : Func} (hf : P.funcs[f]? = some fn) {args : Array Value} (C : Calls P f args w post)
    (h : ∀ e w', post e w' → ∃ v, e = .returned v ∧ wpList P ops Q rest (a.put N v) w')
    (hd : oi.dst = N := by rfl) (hg : oi.guard = none := by rfl) (hname : (fn.name == "runtime.NumGoroutine") = false := by kernel_rfl) (hb : fn.body.isSome = true := by rfl) (hc : a.eval c = .func (.func f) #[] #[] := by rfl)
    (hargs : as.map a.eval = args := by (try simp only [List.map_toArray, List.map_cons, List.map_nil]); first | done | rfl | (simp only [List.length_drop, List.length_take]; rfl)) : wpList P ops Q (oi :: rest) a w :=
  G5 N hf args (C.mono h) hd hg hname hb hop hc hargs
end
theorem ui {p : Prop} (h : p := by first | exact ⟨rfl, _, World.drewN_drewN _ _ _⟩ | exact ⟨rfl, _, G7⟩) : p := h
theorem rZ {w : World} {g : Nat} {t : TypeId} {a b : Value} (H : af (w.heap[g]? = some (.cells #[a, b] t (0, 0)))) : rf w g a b := ⟨(aA H.o 0).trans rfl, (aA H.o 1).trans rfl⟩
theorem AQ {w : World} {g : Nat} {t : TypeId} {a b c d : Value} (H : af (w.heap[g]? = some (.cells #[a, b, c, d] t (0, 0)))) : vE w g a b c d := ⟨(aA H.o 0).trans rfl, (aA H.o 1).trans rfl, (aA H.o 2).trans rfl, (aA H.o 3).trans rfl⟩
theorem dX {w : World} {g : Nat} {t : TypeId} {a b c d e f : Value} (H : af (w.heap[g]? = some (.cells #[a, b, c, d, e, f] t (0, 0)))) : rU w g a b c d e f := ⟨(aA H.o 0).trans rfl, (aA H.o 1).trans rfl, (aA H.o 2).trans rfl, (aA H.o 3).trans rfl, (aA H.o 4).trans rfl, (aA H.o 5).trans rfl⟩
theorem rF {W W1 w3 : World} {g : Nat} {cs_ ds : Array Value} {t : TypeId} (H : af (W.heap[g]? = some (.cells cs_ t (0, 0)))) (hb : Below W1.heap.size W1 w3) (s : W.heap[g]? = some (.cells cs_ t (0, 0)) → W1.heap[g]? = some (.cells ds t (0, 0)) := by
    intro h_
    repeat (first | (with_reducible exact h_) | (with_reducible first | apply lW | apply mE | apply aW | (apply GH; · assumption)) | apply Cf | exact h_)
    all_goals rfl) : af (w3.heap[g]? = some (.cells ds t (0, 0))) := ⟨oz (s H.o) hb⟩
section
variable {P : Program} {ops : Array Oper} {rest : List Oper} {oi : Oper} {a : Act} {Q : Exit → Act → World → Prop}
theorem eO {W w0 w2 : World} (N : Tmp) (cs : Array Value) (t : TypeId) (HB : af (Below w0.heap.size w0 w2))
    (h : ∀ g, g = W.heap.size → ∀ w1, Below W.heap.size W w1 → af (w1.heap[g]? = some (.cells cs t (0, 0))) → af (w0.heap.size ≤ g) → af (Below w0.heap.size w0 w1) → wpList P ops Q rest (a.put oi.dst (.pointer (some ⟨g, 0, none⟩))) w1)
    (hd : oi.dst = some N := by rfl) (hgd : oi.guard = none := by rfl)
    (hrun : (execOp a.eval oi).run P W = .ok (.value (.pointer (some ⟨W.heap.size, 0, none⟩))) (W.alloc (.cells cs t (0, 0))) := by first | (go_simp; done) | (go_simp; rfl))
    (s : Below w0.heap.size w0 w2 → Below w0.heap.size w0 W := by
      intro h_; repeat (first | (with_reducible first | exact h_ | apply gP | apply fV | apply mr | refine gX ?_ (af.o (by assumption))) | exact h_)) : wpList P ops Q (oi :: rest) a W :=
  Hu N cs t (fun g hg w1 hbox hb => h g hg w1 hb ⟨hbox⟩ ⟨by rw [hg]; exact bA (s HB.o)⟩ ⟨xP (s HB.o) hb⟩) hd hgd hrun
theorem iC {fn : Func} {R : Ending → World → Prop} {w : World} {g : Nat} {t ty : TypeId} {p : Tmp} {d : TypeDesc} (cs : Array Value) (hg : w.heap[g]? = some (.cells cs t (0, 0))) (hu : P.underlying ty = some d) (hR : R (.returned (.agg cs)) w)
    (h : fn.results = #[.cell p ty] := by rfl) (hp : a.tmps.getD p undef = .pointer (some ⟨g, 0, none⟩) := by rfl) (hd : (match d with | .struct _ | .array _ _ => true | _ => false) = true := by rfl) (hi : (P.info? ty).map (·.size) = some cs.size := by kernel_rfl) (hf : a.defers = [] := by rfl) : bodyPost P fn R .ret a w :=
  bodyPost_ret (results_cell_row h _ _ g t cs (0, 0) d hp hg hu hd hi) hf hR
end
section
variable {P : Program} {ops : Array Oper} {rest : List Oper} {oi : Oper} {a : Act} {W : World} {Q : Exit → Act → World → Prop}
theorem gf (f : FuncId) {as : Array Operand} {ts : Array TypeId} (_ho : oi.op = .call { callee := .value (.func f), args := as, argTypes := ts }) (h : wpList P ops Q (oi :: rest) a W) : wpList P ops Q (oi :: rest) a W := h
theorem gd (N : Tmp) (_ho : oi.dst = some N) (h : wpList P ops Q (oi :: rest) a W) : wpList P ops Q (oi :: rest) a W := h
end
theorem sj {α : Type} {y r : α} {p q : Prop} (z : y = r) (H : p) (s : y = r → p → q := by intro z H; first | (rw [z]; with_reducible exact H) | (have H2_ := (Option.bind_some _ _).symm.trans H; rw [z]; with_reducible exact H2_) | (have H2_ := (Option.bind_some _ _).symm.trans H; with_reducible exact H2_) | with_reducible exact H | (rw [z]; exact H) | exact H) : q := s z H
end Go.Proofs.YtklkdpcopfjmcaaGreat.Sq
