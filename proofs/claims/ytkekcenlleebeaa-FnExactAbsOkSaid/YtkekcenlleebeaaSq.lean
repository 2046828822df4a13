/- Short words for steps that walks repeat: what stood in memory still stands there behind a step, with the small proofs as defaults. Conditions: none. -/
import Derived.Test.YtkekcenlleebeaaZ0
namespace Go.Proofs.Ytkekcenlleebeaa.Sq
set_option linter.unusedVariables false
open Go.RowKit Go.Proofs.YtkekcenlleebeaaW.PrintWords Go.Proofs.YtkekcenlleebeaaW.PrintLast Go.Proofs.YtkekcenlleebeaaW.PrintMore

section
variable {w0 w1 w2 w3 : World} {g g' : Nat} {o : Obj}
theorem sqt {W W1 : World} {r : Option Obj} (h : W.heap[g]? = r) (s : W.heap[g]? = r → W1.heap[g]? = r := by
    intro h_; (with_reducible repeat (first | refine blk_drewN ?_ _ | refine blk_drew ?_ | refine blk_alloc ?_ _)); exact h_) : W1.heap[g]? = r := s h
theorem sqb (H : Aside0 (w1.heap[g]? = some o)) (hb : Below w2.heap.size w2 w3) (s : w1.heap[g]? = some o → w2.heap[g]? = some o := by
    intro h_; (with_reducible repeat (first | refine blk_drewN ?_ _ | refine blk_drew ?_ | refine blk_alloc ?_ _)); exact h_) : Aside0 (w3.heap[g]? = some o) := ⟨blk_below (s H.out) hb⟩
theorem sqq {W : World} (H : Aside0 (w1.heap[g]? = some o)) (hq : W = w3) (s : w1.heap[g]? = some o → W.heap[g]? = some o := by
    intro h_; (with_reducible repeat (first | refine blk_drewN ?_ _ | refine blk_drew ?_ | refine blk_alloc ?_ _)); exact h_) : Aside0 (w3.heap[g]? = some o) := ⟨hq ▸ s H.out⟩
theorem sqr {W : World} (H : Aside0 (Below w0.heap.size w0 w1)) (hq : W = w3) (s : Below w0.heap.size w0 w1 → Below w0.heap.size w0 W := by
    intro h_; repeat (first | (with_reducible first | exact h_ | apply below_alloc | apply pw_below_drewN | apply below_drew1 | refine below_set ?_ (Aside0.out (by assumption))) | exact h_)) : Aside0 (Below w0.heap.size w0 w3) := ⟨hq ▸ s H.out⟩
theorem sqk (H : Aside0 (w1.heap[g]? = some o)) (s : w1.heap[g]? = some o → w2.heap[g]? = some o := by
    intro h_; (with_reducible repeat (first | refine blk_drewN ?_ _ | refine blk_drew ?_ | refine blk_alloc ?_ _)); exact h_) : Aside0 (w2.heap[g]? = some o) := ⟨s H.out⟩
theorem sqn (H : Aside0 (w1.heap[g]? = some o)) (hg : g' = w2.heap.size) (s : w1.heap[g]? = some o → w2.heap[g]? = some o := by
    intro h_; (with_reducible repeat (first | refine blk_drewN ?_ _ | refine blk_drew ?_ | refine blk_alloc ?_ _)); exact h_) : Aside0 (g ≠ g') := ⟨by rw [hg]; exact Nat.ne_of_lt (blk_lt (s H.out))⟩
theorem sqm (H : Aside0 (w1.heap[g]? = some o)) (hg : g' = w2.heap.size) (s : w1.heap[g]? = some o → w2.heap[g]? = some o := by
    intro h_; (with_reducible repeat (first | refine blk_drewN ?_ _ | refine blk_drew ?_ | refine blk_alloc ?_ _)); exact h_) : Aside0 (g' ≠ g) := ⟨by rw [hg]; exact Nat.ne_of_gt (blk_lt (s H.out))⟩
theorem sqs (H : Aside0 (Below w0.heap.size w0 w1)) (hb : Below w2.heap.size w2 w3) (s : Below w0.heap.size w0 w1 → Below w0.heap.size w0 w2 := by
    intro h_; repeat (first | (with_reducible first | exact h_ | apply below_alloc | apply pw_below_drewN | apply below_drew1 | refine below_set ?_ (Aside0.out (by assumption))) | exact h_)) : Aside0 (Below w0.heap.size w0 w3) := ⟨below_step (s H.out) hb⟩
theorem sqh (H : Aside0 (Below w0.heap.size w0 w1)) (s : Below w0.heap.size w0 w1 → Below w0.heap.size w0 w2 := by
    intro h_; repeat (first | (with_reducible first | exact h_ | apply below_alloc | apply pw_below_drewN | apply below_drew1 | refine below_set ?_ (Aside0.out (by assumption))) | exact h_)) : Aside0 (Below w0.heap.size w0 w2) := ⟨s H.out⟩
theorem sqg (H : Aside0 (Below w0.heap.size w0 w1)) (hg : g' = w2.heap.size) (s : Below w0.heap.size w0 w1 → Below w0.heap.size w0 w2 := by
    intro h_; repeat (first | (with_reducible first | exact h_ | apply below_alloc | apply pw_below_drewN | apply below_drew1 | refine below_set ?_ (Aside0.out (by assumption))) | exact h_)) : Aside0 (w0.heap.size ≤ g') := ⟨by rw [hg]; exact below_size (s H.out)⟩
theorem sqe {p : Prop} (H : Aside0 (Below w0.heap.size w0 w1)) (h : p := by first | rfl | (simp [errW_none, errW_some] <;> rfl) | (simp [*, errW_none, errW_some] <;> rfl)) (s : Below w0.heap.size w0 w1 → Below w0.heap.size w0 w2 := by
    intro h_; repeat (first | (with_reducible first | exact h_ | apply below_alloc | apply pw_below_drewN | apply below_drew1 | refine below_set ?_ (Aside0.out (by assumption))) | exact h_)) : p ∧ Below w0.heap.size w0 w2 := ⟨h, s H.out⟩
end
section
variable {P : Program} {ops : Array Oper} {rest : List Oper} {oi : Oper} {a : Act} {Q : Exit → Act → World → Prop}
theorem sqL {w : World} (N : Option Tmp) {f : FuncId} {fn : Func} {as : Array Operand} {ts : Array TypeId} (hf : P.funcs[f]? = some fn) (args : Array Value)
    (h : Calls P f args w fun e w' => ∃ v, e = .returned v ∧ wpList P ops Q rest (a.put N v) w')
    (hd : oi.dst = N := by rfl) (hg : oi.guard = none := by rfl) (hname : (fn.name == "runtime.NumGoroutine") = false := by kernel_rfl) (hb : fn.body.isSome = true := by rfl)
    (hop : oi.op = .call { callee := .value (.func f), args := as, argTypes := ts } := by rfl)
    (hargs : as.map a.eval = args := by (try simp only [List.map_toArray, List.map_cons, List.map_nil]); first | done | rfl | (simp only [List.length_drop, List.length_take]; rfl)) : wpList P ops Q (oi :: rest) a w :=
  goesL_ N hd hg hf hname hb args hop hargs h
theorem sqG {N : Option Tmp} {w : World} {K : Act → World → Prop} {f : FuncId} {fn : Func} {as : Array Operand} {ts : Array TypeId} (hf : P.funcs[f]? = some fn) (args : Array Value)
    (h : Calls P f args w fun e w' => ∃ v, e = .returned v ∧ K (a.put N v) w')
    (hname : (fn.name == "runtime.NumGoroutine") = false := by kernel_rfl) (hb : fn.body.isSome = true := by rfl)
    (hw : Region.wanted oi (yielded ops a.tmps) = true := by rfl) (hN : oi.dst = N := by rfl) (hop : oi.op = .call { callee := .value (.func f), args := as, argTypes := ts } := by rfl)
    (hargs : as.map a.eval = args := by (try simp only [List.map_toArray, List.map_cons, List.map_nil]); first | done | rfl | (simp only [List.length_drop, List.length_take]; rfl)) :
    if Region.wanted oi (yielded ops a.tmps) = true then Oper.wp P oi a w K Q else K (a.put N undef) w :=
  goes_ hf hname hb args hw hN hop hargs h
theorem sqx {W : World} (N : Tmp) (cs : Array Value) (t : TypeId)
    (h : ∀ g, g = W.heap.size → ∀ w1, w1.heap[g]? = some (.cells cs t (0, 0)) → Below W.heap.size W w1 → wpList P ops Q rest (a.put oi.dst (.pointer (some ⟨g, 0, none⟩))) w1)
    (hd : oi.dst = some N := by rfl) (hgd : oi.guard = none := by rfl)
    (hrun : (execOp a.eval oi).run P W = .ok (.value (.pointer (some ⟨W.heap.size, 0, none⟩))) (W.alloc (.cells cs t (0, 0))) := by first | (go_simp; done) | (go_simp; rfl)) : wpList P ops Q (oi :: rest) a W :=
  box_event hgd hd hrun h
end
section
variable {P : Program} {ops : Array Oper} {Q : Exit → Act → World → Prop} {md : Region.Mode} {S : World → Prop} {ds : List Nat}
theorem sqcc {w : World} {g i : Nat} {t : TypeId} {cs : Array Value} {v : Value} (H : Aside0 (w.heap[g]? = some (.cells cs t (0, 0)))) (e : cs[i]? = some v) : w.cell? ⟨g, i, none⟩ = some v := (blk_cell H.out i).trans e
theorem sqz {p : Prop} (h : p := by (repeat' apply And.intro) <;> (refine sqcc (by assumption) ?_; rfl)) : p := h
theorem sqp {T : Bool × List (List Nat × List Nat)} (HT : Aside0 (rtab md ops = T)) {oi : Oper} {v : Value} {fuel : Nat} {l l' : Array Bool} {a a' : Act} {w : World} (i n : Nat) (h : wpAnyLast P md ops Q S ds fuel l' a' w)
    (hi : ops[i]? = some oi := by rfl) (hN : oi.dst = some n := by rfl)
    (hl : l.setIfInBounds i true = l' := by simp only [List.setIfInBounds_toArray, List.set_cons_zero, List.set_cons_succ] <;> rfl)
    (hy : Yields P ops oi v a ∧ a.put (some n) v = a' := by
      constructor
      · refine Or.inl ⟨by rfl, ?_⟩
        intro w'
        go_simp
        with_reducible rfl
      · simp only [Act.put, List.setIfInBounds_toArray, List.set_cons_zero, List.set_cons_succ, i64_w, i32_w]
        rfl)
    (hc : anyT T l.toList l'.toList i = true := by kernel_rfl) (hQ : ∀ c a w, Q (.panic c) (a.put oi.dst v) w → Q (.panic c) a w := by exact fun _ _ _ h => h) : wpAnyLast P md ops Q S ds (fuel + 1) l a w :=
  pure_ l' hi hN (any_of HT.out hc) hQ hy.1 hy.2 h
theorem sqpu {T : Bool × List (List Nat × List Nat)} (HT : Aside0 (rtab md ops = T)) {oi : Oper} {fuel : Nat} {l l' : Array Bool} {a a' : Act} {w : World} (i n : Nat) (h : wpAnyLast P md ops Q S ds fuel l' a' w)
    (hi : ops[i]? = some oi := by rfl) (hN : oi.dst = some n := by rfl)
    (hl : l.setIfInBounds i true = l' := by simp only [List.setIfInBounds_toArray, List.set_cons_zero, List.set_cons_succ] <;> rfl)
    (hy : Yields P ops oi undef a ∧ a.put (some n) undef = a' := by
      constructor
      · exact Or.inr ⟨by rfl, rfl⟩
      · simp only [Act.put, List.setIfInBounds_toArray, List.set_cons_zero, List.set_cons_succ, i64_w, i32_w]
        rfl)
    (hc : anyT T l.toList l'.toList i = true := by kernel_rfl) (hQ : ∀ c a w, Q (.panic c) (a.put oi.dst undef) w → Q (.panic c) a w := by exact fun _ _ _ h => h) : wpAnyLast P md ops Q S ds (fuel + 1) l a w :=
  pure_ l' hi hN (any_of HT.out hc) hQ hy.1 hy.2 h
theorem sqw {T : Bool × List (List Nat × List Nat)} {B : List Nat} (HT : Aside0 (rtab md ops = T)) (HW : Aside0 (waitsOk T.2 B = true)) {oi : Oper} {v : Value} {fuel : Nat} {l l' : Array Bool} {a a' : Act} {w : World} (i n : Nat) (hS : S w) (h : wpAnyLast P md ops Q S ds fuel l' a' w)
    (hi : ops[i]? = some oi := by rfl) (hN : oi.dst = some n := by rfl)
    (hl : l.setIfInBounds i true = l' := by simp only [List.setIfInBounds_toArray, List.set_cons_zero, List.set_cons_succ] <;> rfl)
    (hy : YieldsIf P ops S oi v a ∧ a.put (some n) v = a' := by
      constructor
      · refine Or.inl ⟨by rfl, ?_⟩
        intro w' hs_
        revert hs_
        (try simp only [and_imp])
        (try simp only [add_plain])
        intros
        go_simp
        with_reducible rfl
      · simp only [Act.put, List.setIfInBounds_toArray, List.set_cons_zero, List.set_cons_succ, i64_w, i32_w]
        rfl)
    (hc : takeW T B ds l.toList l'.toList i = true := by kernel_rfl) (hQ : ∀ c a w, Q (.panic c) (a.put oi.dst v) w → Q (.panic c) a w := by exact fun _ _ _ h => h) : wpAnyLast P md ops Q S ds (fuel + 1) l a w :=
  take_ l' hi hN (take_ofW HT.out HW.out hc) hQ hy.1 hS hy.2 h
theorem sqo {T : Bool × List (List Nat × List Nat)} (HT : Aside0 (rtab md ops = T)) {oi : Oper} {fuel : Nat} {l l' : Array Bool} {a : Act} {w : World} (i n : Nat)
    (h : ∀ K : Act → World → Prop, Shut (∀ a' w', S w' → (S w' → wpAnyLast P md ops Q S ds fuel l' a' w') → K a' w') → if Region.wanted oi (yielded ops a.tmps) = true then Oper.wp P oi a w K Q else K (a.put (some n) undef) w)
    (hi : ops[i]? = some oi := by rfl) (hN : oi.dst = some n := by rfl)
    (hl : l.setIfInBounds i true = l' := by simp only [List.setIfInBounds_toArray, List.set_cons_zero, List.set_cons_succ] <;> rfl)
    (hc : (readyT T.2 l.toList == [i] && l.toList.set i true == l'.toList) = true := by kernel_rfl) (hd : i ∉ ds := by decide) : wpAnyLast P md ops Q S ds (fuel + 1) l a w :=
  one_ l' hi hN (one_of HT.out hc) hd h
theorem sqnm {fuel : Nat} {l : Array Bool} {a a' : Act} {w : World} (h : wpAnyLast P md ops Q S ds fuel l a' w)
    (ha : a = a' := by
      show Act.put _ (some _) _ = _
      simp only [Act.put, List.setIfInBounds_toArray, List.set_cons_zero, List.set_cons_succ, i64_w, i32_w]
      rfl) : wpAnyLast P md ops Q S ds fuel l a w := norm_ ha h
end
section
variable {w : World} {g : Nat} {t : TypeId} {u0 u1 u2 u3 u4 : Value}
theorem sqc1 (H : Aside0 (w.heap[g]? = some (.cells #[u0] t (0, 0)))) : w.cell? ⟨g, 0, none⟩ = some u0 ∧ w.frozen? ⟨g, 0, none⟩ = false := ⟨sqcc H rfl, blk_frozen H.out 0⟩
theorem sqc2 (H : Aside0 (w.heap[g]? = some (.cells #[u0, u1] t (0, 0)))) : w.cell? ⟨g, 0, none⟩ = some u0 ∧ w.cell? ⟨g, 1, none⟩ = some u1 ∧ w.frozen? ⟨g, 0, none⟩ = false ∧ w.frozen? ⟨g, 1, none⟩ = false :=
  ⟨sqcc H rfl, sqcc H rfl, blk_frozen H.out 0, blk_frozen H.out 1⟩
theorem sqc3 (H : Aside0 (w.heap[g]? = some (.cells #[u0, u1, u2] t (0, 0)))) : w.cell? ⟨g, 0, none⟩ = some u0 ∧ w.cell? ⟨g, 1, none⟩ = some u1 ∧ w.cell? ⟨g, 2, none⟩ = some u2 ∧ w.frozen? ⟨g, 0, none⟩ = false ∧ w.frozen? ⟨g, 1, none⟩ = false ∧ w.frozen? ⟨g, 2, none⟩ = false :=
  ⟨sqcc H rfl, sqcc H rfl, sqcc H rfl, blk_frozen H.out 0, blk_frozen H.out 1, blk_frozen H.out 2⟩
theorem sqc4 (H : Aside0 (w.heap[g]? = some (.cells #[u0, u1, u2, u3] t (0, 0)))) : w.cell? ⟨g, 0, none⟩ = some u0 ∧ w.cell? ⟨g, 1, none⟩ = some u1 ∧ w.cell? ⟨g, 2, none⟩ = some u2 ∧ w.cell? ⟨g, 3, none⟩ = some u3 ∧ w.frozen? ⟨g, 0, none⟩ = false ∧ w.frozen? ⟨g, 1, none⟩ = false ∧ w.frozen? ⟨g, 2, none⟩ = false ∧ w.frozen? ⟨g, 3, none⟩ = false :=
  ⟨sqcc H rfl, sqcc H rfl, sqcc H rfl, sqcc H rfl, blk_frozen H.out 0, blk_frozen H.out 1, blk_frozen H.out 2, blk_frozen H.out 3⟩
end
theorem sqy {α : Type} {d : Kd α} {e : Nat} {W W1 : World} {base : Nat} {ok : Nat → Prop} {v : Value} {xs : List α} (h : d.R e W base ok v xs)
    (s : d.R e W base ok v xs → d.R e W1 base ok v xs := by
      intro h_; (with_reducible repeat (first | apply Kd.R_alloc | apply Kd.R_drewN | apply Kd.R_drew)); exact h_) : d.R e W1 base ok v xs := s h
end Go.Proofs.Ytkekcenlleebeaa.Sq
