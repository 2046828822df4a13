/- Short words for steps that walks repeat: what stood in memory still stands there behind a step, with the small proofs as defaults. Conditions: none. -/
import Derived.Test.YtlbheepfmjbpnaaZ0
namespace Go.Proofs.Ytlbheepfmjbpnaa.Sq
set_option linter.unusedVariables false
open Go.RowKit Go.Proofs.YtlbheepfmjbpnaaW.PrintWords Go.Proofs.YtlbheepfmjbpnaaW.PrintLast Go.Proofs.YtlbheepfmjbpnaaW.PrintMore

abbrev Ce2 (w : World) (g : Nat) (a b : Value) : Prop := w.cell? ⟨g, 0, none⟩ = some a ∧ w.cell? ⟨g, 1, none⟩ = some b
abbrev Ce4 (w : World) (g : Nat) (a b c d : Value) : Prop := w.cell? ⟨g, 0, none⟩ = some a ∧ w.cell? ⟨g, 1, none⟩ = some b ∧ w.cell? ⟨g, 2, none⟩ = some c ∧ w.cell? ⟨g, 3, none⟩ = some d
abbrev Ce6 (w : World) (g : Nat) (a b c d e f : Value) : Prop := w.cell? ⟨g, 0, none⟩ = some a ∧ w.cell? ⟨g, 1, none⟩ = some b ∧ w.cell? ⟨g, 2, none⟩ = some c ∧ w.cell? ⟨g, 3, none⟩ = some d ∧ w.cell? ⟨g, 4, none⟩ = some e ∧ w.cell? ⟨g, 5, none⟩ = some f
section
variable {w0 w1 w2 w3 : World} {g g' : Nat} {o : Obj}
theorem sqt {W W1 : World} {r : Option Obj} (h : W.heap[g]? = r) (s : W.heap[g]? = r → W1.heap[g]? = r := by
    intro h_; (with_reducible repeat (first | refine blk_drewN ?_ _ | refine blk_drew ?_ | refine blk_alloc ?_ _)); exact h_) : W1.heap[g]? = r := s h
theorem sqb (H : Aside0 (w1.heap[g]? = some o)) (hb : Below w2.heap.size w2 w3) (s : w1.heap[g]? = some o → w2.heap[g]? = some o := by
    intro h_; (with_reducible repeat (first | refine blk_drewN ?_ _ | refine blk_drew ?_ | refine blk_alloc ?_ _)); exact h_) : Aside0 (w3.heap[g]? = some o) := ⟨blk_below (s H.out) hb⟩
theorem sqq {W : World} (H : Aside0 (w1.heap[g]? = some o)) (hq : W = w3) (s : w1.heap[g]? = some o → W.heap[g]? = some o := by
    intro h_; (with_reducible repeat (first | refine blk_drewN ?_ _ | refine blk_drew ?_ | refine blk_alloc ?_ _)); exact h_) : Aside0 (w3.heap[g]? = some o) := ⟨hq ▸ s H.out⟩
theorem sqr {W : World} (H : Aside0 (Below w0.heap.size w0 w1)) (hq : W = w3) (s : Below w0.heap.size w0 w1 → Below w0.heap.size w0 W := by
    intro h_; repeat (first | (with_reducible first | exact h_ | apply below_alloc | apply pw_below_drewN | apply below_drew1 | refine below_set ?_ (Aside0.out (by assumption))) | exact h_)) : Aside0 (Below w0.heap.size w0 w3) := ⟨hq ▸ s H.out⟩
theorem sqk (H : Aside0 (w1.heap[g]? = some o)) (s : w1.heap[g]? = some o → w2.heap[g]? = some o := by
    intro h_; (with_reducible repeat (first | refine blk_drewN ?_ _ | refine blk_drew ?_ | refine blk_alloc ?_ _)); exact h_) : Aside0 (w2.heap[g]? = some o) := ⟨s H.out⟩
theorem sqn (H : Aside0 (w1.heap[g]? = some o)) (hg : g' = w2.heap.size) (s : w1.heap[g]? = some o → w2.heap[g]? = some o := by
    intro h_; (with_reducible repeat (first | refine blk_drewN ?_ _ | refine blk_drew ?_ | refine blk_alloc ?_ _)); exact h_) : Aside0 (g ≠ g') := ⟨by rw [hg]; exact Nat.ne_of_lt (blk_lt (s H.out))⟩
theorem sqm (H : Aside0 (w1.heap[g]? = some o)) (hg : g' = w2.heap.size) (s : w1.heap[g]? = some o → w2.heap[g]? = some o := by
    intro h_; (with_reducible repeat (first | refine blk_drewN ?_ _ | refine blk_drew ?_ | refine blk_alloc ?_ _)); exact h_) : Aside0 (g' ≠ g) := ⟨by rw [hg]; exact Nat.ne_of_gt (blk_lt (s H.out))⟩
theorem sqs (H : Aside0 (Below w0.heap.size w0 w1)) (hb : Below w2.heap.size w2 w3) (s : Below w0.heap.size w0 w1 → Below w0.heap.size w0 w2 := by
    intro h_; repeat (first | (with_reducible first | exact h_ | apply below_alloc | apply pw_below_drewN | apply below_drew1 | refine below_set ?_ (Aside0.out (by assumption))) | exact h_)) : Aside0 (Below w0.heap.size w0 w3) := ⟨below_step (s H.out) hb⟩
theorem sqh (H : Aside0 (Below w0.heap.size w0 w1)) (s : Below w0.heap.size w0 w1 → Below w0.heap.size w0 w2 := by
    intro h_; repeat (first | (with_reducible first | exact h_ | apply below_alloc | apply pw_below_drewN | apply below_drew1 | refine below_set ?_ (Aside0.out (by assumption))) | exact h_)) : Aside0 (Below w0.heap.size w0 w2) := ⟨s H.out⟩
theorem sqg (H : Aside0 (Below w0.heap.size w0 w1)) (hg : g' = w2.heap.size) (s : Below w0.heap.size w0 w1 → Below w0.heap.size w0 w2 := by
    intro h_; repeat (first | (with_reducible first | exact h_ | apply below_alloc | apply pw_below_drewN | apply below_drew1 | refine below_set ?_ (Aside0.out (by assumption))) | exact h_)) : Aside0 (w0.heap.size ≤ g') := ⟨by rw [hg]; exact below_size (s H.out)⟩
theorem sqe {p : Prop} (H : Aside0 (Below w0.heap.size w0 w1)) (h : p := by first | rfl | (simp [errW_none, errW_some] <;> rfl) | (simp [*, errW_none, errW_some] <;> rfl)) (s : Below w0.heap.size w0 w1 → Below w0.heap.size w0 w2 := by
    intro h_; repeat (first | (with_reducible first | exact h_ | apply below_alloc | apply pw_below_drewN | apply below_drew1 | refine below_set ?_ (Aside0.out (by assumption))) | exact h_)) : p ∧ Below w0.heap.size w0 w2 := ⟨h, s H.out⟩
end
section
variable {P : Program} {ops : Array Oper} {rest : List Oper} {oi : Oper} {a : Act} {Q : Exit → Act → World → Prop}
theorem sqL {w : World} (N : Option Tmp) {f : FuncId} {fn : Func} {as : Array Operand} {ts : Array TypeId} (hf : P.funcs[f]? = some fn) (args : Array Value)
    (h : Calls P f args w fun e w' => ∃ v, e = .returned v ∧ wpList P ops Q rest (a.put N v) w')
    (hd : oi.dst = N := by rfl) (hg : oi.guard = none := by rfl) (hname : (fn.name == "runtime.NumGoroutine") = false := by kernel_rfl) (hb : fn.body.isSome = true := by rfl)
    (hop : oi.op = .call { callee := .value (.func f), args := as, argTypes := ts } := by rfl)
    (hargs : as.map a.eval = args := by (try simp only [List.map_toArray, List.map_cons, List.map_nil]); first | done | rfl | (simp only [List.length_drop, List.length_take]; rfl)) : wpList P ops Q (oi :: rest) a w :=
  goesL_ N hd hg hf hname hb args hop hargs h
theorem sqG {N : Option Tmp} {w : World} {K : Act → World → Prop} {f : FuncId} {fn : Func} {as : Array Operand} {ts : Array TypeId} (hf : P.funcs[f]? = some fn) (args : Array Value)
    (h : Calls P f args w fun e w' => ∃ v, e = .returned v ∧ K (a.put N v) w')
    (hname : (fn.name == "runtime.NumGoroutine") = false := by kernel_rfl) (hb : fn.body.isSome = true := by rfl)
    (hw : Region.wanted oi (yielded ops a.tmps) = true := by rfl) (hN : oi.dst = N := by rfl) (hop : oi.op = .call { callee := .value (.func f), args := as, argTypes := ts } := by rfl)
    (hargs : as.map a.eval = args := by (try simp only [List.map_toArray, List.map_cons, List.map_nil]); first | done | rfl | (simp only [List.length_drop, List.length_take]; rfl)) :
    if Region.wanted oi (yielded ops a.tmps) = true then Oper.wp P oi a w K Q else K (a.put N undef) w :=
  goes_ hf hname hb args hw hN hop hargs h
theorem sqx {W : World} (N : Tmp) (cs : Array Value) (t : TypeId)
    (h : ∀ g, g = W.heap.size → ∀ w1, w1.heap[g]? = some (.cells cs t (0, 0)) → Below W.heap.size W w1 → wpList P ops Q rest (a.put oi.dst (.pointer (some ⟨g, 0, none⟩))) w1)
    (hd : oi.dst = some N := by rfl) (hgd : oi.guard = none := by rfl)
    (hrun : (execOp a.eval oi).run P W = .ok (.value (.pointer (some ⟨W.heap.size, 0, none⟩))) (W.alloc (.cells cs t (0, 0))) := by first | (go_simp; done) | (go_simp; rfl)) : wpList P ops Q (oi :: rest) a W :=
  box_event hgd hd hrun h
end
section
variable {P : Program} {ops : Array Oper} {Q : Exit → Act → World → Prop} {md : Region.Mode} {S : World → Prop} {ds : List Nat}
theorem sqfa {W : World} {g g' i j : Nat} {u : Value} {r : Option Value} (NB : Aside0 (g ≠ g')) (h : W.cell? ⟨g, j, none⟩ = r) : (W.setCell ⟨g', i, none⟩ u).cell? ⟨g, j, none⟩ = r := (cell_far (p := ⟨g', i, none⟩) NB.out u).trans h
theorem sqcc {w : World} {g i : Nat} {t : TypeId} {cs : Array Value} {v : Value} (H : Aside0 (w.heap[g]? = some (.cells cs t (0, 0)))) (e : cs[i]? = some v) : w.cell? ⟨g, i, none⟩ = some v := (blk_cell H.out i).trans e
theorem sqz {p : Prop} (h : p := by (repeat' apply And.intro) <;> (refine sqcc (by assumption) ?_; rfl)) : p := h
theorem sqp {T : Bool × List (List Nat × List Nat)} (HT : Aside0 (rtab md ops = T)) {oi : Oper} {v : Value} {fuel : Nat} {l l' : Array Bool} {a a' : Act} {w : World} (i n : Nat) (h : wpAnyLast P md ops Q S ds fuel l' a' w)
    (hi : ops[i]? = some oi := by rfl) (hN : oi.dst = some n := by rfl)
    (hl : l.setIfInBounds i true = l' := by simp only [List.setIfInBounds_toArray, List.set_cons_zero, List.set_cons_succ] <;> rfl)
    (hy : Yields P ops oi v a ∧ a.put (some n) v = a' := by
      constructor
      · refine Or.inl ⟨by rfl, ?_⟩
        intro w'
        go_simp
        with_reducible rfl
      · simp only [Act.put, List.setIfInBounds_toArray, List.set_cons_zero, List.set_cons_succ, i64_w, i32_w]
        rfl)
    (hc : anyT T l.toList l'.toList i = true := by kernel_rfl) (hQ : ∀ c a w, Q (.panic c) (a.put oi.dst v) w → Q (.panic c) a w := by exact fun _ _ _ h => h) : wpAnyLast P md ops Q S ds (fuel + 1) l a w :=
  pure_ l' hi hN (any_of HT.out hc) hQ hy.1 hy.2 h
theorem sqpu {T : Bool × List (List Nat × List Nat)} (HT : Aside0 (rtab md ops = T)) {oi : Oper} {fuel : Nat} {l l' : Array Bool} {a a' : Act} {w : World} (i n : Nat) (h : wpAnyLast P md ops Q S ds fuel l' a' w)
    (hi : ops[i]? = some oi := by rfl) (hN : oi.dst = some n := by rfl)
    (hl : l.setIfInBounds i true = l' := by simp only [List.setIfInBounds_toArray, List.set_cons_zero, List.set_cons_succ] <;> rfl)
    (hy : Yields P ops oi undef a ∧ a.put (some n) undef = a' := by
      constructor
      · exact Or.inr ⟨by rfl, rfl⟩
      · simp only [Act.put, List.setIfInBounds_toArray, List.set_cons_zero, List.set_cons_succ, i64_w, i32_w]
        rfl)
    (hc : anyT T l.toList l'.toList i = true := by kernel_rfl) (hQ : ∀ c a w, Q (.panic c) (a.put oi.dst undef) w → Q (.panic c) a w := by exact fun _ _ _ h => h) : wpAnyLast P md ops Q S ds (fuel + 1) l a w :=
  pure_ l' hi hN (any_of HT.out hc) hQ hy.1 hy.2 h
theorem sqw {T : Bool × List (List Nat × List Nat)} {B : List Nat} (HT : Aside0 (rtab md ops = T)) (HW : Aside0 (waitsOk T.2 B = true)) {oi : Oper} {v : Value} {fuel : Nat} {l l' : Array Bool} {a a' : Act} {w : World} (i n : Nat) (hS : S w) (h : wpAnyLast P md ops Q S ds fuel l' a' w)
    (hi : ops[i]? = some oi := by rfl) (hN : oi.dst = some n := by rfl)
    (hl : l.setIfInBounds i true = l' := by simp only [List.setIfInBounds_toArray, List.set_cons_zero, List.set_cons_succ] <;> rfl)
    (hy : YieldsIf P ops S oi v a ∧ a.put (some n) v = a' := by
      constructor
      · refine Or.inl ⟨by rfl, ?_⟩
        intro w' hs_
        revert hs_
        (try simp only [Ce2, Ce4, Ce6, and_imp])
        (try simp only [add_plain])
        intros
        go_simp
        with_reducible rfl
      · simp only [Act.put, List.setIfInBounds_toArray, List.set_cons_zero, List.set_cons_succ, i64_w, i32_w]
        rfl)
    (hc : takeW T B ds l.toList l'.toList i = true := by kernel_rfl) (hQ : ∀ c a w, Q (.panic c) (a.put oi.dst v) w → Q (.panic c) a w := by exact fun _ _ _ h => h) : wpAnyLast P md ops Q S ds (fuel + 1) l a w :=
  take_ l' hi hN (take_ofW HT.out HW.out hc) hQ hy.1 hS hy.2 h
theorem sqo {T : Bool × List (List Nat × List Nat)} (HT : Aside0 (rtab md ops = T)) {oi : Oper} {fuel : Nat} {l l' : Array Bool} {a : Act} {w : World} (i n : Nat)
    (h : ∀ K : Act → World → Prop, Shut (∀ a' w', S w' → (S w' → wpAnyLast P md ops Q S ds fuel l' a' w') → K a' w') → if Region.wanted oi (yielded ops a.tmps) = true then Oper.wp P oi a w K Q else K (a.put (some n) undef) w)
    (hi : ops[i]? = some oi := by rfl) (hN : oi.dst = some n := by rfl)
    (hl : l.setIfInBounds i true = l' := by simp only [List.setIfInBounds_toArray, List.set_cons_zero, List.set_cons_succ] <;> rfl)
    (hc : (readyT T.2 l.toList == [i] && l.toList.set i true == l'.toList) = true := by kernel_rfl) (hd : i ∉ ds := by decide) : wpAnyLast P md ops Q S ds (fuel + 1) l a w :=
  one_ l' hi hN (one_of HT.out hc) hd h
theorem sqnm {fuel : Nat} {l : Array Bool} {a a' : Act} {w : World} (h : wpAnyLast P md ops Q S ds fuel l a' w)
    (ha : a = a' := by
      show Act.put _ (some _) _ = _
      simp only [Act.put, List.setIfInBounds_toArray, List.set_cons_zero, List.set_cons_succ, i64_w, i32_w]
      rfl) : wpAnyLast P md ops Q S ds fuel l a w := norm_ ha h
theorem sqst {id : Nat} {a : Act} {w : World} {l : Array Bool} (n : Nat) (S : World → Prop) (hS : S w.drew) (h : S w.drew → wpAnyLast P .any ops Q S [] n l a w.drew)
    (hm : P.follows .mixedOrders = true := by kernel_rfl) (hn : ops.size = n := by rfl) (hl : Array.replicate n false = l := by
      show (List.replicate _ false).toArray = _
      simp only [List.replicate]
      rfl) : (Code.region id ops true).wp P Q a w := start_ l hm hn hl hS h
theorem sqna {fuel : Nat} {l : Array Bool} {a a' : Act} {w : World} (h : wpAnyLast P md ops Q S ds fuel l a' w)
    (ha : a = a' := by
      simp only [putAll, Act.put, List.setIfInBounds_toArray, List.set_cons_zero, List.set_cons_succ]
      rfl) : wpAnyLast P md ops Q S ds fuel l a w := norm_ ha h
theorem sqo0 {T : Bool × List (List Nat × List Nat)} (HT : Aside0 (rtab md ops = T)) {oi : Oper} {fuel : Nat} {l l' : Array Bool} {a : Act} {w : World} (i : Nat)
    (h : ∀ K : Act → World → Prop, Shut (∀ a' w', S w' → (S w' → wpAnyLast P md ops Q S ds fuel l' a' w') → K a' w') → if Region.wanted oi (yielded ops a.tmps) = true then Oper.wp P oi a w K Q else K (a.put none undef) w)
    (hi : ops[i]? = some oi := by rfl) (hN : oi.dst = none := by rfl)
    (hl : l.setIfInBounds i true = l' := by simp only [List.setIfInBounds_toArray, List.set_cons_zero, List.set_cons_succ] <;> rfl)
    (hc : (readyT T.2 l.toList == [i] && l.toList.set i true == l'.toList) = true := by kernel_rfl) (hd : i ∉ ds := by decide) : wpAnyLast P md ops Q S ds (fuel + 1) l a w :=
  one_ l' hi hN (one_of HT.out hc) hd h
theorem sqtw {T : Bool × List (List Nat × List Nat)} (HT : Aside0 (rtab md ops = T)) {oi oj : Oper} {fuel : Nat} {l li lj : Array Bool} {a : Act} {w : World} (i j : Nat) (Ni Nj : Option Tmp)
    (h1 : ∀ K : Act → World → Prop, Shut (∀ a' w', S w' → (S w' → wpAnyLast P md ops Q S ds fuel li a' w') → K a' w') → if Region.wanted oi (yielded ops a.tmps) = true then Oper.wp P oi a w K Q else K (a.put Ni undef) w)
    (h2 : ∀ K : Act → World → Prop, Shut (∀ a' w', S w' → (S w' → wpAnyLast P md ops Q S ds fuel lj a' w') → K a' w') → if Region.wanted oj (yielded ops a.tmps) = true then Oper.wp P oj a w K Q else K (a.put Nj undef) w)
    (hi : ops[i]? = some oi := by rfl) (hj : ops[j]? = some oj := by rfl) (hNi : oi.dst = Ni := by rfl) (hNj : oj.dst = Nj := by rfl)
    (hli : l.setIfInBounds i true = li := by simp only [List.setIfInBounds_toArray, List.set_cons_zero, List.set_cons_succ] <;> rfl)
    (hlj : l.setIfInBounds j true = lj := by simp only [List.setIfInBounds_toArray, List.set_cons_zero, List.set_cons_succ] <;> rfl)
    (hc : (readyT T.2 l.toList == [i, j] && l.toList.set i true == li.toList && l.toList.set j true == lj.toList) = true := by kernel_rfl) (hdi : i ∉ ds := by decide) (hdj : j ∉ ds := by decide) : wpAnyLast P md ops Q S ds (fuel + 1) l a w :=
  two_ li lj hi hj hNi hNj (two_of HT.out hc) hdi hdj h1 h2
theorem sqsk {oi : Oper} {a : Act} {w w1 : World} {K : Act → World → Prop} (h : K a w1) (hw : Region.wanted oi (yielded ops a.tmps) = true := by rfl) (hN : oi.dst = none := by rfl)
    (hrun : (execOp a.eval oi).run P w = .ok .skip w1 := by go_simp; rfl) : if Region.wanted oi (yielded ops a.tmps) = true then Oper.wp P oi a w K Q else K (a.put none undef) w :=
  skip_ hw hN hrun h
theorem sqbx {o : Oper} {a : Act} {Kc : Act → World → Prop} {W : World} (N : Tmp) (cs : Array Value) (t : TypeId)
    (h : ∀ g, g = W.heap.size → ∀ w1, w1.heap[g]? = some (.cells cs t (0, 0)) → Below W.heap.size W w1 → Kc (a.put o.dst (.pointer (some ⟨g, 0, none⟩))) w1)
    (hw : Region.wanted o (yielded ops a.tmps) = true := by rfl) (hd : o.dst = some N := by rfl)
    (hrun : (execOp a.eval o).run P W = .ok (.value (.pointer (some ⟨W.heap.size, 0, none⟩))) (W.alloc (.cells cs t (0, 0))) := by first | (go_simp; done) | (go_simp; rfl)) : if Region.wanted o (yielded ops a.tmps) = true then Oper.wp P o a W Kc Q else Kc (a.put o.dst undef) W :=
  box_step hw hd hrun h
theorem sqzf {p : Prop} (h : p := by (repeat' apply And.intro) <;> ((repeat (apply sqfa; · assumption)); refine sqcc (by assumption) ?_; rfl)) : p := h
end
section
variable {w : World} {g : Nat} {t : TypeId} {u0 u1 u2 u3 u4 : Value}
theorem sqc1 (H : Aside0 (w.heap[g]? = some (.cells #[u0] t (0, 0)))) : w.cell? ⟨g, 0, none⟩ = some u0 ∧ w.frozen? ⟨g, 0, none⟩ = false := ⟨sqcc H rfl, blk_frozen H.out 0⟩
theorem sqc2 (H : Aside0 (w.heap[g]? = some (.cells #[u0, u1] t (0, 0)))) : w.cell? ⟨g, 0, none⟩ = some u0 ∧ w.cell? ⟨g, 1, none⟩ = some u1 ∧ w.frozen? ⟨g, 0, none⟩ = false ∧ w.frozen? ⟨g, 1, none⟩ = false :=
  ⟨sqcc H rfl, sqcc H rfl, blk_frozen H.out 0, blk_frozen H.out 1⟩
theorem sqc3 (H : Aside0 (w.heap[g]? = some (.cells #[u0, u1, u2] t (0, 0)))) : w.cell? ⟨g, 0, none⟩ = some u0 ∧ w.cell? ⟨g, 1, none⟩ = some u1 ∧ w.cell? ⟨g, 2, none⟩ = some u2 ∧ w.frozen? ⟨g, 0, none⟩ = false ∧ w.frozen? ⟨g, 1, none⟩ = false ∧ w.frozen? ⟨g, 2, none⟩ = false :=
  ⟨sqcc H rfl, sqcc H rfl, sqcc H rfl, blk_frozen H.out 0, blk_frozen H.out 1, blk_frozen H.out 2⟩
theorem sqc4 (H : Aside0 (w.heap[g]? = some (.cells #[u0, u1, u2, u3] t (0, 0)))) : w.cell? ⟨g, 0, none⟩ = some u0 ∧ w.cell? ⟨g, 1, none⟩ = some u1 ∧ w.cell? ⟨g, 2, none⟩ = some u2 ∧ w.cell? ⟨g, 3, none⟩ = some u3 ∧ w.frozen? ⟨g, 0, none⟩ = false ∧ w.frozen? ⟨g, 1, none⟩ = false ∧ w.frozen? ⟨g, 2, none⟩ = false ∧ w.frozen? ⟨g, 3, none⟩ = false :=
  ⟨sqcc H rfl, sqcc H rfl, sqcc H rfl, sqcc H rfl, blk_frozen H.out 0, blk_frozen H.out 1, blk_frozen H.out 2, blk_frozen H.out 3⟩
end
theorem sqy {α : Type} {d : Kd α} {e : Nat} {W W1 : World} {base : Nat} {ok : Nat → Prop} {v : Value} {xs : List α} (h : d.R e W base ok v xs)
    (s : d.R e W base ok v xs → d.R e W1 base ok v xs := by
      intro h_; (with_reducible repeat (first | apply Kd.R_alloc | apply Kd.R_drewN | apply Kd.R_drew)); exact h_) : d.R e W1 base ok v xs := s h
theorem sqv {α : Type} {d : Kd α} {e : Nat} {W w1 w3 : World} {base : Nat} {ok : Nat → Prop} {v : Value} {xs : List α} (H : Aside0 (d.R e w1 base ok v xs)) (hq : W = w3)
    (s : d.R e w1 base ok v xs → d.R e W base ok v xs := by
      intro h_; (with_reducible repeat (first | apply Kd.R_alloc | apply Kd.R_drewN | apply Kd.R_drew)); exact h_) : Aside0 (d.R e w3 base ok v xs) := ⟨by rw [← hq]; exact s H.out⟩
section
variable {w : World} {g : Nat} {t : TypeId}
theorem sqc5 {u0 u1 u2 u3 u4 : Value} (H : Aside0 (w.heap[g]? = some (.cells #[u0, u1, u2, u3, u4] t (0, 0)))) : w.cell? ⟨g, 0, none⟩ = some u0 ∧ w.cell? ⟨g, 1, none⟩ = some u1 ∧ w.cell? ⟨g, 2, none⟩ = some u2 ∧ w.cell? ⟨g, 3, none⟩ = some u3 ∧ w.cell? ⟨g, 4, none⟩ = some u4 ∧ w.frozen? ⟨g, 0, none⟩ = false ∧ w.frozen? ⟨g, 1, none⟩ = false ∧ w.frozen? ⟨g, 2, none⟩ = false ∧ w.frozen? ⟨g, 3, none⟩ = false ∧ w.frozen? ⟨g, 4, none⟩ = false :=
  ⟨sqcc H rfl, sqcc H rfl, sqcc H rfl, sqcc H rfl, sqcc H rfl, blk_frozen H.out 0, blk_frozen H.out 1, blk_frozen H.out 2, blk_frozen H.out 3, blk_frozen H.out 4⟩
theorem sqc6 {u0 u1 u2 u3 u4 u5 : Value} (H : Aside0 (w.heap[g]? = some (.cells #[u0, u1, u2, u3, u4, u5] t (0, 0)))) : w.cell? ⟨g, 0, none⟩ = some u0 ∧ w.cell? ⟨g, 1, none⟩ = some u1 ∧ w.cell? ⟨g, 2, none⟩ = some u2 ∧ w.cell? ⟨g, 3, none⟩ = some u3 ∧ w.cell? ⟨g, 4, none⟩ = some u4 ∧ w.cell? ⟨g, 5, none⟩ = some u5 ∧ w.frozen? ⟨g, 0, none⟩ = false ∧ w.frozen? ⟨g, 1, none⟩ = false ∧ w.frozen? ⟨g, 2, none⟩ = false ∧ w.frozen? ⟨g, 3, none⟩ = false ∧ w.frozen? ⟨g, 4, none⟩ = false ∧ w.frozen? ⟨g, 5, none⟩ = false :=
  ⟨sqcc H rfl, sqcc H rfl, sqcc H rfl, sqcc H rfl, sqcc H rfl, sqcc H rfl, blk_frozen H.out 0, blk_frozen H.out 1, blk_frozen H.out 2, blk_frozen H.out 3, blk_frozen H.out 4, blk_frozen H.out 5⟩
theorem sqc7 {u0 u1 u2 u3 u4 u5 u6 : Value} (H : Aside0 (w.heap[g]? = some (.cells #[u0, u1, u2, u3, u4, u5, u6] t (0, 0)))) : w.cell? ⟨g, 0, none⟩ = some u0 ∧ w.cell? ⟨g, 1, none⟩ = some u1 ∧ w.cell? ⟨g, 2, none⟩ = some u2 ∧ w.cell? ⟨g, 3, none⟩ = some u3 ∧ w.cell? ⟨g, 4, none⟩ = some u4 ∧ w.cell? ⟨g, 5, none⟩ = some u5 ∧ w.cell? ⟨g, 6, none⟩ = some u6 ∧ w.frozen? ⟨g, 0, none⟩ = false ∧ w.frozen? ⟨g, 1, none⟩ = false ∧ w.frozen? ⟨g, 2, none⟩ = false ∧ w.frozen? ⟨g, 3, none⟩ = false ∧ w.frozen? ⟨g, 4, none⟩ = false ∧ w.frozen? ⟨g, 5, none⟩ = false ∧ w.frozen? ⟨g, 6, none⟩ = false :=
  ⟨sqcc H rfl, sqcc H rfl, sqcc H rfl, sqcc H rfl, sqcc H rfl, sqcc H rfl, sqcc H rfl, blk_frozen H.out 0, blk_frozen H.out 1, blk_frozen H.out 2, blk_frozen H.out 3, blk_frozen H.out 4, blk_frozen H.out 5, blk_frozen H.out 6⟩
theorem sqc8 {u0 u1 u2 u3 u4 u5 u6 u7 : Value} (H : Aside0 (w.heap[g]? = some (.cells #[u0, u1, u2, u3, u4, u5, u6, u7] t (0, 0)))) : w.cell? ⟨g, 0, none⟩ = some u0 ∧ w.cell? ⟨g, 1, none⟩ = some u1 ∧ w.cell? ⟨g, 2, none⟩ = some u2 ∧ w.cell? ⟨g, 3, none⟩ = some u3 ∧ w.cell? ⟨g, 4, none⟩ = some u4 ∧ w.cell? ⟨g, 5, none⟩ = some u5 ∧ w.cell? ⟨g, 6, none⟩ = some u6 ∧ w.cell? ⟨g, 7, none⟩ = some u7 ∧ w.frozen? ⟨g, 0, none⟩ = false ∧ w.frozen? ⟨g, 1, none⟩ = false ∧ w.frozen? ⟨g, 2, none⟩ = false ∧ w.frozen? ⟨g, 3, none⟩ = false ∧ w.frozen? ⟨g, 4, none⟩ = false ∧ w.frozen? ⟨g, 5, none⟩ = false ∧ w.frozen? ⟨g, 6, none⟩ = false ∧ w.frozen? ⟨g, 7, none⟩ = false :=
  ⟨sqcc H rfl, sqcc H rfl, sqcc H rfl, sqcc H rfl, sqcc H rfl, sqcc H rfl, sqcc H rfl, sqcc H rfl, blk_frozen H.out 0, blk_frozen H.out 1, blk_frozen H.out 2, blk_frozen H.out 3, blk_frozen H.out 4, blk_frozen H.out 5, blk_frozen H.out 6, blk_frozen H.out 7⟩
end
theorem sqa {w0 w : World} {a : Addr} {v : Value} (HB : Aside0 (Below w0.heap.size w0 w)) (h : w0.cell? a = some v) : w.cell? a = some v := (HB.out.cell (World.block_lt_of_cell? w0 _ h)).trans h
theorem sqd {p : Prop} [Decidable p] (h : decide p = true := by first | (with_reducible assumption) | assumption) : p := of_decide_eq_true h
theorem sqC {α : Type} {d : Kd α} {w1 W : World} {A : Option Addr} {n : Nat} {xs : List α} (h : d.C w1 A n xs) (s : d.C w1 A n xs → d.C W A n xs := by
    intro h_; repeat (first | exact h_ | (with_reducible refine Kd.C_alloc ?_ _) | (with_reducible refine Kd.C_drewN ?_ _) | (with_reducible refine Kd.C_drew ?_))) : d.C W A n xs := s h
theorem sqB {w0 w1 w2 : World} (H : Aside0 (Below w0.heap.size w0 w1)) (s : Below w0.heap.size w0 w1 → Below w0.heap.size w0 w2 := by
    intro h_; repeat (first | (with_reducible first | exact h_ | apply below_alloc | apply pw_below_drewN | apply below_drew1 | refine below_set ?_ (Aside0.out (by assumption))) | exact h_)) : Below w0.heap.size w0 w2 := s H.out
theorem sqB2 {w0 w1 w2 : World} {g : Nat} (H : Aside0 (Below w0.heap.size w0 w1)) (k : w0.heap.size ≤ g) (s : Below w0.heap.size w0 w1 → w0.heap.size ≤ g → Below w0.heap.size w0 w2 := by
    intro h_ k_; repeat (first | (with_reducible first | exact h_ | apply below_alloc | apply pw_below_drewN | apply below_drew1 | refine below_set ?_ k_ | refine below_set ?_ (Aside0.out (by assumption))) | exact h_)) : Below w0.heap.size w0 w2 := s H.out k
theorem sqK {w w1 w2 : World} {g : Nat} {row : Option Nat} (H : Aside0 (KeepBut w w1 g row)) (s : KeepBut w w1 g row → KeepBut w w2 g row := by
    intro h_; repeat (first | (with_reducible first | exact h_ | apply KeepBut.set_ | apply keep_drewN | apply keep_drew | apply keep_alloc | refine keep_far ?_ (Aside0.out (by assumption)) _) | exact h_)) : KeepBut w w2 g row := s H.out
theorem sqT {W W1 : World} {g : Nat} {o : Obj} (H : Aside0 (W.heap[g]? = some o)) (s : W.heap[g]? = some o → W1.heap[g]? = some o := by
    intro h_
    repeat (first | (with_reducible exact h_) | (with_reducible first | refine blk_drewN ?_ _ | refine blk_drew ?_ | refine blk_alloc ?_ _ | refine blk_far ?_ (Aside0.out (by assumption)) _) | exact h_)) : W1.heap[g]? = some o := s H.out
theorem sqbb {W W1 W2 : World} {g : Nat} {o : Obj} (H : Aside0 (W.heap[g]? = some o)) (hb : Below W1.heap.size W1 W2) (s : W.heap[g]? = some o → W1.heap[g]? = some o := by
    intro h_
    repeat (first | (with_reducible exact h_) | (with_reducible first | refine blk_drewN ?_ _ | refine blk_drew ?_ | refine blk_alloc ?_ _ | refine blk_far ?_ (Aside0.out (by assumption)) _) | exact h_)) : Aside0 (W2.heap[g]? = some o) := ⟨blk_below (s H.out) hb⟩
theorem sqda {w : World} {a b c : Nat} : (w.drewN (a + b)).drewN c = w.drewN (a + (b + c)) := Eq.trans (World.drewN_drewN _ _ _) (congrArg (World.drewN _) (Nat.add_assoc _ _ _))
theorem sqN1 {a b : Nat} (h : Aside0 (a ≠ b)) : a ≠ b ∧ b ≠ a := ⟨h.out, Ne.symm h.out⟩
theorem sqN2 {a b a' b' : Nat} (h : Aside0 (a ≠ b)) (h' : Aside0 (a' ≠ b')) : a ≠ b ∧ b ≠ a ∧ a' ≠ b' ∧ b' ≠ a' := ⟨h.out, Ne.symm h.out, sqN1 h'⟩
theorem sqN3 {a b a' b' c d : Nat} (h : Aside0 (a ≠ b)) (h' : Aside0 (a' ≠ b')) (h2 : Aside0 (c ≠ d)) : a ≠ b ∧ b ≠ a ∧ a' ≠ b' ∧ b' ≠ a' ∧ c ≠ d ∧ d ≠ c := ⟨h.out, Ne.symm h.out, sqN2 h' h2⟩
theorem sqN4 {a b a' b' c d e f : Nat} (h : Aside0 (a ≠ b)) (h' : Aside0 (a' ≠ b')) (h2 : Aside0 (c ≠ d)) (h3 : Aside0 (e ≠ f)) : a ≠ b ∧ b ≠ a ∧ a' ≠ b' ∧ b' ≠ a' ∧ c ≠ d ∧ d ≠ c ∧ e ≠ f ∧ f ≠ e := ⟨h.out, Ne.symm h.out, sqN3 h' h2 h3⟩
theorem sqdr {w : World} {g : Nat} {o : Obj} (H : Aside0 (w.heap[g]? = some o)) : Aside0 (w.drew.heap[g]? = some o) := ⟨blk_drew H.out⟩
theorem sqdB {w0 w : World} {n : Nat} (H : Aside0 (Below n w0 w)) : Aside0 (Below n w0 w.drew) := ⟨below_drew1 H.out⟩
theorem sqdK {w0 w : World} {g : Nat} {row : Option Nat} (H : Aside0 (KeepBut w0 w g row)) : Aside0 (KeepBut w0 w.drew g row) := ⟨keep_drew H.out⟩
theorem sqTe {W W1 w' : World} {g : Nat} {o : Obj} (e : w' = W1) (H : Aside0 (W.heap[g]? = some o)) (s : W.heap[g]? = some o → W1.heap[g]? = some o := by
    intro h_
    repeat (first | (with_reducible exact h_) | (with_reducible first | refine blk_drewN ?_ _ | refine blk_drew ?_ | refine blk_alloc ?_ _ | refine blk_far ?_ (Aside0.out (by assumption)) _) | exact h_)) : Aside0 (w'.heap[g]? = some o) := ⟨by rw [e]; exact s H.out⟩
theorem sqfr {w : World} {g g' i : Nat} {t : TypeId} {cs : Array Value} {u : Value} (NB : Aside0 (g ≠ g')) (h : w.heap[g]? = some (.cells cs t (0, 0))) : (w.setCell ⟨g', i, none⟩ u).heap[g]? = some (.cells cs t (0, 0)) := blk_far h NB.out u
theorem sqP {W W1 : World} {g : Nat} {o o' : Obj} (H : Aside0 (W.heap[g]? = some o)) (s : W.heap[g]? = some o → W1.heap[g]? = some o' := by
    intro h_
    repeat (first | (with_reducible exact h_) | (with_reducible first | apply blk_drewN | apply blk_drew | apply blk_alloc | (apply sqfr; · assumption)) | apply blk_put | exact h_)
    all_goals rfl) : W1.heap[g]? = some o' := s H.out
theorem sqkb {w w1 w2 : World} {g g' : Nat} {o : Obj} (hk : KeepBut w1 w2 g none) (H : Aside0 (w.heap[g']? = some o)) (NB : Aside0 (g' ≠ g)) (s : w.heap[g']? = some o → w1.heap[g']? = some o := by
    intro h_; (with_reducible repeat (first | refine blk_drewN ?_ _ | refine blk_drew ?_ | refine blk_alloc ?_ _)); exact h_) : Aside0 (w2.heap[g']? = some o) := ⟨KeepBut.blk hk (s H.out) NB.out (by simp)⟩
theorem sqnn {a b : Act} (h : a = b := by first | (simp only [putAll, Act.put, List.setIfInBounds_toArray, List.set_cons_zero, List.set_cons_succ]; done) | (simp only [putAll, Act.put, List.setIfInBounds_toArray, List.set_cons_zero, List.set_cons_succ]; rfl)) : a = b := h
theorem sqbi {α β : Type} {g : Option α} {f : α → Option β} {r : β} (h : g.bind f = some r) : ∃ a, Aside0 (g = some a) ∧ f a = some r := by
  obtain ⟨a, h1, h2⟩ := Option.bind_eq_some_iff.mp h
  exact ⟨a, ⟨h1⟩, h2⟩
theorem sqi {α : Type} {p : Prop} [Decidable p] {a b : Option α} {r : α} (h : (if p then a else b) = some r) : (¬ p ∧ b = some r) ∨ (p ∧ a = some r) := by
  by_cases c : p
  · rw [if_pos c] at h; exact .inr ⟨c, h⟩
  · rw [if_neg c] at h; exact .inl ⟨c, h⟩
theorem sqj {α : Type} {p : Prop} [Decidable p] {a b : Option α} {r : α} (h : (if p then a else b) = some r) : (p ∧ a = some r) ∨ (¬ p ∧ b = some r) := (sqi h).symm
theorem sqI (p : Prop) [Decidable p] : ¬ p ∨ p := by by_cases c : p; exact .inr c; exact .inl c
section
variable {w2 w3 : World}
theorem sqM2 {v0 v1 : World} {g0 g1 : Nat} {o0 o1 : Obj} {G : Prop} (H0 : Aside0 (v0.heap[g0]? = some o0)) (H1 : Aside0 (v1.heap[g1]? = some o1)) (hb : Below w2.heap.size w2 w3) (h : Aside0 (w3.heap[g0]? = some o0) → Aside0 (w3.heap[g1]? = some o1) → G)
    (s0 : v0.heap[g0]? = some o0 → w2.heap[g0]? = some o0 := by intro h_; (with_reducible repeat (first | refine blk_drewN ?_ _ | refine blk_drew ?_ | refine blk_alloc ?_ _)); exact h_)
    (s1 : v1.heap[g1]? = some o1 → w2.heap[g1]? = some o1 := by intro h_; (with_reducible repeat (first | refine blk_drewN ?_ _ | refine blk_drew ?_ | refine blk_alloc ?_ _)); exact h_) : G :=
  h ⟨blk_below (s0 H0.out) hb⟩ ⟨blk_below (s1 H1.out) hb⟩
theorem sqM3 {v0 v1 v2 : World} {g0 g1 g2 : Nat} {o0 o1 o2 : Obj} {G : Prop} (H0 : Aside0 (v0.heap[g0]? = some o0)) (H1 : Aside0 (v1.heap[g1]? = some o1)) (H2 : Aside0 (v2.heap[g2]? = some o2)) (hb : Below w2.heap.size w2 w3) (h : Aside0 (w3.heap[g0]? = some o0) → Aside0 (w3.heap[g1]? = some o1) → Aside0 (w3.heap[g2]? = some o2) → G)
    (s0 : v0.heap[g0]? = some o0 → w2.heap[g0]? = some o0 := by intro h_; (with_reducible repeat (first | refine blk_drewN ?_ _ | refine blk_drew ?_ | refine blk_alloc ?_ _)); exact h_)
    (s1 : v1.heap[g1]? = some o1 → w2.heap[g1]? = some o1 := by intro h_; (with_reducible repeat (first | refine blk_drewN ?_ _ | refine blk_drew ?_ | refine blk_alloc ?_ _)); exact h_)
    (s2 : v2.heap[g2]? = some o2 → w2.heap[g2]? = some o2 := by intro h_; (with_reducible repeat (first | refine blk_drewN ?_ _ | refine blk_drew ?_ | refine blk_alloc ?_ _)); exact h_) : G :=
  h ⟨blk_below (s0 H0.out) hb⟩ ⟨blk_below (s1 H1.out) hb⟩ ⟨blk_below (s2 H2.out) hb⟩
theorem sqM4 {v0 v1 v2 v3 : World} {g0 g1 g2 g3 : Nat} {o0 o1 o2 o3 : Obj} {G : Prop} (H0 : Aside0 (v0.heap[g0]? = some o0)) (H1 : Aside0 (v1.heap[g1]? = some o1)) (H2 : Aside0 (v2.heap[g2]? = some o2)) (H3 : Aside0 (v3.heap[g3]? = some o3)) (hb : Below w2.heap.size w2 w3) (h : Aside0 (w3.heap[g0]? = some o0) → Aside0 (w3.heap[g1]? = some o1) → Aside0 (w3.heap[g2]? = some o2) → Aside0 (w3.heap[g3]? = some o3) → G)
    (s0 : v0.heap[g0]? = some o0 → w2.heap[g0]? = some o0 := by intro h_; (with_reducible repeat (first | refine blk_drewN ?_ _ | refine blk_drew ?_ | refine blk_alloc ?_ _)); exact h_)
    (s1 : v1.heap[g1]? = some o1 → w2.heap[g1]? = some o1 := by intro h_; (with_reducible repeat (first | refine blk_drewN ?_ _ | refine blk_drew ?_ | refine blk_alloc ?_ _)); exact h_)
    (s2 : v2.heap[g2]? = some o2 → w2.heap[g2]? = some o2 := by intro h_; (with_reducible repeat (first | refine blk_drewN ?_ _ | refine blk_drew ?_ | refine blk_alloc ?_ _)); exact h_)
    (s3 : v3.heap[g3]? = some o3 → w2.heap[g3]? = some o3 := by intro h_; (with_reducible repeat (first | refine blk_drewN ?_ _ | refine blk_drew ?_ | refine blk_alloc ?_ _)); exact h_) : G :=
  h ⟨blk_below (s0 H0.out) hb⟩ ⟨blk_below (s1 H1.out) hb⟩ ⟨blk_below (s2 H2.out) hb⟩ ⟨blk_below (s3 H3.out) hb⟩
theorem sqM5 {v0 v1 v2 v3 v4 : World} {g0 g1 g2 g3 g4 : Nat} {o0 o1 o2 o3 o4 : Obj} {G : Prop} (H0 : Aside0 (v0.heap[g0]? = some o0)) (H1 : Aside0 (v1.heap[g1]? = some o1)) (H2 : Aside0 (v2.heap[g2]? = some o2)) (H3 : Aside0 (v3.heap[g3]? = some o3)) (H4 : Aside0 (v4.heap[g4]? = some o4)) (hb : Below w2.heap.size w2 w3) (h : Aside0 (w3.heap[g0]? = some o0) → Aside0 (w3.heap[g1]? = some o1) → Aside0 (w3.heap[g2]? = some o2) → Aside0 (w3.heap[g3]? = some o3) → Aside0 (w3.heap[g4]? = some o4) → G)
    (s0 : v0.heap[g0]? = some o0 → w2.heap[g0]? = some o0 := by intro h_; (with_reducible repeat (first | refine blk_drewN ?_ _ | refine blk_drew ?_ | refine blk_alloc ?_ _)); exact h_)
    (s1 : v1.heap[g1]? = some o1 → w2.heap[g1]? = some o1 := by intro h_; (with_reducible repeat (first | refine blk_drewN ?_ _ | refine blk_drew ?_ | refine blk_alloc ?_ _)); exact h_)
    (s2 : v2.heap[g2]? = some o2 → w2.heap[g2]? = some o2 := by intro h_; (with_reducible repeat (first | refine blk_drewN ?_ _ | refine blk_drew ?_ | refine blk_alloc ?_ _)); exact h_)
    (s3 : v3.heap[g3]? = some o3 → w2.heap[g3]? = some o3 := by intro h_; (with_reducible repeat (first | refine blk_drewN ?_ _ | refine blk_drew ?_ | refine blk_alloc ?_ _)); exact h_)
    (s4 : v4.heap[g4]? = some o4 → w2.heap[g4]? = some o4 := by intro h_; (with_reducible repeat (first | refine blk_drewN ?_ _ | refine blk_drew ?_ | refine blk_alloc ?_ _)); exact h_) : G :=
  h ⟨blk_below (s0 H0.out) hb⟩ ⟨blk_below (s1 H1.out) hb⟩ ⟨blk_below (s2 H2.out) hb⟩ ⟨blk_below (s3 H3.out) hb⟩ ⟨blk_below (s4 H4.out) hb⟩
theorem sqM6 {v0 v1 v2 v3 v4 v5 : World} {g0 g1 g2 g3 g4 g5 : Nat} {o0 o1 o2 o3 o4 o5 : Obj} {G : Prop} (H0 : Aside0 (v0.heap[g0]? = some o0)) (H1 : Aside0 (v1.heap[g1]? = some o1)) (H2 : Aside0 (v2.heap[g2]? = some o2)) (H3 : Aside0 (v3.heap[g3]? = some o3)) (H4 : Aside0 (v4.heap[g4]? = some o4)) (H5 : Aside0 (v5.heap[g5]? = some o5)) (hb : Below w2.heap.size w2 w3) (h : Aside0 (w3.heap[g0]? = some o0) → Aside0 (w3.heap[g1]? = some o1) → Aside0 (w3.heap[g2]? = some o2) → Aside0 (w3.heap[g3]? = some o3) → Aside0 (w3.heap[g4]? = some o4) → Aside0 (w3.heap[g5]? = some o5) → G)
    (s0 : v0.heap[g0]? = some o0 → w2.heap[g0]? = some o0 := by intro h_; (with_reducible repeat (first | refine blk_drewN ?_ _ | refine blk_drew ?_ | refine blk_alloc ?_ _)); exact h_)
    (s1 : v1.heap[g1]? = some o1 → w2.heap[g1]? = some o1 := by intro h_; (with_reducible repeat (first | refine blk_drewN ?_ _ | refine blk_drew ?_ | refine blk_alloc ?_ _)); exact h_)
    (s2 : v2.heap[g2]? = some o2 → w2.heap[g2]? = some o2 := by intro h_; (with_reducible repeat (first | refine blk_drewN ?_ _ | refine blk_drew ?_ | refine blk_alloc ?_ _)); exact h_)
    (s3 : v3.heap[g3]? = some o3 → w2.heap[g3]? = some o3 := by intro h_; (with_reducible repeat (first | refine blk_drewN ?_ _ | refine blk_drew ?_ | refine blk_alloc ?_ _)); exact h_)
    (s4 : v4.heap[g4]? = some o4 → w2.heap[g4]? = some o4 := by intro h_; (with_reducible repeat (first | refine blk_drewN ?_ _ | refine blk_drew ?_ | refine blk_alloc ?_ _)); exact h_)
    (s5 : v5.heap[g5]? = some o5 → w2.heap[g5]? = some o5 := by intro h_; (with_reducible repeat (first | refine blk_drewN ?_ _ | refine blk_drew ?_ | refine blk_alloc ?_ _)); exact h_) : G :=
  h ⟨blk_below (s0 H0.out) hb⟩ ⟨blk_below (s1 H1.out) hb⟩ ⟨blk_below (s2 H2.out) hb⟩ ⟨blk_below (s3 H3.out) hb⟩ ⟨blk_below (s4 H4.out) hb⟩ ⟨blk_below (s5 H5.out) hb⟩
theorem sqM7 {v0 v1 v2 v3 v4 v5 v6 : World} {g0 g1 g2 g3 g4 g5 g6 : Nat} {o0 o1 o2 o3 o4 o5 o6 : Obj} {G : Prop} (H0 : Aside0 (v0.heap[g0]? = some o0)) (H1 : Aside0 (v1.heap[g1]? = some o1)) (H2 : Aside0 (v2.heap[g2]? = some o2)) (H3 : Aside0 (v3.heap[g3]? = some o3)) (H4 : Aside0 (v4.heap[g4]? = some o4)) (H5 : Aside0 (v5.heap[g5]? = some o5)) (H6 : Aside0 (v6.heap[g6]? = some o6)) (hb : Below w2.heap.size w2 w3) (h : Aside0 (w3.heap[g0]? = some o0) → Aside0 (w3.heap[g1]? = some o1) → Aside0 (w3.heap[g2]? = some o2) → Aside0 (w3.heap[g3]? = some o3) → Aside0 (w3.heap[g4]? = some o4) → Aside0 (w3.heap[g5]? = some o5) → Aside0 (w3.heap[g6]? = some o6) → G)
    (s0 : v0.heap[g0]? = some o0 → w2.heap[g0]? = some o0 := by intro h_; (with_reducible repeat (first | refine blk_drewN ?_ _ | refine blk_drew ?_ | refine blk_alloc ?_ _)); exact h_)
    (s1 : v1.heap[g1]? = some o1 → w2.heap[g1]? = some o1 := by intro h_; (with_reducible repeat (first | refine blk_drewN ?_ _ | refine blk_drew ?_ | refine blk_alloc ?_ _)); exact h_)
    (s2 : v2.heap[g2]? = some o2 → w2.heap[g2]? = some o2 := by intro h_; (with_reducible repeat (first | refine blk_drewN ?_ _ | refine blk_drew ?_ | refine blk_alloc ?_ _)); exact h_)
    (s3 : v3.heap[g3]? = some o3 → w2.heap[g3]? = some o3 := by intro h_; (with_reducible repeat (first | refine blk_drewN ?_ _ | refine blk_drew ?_ | refine blk_alloc ?_ _)); exact h_)
    (s4 : v4.heap[g4]? = some o4 → w2.heap[g4]? = some o4 := by intro h_; (with_reducible repeat (first | refine blk_drewN ?_ _ | refine blk_drew ?_ | refine blk_alloc ?_ _)); exact h_)
    (s5 : v5.heap[g5]? = some o5 → w2.heap[g5]? = some o5 := by intro h_; (with_reducible repeat (first | refine blk_drewN ?_ _ | refine blk_drew ?_ | refine blk_alloc ?_ _)); exact h_)
    (s6 : v6.heap[g6]? = some o6 → w2.heap[g6]? = some o6 := by intro h_; (with_reducible repeat (first | refine blk_drewN ?_ _ | refine blk_drew ?_ | refine blk_alloc ?_ _)); exact h_) : G :=
  h ⟨blk_below (s0 H0.out) hb⟩ ⟨blk_below (s1 H1.out) hb⟩ ⟨blk_below (s2 H2.out) hb⟩ ⟨blk_below (s3 H3.out) hb⟩ ⟨blk_below (s4 H4.out) hb⟩ ⟨blk_below (s5 H5.out) hb⟩ ⟨blk_below (s6 H6.out) hb⟩
theorem sqM8 {v0 v1 v2 v3 v4 v5 v6 v7 : World} {g0 g1 g2 g3 g4 g5 g6 g7 : Nat} {o0 o1 o2 o3 o4 o5 o6 o7 : Obj} {G : Prop} (H0 : Aside0 (v0.heap[g0]? = some o0)) (H1 : Aside0 (v1.heap[g1]? = some o1)) (H2 : Aside0 (v2.heap[g2]? = some o2)) (H3 : Aside0 (v3.heap[g3]? = some o3)) (H4 : Aside0 (v4.heap[g4]? = some o4)) (H5 : Aside0 (v5.heap[g5]? = some o5)) (H6 : Aside0 (v6.heap[g6]? = some o6)) (H7 : Aside0 (v7.heap[g7]? = some o7)) (hb : Below w2.heap.size w2 w3) (h : Aside0 (w3.heap[g0]? = some o0) → Aside0 (w3.heap[g1]? = some o1) → Aside0 (w3.heap[g2]? = some o2) → Aside0 (w3.heap[g3]? = some o3) → Aside0 (w3.heap[g4]? = some o4) → Aside0 (w3.heap[g5]? = some o5) → Aside0 (w3.heap[g6]? = some o6) → Aside0 (w3.heap[g7]? = some o7) → G)
    (s0 : v0.heap[g0]? = some o0 → w2.heap[g0]? = some o0 := by intro h_; (with_reducible repeat (first | refine blk_drewN ?_ _ | refine blk_drew ?_ | refine blk_alloc ?_ _)); exact h_)
    (s1 : v1.heap[g1]? = some o1 → w2.heap[g1]? = some o1 := by intro h_; (with_reducible repeat (first | refine blk_drewN ?_ _ | refine blk_drew ?_ | refine blk_alloc ?_ _)); exact h_)
    (s2 : v2.heap[g2]? = some o2 → w2.heap[g2]? = some o2 := by intro h_; (with_reducible repeat (first | refine blk_drewN ?_ _ | refine blk_drew ?_ | refine blk_alloc ?_ _)); exact h_)
    (s3 : v3.heap[g3]? = some o3 → w2.heap[g3]? = some o3 := by intro h_; (with_reducible repeat (first | refine blk_drewN ?_ _ | refine blk_drew ?_ | refine blk_alloc ?_ _)); exact h_)
    (s4 : v4.heap[g4]? = some o4 → w2.heap[g4]? = some o4 := by intro h_; (with_reducible repeat (first | refine blk_drewN ?_ _ | refine blk_drew ?_ | refine blk_alloc ?_ _)); exact h_)
    (s5 : v5.heap[g5]? = some o5 → w2.heap[g5]? = some o5 := by intro h_; (with_reducible repeat (first | refine blk_drewN ?_ _ | refine blk_drew ?_ | refine blk_alloc ?_ _)); exact h_)
    (s6 : v6.heap[g6]? = some o6 → w2.heap[g6]? = some o6 := by intro h_; (with_reducible repeat (first | refine blk_drewN ?_ _ | refine blk_drew ?_ | refine blk_alloc ?_ _)); exact h_)
    (s7 : v7.heap[g7]? = some o7 → w2.heap[g7]? = some o7 := by intro h_; (with_reducible repeat (first | refine blk_drewN ?_ _ | refine blk_drew ?_ | refine blk_alloc ?_ _)); exact h_) : G :=
  h ⟨blk_below (s0 H0.out) hb⟩ ⟨blk_below (s1 H1.out) hb⟩ ⟨blk_below (s2 H2.out) hb⟩ ⟨blk_below (s3 H3.out) hb⟩ ⟨blk_below (s4 H4.out) hb⟩ ⟨blk_below (s5 H5.out) hb⟩ ⟨blk_below (s6 H6.out) hb⟩ ⟨blk_below (s7 H7.out) hb⟩
end
section
variable {P : Program} {ops : Array Oper} {rest : List Oper} {oi : Oper} {a : Act} {Q : Exit → Act → World → Prop}
theorem gate_calleev {c : Tmp} {as : Array Operand} {ts : Array TypeId} {W : World} (_ho : oi.op = .call { callee := .value (.tmp c), args := as, argTypes := ts }) (h : wpList P ops Q (oi :: rest) a W) : wpList P ops Q (oi :: rest) a W := h
/-- The call of a function that is a value. -/
theorem sqLv {w : World} (N : Option Tmp) {c : Operand} {f : FuncId} {fn : Func} {as : Array Operand} {ts : Array TypeId} (hf : P.funcs[f]? = some fn) (args : Array Value)
    (h : Calls P f args w fun e w' => ∃ v, e = .returned v ∧ wpList P ops Q rest (a.put N v) w')
    (hd : oi.dst = N := by rfl) (hg : oi.guard = none := by rfl) (hname : (fn.name == "runtime.NumGoroutine") = false := by kernel_rfl) (hb : fn.body.isSome = true := by rfl)
    (hop : oi.op = .call { callee := .value c, args := as, argTypes := ts } := by rfl) (hc : a.eval c = .func (.func f) #[] #[] := by rfl)
    (hargs : as.map a.eval = args := by (try simp only [List.map_toArray, List.map_cons, List.map_nil]); first | done | rfl | (simp only [List.length_drop, List.length_take]; rfl)) : wpList P ops Q (oi :: rest) a w := by
  refine wpList_plain hg fun K hK => ?_
  have he := enters_ hf hname hb args w
  have hrun : (execOp a.eval oi).run P w = .ok (.enter f args) w := by
    unfold execOp
    simp [hop, resolve, hc, Deferred.ofValue, invoke, hargs, he]
  unfold Oper.wp
  rw [hrun, Oper.upon_enter]
  refine h.mono fun e w'' hh => ?_
  obtain ⟨v, rfl, hk⟩ := hh
  subst hd
  exact hK _ _ hk
theorem sqGv {N : Option Tmp} {w : World} {K : Act → World → Prop} {c : Operand} {f : FuncId} {fn : Func} {as : Array Operand} {ts : Array TypeId} (hf : P.funcs[f]? = some fn) (args : Array Value)
    (h : Calls P f args w fun e w' => ∃ v, e = .returned v ∧ K (a.put N v) w')
    (hname : (fn.name == "runtime.NumGoroutine") = false := by kernel_rfl) (hb : fn.body.isSome = true := by rfl)
    (hw : Region.wanted oi (yielded ops a.tmps) = true := by rfl) (hN : oi.dst = N := by rfl) (hop : oi.op = .call { callee := .value c, args := as, argTypes := ts } := by rfl) (hc : a.eval c = .func (.func f) #[] #[] := by rfl)
    (hargs : as.map a.eval = args := by (try simp only [List.map_toArray, List.map_cons, List.map_nil]); first | done | rfl | (simp only [List.length_drop, List.length_take]; rfl)) :
    if Region.wanted oi (yielded ops a.tmps) = true then Oper.wp P oi a w K Q else K (a.put N undef) w := by
  refine call_ f args hw hN ?_ h
  have he := enters_ hf hname hb args w
  unfold execOp
  simp [hop, resolve, hc, Deferred.ofValue, invoke, hargs, he]
end
/-! round 6 -/
theorem sqA {p : Prop} (h : p) : Aside0 p := ⟨h⟩
theorem sqE {p : Prop} (h : p := by first | rfl | (simp; done) | (simp [*]; done)) : p := h
theorem sqEw {p : Prop} (h : p := by first | rfl | (simp [errW_none, errW_some] <;> rfl) | (simp [*, errW_none, errW_some] <;> rfl)) : p := h
theorem sqle {p : Prop} (h : p := by first | omega | exact Nat.le_refl _) : p := h
theorem sqD {p : Prop} (h : p := by repeat (first | exact Drawn0.refl _ | apply Drawn0.step)) : p := h
theorem sqnil {p : Prop} (h : p := by first | exact Kd.R_nil _ _ _ _ _ | exact Kd.S_nil _ _ _ _ _ | exact Kd.N_nil _ _ _ _ _ | exact Kd.V_nil _ _ _ _ _ | exact Kd.Q_nil _ _ _ _ _) : p := h
theorem sqff {α : Type} {a b : α} [Decidable (false = true)] : (if false = true then a else b) = b := if_neg (fun h => by cases h)
theorem sqz3 {p : Prop} (h : p := by (repeat' apply And.intro) <;> (first | (with_reducible assumption) | (refine sqcc (by assumption) ?_; rfl) | assumption)) : p := h
theorem sq_set {w : World} {g j k : Nat} {u : Value} (h : k ≠ g) : (w.setCell ⟨g, j, none⟩ u).heap[k]? = w.heap[k]? := Below.heap_setCell w ⟨g, j, none⟩ u k h
theorem sq_blk {w : World} {g g' j : Nat} {u : Value} {o : Obj} (n : g ≠ g') (h : w.heap[g]? = some o) : (w.setCell ⟨g', j, none⟩ u).heap[g]? = some o := (Below.heap_setCell w ⟨g', j, none⟩ u g n).trans h
theorem sqG1 {w w' W : World} {g g' : Nat} {o : Obj} (hw : w' = W) (B : Aside0 (w.heap[g]? = some o)) (n : g ≠ g') (s : g ≠ g' → w.heap[g]? = some o → W.heap[g]? = some o := by
    intro n_ h_; repeat (first | (with_reducible exact h_) | (with_reducible first | refine blk_drewN ?_ _ | refine blk_drew ?_ | refine blk_alloc ?_ _) | (with_reducible refine sq_blk n_ ?_))) : Aside0 (w'.heap[g]? = some o) := ⟨by rw [hw]; exact s n B.out⟩
theorem sqG2 {w w1 W : World} {g g' : Nat} {o : Obj} (B : Aside0 (w.heap[g]? = some o)) (n : g ≠ g') (hb : Below W.heap.size W w1) (s : g ≠ g' → w.heap[g]? = some o → W.heap[g]? = some o := by
    intro n_ h_; repeat (first | (with_reducible exact h_) | (with_reducible first | refine blk_drewN ?_ _ | refine blk_drew ?_ | refine blk_alloc ?_ _) | (with_reducible refine sq_blk n_ ?_))) : Aside0 (w1.heap[g]? = some o) := ⟨blk_below (s n B.out) hb⟩
theorem sqhw {w0 w1 w' W : World} (hw : w' = W) (H : Aside0 (Below w0.heap.size w0 w1)) (s : Below w0.heap.size w0 w1 → Below w0.heap.size w0 W := by
    intro h_; repeat (first | (with_reducible first | exact h_ | apply below_alloc | apply pw_below_drewN | apply below_drew1 | refine below_set ?_ (Aside0.out (by assumption))) | exact h_)) : Aside0 (Below w0.heap.size w0 w') := ⟨by rw [hw]; exact s H.out⟩
section
variable {α : Type} {d : Kd α} {e b : Nat} {ok : Nat → Prop} {v : Value} {xs : List α}
theorem sqyS {w W : World} (h : d.S e w b ok v xs) (s : d.S e w b ok v xs → d.S e W b ok v xs := by
    intro h_; (with_reducible repeat (first | apply Kd.S_alloc | apply Kd.S_drewN | apply Kd.S_drew)); exact h_) : d.S e W b ok v xs := s h
theorem sqyN {w W : World} (h : d.N e w b ok v xs) (s : d.N e w b ok v xs → d.N e W b ok v xs := by
    intro h_; (with_reducible repeat (first | apply Kd.N_alloc | apply Kd.N_drewN | apply Kd.N_drew)); exact h_) : d.N e W b ok v xs := s h
theorem sqWy {w w' W : World} (hw : w' = W) (H : Aside0 (d.R e w b ok v xs)) (s : d.R e w b ok v xs → d.R e W b ok v xs := by
    intro h_; (with_reducible repeat (first | apply Kd.R_alloc | apply Kd.R_drewN | apply Kd.R_drew)); exact h_) : Aside0 (d.R e w' b ok v xs) := ⟨by rw [hw]; exact s H.out⟩
theorem sqWyS {w w' W : World} (hw : w' = W) (H : Aside0 (d.S e w b ok v xs)) (s : d.S e w b ok v xs → d.S e W b ok v xs := by
    intro h_; (with_reducible repeat (first | apply Kd.S_alloc | apply Kd.S_drewN | apply Kd.S_drew)); exact h_) : Aside0 (d.S e w' b ok v xs) := ⟨by rw [hw]; exact s H.out⟩
theorem sqdrR {w : World} (H : Aside0 (d.R e w b ok v xs)) : Aside0 (d.R e w.drew b ok v xs) := ⟨Kd.R_drew H.out⟩
theorem sqRbR {w w1 w2 : World} (H : Aside0 (d.R e w b ok v xs)) (hb : Below w2.heap.size w2 w1) (s : d.R e w b ok v xs → d.R e w2 b ok v xs := by
    intro h_; (with_reducible repeat (first | apply Kd.R_alloc | apply Kd.R_drewN | apply Kd.R_drew)); exact h_) : Aside0 (d.R e w1 b ok v xs) := ⟨Kd.R_below (s H.out) hb⟩
theorem sqRwR {w1 w2 : World} (h : d.R e w2 b ok v xs) (hb : Below w2.heap.size w2 w1) : Aside0 (d.R e w1 b ok v xs) := ⟨Kd.R_below h hb⟩
theorem sqReR {w w1 w2 : World} {a : Nat} (H : Aside0 (d.R e w b ok v xs)) (hg : a = w2.heap.size) (hb : Below w2.heap.size w2 w1) (s : d.R e w b ok v xs → d.R e w2 b ok v xs := by
    intro h_; (with_reducible repeat (first | apply Kd.R_alloc | apply Kd.R_drewN | apply Kd.R_drew)); exact h_) : Aside0 (d.R e w1 b (fun k => ok k ∧ k ≠ a) v xs) := ⟨Kd.R_below (Kd.R_elderB (s H.out) a (Nat.le_of_eq hg.symm)) hb⟩
theorem sqRER {β : Type} {d' : Kd β} {e' : Nat} {ok2 : Nat → Prop} {u : Value} {ys : List β} {w w1 w2 w3 : World} (H : Aside0 (d.R e w b ok v xs)) (ho : d'.R e' w3 w2.heap.size ok2 u ys) (hb : Below w2.heap.size w2 w1) (s : d.R e w b ok v xs → d.R e w2 b ok v xs := by
    intro h_; (with_reducible repeat (first | apply Kd.R_alloc | apply Kd.R_drewN | apply Kd.R_drew)); exact h_) : Aside0 (d.R e w1 b (fun k => ok k ∧ some k ≠ u.ownBlock) v xs) := ⟨Kd.R_elder' (s H.out) (Kd.R_base ho) hb⟩
theorem sqRlR {w0 w1 w2 w3 : World} (h : d.R e w1 w2.heap.size ok v xs) (HB : Aside0 (Below w0.heap.size w0 w3)) (s : Below w0.heap.size w0 w3 → Below w0.heap.size w0 w2 := by
    intro h_; repeat (first | (with_reducible first | exact h_ | apply below_alloc | apply pw_below_drewN | apply below_drew1 | refine below_set ?_ (Aside0.out (by assumption))) | exact h_)) : Aside0 (d.R e w1 w0.heap.size ok v xs) := ⟨Kd.R_lower h (below_size (s HB.out))⟩
theorem sqtyR {w : World} {g t : Nat} {cs : Array Value} (H : Aside0 (d.R e w b ok v xs)) (B : Aside0 (w.heap[g]? = some (.cells cs t (0, 0)))) (ht : ∀ q, q ∈ e :: d.E → q ≠ t := by decide) : d.R e w b (fun k => ok k ∧ k ≠ g) v xs := Kd.R_types H.out B.out ht
theorem sqmoR {w : World} {g : Nat} (H : Aside0 (d.R e w b ok v xs)) (f : ∀ k, ok k → k ≠ g) : d.R e w b (fun k => ok k ∧ k ≠ g) v xs := Kd.R_mono H.out (fun k hk => ⟨hk, f k hk⟩)
theorem sqF1Rf {w W W' : World} {g : Nat} {ok' : Nat → Prop} (h : d.R e w b (fun k => ok k ∧ k ≠ g) v xs) (f : ∀ k, ok k ∧ k ≠ g → ok' k)
    (q : d.R e W b ok' v xs → d.R e W' b ok' v xs := by intro h_; (with_reducible repeat (first | apply Kd.R_alloc | apply Kd.R_drewN | apply Kd.R_drew)); exact h_)
    (s : ∀ k, k ≠ g → W.heap[k]? = w.heap[k]? := by intro k_ n_; repeat (first | (with_reducible rfl) | (with_reducible refine (sq_set n_).trans ?_))) : d.R e W' b ok' v xs :=
  q (Kd.R_mono (Kd.R_step h (fun k hk _ => s k hk.2)) f)
theorem sqF1R {w W W' : World} {g : Nat} (h : d.R e w b (fun k => ok k ∧ k ≠ g) v xs)
    (q : d.R e W b ok v xs → d.R e W' b ok v xs := by intro h_; (with_reducible repeat (first | apply Kd.R_alloc | apply Kd.R_drewN | apply Kd.R_drew)); exact h_)
    (s : ∀ k, k ≠ g → W.heap[k]? = w.heap[k]? := by intro k_ n_; repeat (first | (with_reducible rfl) | (with_reducible refine (sq_set n_).trans ?_))) : d.R e W' b ok v xs :=
  q (Kd.R_mono (Kd.R_step h (fun k hk _ => s k hk.2)) (fun _ hk => hk.1))
theorem sqF2Rf {w W W' : World} {g g' : Nat} {ok' : Nat → Prop} (h : d.R e w b (fun k => (ok k ∧ k ≠ g) ∧ k ≠ g') v xs) (f : ∀ k, (ok k ∧ k ≠ g) ∧ k ≠ g' → ok' k)
    (q : d.R e W b ok' v xs → d.R e W' b ok' v xs := by intro h_; (with_reducible repeat (first | apply Kd.R_alloc | apply Kd.R_drewN | apply Kd.R_drew)); exact h_)
    (s : ∀ k, k ≠ g → k ≠ g' → W.heap[k]? = w.heap[k]? := by intro k_ n_ n'_; repeat (first | (with_reducible rfl) | (with_reducible refine (sq_set n_).trans ?_) | (with_reducible refine (sq_set n'_).trans ?_))) : d.R e W' b ok' v xs :=
  q (Kd.R_mono (Kd.R_step h (fun k hk _ => s k hk.1.2 hk.2)) f)
theorem sqF2R {w W W' : World} {g g' : Nat} (h : d.R e w b (fun k => (ok k ∧ k ≠ g) ∧ k ≠ g') v xs)
    (q : d.R e W b ok v xs → d.R e W' b ok v xs := by intro h_; (with_reducible repeat (first | apply Kd.R_alloc | apply Kd.R_drewN | apply Kd.R_drew)); exact h_)
    (s : ∀ k, k ≠ g → k ≠ g' → W.heap[k]? = w.heap[k]? := by intro k_ n_ n'_; repeat (first | (with_reducible rfl) | (with_reducible refine (sq_set n_).trans ?_) | (with_reducible refine (sq_set n'_).trans ?_))) : d.R e W' b ok v xs :=
  q (Kd.R_mono (Kd.R_step h (fun k hk _ => s k hk.1.2 hk.2)) (fun _ hk => hk.1.1))
theorem sqF3Rf {w W W' : World} {g g' g2 : Nat} {ok' : Nat → Prop} (h : d.R e w b (fun k => ((ok k ∧ k ≠ g) ∧ k ≠ g') ∧ k ≠ g2) v xs) (f : ∀ k, ((ok k ∧ k ≠ g) ∧ k ≠ g') ∧ k ≠ g2 → ok' k)
    (q : d.R e W b ok' v xs → d.R e W' b ok' v xs := by intro h_; (with_reducible repeat (first | apply Kd.R_alloc | apply Kd.R_drewN | apply Kd.R_drew)); exact h_)
    (s : ∀ k, k ≠ g → k ≠ g' → k ≠ g2 → W.heap[k]? = w.heap[k]? := by intro k_ n_ n'_ n2_; repeat (first | (with_reducible rfl) | (with_reducible refine (sq_set n_).trans ?_) | (with_reducible refine (sq_set n'_).trans ?_) | (with_reducible refine (sq_set n2_).trans ?_))) : d.R e W' b ok' v xs :=
  q (Kd.R_mono (Kd.R_step h (fun k hk _ => s k hk.1.1.2 hk.1.2 hk.2)) f)
theorem sqF3R {w W W' : World} {g g' g2 : Nat} (h : d.R e w b (fun k => ((ok k ∧ k ≠ g) ∧ k ≠ g') ∧ k ≠ g2) v xs)
    (q : d.R e W b ok v xs → d.R e W' b ok v xs := by intro h_; (with_reducible repeat (first | apply Kd.R_alloc | apply Kd.R_drewN | apply Kd.R_drew)); exact h_)
    (s : ∀ k, k ≠ g → k ≠ g' → k ≠ g2 → W.heap[k]? = w.heap[k]? := by intro k_ n_ n'_ n2_; repeat (first | (with_reducible rfl) | (with_reducible refine (sq_set n_).trans ?_) | (with_reducible refine (sq_set n'_).trans ?_) | (with_reducible refine (sq_set n2_).trans ?_))) : d.R e W' b ok v xs :=
  q (Kd.R_mono (Kd.R_step h (fun k hk _ => s k hk.1.1.2 hk.1.2 hk.2)) (fun _ hk => hk.1.1.1))
theorem sqW1R {w w' W W' : World} {g : Nat} (hw : w' = W') (h : d.R e w b (fun k => ok k ∧ k ≠ g) v xs)
    (q : d.R e W b ok v xs → d.R e W' b ok v xs := by intro h_; (with_reducible repeat (first | apply Kd.R_alloc | apply Kd.R_drewN | apply Kd.R_drew)); exact h_)
    (s : ∀ k, k ≠ g → W.heap[k]? = w.heap[k]? := by intro k_ n_; repeat (first | (with_reducible rfl) | (with_reducible refine (sq_set n_).trans ?_))) : Aside0 (d.R e w' b ok v xs) := ⟨by rw [hw]; exact sqF1R h q s⟩
theorem sqneR {w : World} {g g' n c t : Nat} {cs : Array Value} (H : Aside0 (d.R e w b ok (.slice (some ⟨g', 0, none⟩) n c) xs)) (B : Aside0 (w.heap[g]? = some (.cells cs t (0, 0)))) (ht : e ≠ t := by decide) : g ≠ g' := fun e_ => Kd.R_ne H.out B.out ht (by rw [e_]; rfl)
theorem sqawR {w : World} {g g' n c : Nat} (H : Aside0 (d.R e w b ok (.slice (some ⟨g', 0, none⟩) n c) xs)) (f : ∀ k, ok k → k ≠ g) : g ≠ g' := fun e_ => Kd.R_away H.out f (by rw [e_]; rfl)
theorem sqdrS {w : World} (H : Aside0 (d.S e w b ok v xs)) : Aside0 (d.S e w.drew b ok v xs) := ⟨Kd.S_drew H.out⟩
theorem sqRbS {w w1 w2 : World} (H : Aside0 (d.S e w b ok v xs)) (hb : Below w2.heap.size w2 w1) (s : d.S e w b ok v xs → d.S e w2 b ok v xs := by
    intro h_; (with_reducible repeat (first | apply Kd.S_alloc | apply Kd.S_drewN | apply Kd.S_drew)); exact h_) : Aside0 (d.S e w1 b ok v xs) := ⟨Kd.S_below (s H.out) hb⟩
theorem sqRwS {w1 w2 : World} (h : d.S e w2 b ok v xs) (hb : Below w2.heap.size w2 w1) : Aside0 (d.S e w1 b ok v xs) := ⟨Kd.S_below h hb⟩
theorem sqReS {w w1 w2 : World} {a : Nat} (H : Aside0 (d.S e w b ok v xs)) (hg : a = w2.heap.size) (hb : Below w2.heap.size w2 w1) (s : d.S e w b ok v xs → d.S e w2 b ok v xs := by
    intro h_; (with_reducible repeat (first | apply Kd.S_alloc | apply Kd.S_drewN | apply Kd.S_drew)); exact h_) : Aside0 (d.S e w1 b (fun k => ok k ∧ k ≠ a) v xs) := ⟨Kd.S_below (Kd.S_elderB (s H.out) a (Nat.le_of_eq hg.symm)) hb⟩
theorem sqRES {β : Type} {d' : Kd β} {e' : Nat} {ok2 : Nat → Prop} {u : Value} {ys : List β} {w w1 w2 w3 : World} (H : Aside0 (d.S e w b ok v xs)) (ho : d'.R e' w3 w2.heap.size ok2 u ys) (hb : Below w2.heap.size w2 w1) (s : d.S e w b ok v xs → d.S e w2 b ok v xs := by
    intro h_; (with_reducible repeat (first | apply Kd.S_alloc | apply Kd.S_drewN | apply Kd.S_drew)); exact h_) : Aside0 (d.S e w1 b (fun k => ok k ∧ some k ≠ u.ownBlock) v xs) := ⟨Kd.S_elder' (s H.out) (Kd.R_base ho) hb⟩
theorem sqRlS {w0 w1 w2 w3 : World} (h : d.S e w1 w2.heap.size ok v xs) (HB : Aside0 (Below w0.heap.size w0 w3)) (s : Below w0.heap.size w0 w3 → Below w0.heap.size w0 w2 := by
    intro h_; repeat (first | (with_reducible first | exact h_ | apply below_alloc | apply pw_below_drewN | apply below_drew1 | refine below_set ?_ (Aside0.out (by assumption))) | exact h_)) : Aside0 (d.S e w1 w0.heap.size ok v xs) := ⟨Kd.S_lower h (below_size (s HB.out))⟩
theorem sqtyS {w : World} {g t : Nat} {cs : Array Value} (H : Aside0 (d.S e w b ok v xs)) (B : Aside0 (w.heap[g]? = some (.cells cs t (0, 0)))) (ht : ∀ q, q ∈ e :: d.E → q ≠ t := by decide) : d.S e w b (fun k => ok k ∧ k ≠ g) v xs := Kd.S_types H.out B.out ht
theorem sqmoS {w : World} {g : Nat} (H : Aside0 (d.S e w b ok v xs)) (f : ∀ k, ok k → k ≠ g) : d.S e w b (fun k => ok k ∧ k ≠ g) v xs := Kd.S_mono H.out (fun k hk => ⟨hk, f k hk⟩)
theorem sqF1Sf {w W W' : World} {g : Nat} {ok' : Nat → Prop} (h : d.S e w b (fun k => ok k ∧ k ≠ g) v xs) (f : ∀ k, ok k ∧ k ≠ g → ok' k)
    (q : d.S e W b ok' v xs → d.S e W' b ok' v xs := by intro h_; (with_reducible repeat (first | apply Kd.S_alloc | apply Kd.S_drewN | apply Kd.S_drew)); exact h_)
    (s : ∀ k, k ≠ g → W.heap[k]? = w.heap[k]? := by intro k_ n_; repeat (first | (with_reducible rfl) | (with_reducible refine (sq_set n_).trans ?_))) : d.S e W' b ok' v xs :=
  q (Kd.S_mono (Kd.S_step h (fun k hk _ => s k hk.2)) f)
theorem sqF1S {w W W' : World} {g : Nat} (h : d.S e w b (fun k => ok k ∧ k ≠ g) v xs)
    (q : d.S e W b ok v xs → d.S e W' b ok v xs := by intro h_; (with_reducible repeat (first | apply Kd.S_alloc | apply Kd.S_drewN | apply Kd.S_drew)); exact h_)
    (s : ∀ k, k ≠ g → W.heap[k]? = w.heap[k]? := by intro k_ n_; repeat (first | (with_reducible rfl) | (with_reducible refine (sq_set n_).trans ?_))) : d.S e W' b ok v xs :=
  q (Kd.S_mono (Kd.S_step h (fun k hk _ => s k hk.2)) (fun _ hk => hk.1))
theorem sqF2Sf {w W W' : World} {g g' : Nat} {ok' : Nat → Prop} (h : d.S e w b (fun k => (ok k ∧ k ≠ g) ∧ k ≠ g') v xs) (f : ∀ k, (ok k ∧ k ≠ g) ∧ k ≠ g' → ok' k)
    (q : d.S e W b ok' v xs → d.S e W' b ok' v xs := by intro h_; (with_reducible repeat (first | apply Kd.S_alloc | apply Kd.S_drewN | apply Kd.S_drew)); exact h_)
    (s : ∀ k, k ≠ g → k ≠ g' → W.heap[k]? = w.heap[k]? := by intro k_ n_ n'_; repeat (first | (with_reducible rfl) | (with_reducible refine (sq_set n_).trans ?_) | (with_reducible refine (sq_set n'_).trans ?_))) : d.S e W' b ok' v xs :=
  q (Kd.S_mono (Kd.S_step h (fun k hk _ => s k hk.1.2 hk.2)) f)
theorem sqF2S {w W W' : World} {g g' : Nat} (h : d.S e w b (fun k => (ok k ∧ k ≠ g) ∧ k ≠ g') v xs)
    (q : d.S e W b ok v xs → d.S e W' b ok v xs := by intro h_; (with_reducible repeat (first | apply Kd.S_alloc | apply Kd.S_drewN | apply Kd.S_drew)); exact h_)
    (s : ∀ k, k ≠ g → k ≠ g' → W.heap[k]? = w.heap[k]? := by intro k_ n_ n'_; repeat (first | (with_reducible rfl) | (with_reducible refine (sq_set n_).trans ?_) | (with_reducible refine (sq_set n'_).trans ?_))) : d.S e W' b ok v xs :=
  q (Kd.S_mono (Kd.S_step h (fun k hk _ => s k hk.1.2 hk.2)) (fun _ hk => hk.1.1))
theorem sqF3Sf {w W W' : World} {g g' g2 : Nat} {ok' : Nat → Prop} (h : d.S e w b (fun k => ((ok k ∧ k ≠ g) ∧ k ≠ g') ∧ k ≠ g2) v xs) (f : ∀ k, ((ok k ∧ k ≠ g) ∧ k ≠ g') ∧ k ≠ g2 → ok' k)
    (q : d.S e W b ok' v xs → d.S e W' b ok' v xs := by intro h_; (with_reducible repeat (first | apply Kd.S_alloc | apply Kd.S_drewN | apply Kd.S_drew)); exact h_)
    (s : ∀ k, k ≠ g → k ≠ g' → k ≠ g2 → W.heap[k]? = w.heap[k]? := by intro k_ n_ n'_ n2_; repeat (first | (with_reducible rfl) | (with_reducible refine (sq_set n_).trans ?_) | (with_reducible refine (sq_set n'_).trans ?_) | (with_reducible refine (sq_set n2_).trans ?_))) : d.S e W' b ok' v xs :=
  q (Kd.S_mono (Kd.S_step h (fun k hk _ => s k hk.1.1.2 hk.1.2 hk.2)) f)
theorem sqF3S {w W W' : World} {g g' g2 : Nat} (h : d.S e w b (fun k => ((ok k ∧ k ≠ g) ∧ k ≠ g') ∧ k ≠ g2) v xs)
    (q : d.S e W b ok v xs → d.S e W' b ok v xs := by intro h_; (with_reducible repeat (first | apply Kd.S_alloc | apply Kd.S_drewN | apply Kd.S_drew)); exact h_)
    (s : ∀ k, k ≠ g → k ≠ g' → k ≠ g2 → W.heap[k]? = w.heap[k]? := by intro k_ n_ n'_ n2_; repeat (first | (with_reducible rfl) | (with_reducible refine (sq_set n_).trans ?_) | (with_reducible refine (sq_set n'_).trans ?_) | (with_reducible refine (sq_set n2_).trans ?_))) : d.S e W' b ok v xs :=
  q (Kd.S_mono (Kd.S_step h (fun k hk _ => s k hk.1.1.2 hk.1.2 hk.2)) (fun _ hk => hk.1.1.1))
theorem sqW1S {w w' W W' : World} {g : Nat} (hw : w' = W') (h : d.S e w b (fun k => ok k ∧ k ≠ g) v xs)
    (q : d.S e W b ok v xs → d.S e W' b ok v xs := by intro h_; (with_reducible repeat (first | apply Kd.S_alloc | apply Kd.S_drewN | apply Kd.S_drew)); exact h_)
    (s : ∀ k, k ≠ g → W.heap[k]? = w.heap[k]? := by intro k_ n_; repeat (first | (with_reducible rfl) | (with_reducible refine (sq_set n_).trans ?_))) : Aside0 (d.S e w' b ok v xs) := ⟨by rw [hw]; exact sqF1S h q s⟩
theorem sqneS {w : World} {g g' n c t : Nat} {cs : Array Value} (H : Aside0 (d.S e w b ok (.slice (some ⟨g', 0, none⟩) n c) xs)) (B : Aside0 (w.heap[g]? = some (.cells cs t (0, 0)))) (ht : e ≠ t := by decide) : g ≠ g' := fun e_ => Kd.S_ne H.out B.out ht (by rw [e_]; rfl)
theorem sqawS {w : World} {g g' n c : Nat} (H : Aside0 (d.S e w b ok (.slice (some ⟨g', 0, none⟩) n c) xs)) (f : ∀ k, ok k → k ≠ g) : g ≠ g' := fun e_ => Kd.S_away H.out f (by rw [e_]; rfl)
end
section
variable {P : Program} {ops : Array Oper} {Q : Exit → Act → World → Prop} {md : Region.Mode} {S : World → Prop} {ds : List Nat}
theorem sqsT {id : Nat} {a : Act} {w : World} {l : Array Bool} (n : Nat) (S : World → Prop) (ds : List Nat) (hS : S w.drew) (h : S w.drew → wpAnyLast P .any ops Q S ds n l a w.drew)
    (hm : P.follows .mixedOrders = true := by kernel_rfl) (hn : ops.size = n := by rfl) (hl : Array.replicate n false = l := by
      show (List.replicate _ false).toArray = _
      simp only [List.replicate]
      rfl) : (Code.region id ops true).wp P Q a w := start_ l hm hn hl hS h
theorem sqla {T : Bool × List (List Nat × List Nat)} (HT : Aside0 (rtab md ops = T)) {oi : Oper} {fuel : Nat} {l l' : Array Bool} {a : Act} {w : World} (i : Nat) (N : Option Tmp)
    (h : ∀ K : Act → World → Prop, Shut (∀ a' w', wpAnyLast P md ops Q S ds fuel l' a' w' → K a' w') → if Region.wanted oi (yielded ops a.tmps) = true then Oper.wp P oi a w K Q else K (a.put N undef) w)
    (hi : ops[i]? = some oi := by rfl) (hN : oi.dst = N := by rfl)
    (hl : l.setIfInBounds i true = l' := by simp only [List.setIfInBounds_toArray, List.set_cons_zero, List.set_cons_succ] <;> rfl)
    (hc : (readyT T.2 l.toList == [i] && l.toList.set i true == l'.toList) = true := by kernel_rfl) (hd : i ∈ ds := by decide) : wpAnyLast P md ops Q S ds (fuel + 1) l a w :=
  last_ l' hi hN (one_of HT.out hc) hd h
end
section
variable {P : Program} {ops : Array Oper} {rest : List Oper} {oi : Oper} {a : Act} {Q : Exit → Act → World → Prop}
theorem sqLc {w : World} {post : Ending → World → Prop} {f : FuncId} {as : Array Operand} {ts : Array TypeId} (hop : oi.op = .call { callee := .value (.func f), args := as, argTypes := ts }) (N : Option Tmp) {fn : Func} (hf : P.funcs[f]? = some fn) {args : Array Value} (C : Calls P f args w post)
    (h : ∀ e w', post e w' → ∃ v, e = .returned v ∧ wpList P ops Q rest (a.put N v) w')
    (hd : oi.dst = N := by rfl) (hg : oi.guard = none := by rfl) (hname : (fn.name == "runtime.NumGoroutine") = false := by kernel_rfl) (hb : fn.body.isSome = true := by rfl)
    (hargs : as.map a.eval = args := by (try simp only [List.map_toArray, List.map_cons, List.map_nil]); first | done | rfl | (simp only [List.length_drop, List.length_take]; rfl)) : wpList P ops Q (oi :: rest) a w :=
  sqL N hf args (C.mono h) hd hg hname hb hop hargs
theorem sqGc {N : Option Tmp} {w : World} {K : Act → World → Prop} {post : Ending → World → Prop} {f : FuncId} {as : Array Operand} {ts : Array TypeId} (hop : oi.op = .call { callee := .value (.func f), args := as, argTypes := ts }) {fn : Func} (hf : P.funcs[f]? = some fn) {args : Array Value} (C : Calls P f args w post)
    (h : ∀ e w', post e w' → ∃ v, e = .returned v ∧ K (a.put N v) w')
    (hname : (fn.name == "runtime.NumGoroutine") = false := by kernel_rfl) (hb : fn.body.isSome = true := by rfl)
    (hw : Region.wanted oi (yielded ops a.tmps) = true := by rfl) (hN : oi.dst = N := by rfl)
    (hargs : as.map a.eval = args := by (try simp only [List.map_toArray, List.map_cons, List.map_nil]); first | done | rfl | (simp only [List.length_drop, List.length_take]; rfl)) :
    if Region.wanted oi (yielded ops a.tmps) = true then Oper.wp P oi a w K Q else K (a.put N undef) w :=
  sqG hf args (C.mono h) hname hb hw hN hop hargs
theorem sqLq {w : World} {v : Value} {f : FuncId} {as : Array Operand} {ts : Array TypeId} (hop : oi.op = .call { callee := .value (.func f), args := as, argTypes := ts }) (N : Option Tmp) {fn : Func} (hf : P.funcs[f]? = some fn) {args : Array Value} (C : Calls P f args w (fun e w' => e = .returned v ∧ Drawn0 w w'))
    (h : ∀ nd, wpList P ops Q rest (a.put N v) (w.drewN nd))
    (hd : oi.dst = N := by rfl) (hg : oi.guard = none := by rfl) (hname : (fn.name == "runtime.NumGoroutine") = false := by kernel_rfl) (hb : fn.body.isSome = true := by rfl)
    (hargs : as.map a.eval = args := by (try simp only [List.map_toArray, List.map_cons, List.map_nil]); first | done | rfl | (simp only [List.length_drop, List.length_take]; rfl)) : wpList P ops Q (oi :: rest) a w :=
  sqL N hf args (C.mono (by rintro e w' ⟨rfl, ⟨nd, rfl⟩⟩; exact ⟨_, rfl, h nd⟩)) hd hg hname hb hop hargs
theorem sqGq {N : Option Tmp} {w : World} {K : Act → World → Prop} {v : Value} {f : FuncId} {as : Array Operand} {ts : Array TypeId} (hop : oi.op = .call { callee := .value (.func f), args := as, argTypes := ts }) {fn : Func} (hf : P.funcs[f]? = some fn) {args : Array Value} (C : Calls P f args w (fun e w' => e = .returned v ∧ Drawn0 w w'))
    (h : ∀ nd, K (a.put N v) (w.drewN nd))
    (hname : (fn.name == "runtime.NumGoroutine") = false := by kernel_rfl) (hb : fn.body.isSome = true := by rfl)
    (hw : Region.wanted oi (yielded ops a.tmps) = true := by rfl) (hN : oi.dst = N := by rfl)
    (hargs : as.map a.eval = args := by (try simp only [List.map_toArray, List.map_cons, List.map_nil]); first | done | rfl | (simp only [List.length_drop, List.length_take]; rfl)) :
    if Region.wanted oi (yielded ops a.tmps) = true then Oper.wp P oi a w K Q else K (a.put N undef) w :=
  sqG hf args (C.mono (by rintro e w' ⟨rfl, ⟨nd, rfl⟩⟩; exact ⟨_, rfl, h nd⟩)) hname hb hw hN hop hargs
theorem sqLb {w : World} {v : Value} {f : FuncId} {as : Array Operand} {ts : Array TypeId} (hop : oi.op = .call { callee := .value (.func f), args := as, argTypes := ts }) (N : Option Tmp) {fn : Func} (hf : P.funcs[f]? = some fn) {args : Array Value} (C : Calls P f args w (fun e w' => e = .returned v ∧ Below w.heap.size w w'))
    (h : ∀ w', Below w.heap.size w w' → wpList P ops Q rest (a.put N v) w')
    (hd : oi.dst = N := by rfl) (hg : oi.guard = none := by rfl) (hname : (fn.name == "runtime.NumGoroutine") = false := by kernel_rfl) (hb : fn.body.isSome = true := by rfl)
    (hargs : as.map a.eval = args := by (try simp only [List.map_toArray, List.map_cons, List.map_nil]); first | done | rfl | (simp only [List.length_drop, List.length_take]; rfl)) : wpList P ops Q (oi :: rest) a w :=
  sqL N hf args (C.mono (by rintro e w' ⟨rfl, hb⟩; exact ⟨_, rfl, h w' hb⟩)) hd hg hname hb hop hargs
theorem sqGb {N : Option Tmp} {w : World} {K : Act → World → Prop} {v : Value} {f : FuncId} {as : Array Operand} {ts : Array TypeId} (hop : oi.op = .call { callee := .value (.func f), args := as, argTypes := ts }) {fn : Func} (hf : P.funcs[f]? = some fn) {args : Array Value} (C : Calls P f args w (fun e w' => e = .returned v ∧ Below w.heap.size w w'))
    (h : ∀ w', Below w.heap.size w w' → K (a.put N v) w')
    (hname : (fn.name == "runtime.NumGoroutine") = false := by kernel_rfl) (hb : fn.body.isSome = true := by rfl)
    (hw : Region.wanted oi (yielded ops a.tmps) = true := by rfl) (hN : oi.dst = N := by rfl)
    (hargs : as.map a.eval = args := by (try simp only [List.map_toArray, List.map_cons, List.map_nil]); first | done | rfl | (simp only [List.length_drop, List.length_take]; rfl)) :
    if Region.wanted oi (yielded ops a.tmps) = true then Oper.wp P oi a w K Q else K (a.put N undef) w :=
  sqG hf args (C.mono (by rintro e w' ⟨rfl, hb⟩; exact ⟨_, rfl, h w' hb⟩)) hname hb hw hN hop hargs
theorem sqLvc {w : World} {c : Operand} {post : Ending → World → Prop} {f : FuncId} {as : Array Operand} {ts : Array TypeId} (hop : oi.op = .call { callee := .value c, args := as, argTypes := ts }) (N : Option Tmp) {fn : Func} (hf : P.funcs[f]? = some fn) {args : Array Value} (C : Calls P f args w post)
    (h : ∀ e w', post e w' → ∃ v, e = .returned v ∧ wpList P ops Q rest (a.put N v) w')
    (hd : oi.dst = N := by rfl) (hg : oi.guard = none := by rfl) (hname : (fn.name == "runtime.NumGoroutine") = false := by kernel_rfl) (hb : fn.body.isSome = true := by rfl) (hc : a.eval c = .func (.func f) #[] #[] := by rfl)
    (hargs : as.map a.eval = args := by (try simp only [List.map_toArray, List.map_cons, List.map_nil]); first | done | rfl | (simp only [List.length_drop, List.length_take]; rfl)) : wpList P ops Q (oi :: rest) a w :=
  sqLv N hf args (C.mono h) hd hg hname hb hop hc hargs
theorem sqGvc {N : Option Tmp} {w : World} {K : Act → World → Prop} {c : Operand} {post : Ending → World → Prop} {f : FuncId} {as : Array Operand} {ts : Array TypeId} (hop : oi.op = .call { callee := .value c, args := as, argTypes := ts }) {fn : Func} (hf : P.funcs[f]? = some fn) {args : Array Value} (C : Calls P f args w post)
    (h : ∀ e w', post e w' → ∃ v, e = .returned v ∧ K (a.put N v) w')
    (hname : (fn.name == "runtime.NumGoroutine") = false := by kernel_rfl) (hb : fn.body.isSome = true := by rfl)
    (hw : Region.wanted oi (yielded ops a.tmps) = true := by rfl) (hN : oi.dst = N := by rfl) (hc : a.eval c = .func (.func f) #[] #[] := by rfl)
    (hargs : as.map a.eval = args := by (try simp only [List.map_toArray, List.map_cons, List.map_nil]); first | done | rfl | (simp only [List.length_drop, List.length_take]; rfl)) :
    if Region.wanted oi (yielded ops a.tmps) = true then Oper.wp P oi a w K Q else K (a.put N undef) w :=
  sqGv hf args (C.mono h) hname hb hw hN hop hc hargs
theorem sqLvq {w : World} {c : Operand} {v : Value} {f : FuncId} {as : Array Operand} {ts : Array TypeId} (hop : oi.op = .call { callee := .value c, args := as, argTypes := ts }) (N : Option Tmp) {fn : Func} (hf : P.funcs[f]? = some fn) {args : Array Value} (C : Calls P f args w (fun e w' => e = .returned v ∧ Drawn0 w w'))
    (h : ∀ nd, wpList P ops Q rest (a.put N v) (w.drewN nd))
    (hd : oi.dst = N := by rfl) (hg : oi.guard = none := by rfl) (hname : (fn.name == "runtime.NumGoroutine") = false := by kernel_rfl) (hb : fn.body.isSome = true := by rfl) (hc : a.eval c = .func (.func f) #[] #[] := by rfl)
    (hargs : as.map a.eval = args := by (try simp only [List.map_toArray, List.map_cons, List.map_nil]); first | done | rfl | (simp only [List.length_drop, List.length_take]; rfl)) : wpList P ops Q (oi :: rest) a w :=
  sqLv N hf args (C.mono (by rintro e w' ⟨rfl, ⟨nd, rfl⟩⟩; exact ⟨_, rfl, h nd⟩)) hd hg hname hb hop hc hargs
theorem sqGvq {N : Option Tmp} {w : World} {K : Act → World → Prop} {c : Operand} {v : Value} {f : FuncId} {as : Array Operand} {ts : Array TypeId} (hop : oi.op = .call { callee := .value c, args := as, argTypes := ts }) {fn : Func} (hf : P.funcs[f]? = some fn) {args : Array Value} (C : Calls P f args w (fun e w' => e = .returned v ∧ Drawn0 w w'))
    (h : ∀ nd, K (a.put N v) (w.drewN nd))
    (hname : (fn.name == "runtime.NumGoroutine") = false := by kernel_rfl) (hb : fn.body.isSome = true := by rfl)
    (hw : Region.wanted oi (yielded ops a.tmps) = true := by rfl) (hN : oi.dst = N := by rfl) (hc : a.eval c = .func (.func f) #[] #[] := by rfl)
    (hargs : as.map a.eval = args := by (try simp only [List.map_toArray, List.map_cons, List.map_nil]); first | done | rfl | (simp only [List.length_drop, List.length_take]; rfl)) :
    if Region.wanted oi (yielded ops a.tmps) = true then Oper.wp P oi a w K Q else K (a.put N undef) w :=
  sqGv hf args (C.mono (by rintro e w' ⟨rfl, ⟨nd, rfl⟩⟩; exact ⟨_, rfl, h nd⟩)) hname hb hw hN hop hc hargs
theorem sqLvb {w : World} {c : Operand} {v : Value} {f : FuncId} {as : Array Operand} {ts : Array TypeId} (hop : oi.op = .call { callee := .value c, args := as, argTypes := ts }) (N : Option Tmp) {fn : Func} (hf : P.funcs[f]? = some fn) {args : Array Value} (C : Calls P f args w (fun e w' => e = .returned v ∧ Below w.heap.size w w'))
    (h : ∀ w', Below w.heap.size w w' → wpList P ops Q rest (a.put N v) w')
    (hd : oi.dst = N := by rfl) (hg : oi.guard = none := by rfl) (hname : (fn.name == "runtime.NumGoroutine") = false := by kernel_rfl) (hb : fn.body.isSome = true := by rfl) (hc : a.eval c = .func (.func f) #[] #[] := by rfl)
    (hargs : as.map a.eval = args := by (try simp only [List.map_toArray, List.map_cons, List.map_nil]); first | done | rfl | (simp only [List.length_drop, List.length_take]; rfl)) : wpList P ops Q (oi :: rest) a w :=
  sqLv N hf args (C.mono (by rintro e w' ⟨rfl, hb⟩; exact ⟨_, rfl, h w' hb⟩)) hd hg hname hb hop hc hargs
theorem sqGvb {N : Option Tmp} {w : World} {K : Act → World → Prop} {c : Operand} {v : Value} {f : FuncId} {as : Array Operand} {ts : Array TypeId} (hop : oi.op = .call { callee := .value c, args := as, argTypes := ts }) {fn : Func} (hf : P.funcs[f]? = some fn) {args : Array Value} (C : Calls P f args w (fun e w' => e = .returned v ∧ Below w.heap.size w w'))
    (h : ∀ w', Below w.heap.size w w' → K (a.put N v) w')
    (hname : (fn.name == "runtime.NumGoroutine") = false := by kernel_rfl) (hb : fn.body.isSome = true := by rfl)
    (hw : Region.wanted oi (yielded ops a.tmps) = true := by rfl) (hN : oi.dst = N := by rfl) (hc : a.eval c = .func (.func f) #[] #[] := by rfl)
    (hargs : as.map a.eval = args := by (try simp only [List.map_toArray, List.map_cons, List.map_nil]); first | done | rfl | (simp only [List.length_drop, List.length_take]; rfl)) :
    if Region.wanted oi (yielded ops a.tmps) = true then Oper.wp P oi a w K Q else K (a.put N undef) w :=
  sqGv hf args (C.mono (by rintro e w' ⟨rfl, hb⟩; exact ⟨_, rfl, h w' hb⟩)) hname hb hw hN hop hc hargs
end
theorem sqdd {p : Prop} (h : p := by first | exact ⟨rfl, _, World.drewN_drewN _ _ _⟩ | exact ⟨rfl, _, sqda⟩) : p := h
theorem sqK2 {w : World} {g : Nat} {t : TypeId} {a b : Value} (H : Aside0 (w.heap[g]? = some (.cells #[a, b] t (0, 0)))) : Ce2 w g a b := ⟨(blk_cell H.out 0).trans rfl, (blk_cell H.out 1).trans rfl⟩
theorem sqK4 {w : World} {g : Nat} {t : TypeId} {a b c d : Value} (H : Aside0 (w.heap[g]? = some (.cells #[a, b, c, d] t (0, 0)))) : Ce4 w g a b c d := ⟨(blk_cell H.out 0).trans rfl, (blk_cell H.out 1).trans rfl, (blk_cell H.out 2).trans rfl, (blk_cell H.out 3).trans rfl⟩
theorem sqK6 {w : World} {g : Nat} {t : TypeId} {a b c d e f : Value} (H : Aside0 (w.heap[g]? = some (.cells #[a, b, c, d, e, f] t (0, 0)))) : Ce6 w g a b c d e f := ⟨(blk_cell H.out 0).trans rfl, (blk_cell H.out 1).trans rfl, (blk_cell H.out 2).trans rfl, (blk_cell H.out 3).trans rfl, (blk_cell H.out 4).trans rfl, (blk_cell H.out 5).trans rfl⟩
theorem sqPb {W W1 w3 : World} {g : Nat} {cs_ ds : Array Value} {t : TypeId} (H : Aside0 (W.heap[g]? = some (.cells cs_ t (0, 0)))) (hb : Below W1.heap.size W1 w3) (s : W.heap[g]? = some (.cells cs_ t (0, 0)) → W1.heap[g]? = some (.cells ds t (0, 0)) := by
    intro h_
    repeat (first | (with_reducible exact h_) | (with_reducible first | apply blk_drewN | apply blk_drew | apply blk_alloc | (apply sqfr; · assumption)) | apply blk_put | exact h_)
    all_goals rfl) : Aside0 (w3.heap[g]? = some (.cells ds t (0, 0))) := ⟨blk_below (s H.out) hb⟩
section
variable {P : Program} {ops : Array Oper} {rest : List Oper} {oi : Oper} {a : Act} {Q : Exit → Act → World → Prop}
theorem sqX {W w0 w2 : World} (N : Tmp) (cs : Array Value) (t : TypeId) (HB : Aside0 (Below w0.heap.size w0 w2))
    (h : ∀ g, g = W.heap.size → ∀ w1, Below W.heap.size W w1 → Aside0 (w1.heap[g]? = some (.cells cs t (0, 0))) → Aside0 (w0.heap.size ≤ g) → Aside0 (Below w0.heap.size w0 w1) → wpList P ops Q rest (a.put oi.dst (.pointer (some ⟨g, 0, none⟩))) w1)
    (hd : oi.dst = some N := by rfl) (hgd : oi.guard = none := by rfl)
    (hrun : (execOp a.eval oi).run P W = .ok (.value (.pointer (some ⟨W.heap.size, 0, none⟩))) (W.alloc (.cells cs t (0, 0))) := by first | (go_simp; done) | (go_simp; rfl))
    (s : Below w0.heap.size w0 w2 → Below w0.heap.size w0 W := by
      intro h_; repeat (first | (with_reducible first | exact h_ | apply below_alloc | apply pw_below_drewN | apply below_drew1 | refine below_set ?_ (Aside0.out (by assumption))) | exact h_)) : wpList P ops Q (oi :: rest) a W :=
  sqx N cs t (fun g hg w1 hbox hb => h g hg w1 hb ⟨hbox⟩ ⟨by rw [hg]; exact below_size (s HB.out)⟩ ⟨below_step (s HB.out) hb⟩) hd hgd hrun
theorem sqre {fn : Func} {R : Ending → World → Prop} {w : World} {g : Nat} {t ty : TypeId} {p : Tmp} {d : TypeDesc} (cs : Array Value) (hg : w.heap[g]? = some (.cells cs t (0, 0))) (hu : P.underlying ty = some d) (hR : R (.returned (.agg cs)) w)
    (h : fn.results = #[.cell p ty] := by rfl) (hp : a.tmps.getD p undef = .pointer (some ⟨g, 0, none⟩) := by rfl) (hd : (match d with | .struct _ | .array _ _ => true | _ => false) = true := by rfl) (hi : (P.info? ty).map (·.size) = some cs.size := by kernel_rfl) (hf : a.defers = [] := by rfl) : bodyPost P fn R .ret a w :=
  bodyPost_ret (results_cell_row h _ _ g t cs (0, 0) d hp hg hu hd hi) hf hR
end
section
variable {P : Program} {ops : Array Oper} {rest : List Oper} {oi : Oper} {a : Act} {W : World} {Q : Exit → Act → World → Prop}
theorem gf (f : FuncId) {as : Array Operand} {ts : Array TypeId} (_ho : oi.op = .call { callee := .value (.func f), args := as, argTypes := ts }) (h : wpList P ops Q (oi :: rest) a W) : wpList P ops Q (oi :: rest) a W := h
theorem gd (N : Tmp) (_ho : oi.dst = some N) (h : wpList P ops Q (oi :: rest) a W) : wpList P ops Q (oi :: rest) a W := h
end
theorem sqtyp {α : Type} {d : Kd α} {e b g n c : Nat} {ok : Nat → Prop} {xs : List α} {w : World} (H : Aside0 (d.R e w b ok (.slice (some ⟨g, 0, none⟩) n c) xs)) : ∃ cs, Aside0 (w.heap[g]? = some (.cells cs e (0, 0))) := by
  obtain ⟨_, inner, ho, _⟩ := H.out
  obtain ⟨cs, hc⟩ := own_typed ho g rfl
  exact ⟨cs, ⟨hc⟩⟩
end Go.Proofs.Ytlbheepfmjbpnaa.Sq
