/- Short words for steps that walks repeat: what stood in memory still stands there behind a step, with the small proofs as defaults. Conditions: none. -/
import Derived.Test.YtmdcgkkkfncieaaWMore
import Derived.Test.YtmdcgkkkfncieaaWTab
import Derived.Test.YtmdcgkkkfncieaaWNEv
import Derived.Test.YtmdcgkkkfncieaaWAt
import Derived.Test.YtmdcgkkkfncieaaWFour
namespace Go.Proofs.Ytmdcgkkkfncieaa.Sq
set_option linter.unusedVariables false
open Go.RowKit Go.Proofs.YtmdcgkkkfncieaaW.PrintWords Go.Proofs.YtmdcgkkkfncieaaW.PrintLast Go.Proofs.YtmdcgkkkfncieaaW.PrintMore

section
variable {w0 w1 w2 w3 : World} {g g' : Nat} {o : Obj}
theorem sqt {W W1 : World} {r : Option Obj} (h : W.heap[g]? = r) (s : W.heap[g]? = r → W1.heap[g]? = r := by
    intro h_; (with_reducible repeat (first | refine blk_drewN ?_ _ | refine blk_drew ?_ | refine blk_alloc ?_ _)); exact h_) : W1.heap[g]? = r := s h
theorem sqb (H : Aside0 (w1.heap[g]? = some o)) (hb : Below w2.heap.size w2 w3) (s : w1.heap[g]? = some o → w2.heap[g]? = some o := by
    intro h_; (with_reducible repeat (first | refine blk_drewN ?_ _ | refine blk_drew ?_ | refine blk_alloc ?_ _)); exact h_) : Aside0 (w3.heap[g]? = some o) := ⟨blk_below (s H.out) hb⟩
theorem sqk (H : Aside0 (w1.heap[g]? = some o)) (s : w1.heap[g]? = some o → w2.heap[g]? = some o := by
    intro h_; (with_reducible repeat (first | refine blk_drewN ?_ _ | refine blk_drew ?_ | refine blk_alloc ?_ _)); exact h_) : Aside0 (w2.heap[g]? = some o) := ⟨s H.out⟩
theorem sqn (H : Aside0 (w1.heap[g]? = some o)) (hg : g' = w2.heap.size) (s : w1.heap[g]? = some o → w2.heap[g]? = some o := by
    intro h_; (with_reducible repeat (first | refine blk_drewN ?_ _ | refine blk_drew ?_ | refine blk_alloc ?_ _)); exact h_) : Aside0 (g ≠ g') := ⟨by rw [hg]; exact Nat.ne_of_lt (blk_lt (s H.out))⟩
theorem sqm (H : Aside0 (w1.heap[g]? = some o)) (hg : g' = w2.heap.size) (s : w1.heap[g]? = some o → w2.heap[g]? = some o := by
    intro h_; (with_reducible repeat (first | refine blk_drewN ?_ _ | refine blk_drew ?_ | refine blk_alloc ?_ _)); exact h_) : Aside0 (g' ≠ g) := ⟨by rw [hg]; exact Nat.ne_of_gt (blk_lt (s H.out))⟩
theorem sqs (H : Aside0 (Below w0.heap.size w0 w1)) (hb : Below w2.heap.size w2 w3) (s : Below w0.heap.size w0 w1 → Below w0.heap.size w0 w2 := by
    intro h_; repeat (first | (with_reducible first | exact h_ | apply below_alloc | apply pw_below_drewN | apply below_drew1 | refine below_set ?_ (Aside0.out (by assumption))) | exact h_)) : Aside0 (Below w0.heap.size w0 w3) := ⟨below_step (s H.out) hb⟩
theorem sqh (H : Aside0 (Below w0.heap.size w0 w1)) (s : Below w0.heap.size w0 w1 → Below w0.heap.size w0 w2 := by
    intro h_; repeat (first | (with_reducible first | exact h_ | apply below_alloc | apply pw_below_drewN | apply below_drew1 | refine below_set ?_ (Aside0.out (by assumption))) | exact h_)) : Aside0 (Below w0.heap.size w0 w2) := ⟨s H.out⟩
theorem sqg (H : Aside0 (Below w0.heap.size w0 w1)) (hg : g' = w2.heap.size) (s : Below w0.heap.size w0 w1 → Below w0.heap.size w0 w2 := by
    intro h_; repeat (first | (with_reducible first | exact h_ | apply below_alloc | apply pw_below_drewN | apply below_drew1 | refine below_set ?_ (Aside0.out (by assumption))) | exact h_)) : Aside0 (w0.heap.size ≤ g') := ⟨by rw [hg]; exact below_size (s H.out)⟩
theorem sqe {p : Prop} (H : Aside0 (Below w0.heap.size w0 w1)) (h : p := by first | rfl | (simp [errW_none, errW_some] <;> rfl) | (simp [*, errW_none, errW_some] <;> rfl)) (s : Below w0.heap.size w0 w1 → Below w0.heap.size w0 w2 := by
    intro h_; repeat (first | (with_reducible first | exact h_ | apply below_alloc | apply pw_below_drewN | apply below_drew1 | refine below_set ?_ (Aside0.out (by assumption))) | exact h_)) : p ∧ Below w0.heap.size w0 w2 := ⟨h, s H.out⟩
end
section
variable {P : Program} {ops : Array Oper} {rest : List Oper} {oi : Oper} {a : Act} {Q : Exit → Act → World → Prop}
theorem sqL {w : World} (N : Option Tmp) {f : FuncId} {fn : Func} {as : Array Operand} {ts : Array TypeId} (hf : P.funcs[f]? = some fn) (args : Array Value)
    (h : Calls P f args w fun e w' => ∃ v, e = .returned v ∧ wpList P ops Q rest (a.put N v) w')
    (hd : oi.dst = N := by rfl) (hg : oi.guard = none := by rfl) (hname : (fn.name == "runtime.NumGoroutine") = false := by kernel_rfl) (hb : fn.body.isSome = true := by rfl)
    (hop : oi.op = .call { callee := .value (.func f), args := as, argTypes := ts } := by rfl)
    (hargs : as.map a.eval = args := by (try simp only [List.map_toArray, List.map_cons, List.map_nil]); first | done | rfl | (simp only [List.length_drop, List.length_take]; rfl)) : wpList P ops Q (oi :: rest) a w :=
  goesL_ N hd hg hf hname hb args hop hargs h
theorem sqG {N : Option Tmp} {w : World} {K : Act → World → Prop} {f : FuncId} {fn : Func} {as : Array Operand} {ts : Array TypeId} (hf : P.funcs[f]? = some fn) (args : Array Value)
    (h : Calls P f args w fun e w' => ∃ v, e = .returned v ∧ K (a.put N v) w')
    (hname : (fn.name == "runtime.NumGoroutine") = false := by kernel_rfl) (hb : fn.body.isSome = true := by rfl)
    (hw : Region.wanted oi (yielded ops a.tmps) = true := by rfl) (hN : oi.dst = N := by rfl) (hop : oi.op = .call { callee := .value (.func f), args := as, argTypes := ts } := by rfl)
    (hargs : as.map a.eval = args := by (try simp only [List.map_toArray, List.map_cons, List.map_nil]); first | done | rfl | (simp only [List.length_drop, List.length_take]; rfl)) :
    if Region.wanted oi (yielded ops a.tmps) = true then Oper.wp P oi a w K Q else K (a.put N undef) w :=
  goes_ hf hname hb args hw hN hop hargs h
theorem sqx {W : World} (N : Tmp) (cs : Array Value) (t : TypeId)
    (h : ∀ g, g = W.heap.size → ∀ w1, w1.heap[g]? = some (.cells cs t (0, 0)) → Below W.heap.size W w1 → wpList P ops Q rest (a.put oi.dst (.pointer (some ⟨g, 0, none⟩))) w1)
    (hd : oi.dst = some N := by rfl) (hgd : oi.guard = none := by rfl)
    (hrun : (execOp a.eval oi).run P W = .ok (.value (.pointer (some ⟨W.heap.size, 0, none⟩))) (W.alloc (.cells cs t (0, 0))) := by first | (go_simp; done) | (go_simp; rfl)) : wpList P ops Q (oi :: rest) a W :=
  box_event hgd hd hrun h
end
end Go.Proofs.Ytmdcgkkkfncieaa.Sq
