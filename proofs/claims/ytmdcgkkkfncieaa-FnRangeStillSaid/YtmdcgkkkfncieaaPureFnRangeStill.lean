/- For every code the law FnRangeStill answers true: a range that is widened again and again at the same steps changes no more often than there are steps on both sides, and three. Conditions: none beyond those of the given statement. -/
import Derived.Test.YtmdcgkkkfncieaaLFnRangeStill
namespace Go.Proofs.Ytmdcgkkkfncieaa.Pure
set_option linter.unusedVariables false
set_option linter.unusedSimpArgs false
open Go.RowKit Go.Proofs.Ytmdcgkkkfncieaa.PFnRangeStill Go.Proofs.Ytmdcgkkkfncieaa.LFnRangeStill Go.Proofs.Ytmdcgkkkfncieaa.Base Go.Proofs.YtmdcgkkkfncieaaW.PrintWords Go.Proofs.YtmdcgkkkfncieaaW.PrintLast Go.Proofs.YtmdcgkkkfncieaaW.PrintMore

/-- How often a low end may still move. -/
def phi (xs : List Int) (l : Int) : Nat := xs.countP (fun s => decide (s < l)) + if -2147483648 < l then 1 else 0
def psi (xs : List Int) (h : Int) : Nat := xs.countP (fun s => decide (h < s)) + if h < 2147483647 then 1 else 0

theorem below_mono {l l' : Int} (h : l' ≤ l) : ∀ xs : List Int, xs.countP (fun s => decide (s < l')) ≤ xs.countP (fun s => decide (s < l))
  | [] => Nat.le_refl _
  | x :: xs => by
    have := below_mono h xs
    simp only [List.countP_cons, decide_eq_true_eq]
    split <;> split <;> omega
theorem below_less {x l : Int} (h : x < l) : ∀ xs : List Int, x ∈ xs → xs.countP (fun s => decide (s < x)) + 1 ≤ xs.countP (fun s => decide (s < l))
  | [], hx => by cases hx
  | y :: xs, hx => by
    have m := below_mono (Int.le_of_lt h) xs
    simp only [List.countP_cons, decide_eq_true_eq]
    rcases List.mem_cons.1 hx with e | e
    · subst e
      rw [if_neg (by omega), if_pos h]; omega
    · have := below_less h xs e
      split <;> split <;> omega
theorem above_mono {l l' : Int} (h : l ≤ l') : ∀ xs : List Int, xs.countP (fun s => decide (l' < s)) ≤ xs.countP (fun s => decide (l < s))
  | [] => Nat.le_refl _
  | x :: xs => by
    have := above_mono h xs
    simp only [List.countP_cons, decide_eq_true_eq]
    split <;> split <;> omega
theorem above_less {x l : Int} (h : l < x) : ∀ xs : List Int, x ∈ xs → xs.countP (fun s => decide (x < s)) + 1 ≤ xs.countP (fun s => decide (l < s))
  | [], hx => by cases hx
  | y :: xs, hx => by
    have m := above_mono (Int.le_of_lt h) xs
    simp only [List.countP_cons, decide_eq_true_eq]
    rcases List.mem_cons.1 hx with e | e
    · subst e
      rw [if_neg (by omega), if_pos h]; omega
    · have := above_less h xs e
      split <;> split <;> omega
theorem phi_step {xs : List Int} {l l' : Int} (h : l' ≤ l) (hn : -2147483648 ≤ l') (m : l' = l ∨ l' = -2147483648 ∨ l' ∈ xs) : phi xs l' + (if l' = l then 0 else 1) ≤ phi xs l := by
  unfold phi
  have b := below_mono h xs
  by_cases e : l' = l
  · subst e; simp
  · rw [if_neg e]
    rcases m with m | m | m
    · exact absurd m e
    · rw [if_neg (by omega), if_pos (by omega)]; omega
    · have := below_less (by omega : l' < l) xs m
      split <;> split <;> omega
theorem psi_step {xs : List Int} {h h' : Int} (g : h ≤ h') (hn : h' ≤ 2147483647) (m : h' = h ∨ h' = 2147483647 ∨ h' ∈ xs) : psi xs h' + (if h' = h then 0 else 1) ≤ psi xs h := by
  unfold psi
  have b := above_mono g xs
  by_cases e : h' = h
  · subst e; simp
  · rw [if_neg e]
    rcases m with m | m | m
    · exact absurd m e
    · rw [if_neg (by omega), if_pos (by omega)]; omega
    · have := above_less (by omega : h < h') xs m
      split <;> split <;> omega
theorem phi_le (xs : List Int) (l : Int) : phi xs l ≤ xs.length + 1 := by
  have := List.countP_le_length (p := fun s => decide (s < l)) (l := xs)
  unfold phi; split <;> omega
theorem psi_le (xs : List Int) (l : Int) : psi xs l ≤ xs.length + 1 := by
  have := List.countP_le_length (p := fun s => decide (l < s)) (l := xs)
  unfold psi; split <;> omega

/-- What holds of the range and of the count of its changes. -/
def Inv (xs : List Int) (n lo hi : Int) : Prop := ROk lo hi ∧ 0 ≤ n ∧ (if lo > hi then n = 0 else n + phi xs lo + psi xs hi ≤ 2 * xs.length + 3)

theorem inv_step {xs : List Int} {n lo hi v : Int} (I : Inv xs n lo hi) (hv : NOk v) :
    ∀ r, RWiden lo hi v v xs = r → RIn lo hi r.1 r.2 ∧ Inv xs (if r.1 = lo ∧ r.2 = hi then n else n + 1) r.1 r.2 := by
  obtain ⟨ho, h0, hi'⟩ := I
  have vo : ROk v v := Or.inr ⟨hv, hv, Int.le_refl _⟩
  intro r er0
  have ro := RWiden_ok lo hi v v xs
  rw [er0] at ro
  by_cases e : lo > hi
  · rw [if_pos e] at hi'
    have er : r = (v, v) := by
      rw [← er0]
      unfold RWiden
      rw [if_pos (Or.inr (Or.inr (Or.inl e)))]
      unfold RJoin
      rw [if_neg (by simp [ho, vo]), if_pos e]
    refine ⟨⟨ho, ro, Or.inl e⟩, ro, ?_, ?_⟩
    · split <;> omega
    · have p := phi_le xs v
      have q := psi_le xs v
      rw [er]
      dsimp only
      rw [if_neg (by omega)]
      split <;> omega
  · rw [if_neg e] at hi'
    have sp := RWiden_spec xs ho vo e (by omega)
    rw [er0] at sp
    have so := ho.some e
    obtain ⟨s1, s2, s3, s4, s5, s6⟩ := sp
    have p := phi_step (xs := xs) (l := lo) (l' := r.1) (by omega) s1.1 s5
    have q := psi_step (xs := xs) (h := hi) (h' := r.2) (by omega) s2.2 s6
    refine ⟨⟨ho, ro, Or.inr ⟨by omega, by omega⟩⟩, ro, ?_, ?_⟩
    · split <;> omega
    · have o := so.2.2
      have l1 : r.1 ≤ lo := by omega
      have l2 : hi ≤ r.2 := by omega
      rw [if_neg (by omega)]
      by_cases c : r.1 = lo ∧ r.2 = hi
      · rw [if_pos c]; rw [c.1] at p; rw [c.2] at q; rw [c.1, c.2]; simp only [if_true] at p q; omega
      · rw [if_neg c]
        by_cases c1 : r.1 = lo
        · have c2 : ¬ r.2 = hi := fun x => c ⟨c1, x⟩
          rw [if_pos c1] at p; rw [if_neg c2] at q; omega
        · rw [if_neg c1] at p
          split at q <;> omega

theorem still_l0 {code xs : List Int} (hc : Bytes code) (hx : xs.length ≤ 5) : ∀ (d k : Nat) (n i lo hi : Int), 0 ≤ i → (40 - i : Int) = d → 3 * d + 30 ≤ k → n ≤ i → Inv xs n lo hi →
    Tot (laws_FnRangeStill.l0 k code xs n i lo hi) fun r => r = true := by
  intro d
  induction d with
  | zero =>
    intro k n i lo hi h0 hd hk hn I
    obtain ⟨k, rfl⟩ : ∃ m, k = m + 1 := ⟨k - 1, by omega⟩
    simp only [laws_FnRangeStill.l0]
    rw [if_neg (by omega), wrap64_id (x := 2 * (xs.length : Int)) (by omega) (by omega), wrap64_id (by omega) (by omega)]
    refine Tot.here ?_
    obtain ⟨-, h1, h2⟩ := I
    rw [decide_eq_true_eq]
    split at h2 <;> omega
  | succ d ih =>
    intro k n i lo hi h0 hd hk hn I
    obtain ⟨k, rfl⟩ : ∃ m, k = m + 3 := ⟨k - 3, by omega⟩
    have main : ∀ v, NOk v → Tot (laws_FnRangeStill.j1 (k + 2) code xs n i v lo hi) fun r => r = true := by
      intro v hv
      have st := inv_step I hv _ rfl
      have I' := st.2
      simp only [laws_FnRangeStill.j1]
      rw [rangeWiden_eq _ _ _ _ _ _ (by omega) (by omega), srangeWiden_eq _ _ _ _ _ _ (by omega) (by omega)]
      simp only [Option.bind_some, beq_self_eq_true, Bool.not_true, Bool.or_self, Bool.false_eq_true, if_false]
      rw [rangeIn_eq]
      simp only [Option.bind_some, st.1, decide_true, Bool.not_true, laws_FnRangeStill.j2, Bool.false_eq_true, if_false]
      have n0 := I.2.1
      rw [wrap64_id (x := n + 1) (by omega) (by omega), wrap64_id (x := i + 1) (by omega) (by omega)]
      by_cases c : (RWiden lo hi v v xs).1 = lo ∧ (RWiden lo hi v v xs).2 = hi
      · rw [if_pos c] at I'
        rw [if_neg (by simp [c.1, c.2])]
        exact ih k n (i + 1) _ _ (by omega) (by omega) (by omega) (by omega) I'
      · rw [if_neg c] at I'
        have cc : (!((RWiden lo hi v v xs).1 == lo) || !((RWiden lo hi v v xs).2 == hi)) = true := by
          by_cases c1 : (RWiden lo hi v v xs).1 = lo
          · have c2 : ¬ (RWiden lo hi v v xs).2 = hi := fun x => c ⟨c1, x⟩
            simp [c2]
          · simp [c1]
        rw [if_pos cc]
        exact ih k (n + 1) (i + 1) _ _ (by omega) (by omega) (by omega) (by omega) I'
    simp only [laws_FnRangeStill.l0]
    rw [if_pos (by omega), wrap64_id (x := i * 3) (by omega) (by omega)]
    refine Tot.then (wide_tot hc (by omega) (by omega)) fun t ht => ?_
    rw [snumwrap_eq]
    simp only [Option.bind_some]
    refine Tot.ite (fun _ => ?_) fun _ => main _ (wrap32_in t)
    refine Tot.then (at_tot hc h0 (by omega)) fun b hb => ?_
    rw [wrap64_id (x := b) (by omega) (by omega), wrap64_id (x := b - 128) (by omega) (by omega)]
    exact main _ (by unfold NOk; omega)

theorem FnRangeStill : laws_FnRangeStill.Pure := by
  intro l _ _ hw
  have hl := Bytes.of hw
  refine ⟨200, ?_⟩
  refine Tot.out ?_
  unfold laws_FnRangeStill.f
  refine Tot.ite (fun _ => Tot.here rfl) fun _ => ?_
  refine Tot.then (drawRangeWiden_tot 200 (by omega) hl) ?_
  rintro ⟨a, b, c, d, xs⟩ hx
  dsimp only at hx ⊢
  rw [srangeOk_eq]
  simp only [Option.bind_some, decide_eq_true_eq]
  refine Tot.ite (fun ho => ?_) fun ho => ?_
  · refine still_l0 hl hx 40 200 0 0 a b (by omega) (by omega) (by omega) (by omega) ⟨ho, by omega, ?_⟩
    have p := phi_le xs a
    have q := psi_le xs b
    split <;> omega
  · rw [rangeWiden_eq _ _ _ _ _ _ (by omega) (by omega)]
    refine Tot.here ?_
    have e : RWiden a b a b xs = (1, 0) := by
      unfold RWiden; rw [if_pos (Or.inl ho)]; unfold RJoin; rw [if_pos (Or.inl ho)]
    rw [e]; rfl
end Go.Proofs.Ytmdcgkkkfncieaa.Pure
