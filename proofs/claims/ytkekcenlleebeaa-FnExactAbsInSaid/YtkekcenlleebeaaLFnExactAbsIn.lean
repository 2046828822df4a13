/- What the small functions that the statement reaches tell, each by a plain law. Conditions: those in each law. -/
import Derived.Test.YtkekcenlleebeaaDFnExactAbsIn
import Derived.Test.YtkekcenlleebeaaBase
import Derived.Test.YtkekcenlleebeaaBits
import Derived.Test.YtkekcenlleebeaaRangeMath
import Derived.Test.YtkekcenlleebeaaRestMath
import Derived.Test.YtkekcenlleebeaaValMath
import Derived.Test.YtkekcenlleebeaaGapsMath
import Derived.Test.YtkekcenlleebeaaGaps2Math
import Derived.Test.YtkekcenlleebeaaAbsMath
namespace Go.Proofs.Ytkekcenlleebeaa.LFnExactAbsIn
open Go.RowKit Go.Proofs.Ytkekcenlleebeaa.PFnExactAbsIn Go.Proofs.Ytkekcenlleebeaa.Base Go.Proofs.YtkekcenlleebeaaW.PrintWords Go.Proofs.YtkekcenlleebeaaW.PrintLast Go.Proofs.YtkekcenlleebeaaW.PrintMore
set_option linter.unusedVariables false
set_option linter.unusedSimpArgs false

/-! spec_l1Mod -/
theorem mod_eq {a b : Int} (hb : 0 < b) (h : b ≤ 9223372036854775807) : spec_l1Mod.f a b = some (a % b) := by
  unfold spec_l1Mod.f
  rw [if_neg (by omega)]
  have e := Int.emod_emod_of_dvd a (Int.dvd_refl b)
  have h1 : Int.tmod a b < b := Int.tmod_lt_of_pos a hb
  have h2 : -b < Int.tmod a b := Int.lt_tmod_of_pos a hb
  have h3 := Int.mul_tdiv_add_tmod a b
  have h4 : a % b = Int.tmod a b % b := by
    conv => lhs; rw [← h3]
    rw [Int.add_comm, Int.add_mul_emod_self_left]
  by_cases hn : Int.tmod a b < 0
  · rw [if_pos hn, wrap64_id (by omega) (by omega), h4, ← Int.add_emod_right, Int.emod_eq_of_lt (by omega) (by omega)]
  · rw [if_neg hn, h4, Int.emod_eq_of_lt (by omega) (by omega)]
/-! impl_NumOk -/
theorem numOk_eq (v : Int) : impl_NumOk.f v = some (decide (NOk v)) := by
  unfold impl_NumOk.f
  by_cases h : v ≥ -2147483648
  · rw [if_pos h]; exact dcl (by (try unfold NOk); omega)
  · rw [if_neg h]; exact dfl (by (try unfold NOk); omega)
/-! spec_l1In -/
theorem sin_eq (v a b : Int) : spec_l1In.f v a b = some (decide (a ≤ v ∧ v ≤ b)) := by
  unfold spec_l1In.f
  by_cases h : v ≥ a
  · rw [if_pos h]; exact dcl (by (try unfold NOk); omega)
  · rw [if_neg h]; exact dfl (by (try unfold NOk); omega)
/-! spec_NumOk -/
theorem snumOk_eq (v : Int) : spec_NumOk.f v = some (decide (NOk v)) := by
  unfold spec_NumOk.f
  rw [sin_eq]; exact dcl Iff.rfl
/-! impl_rangeNone -/
theorem rangeNone_eq : impl_rangeNone.f = some (1, 0) := rfl
/-! spec_l8None -/
theorem snone_eq : spec_l8None.f = some (1, 0) := rfl
/-! impl_RangeOk -/
theorem rangeOk_eq (l h : Int) : impl_RangeOk.f l h = some (decide (ROk l h)) := by
  unfold impl_RangeOk.f impl_rangeNone.f ROk
  simp only [Option.bind_some, numOk_eq, Bool.and_eq_true, beq_iff_eq]
  by_cases c : l = 1 ∧ h = 0
  · simp [c]
  · by_cases c1 : NOk l <;> by_cases c2 : NOk h <;> simp [c, c1, c2]
/-! spec_RangeOk -/
theorem srangeOk_eq (l h : Int) : spec_RangeOk.f l h = some (decide (ROk l h)) := by
  unfold spec_RangeOk.f spec_l8None.f ROk
  simp only [Option.bind_some, snumOk_eq, Bool.and_eq_true, beq_iff_eq]
  by_cases c : l = 1 ∧ h = 0
  · simp [c]
  · by_cases c1 : NOk l <;> by_cases c2 : NOk h <;> simp [c, c1, c2]
/-! impl_Range_empty -/
theorem rangeEmpty_eq (l h : Int) : impl_Range_empty.f l h = some (decide (l > h)) := rfl
/-! impl_RangeHas -/
theorem rangeHas_eq (l h v : Int) : impl_RangeHas.f l h v = some (decide (RHas l h v)) := by
  unfold impl_RangeHas.f RHas
  rw [rangeOk_eq]
  simp only [Option.bind_some]
  by_cases c : ROk l h <;> by_cases c1 : l ≤ v <;> simp [c, c1]
/-! spec_RangeHas -/
theorem srangeHas_eq (l h v : Int) : spec_RangeHas.f l h v = some (decide (RHas l h v)) := by
  unfold spec_RangeHas.f RHas
  rw [srangeOk_eq, sin_eq]
  simp only [Option.bind_some]
  by_cases c : ROk l h <;> simp [c]
/-! impl_RangeIn -/
theorem rangeIn_eq (l h l' h' : Int) : impl_RangeIn.f l h l' h' = some (decide (RIn l h l' h')) := by
  unfold impl_RangeIn.f RIn
  rw [rangeOk_eq, rangeOk_eq, rangeEmpty_eq]
  simp only [Option.bind_some]
  by_cases c : ROk l h <;> by_cases c1 : ROk l' h' <;> by_cases c2 : l > h <;> by_cases c3 : l' ≤ l <;> simp [c, c1, c2, c3]
/-! spec_RangeIn -/
theorem srangeIn_eq (l h l' h' : Int) : spec_RangeIn.f l h l' h' = some (decide (RIn l h l' h')) := by
  unfold spec_RangeIn.f RIn
  rw [srangeOk_eq, srangeOk_eq, snone_eq]
  simp only [Option.bind_some, Bool.and_eq_true, beq_iff_eq]
  by_cases c : ROk l h
  case neg => simp [c]
  by_cases c1 : ROk l' h'
  case neg => simp [c, c1]
  have e := c.empty_iff
  by_cases c2 : l = 1 ∧ h = 0
  · have := e.mpr c2; simp [c, c1, c2, rok_none]
  · have : ¬ l > h := fun x => c2 (e.mp x)
    by_cases c3 : l' ≤ l <;> simp [c, c1, c2, c3, this]
    all_goals omega
/-! impl_RestOk -/
theorem restOk_eq (m a : Int) : impl_RestOk.f m a = some (decide (SOk m a)) := by
  unfold impl_RestOk.f
  rw [numOk_eq]
  simp only [Option.bind_some]
  by_cases c : m = 0
  · rw [if_pos c]; exact dcl ⟨fun h => Or.inl ⟨c, h⟩, fun h => h.zero c⟩
  · rw [if_neg c]
    have e : SOk m a ↔ (1 ≤ m ∧ m ≤ 65536 ∧ 0 ≤ a ∧ a < m) := by
      unfold SOk; constructor
      · intro h; rcases h with h | h
        · exact absurd h.1 c
        · exact h.2
      · intro h; exact Or.inr ⟨c, h⟩
    by_cases c1 : m ≥ 1
    · rw [if_pos c1]
      by_cases c2 : m ≤ 65536
      · rw [if_pos c2]
        by_cases c3 : a ≥ 0
        · rw [if_pos c3]; exact dcl (by rw [e]; omega)
        · rw [if_neg c3]; exact dfl (by rw [e]; omega)
      · rw [if_neg c2]; exact dfl (by rw [e]; omega)
    · rw [if_neg c1]; exact dfl (by rw [e]; omega)
/-! spec_RestOk -/
theorem srestOk_eq (m a : Int) : spec_RestOk.f m a = some (decide (SOk m a)) := by
  unfold spec_RestOk.f
  rw [snumOk_eq, sin_eq, sin_eq]
  simp only [Option.bind_some]
  by_cases c : m = 0
  · rw [if_pos c]; exact dcl ⟨fun h => Or.inl ⟨c, h⟩, fun h => h.zero c⟩
  · rw [if_neg c]
    have e : SOk m a ↔ (1 ≤ m ∧ m ≤ 65536 ∧ 0 ≤ a ∧ a < m) := by
      unfold SOk; constructor
      · intro h; rcases h with h | h
        · exact absurd h.1 c
        · exact h.2
      · intro h; exact Or.inr ⟨c, h⟩
    by_cases c1 : 1 ≤ m ∧ m ≤ 65536
    · simp only [c1, decide_true, if_true, and_self]
      rw [wrap64_id (by omega) (by omega)]; exact dcl (by rw [e]; omega)
    · simp only [c1, decide_false, Bool.false_eq_true, if_false]; exact dfl (by rw [e]; omega)
/-! impl_restMod -/
theorem restMod_eq {n m : Int} (hm : 0 < m) (h : m ≤ 9223372036854775807) : impl_restMod.f n m = some (n % m) := mod_eq hm h
/-! impl_RestIn -/
theorem restIn_eq (k : Nat) (hk : 1 ≤ k) (m a m' a' : Int) : impl_RestIn.f k m a m' a' = some (decide (SIn m a m' a')) := by
  obtain ⟨k, rfl⟩ : ∃ m, k = m + 1 := ⟨k - 1, by omega⟩
  unfold impl_RestIn.f
  rw [restOk_eq, restOk_eq]
  simp only [Option.bind_some]
  by_cases c : SOk m a
  case neg => simp only [c, decide_false, Bool.false_eq_true, if_false, impl_RestIn.j0, if_true]; exact dfl (fun h => c h.1)
  by_cases c1 : SOk m' a'
  case neg => simp only [c, c1, decide_true, decide_false, Bool.not_false, impl_RestIn.j0, if_true]; exact dfl (fun h => c1 h.2.1)
  simp only [c, c1, decide_true, if_true, Bool.not_true, impl_RestIn.j0, Bool.false_eq_true, if_false]
  by_cases c2 : m' = 0
  · rw [if_pos c2]
    have e : SIn m a m' a' ↔ m = m' ∧ a = a' := ⟨fun h => by rcases h.2.2 with h | h; exact h.2; exact absurd c2 h.1, fun h => ⟨c, c1, Or.inl ⟨c2, h⟩⟩⟩
    have : (m == m' && a == a') = decide (SIn m a m' a') := by
      rw [Bool.eq_iff_iff]; simp [e]
    rw [this]
  · have p := c1.pos c2
    have q := c.nok
    rw [if_neg c2, restMod_eq (by omega) (by omega), Int.tmod_eq_emod_of_nonneg (by omega)]
    simp only [Option.bind_some]
    have e : SIn m a m' a' ↔ m % m' = 0 ∧ a % m' = a' := ⟨fun h => by rcases h.2.2 with h | h; exact absurd h.1 c2; exact h.2, fun h => ⟨c, c1, Or.inr ⟨c2, h⟩⟩⟩
    by_cases c3 : m % m' = 0
    · rw [if_pos c3]
      have : (a % m' == a') = decide (SIn m a m' a') := by
        rw [Bool.eq_iff_iff]; simp [e, c3]
      rw [this]
    · rw [if_neg c3]; exact dfl (fun h => c3 (e.mp h).1)
/-! impl_valNone -/
theorem valNone_eq : impl_valNone.f = some (1, 0, 0, 0) := rfl
/-! impl_valOne -/
theorem valOne_eq (v : Int) : impl_valOne.f v = some (v, v, 0, v) := rfl
/-! spec_l10None -/
theorem svalNone_eq : spec_l10None.f = some (1, 0, 0, 0) := rfl
/-! spec_l10One -/
theorem svalOne_eq (v : Int) : spec_l10One.f v = some (v, v, 0, v) := rfl
/-! impl_ValMake -/
theorem valMake_eq (k : Nat) (hk : 1 ≤ k) (l h m a : Int) : impl_ValMake.f k l h m a = some (VMake l h m a) := by
  obtain ⟨k, rfl⟩ : ∃ m, k = m + 1 := ⟨k - 1, by omega⟩
  unfold impl_ValMake.f
  rw [rangeOk_eq, restOk_eq, rangeEmpty_eq]
  simp only [Option.bind_some]
  by_cases c : ¬ ROk l h ∨ ¬ SOk m a ∨ l > h
  · rw [VMake_none c]
    have N : impl_ValMake.j0 (k + 1) true l h m a = some (1, 0, 0, 0) := by simp only [impl_ValMake.j0, if_true, valNone_eq, Option.bind_some]
    by_cases c1 : ROk l h
    case neg => simp only [c1, decide_false, Bool.false_eq_true, if_false]; exact N
    by_cases c2 : SOk m a
    case neg => simp only [c1, c2, decide_true, decide_false, if_true, Bool.false_eq_true, if_false]; exact N
    have c3 : l > h := by
      rcases c with c | c | c
      · exact absurd c1 c
      · exact absurd c2 c
      · exact c
    simp only [c1, c2, c3, decide_true, if_true]; exact N
  have o : ROk l h := Decidable.byContradiction fun n => c (Or.inl n)
  have s : SOk m a := Decidable.byContradiction fun n => c (Or.inr (Or.inl n))
  have e : ¬ l > h := fun n => c (Or.inr (Or.inr n))
  have on := o.some e
  have sn := s.nok
  unfold NOk at on sn
  unfold VMake
  rw [if_neg c]
  simp only [o, s, e, decide_true, decide_false, if_true, impl_ValMake.j0, Bool.false_eq_true, if_false]
  rw [rangeHas_eq, valNone_eq]
  simp only [Option.bind_some, decide_eq_true_eq, valOne_eq]
  by_cases hm : m = 0
  · rw [if_pos hm, if_pos hm]; split <;> rfl
  rw [if_neg hm, if_neg hm]
  have p := s.pos hm
  rw [wrap64_id (x := a - l) (by omega) (by omega), wrap64_id (x := h - a) (by omega) (by omega), restMod_eq (by omega) (by omega), restMod_eq (by omega) (by omega)]
  simp only [Option.bind_some]
  have e1 := Int.emod_nonneg (a - l) hm
  have e2 := Int.emod_nonneg (h - a) hm
  have e3 := Int.emod_lt_of_pos (a - l) (b := m) (by omega)
  have e4 := Int.emod_lt_of_pos (h - a) (b := m) (by omega)
  rw [wrap64_id (x := l + (a - l) % m) (by omega) (by omega), wrap64_id (x := h - (h - a) % m) (by omega) (by omega)]
  split
  · rfl
  · split <;> rfl
/-! spec_ValMake -/
theorem svalMake_eq (k : Nat) (hk : 1 ≤ k) (l h m a : Int) : spec_ValMake.f k l h m a = some (VMake l h m a) := by
  obtain ⟨k, rfl⟩ : ∃ m, k = m + 1 := ⟨k - 1, by omega⟩
  unfold spec_ValMake.f
  rw [srangeOk_eq, srestOk_eq, snone_eq]
  simp only [Option.bind_some]
  by_cases c : ¬ ROk l h ∨ ¬ SOk m a ∨ l > h
  · rw [VMake_none c]
    have N : spec_ValMake.j0 (k + 1) true l h m a = some (1, 0, 0, 0) := by simp only [spec_ValMake.j0, if_true, svalNone_eq, Option.bind_some]
    by_cases c1 : ROk l h
    case neg => simp only [c1, decide_false, Bool.false_eq_true, if_false]; exact N
    by_cases c2 : SOk m a
    case neg => simp only [c1, c2, decide_true, decide_false, if_true, Bool.false_eq_true, if_false]; exact N
    have c3 : l > h := by
      rcases c with c | c | c
      · exact absurd c1 c
      · exact absurd c2 c
      · exact c
    have c4 := c1.none c3
    have c5 : (l == 1 && h == 0) = true := by simp [c4]
    simp only [c1, c2, c5, decide_true, if_true]; exact N
  have o : ROk l h := Decidable.byContradiction fun n => c (Or.inl n)
  have s : SOk m a := Decidable.byContradiction fun n => c (Or.inr (Or.inl n))
  have e : ¬ l > h := fun n => c (Or.inr (Or.inr n))
  have on := o.some e
  have sn := s.nok
  unfold NOk at on sn
  have c5 : (l == 1 && h == 0) = false := by
    rw [Bool.eq_false_iff]; simp only [ne_eq, Bool.and_eq_true, beq_iff_eq]; omega
  unfold VMake
  rw [if_neg c]
  simp only [o, s, c5, decide_true, decide_false, if_true, spec_ValMake.j0, Bool.false_eq_true, if_false]
  rw [srangeHas_eq, svalNone_eq]
  simp only [Option.bind_some, decide_eq_true_eq, svalOne_eq]
  by_cases hm : m = 0
  · rw [if_pos hm, if_pos hm]; split <;> rfl
  rw [if_neg hm, if_neg hm]
  have p := s.pos hm
  rw [wrap64_id (x := a - l) (by omega) (by omega), wrap64_id (x := h - a) (by omega) (by omega), mod_eq (by omega) (by omega), mod_eq (by omega) (by omega)]
  simp only [Option.bind_some]
  have e1 := Int.emod_nonneg (a - l) hm
  have e2 := Int.emod_nonneg (h - a) hm
  have e3 := Int.emod_lt_of_pos (a - l) (b := m) (by omega)
  have e4 := Int.emod_lt_of_pos (h - a) (b := m) (by omega)
  rw [wrap64_id (x := l + (a - l) % m) (by omega) (by omega), wrap64_id (x := h - (h - a) % m) (by omega) (by omega)]
  split
  · rfl
  · split <;> rfl
/-! impl_ValOk -/
theorem valOk_eq (k : Nat) (hk : 1 ≤ k) (l h m a : Int) : impl_ValOk.f k l h m a = some (decide (VOk l h m a)) := by
  unfold impl_ValOk.f impl_Val_span.f impl_Val_rest.f
  simp only [Option.bind_some]
  rw [valMake_eq k hk]
  simp only [Option.bind_some]
  congr 1
  rw [Bool.eq_iff_iff]
  simp only [Bool.and_eq_true, beq_iff_eq, decide_eq_true_eq]
  unfold VOk
  constructor
  · rintro ⟨a1, a2, a3, a4⟩; rw [Prod.ext_iff, Prod.ext_iff, Prod.ext_iff]; exact ⟨a1.symm, a2.symm, a3.symm, a4.symm⟩
  · intro e; rw [e]; exact ⟨rfl, rfl, rfl, rfl⟩
/-! spec_ValOk -/
theorem svalOk_eq (k : Nat) (hk : 1 ≤ k) (l h m a : Int) : spec_ValOk.f k l h m a = some (decide (VOk l h m a)) := by
  unfold spec_ValOk.f
  rw [svalNone_eq, Option.bind_some]
  show (if (l == 1 && (h == 0 && (m == 0 && (a == 0)))) = true then some true else _) = _
  by_cases z : (l == 1 && (h == 0 && (m == 0 && (a == 0)))) = true
  · rw [if_pos z]
    simp only [Bool.and_eq_true, beq_iff_eq] at z
    obtain ⟨rfl, rfl, rfl, rfl⟩ := z
    rw [decide_eq_true vok_none]
  · rw [if_neg z]
    have no : (¬ ROk l h ∨ ¬ SOk m a ∨ l > h) → ¬ VOk l h m a := fun c q => by
      unfold VOk at q
      rw [VMake_none c, Prod.mk.injEq, Prod.mk.injEq, Prod.mk.injEq] at q
      obtain ⟨rfl, rfl, rfl, rfl⟩ := q
      exact z rfl
    show (spec_RangeOk.f l h).bind _ = _
    rw [srangeOk_eq, Option.bind_some]
    by_cases o : ROk l h
    · rw [decide_eq_true o, if_pos rfl]
      show (spec_RestOk.f m a).bind _ = _
      rw [srestOk_eq, Option.bind_some]
      by_cases s : SOk m a
      · rw [decide_eq_true s, if_pos rfl]
        show (spec_ValMake.f k l h m a).bind _ = _
        rw [svalMake_eq k hk, Option.bind_some]
        congr 1
        rw [Bool.eq_iff_iff]
        simp only [Bool.and_eq_true, beq_iff_eq, decide_eq_true_eq]
        unfold VOk
        constructor
        · rintro ⟨a1, a2, a3, a4⟩; rw [Prod.ext_iff, Prod.ext_iff, Prod.ext_iff]; exact ⟨a1.symm, a2.symm, a3.symm, a4.symm⟩
        · intro e; rw [e]; exact ⟨rfl, rfl, rfl, rfl⟩
      · rw [decide_eq_false s, if_neg (by decide), decide_eq_false (no (.inr (.inl s)))]
    · rw [decide_eq_false o, if_neg (by decide), decide_eq_false (no (.inl o))]
/-! laws_toIntS -/
theorem toIntS_loop (x : List Int) (hx : x.length ≤ 1099511627776) : ∀ (m : Nat) (k i : Nat) (acc : List Int), i + m = x.length → m < k → acc.length = x.length → (∀ j, j < i → acc[j]? = x[j]?) → laws_toIntS.l0 k x acc (i : Int) = some x
  | 0, 0, _, _, _, h, _, _ => absurd h (by omega)
  | 0, k + 1, i, acc, hm, _, hl, hj => by
    unfold laws_toIntS.l0
    rw [if_neg (by omega)]
    congr 1
    apply List.ext_getElem?
    intro j
    by_cases h : j < i
    · exact hj j h
    · rw [List.getElem?_eq_none (by omega), List.getElem?_eq_none (by omega)]
  | m + 1, 0, _, _, _, h, _, _ => absurd h (by omega)
  | m + 1, k + 1, i, acc, hm, hk, hl, hj => by
    unfold laws_toIntS.l0
    rw [if_pos (by omega), if_pos (by omega), if_pos (by omega), wrap64_id (by omega) (by omega)]
    have h2 := set_same x acc i (by omega) hl hj
    have e : ((i : Int) + 1) = ((i + 1 : Nat) : Int) := by omega
    rw [e, show (i : Int).toNat = i by omega]
    exact toIntS_loop x hx m k (i + 1) _ (by omega) (by omega) h2.1 h2.2
theorem toIntS_eq {k : Nat} (x : List Int) (hx : x.length ≤ 1048576) (hk : 2000000 ≤ k) : laws_toIntS.f k x = some x := by
  unfold laws_toIntS.f
  rw [if_pos (by omega), if_pos (by omega)]
  exact toIntS_loop x (by omega) x.length k 0 _ (by omega) (by omega) (by simp) (fun j h => absurd h (by omega))
/-! laws_toIntS laws_toGaps -/
theorem toGaps_eq {k : Nat} (n : Int) (x : List Int) (hx : x.length ≤ 1048576) (hk : 2000000 ≤ k) : laws_toGaps.f k n x = some (n, x) := by
  unfold laws_toGaps.f
  rw [toIntS_eq x hx hk]; rfl
/-! laws_szIntS -/
theorem szIntS_eq (x : List Int) (a : Int) (hx : x.length ≤ 9223372036854775807) (h0 : 0 ≤ a) (h : a ≤ 1048576) : laws_szIntS.f x a = some (if (x.length : Int) ≤ a then a - x.length else -1) := by
  unfold laws_szIntS.f
  rw [wrap64_id (by omega) (by omega)]
  by_cases c : (x.length : Int) ≤ a
  · rw [if_neg (by omega), if_pos c]
  · rw [if_pos (by omega), if_neg c]
/-! laws_szIntS laws_szGaps -/
theorem szGaps_eq (n : Int) (x : List Int) (a : Int) (hx : x.length ≤ 9223372036854775807) (h0 : 0 ≤ a) (h : a ≤ 1048576) : laws_szGaps.f n x a = some (if (x.length : Int) ≤ a then a - x.length else -1) := by
  unfold laws_szGaps.f
  rw [szIntS_eq x a hx h0 h]
  show (if (if (x.length : Int) ≤ a then a - x.length else -1) < 0 then (some (-1)) else some (if (x.length : Int) ≤ a then a - x.length else -1)) = _
  by_cases c : (x.length : Int) ≤ a
  · simp only [if_pos c]; rw [if_neg (by omega)]
  · simp only [if_neg c]; rw [if_pos (by omega)]
/-! laws_eqIntS -/
theorem eqIntS_loop (x : List Int) (hx : x.length ≤ 1099511627776) : ∀ (m : Nat) (k i : Nat), i + m = x.length → m < k → laws_eqIntS.l0 k x x (i : Int) = some true
  | 0, 0, _, _, h => absurd h (by omega)
  | 0, k + 1, i, hm, _ => by unfold laws_eqIntS.l0; rw [if_neg (by omega)]
  | m + 1, 0, _, _, h => absurd h (by omega)
  | m + 1, k + 1, i, hm, hk => by
    unfold laws_eqIntS.l0
    rw [if_pos (by omega), if_pos (by omega), if_pos (by omega), if_pos rfl, wrap64_id (by omega) (by omega)]
    exact eqIntS_loop x hx m k (i + 1) (by omega) (by omega)
theorem eqIntS_refl {k : Nat} (x : List Int) (hx : x.length ≤ 1048576) (hk : 2000000 ≤ k) : laws_eqIntS.f k x x = some true := by
  unfold laws_eqIntS.f
  rw [if_pos rfl]
  exact eqIntS_loop x (by omega) x.length k 0 (by omega) (by omega)
/-! laws_eqIntS laws_eqGaps -/
theorem eqGaps_refl {k : Nat} (n : Int) (x : List Int) (hx : x.length ≤ 1048576) (hk : 2000000 ≤ k) : laws_eqGaps.f k n x n x = some true := by
  unfold laws_eqGaps.f
  rw [if_pos rfl, eqIntS_refl x hx hk]; rfl
/-! spec_l11At -/
theorem sl11At_eq {n : Int} {d : List Int} {i j : Int} (h0 : 0 ≤ n) (h : n ≤ 12) (hl : (d.length : Int) = (n + 1) * (n + 1)) (hi0 : 0 ≤ i) (hi : i ≤ n) (hj0 : 0 ≤ j) (hj : j ≤ n) :
    spec_l11At.f n d i j = some (gat n d i j) := by
  have := idx_in h0 h hi0 hi hj0 hj
  unfold spec_l11At.f gat
  rw [idx_w h0 h hi0 hi hj0 hj, if_pos (by omega), if_pos (by omega)]
/-! impl_Gaps_at -/
theorem gapsAt_eq {n : Int} {d : List Int} {i j : Int} (h0 : 0 ≤ n) (h : n ≤ 12) (hi0 : 0 ≤ i) (hi : i ≤ n) (hj0 : 0 ≤ j) (hj : j ≤ n) :
    impl_Gaps_at.f n d i j = some (i * (n + 1) + j) := by
  unfold impl_Gaps_at.f
  rw [idx_w h0 h hi0 hi hj0 hj]
/-! spec_l1In spec_l11At spec_GapsOk -/
theorem sGapsOk_l1 {n : Int} {d : List Int} (h0 : 0 ≤ n) (h : n ≤ 12) (hl : (d.length : Int) = (n + 1) * (n + 1)) (i : Int) (hi0 : 0 ≤ i) (hi : i ≤ n) (K : Nat) (Q : Prop)
    (rest : ∀ k, K ≤ k → Tot (spec_GapsOk.l0 k (i + 1) n d) fun b => b = true ↔ Q) : ∀ (m : Nat) (k : Nat) (j : Int), (n + 1 - j).toNat = m → 0 ≤ j → j ≤ n + 1 → K + m < k →
    Tot (spec_GapsOk.l1 k i j n d) fun b => b = true ↔ (∀ j' : Int, j ≤ j' → j' ≤ n → DIn (gat n d i j') ∧ (i = j' → gat n d i j' = 0)) ∧ Q
  | m, 0, j, _, _, _, hk => absurd hk (by omega)
  | 0, k + 1, j, hm, hj, hj', hk => by
    unfold spec_GapsOk.l1
    rw [if_neg (by omega), wrap64_id (by omega) (by omega)]
    refine (rest k (by omega)).mono fun b hb => hb.trans ⟨fun q => ⟨fun j' a c => absurd a (by omega), q⟩, fun q => q.2⟩
  | m + 1, k + 1, j, hm, hj, hj', hk => by
    unfold spec_GapsOk.l1
    rw [if_pos (by omega), sl11At_eq h0 h hl hi0 hi hj (by omega)]
    show Tot ((spec_l1In.f (gat n d i j) (-1099511627776) 1099511627776).bind _) _
    rw [sin_eq]
    have next : DIn (gat n d i j) → (i = j → gat n d i j = 0) → Tot (spec_GapsOk.l1 k i (wrap64 (j + 1)) n d) fun b => b = true ↔ (∀ j' : Int, j ≤ j' → j' ≤ n → DIn (gat n d i j') ∧ (i = j' → gat n d i j' = 0)) ∧ Q := by
      intro a c
      rw [wrap64_id (by omega) (by omega)]
      refine (sGapsOk_l1 h0 h hl i hi0 hi K Q rest m k (j + 1) (by omega) (by omega) (by omega) (by omega)).mono fun b hb => hb.trans ⟨fun q => ⟨fun j' p p' => ?_, q.2⟩, fun q => ⟨fun j' p p' => q.1 j' (by omega) p', q.2⟩⟩
      by_cases e : j' = j
      · subst e; exact ⟨a, c⟩
      · exact q.1 j' (by omega) p'
    refine Tot.ite (fun c => ?_) (fun c => ?_)
    · have c' : DIn (gat n d i j) := (of_decide_eq_true c : -1099511627776 ≤ gat n d i j ∧ gat n d i j ≤ 1099511627776)
      refine Tot.ite (fun e => ?_) (fun e => next c' fun e' => absurd e' e)
      refine Tot.ite (fun z => next c' fun _ => z) (fun z => Tot.here ⟨fun f => (nomatch f), fun q => absurd ((q.1 j (by omega) (by omega)).2 e) z⟩)
    · refine Tot.here ⟨fun f => (nomatch f), fun q => ?_⟩
      have := (q.1 j (by omega) (by omega)).1
      exact absurd (decide_eq_true (show -1099511627776 ≤ gat n d i j ∧ gat n d i j ≤ 1099511627776 from this)) c
theorem sGapsOk_l0 {n : Int} {d : List Int} (h0 : 0 ≤ n) (h : n ≤ 12) (hl : (d.length : Int) = (n + 1) * (n + 1)) : ∀ (m : Nat) (k : Nat) (i : Int), (n + 1 - i).toNat = m → 0 ≤ i → i ≤ n + 1 → 20 * m < k →
    Tot (spec_GapsOk.l0 k i n d) fun b => b = true ↔ ∀ i' j : Int, i ≤ i' → i' ≤ n → 0 ≤ j → j ≤ n → DIn (gat n d i' j) ∧ (i' = j → gat n d i' j = 0)
  | m, 0, i, _, _, _, hk => absurd hk (by omega)
  | 0, k + 1, i, hm, hi, hi', hk => by
    unfold spec_GapsOk.l0
    rw [if_neg (by omega)]
    exact Tot.here ⟨fun _ i' j a b => absurd a (by omega), fun _ => rfl⟩
  | m + 1, k + 1, i, hm, hi, hi', hk => by
    unfold spec_GapsOk.l0
    rw [if_pos (by omega)]
    refine (sGapsOk_l1 h0 h hl i hi (by omega) (20 * m + 1) _ (fun k hk => sGapsOk_l0 h0 h hl m k (i + 1) (by omega) (by omega) (by omega) (by omega)) _ k 0 rfl (by omega) (by omega) (by omega)).mono fun b hb => hb.trans ⟨fun q i' j a b c e => ?_, fun q => ⟨fun j' a b => q i j' (by omega) (by omega) a b, fun i' j a b c e => q i' j (by omega) b c e⟩⟩
    by_cases e' : i' = i
    · subst e'; exact q.1 j c e
    · exact q.2 i' j (by omega) b c e
theorem sGapsOk_tot {k : Nat} (n : Int) (d : List Int) (hk : 1000 ≤ k) : Tot (spec_GapsOk.f k n d) fun b => b = true ↔ GOk n d := by
  obtain ⟨k, rfl⟩ : ∃ j, k = j + 1 := ⟨k - 1, by omega⟩
  unfold spec_GapsOk.f
  rw [sin_eq]
  show Tot (if decide (0 ≤ n ∧ n ≤ 12) = true then _ else _) _
  refine Tot.ite (fun c => ?_) (fun c => ?_)
  · have c := of_decide_eq_true c
    rw [sq_w c.1 c.2]
    rw [spec_GapsOk.j0]
    by_cases e : (d.length : Int) = (n + 1) * (n + 1)
    · have : ((d.length : Int) != (n + 1) * (n + 1)) = false := bne_eq_false_iff_eq.mpr e
      rw [this, if_neg (by simp)]
      exact (sGapsOk_l0 c.1 c.2 e _ k 0 rfl (by omega) (by omega) (by omega)).mono fun b hb => hb.trans (GOk.of_all c.1 c.2 e).symm
    · have : ((d.length : Int) != (n + 1) * (n + 1)) = true := bne_iff_ne.mpr e
      rw [this, if_pos rfl]
      exact Tot.here ⟨fun f => (nomatch f), fun q => absurd q.2.2.1 e⟩
  · rw [spec_GapsOk.j0]
    rw [if_pos rfl]
    exact Tot.here ⟨fun f => (nomatch f), fun q => absurd (decide_eq_true (show 0 ≤ n ∧ n ≤ 12 from ⟨q.1, q.2.1⟩)) c⟩
theorem sGapsOk_yes {k : Nat} {n : Int} {d : List Int} (h : GOk n d) (hk : 1000 ≤ k) : spec_GapsOk.f k n d = some true := by
  obtain ⟨b, e, hb⟩ := sGapsOk_tot (k := k) n d hk
  rw [e, hb.mpr h]
theorem sGapsOk_no {k : Nat} {n : Int} {d : List Int} (h : ¬ GOk n d) (hk : 1000 ≤ k) : spec_GapsOk.f k n d = some false := by
  obtain ⟨b, e, hb⟩ := sGapsOk_tot (k := k) n d hk
  rw [e]
  cases b with
  | false => rfl
  | true => exact absurd (hb.mp rfl) h
/-! impl_Gaps_at impl_GapsOk -/
theorem gapsOk_l1 (d : List Int) (hd : d.length ≤ 1000) : ∀ (m : Nat) (k : Nat) (p : Int), ((d.length : Int) - p).toNat = m → 0 ≤ p → p ≤ d.length → m < k →
    Tot (impl_GapsOk.l1 k d (d.length : Int) p) fun b => b = true ↔ ∀ q : Int, p ≤ q → q < (d.length : Int) → DIn (rd d q)
  | m, 0, p, _, _, _, hk => absurd hk (by omega)
  | 0, k + 1, p, hm, hp, hp', hk => by
    unfold impl_GapsOk.l1
    rw [if_neg (by omega)]
    exact Tot.here ⟨fun _ q a b => absurd a (by omega), fun _ => rfl⟩
  | m + 1, k + 1, p, hm, hp, hp', hk => by
    unfold impl_GapsOk.l1
    rw [if_pos (by omega), if_pos (by omega), if_pos (by omega)]
    refine Tot.ite (fun c => Tot.here ⟨fun f => (nomatch f), fun q => ?_⟩) (fun c => Tot.ite (fun c' => Tot.here ⟨fun f => (nomatch f), fun q => ?_⟩) (fun c' => ?_))
    · have := (q p (by omega) (by omega)).1; omega
    · have := (q p (by omega) (by omega)).2; omega
    · rw [wrap64_id (by omega) (by omega)]
      refine (gapsOk_l1 d hd m k (p + 1) (by omega) (by omega) (by omega) (by omega)).mono fun b hb => hb.trans ⟨fun q r a b => ?_, fun q r a b => q r (by omega) b⟩
      by_cases e : r = p
      · subst e; exact ⟨by omega, by omega⟩
      · exact q r (by omega) b
theorem gapsOk_l0 {n : Int} {d : List Int} (h0 : 0 ≤ n) (h : n ≤ 12) (hl : (d.length : Int) = (n + 1) * (n + 1)) (hd : d.length ≤ 1000) : ∀ (m : Nat) (k : Nat) (i : Int), (n + 1 - i).toNat = m → 0 ≤ i → i ≤ n + 1 → 1500 + m < k →
    Tot (impl_GapsOk.l0 k (n + 1) i n d) fun b => b = true ↔ (∀ i' : Int, i ≤ i' → i' ≤ n → rd d (i' * (n + 1) + i') = 0) ∧ ∀ q : Int, 0 ≤ q → q < (d.length : Int) → DIn (rd d q)
  | m, 0, p, _, _, _, hk => absurd hk (by omega)
  | 0, k + 1, i, hm, hi, hi', hk => by
    unfold impl_GapsOk.l0
    rw [if_neg (by omega)]
    refine (gapsOk_l1 d hd _ k 0 rfl (by omega) (by omega) (by omega)).mono fun b hb => hb.trans ⟨fun q => ⟨fun i' a b => absurd a (by omega), q⟩, fun q => q.2⟩
  | m + 1, k + 1, i, hm, hi, hi', hk => by
    unfold impl_GapsOk.l0
    have ix := idx_in h0 h hi (by omega : i ≤ n) hi (by omega)
    rw [if_pos (by omega), gapsAt_eq h0 h hi (by omega) hi (by omega)]
    show Tot (if 0 ≤ i * (n + 1) + i then _ else _) _
    rw [if_pos (by omega), if_pos (by omega)]
    refine Tot.ite (fun c => ?_) (fun c => Tot.here ⟨fun f => (nomatch f), fun q => absurd (q.1 i (by omega) (by omega)) c⟩)
    rw [wrap64_id (by omega) (by omega)]
    refine (gapsOk_l0 h0 h hl hd m k (i + 1) (by omega) (by omega) (by omega) (by omega)).mono fun b hb => hb.trans ⟨fun q => ⟨fun i' a b => ?_, q.2⟩, fun q => ⟨fun i' a b => q.1 i' (by omega) b, q.2⟩⟩
    by_cases e : i' = i
    · subst e; exact c
    · exact q.1 i' (by omega) b
theorem gapsOk_tot {k : Nat} (n : Int) (d : List Int) (hk : 2000 ≤ k) : Tot (impl_GapsOk.f k n d) fun b => b = true ↔ GOk n d := by
  obtain ⟨k, rfl⟩ : ∃ j, k = j + 1 := ⟨k - 1, by omega⟩
  unfold impl_GapsOk.f
  have no : ¬ GOk n d → Tot (impl_GapsOk.j0 (k + 1) true n d) fun b => b = true ↔ GOk n d := by
    intro hn
    rw [impl_GapsOk.j0]
    rw [if_pos rfl]
    exact Tot.here ⟨fun f => (nomatch f), fun q => absurd q hn⟩
  refine Tot.ite (fun c => no fun q => by have := q.1; omega) (fun c => Tot.ite (fun c' => no fun q => by have := q.2.1; omega) (fun c' => ?_))
  have a : 0 ≤ n := by omega
  have b : n ≤ 12 := by omega
  rw [sq_w a b]
  by_cases e : (d.length : Int) = (n + 1) * (n + 1)
  · have : ((d.length : Int) != (n + 1) * (n + 1)) = false := bne_eq_false_iff_eq.mpr e
    have ix := idx_in a b a (Int.le_refl n) a (Int.le_refl n)
    have big : d.length ≤ 1000 := by rcases twelve a b with rfl | rfl | rfl | rfl | rfl | rfl | rfl | rfl | rfl | rfl | rfl | rfl | rfl <;> omega
    rw [this]
    rw [impl_GapsOk.j0]
    rw [if_neg (by simp), wrap64_id (x := n + 1) (by omega) (by omega)]
    refine (gapsOk_l0 a b e big _ k 0 rfl (by omega) (by omega) (by omega)).mono fun r hr => hr.trans ⟨fun q => ⟨a, b, e, q.2, q.1⟩, fun q => ⟨q.2.2.2.2, q.2.2.2.1⟩⟩
  · have : ((d.length : Int) != (n + 1) * (n + 1)) = true := bne_iff_ne.mpr e
    rw [this]
    exact no fun q => e q.2.2.1
theorem gapsOk_yes {k : Nat} {n : Int} {d : List Int} (h : GOk n d) (hk : 2000 ≤ k) : impl_GapsOk.f k n d = some true := by
  obtain ⟨b, e, hb⟩ := gapsOk_tot (k := k) n d hk
  rw [e, hb.mpr h]
theorem gapsOk_no {k : Nat} {n : Int} {d : List Int} (h : ¬ GOk n d) (hk : 2000 ≤ k) : impl_GapsOk.f k n d = some false := by
  obtain ⟨b, e, hb⟩ := gapsOk_tot (k := k) n d hk
  rw [e]
  cases b with
  | false => rfl
  | true => exact absurd (hb.mp rfl) h
/-! spec_l1In spec_GapsOk spec_l11Two -/
theorem sl11Two_eq {k : Nat} (n : Int) (d : List Int) (n' : Int) (d' : List Int) (hk : 2000000 ≤ k) : Tot (spec_l11Two.f k n d n' d') fun b => b = true ↔ GOk n d ∧ GOk n' d' ∧ n = n' := by
  unfold spec_l11Two.f
  by_cases g : GOk n d
  · rw [sGapsOk_yes g (by omega)]
    by_cases g' : GOk n' d'
    · rw [sGapsOk_yes g' (by omega)]
      exact ⟨_, rfl, by simp [g, g']⟩
    · rw [sGapsOk_no g' (by omega)]
      exact ⟨_, rfl, ⟨fun f => (nomatch f), fun q => absurd q.2.1 g'⟩⟩
  · rw [sGapsOk_no g (by omega)]
    exact ⟨_, rfl, ⟨fun f => (nomatch f), fun q => absurd q.1 g⟩⟩
/-! impl_GapsIn -/
theorem gapsIn_l0 (x y : List Int) (n : Int) (hl : x.length = y.length) (hx : x.length ≤ 169) (le : ∀ p : Int, 0 ≤ p → p < (x.length : Int) → rd x p ≤ rd y p) : ∀ (m k : Nat) (p : Int), ((x.length : Int) - p).toNat = m → 0 ≤ p → p ≤ (x.length : Int) → m < k → impl_GapsIn.l0 k x (x.length : Int) p n y = some true
  | m, 0, _, _, _, _, h => absurd h (by omega)
  | 0, k + 1, p, hm, hp, hp', hk => by rw [impl_GapsIn.l0, if_neg (show ¬ p < (x.length : Int) by omega)]
  | m + 1, k + 1, p, hm, hp, hp', hk => by
    have := le p hp (by omega)
    rw [impl_GapsIn.l0, if_pos (show p < (x.length : Int) by omega), if_pos hp, if_pos (show p < (x.length : Int) by omega), if_pos (show p < (y.length : Int) by omega), if_neg (show ¬ rd x p > rd y p by omega), wrap64_id (x := p + 1) (by omega) (by omega)]
    exact gapsIn_l0 x y n hl hx le m k (p + 1) (by omega) (by omega) (by omega) (by omega)
theorem gapsIn_yes {k : Nat} {n : Int} {x y : List Int} (g : GOk n x) (g' : GOk n y) (le : ∀ p : Int, 0 ≤ p → p < (x.length : Int) → rd x p ≤ rd y p) (hk : 5000 ≤ k) : impl_GapsIn.f k n x n y = some true := by
  obtain ⟨k, rfl⟩ : ∃ j, k = j + 1 := ⟨k - 1, by omega⟩
  have ne : (n != n) = false := by simp
  have a := g.2.2.1
  have b := g'.2.2.1
  have c := len_small g.1 g.2.1 a
  unfold impl_GapsIn.f
  rw [gapsOk_yes g (by omega), Option.bind_some, if_pos rfl, gapsOk_yes g' (by omega), Option.bind_some, if_pos rfl, ne, impl_GapsIn.j0, if_neg (show ¬ (false = true) by decide)]
  exact gapsIn_l0 x y n (by omega) c le _ k 0 rfl (by omega) (by omega) (by omega)
/-! impl_Val_none -/
theorem valNone_q (a b c d : Int) : impl_Val_none.f a b c d = some (a == 1 && (b == 0 && (c == 0 && (d == 0)))) := rfl
/-! spec_l12RefOk impl_refOk -/
def RefOk (null : Bool) (x : List Int) (a b c d : Int) : Prop := VOk a b c d ∧ (VN a b c d ↔ x = []) ∧ Asc x ∧ (null = true ∨ x ≠ [])
def lastOf (x : List Int) (i : Int) : Int := if i = 0 then -1 else rd x (i - 1)
theorem ne_iff {p q : Prop} {b b' : Bool} (h : b = true ↔ p) (h' : b' = true ↔ q) : (b != b') = false ↔ (p ↔ q) := by
  cases b <;> cases b' <;> simp_all
theorem nil_iff (x : List Int) : ((x.length : Int) == 0) = true ↔ x = [] := by
  cases x with
  | nil => simp
  | cons a l => simp; omega
theorem refOk_l0 {k : Nat} (null : Bool) (x : List Int) (a b c d : Int) (hx : x.length ≤ 1048576) (hk : 2000000 ≤ k) : Tot (impl_refOk.l0 k (-1) x (x.length : Int) 0 null x a b c d) fun r => r = true ↔ Asc x ∧ (null = true ∨ x ≠ []) := by
  have h : Tot (impl_refOk.l0 k (lastOf x 0) x (x.length : Int) 0 null x a b c d) fun r => r = true ↔ (∀ j : Int, 0 ≤ j → j < (x.length : Int) → lastOf x j < rd x j) ∧ (null = true ∨ x ≠ []) := by
    refine scan (g := fun k i => impl_refOk.l0 k (lastOf x i) x (x.length : Int) i null x a b c d) (n := (x.length : Int)) 0 (fun k i R _ h0 h1 yes no => ?_) (fun k _ => ?_) _ k 0 rfl (by omega) (by omega) (by omega)
    · try dsimp only at yes ⊢
      rw [impl_refOk.l0, if_pos h1, if_pos h0, if_pos h1, wrap64_id (x := i + 1) (by omega) (by omega)]
      refine Tot.ite (fun z => Tot.here (no (by omega))) (fun z => ?_)
      have e : lastOf x (i + 1) = rd x i := by
        unfold lastOf
        rw [if_neg (by omega), show i + 1 - 1 = i by omega]
      rw [← e]
      exact yes (by omega)
    · try dsimp only
      rw [impl_refOk.l0, if_neg (by omega)]
      refine Tot.ite (fun z => Tot.here ⟨fun _ => .inl z, fun _ => rfl⟩) (fun z => Tot.here ?_)
      rw [decide_eq_true_iff]
      cases x with
      | nil => simp [z]
      | cons a l => simp
  obtain ⟨r, h1, h2⟩ := h
  exact ⟨r, h1, h2.trans (by rw [asc_iff]; exact Iff.rfl)⟩
theorem refOk_tot {k : Nat} (null : Bool) (x : List Int) (a b c d : Int) (hx : x.length ≤ 1048576) (hk : 3000000 ≤ k) : Tot (impl_refOk.f k null x a b c d) fun r => r = true ↔ RefOk null x a b c d := by
  obtain ⟨k, rfl⟩ : ∃ j, k = j + 1 := ⟨k - 1, by omega⟩
  unfold impl_refOk.f
  rw [valOk_eq (k + 1) (by omega), Option.bind_some]
  by_cases o : VOk a b c d
  · rw [decide_eq_true o, if_pos rfl, valNone_q, Option.bind_some, impl_refOk.j0]
    by_cases e : VN a b c d ↔ x = []
    · rw [(ne_iff (vn_iff a b c d) (nil_iff x)).mpr e, if_neg (show ¬ (false = true) by decide)]
      exact (refOk_l0 null x a b c d hx (by omega)).mono fun r hr => hr.trans ⟨fun q => ⟨o, e, q.1, q.2⟩, fun q => ⟨q.2.2.1, q.2.2.2⟩⟩
    · have ne : ((a == 1 && (b == 0 && (c == 0 && (d == 0)))) != ((x.length : Int) == 0)) = true := by
        rw [← Bool.not_eq_false]; exact fun z => e ((ne_iff (vn_iff a b c d) (nil_iff x)).mp z)
      rw [ne, if_pos rfl]
      exact Tot.here ⟨fun f => (nomatch f), fun q => absurd q.2.1 e⟩
  · rw [decide_eq_false o, if_neg (show ¬ (false = true) by decide), impl_refOk.j0, if_pos rfl]
    exact Tot.here ⟨fun f => (nomatch f), fun q => absurd q.1 o⟩
theorem srefOk_l0 {k : Nat} (null : Bool) (x : List Int) (a b c d : Int) (hx : x.length ≤ 1048576) (hk : 2000000 ≤ k) : Tot (spec_l12RefOk.l0 k 0 null x a b c d) fun r => r = true ↔ Asc x := by
  have h : Tot (spec_l12RefOk.l0 k 0 null x a b c d) fun r => r = true ↔ (∀ j : Int, 0 ≤ j → j < (x.length : Int) → 0 ≤ rd x j ∧ (0 < j → rd x (j - 1) < rd x j)) ∧ True := by
    refine scan (g := fun k i => spec_l12RefOk.l0 k i null x a b c d) (n := (x.length : Int)) 0 (fun k i R _ h0 h1 yes no => ?_) (fun k _ => ?_) _ k 0 rfl (by omega) (by omega) (by omega)
    · try dsimp only at yes ⊢
      rw [spec_l12RefOk.l0, if_pos h1, if_pos h0, wrap64_id (x := i + 1) (by omega) (by omega)]
      refine Tot.ite (fun z => Tot.here (no (by omega))) (fun z => ?_)
      refine Tot.ite (fun z2 => ?_) (fun z2 => yes ⟨by omega, fun h => absurd h (by omega)⟩)
      rw [wrap64_id (x := i - 1) (by omega) (by omega), if_pos (by omega), if_pos (by omega)]
      refine Tot.ite (fun z3 => Tot.here (no (fun q => by have := q.2 (by omega); omega))) (fun z3 => yes ⟨by omega, fun _ => by omega⟩)
    · try dsimp only
      rw [spec_l12RefOk.l0, if_neg (by omega)]
      exact Tot.here ⟨fun _ => trivial, fun _ => rfl⟩
  obtain ⟨r, h1, h2⟩ := h
  exact ⟨r, h1, h2.trans ⟨fun q => q.1, fun q => ⟨q, trivial⟩⟩⟩
theorem srefOk_tot {k : Nat} (null : Bool) (x : List Int) (a b c d : Int) (hx : x.length ≤ 1048576) (hk : 3000000 ≤ k) : Tot (spec_l12RefOk.f k null x a b c d) fun r => r = true ↔ RefOk null x a b c d := by
  obtain ⟨k, rfl⟩ : ∃ j, k = j + 1 := ⟨k - 1, by omega⟩
  unfold spec_l12RefOk.f
  rw [svalOk_eq (k + 1) (by omega), Option.bind_some]
  by_cases o : VOk a b c d
  · rw [decide_eq_true o, if_pos rfl, svalNone_eq, Option.bind_some]
    show Tot (if (((x.length : Int) == 0) != (a == 1 && (b == 0 && (c == 0 && (d == 0))))) = true then _ else _) _
    by_cases e : VN a b c d ↔ x = []
    · rw [(ne_iff (nil_iff x) (vn_iff a b c d)).mpr e.symm, if_neg (show ¬ (false = true) by decide)]
      have fin : (null = true ∨ x ≠ []) → Tot (spec_l12RefOk.j0 (k + 1) false null x a b c d) fun r => r = true ↔ RefOk null x a b c d := fun z => by
        rw [spec_l12RefOk.j0, if_neg (show ¬ (false = true) by decide)]
        exact (srefOk_l0 null x a b c d hx (by omega)).mono fun r hr => hr.trans ⟨fun q => ⟨o, e, q, z⟩, fun q => q.2.2.1⟩
      refine Tot.ite (fun z => fin (.inl z)) (fun z => ?_)
      by_cases y : x = []
      · rw [(nil_iff x).mpr y, spec_l12RefOk.j0, if_pos rfl]
        exact Tot.here ⟨fun f => (nomatch f), fun q => q.2.2.2.elim (fun n => absurd n z) (fun n => absurd y n)⟩
      · have : ((x.length : Int) == 0) = false := by rw [← Bool.not_eq_true]; exact fun h => y ((nil_iff x).mp h)
        rw [this]
        exact fin (.inr y)
    · have ne : (((x.length : Int) == 0) != (a == 1 && (b == 0 && (c == 0 && (d == 0))))) = true := by
        rw [← Bool.not_eq_false]; exact fun z => e ((ne_iff (nil_iff x) (vn_iff a b c d)).mp z).symm
      rw [ne, if_pos rfl, spec_l12RefOk.j0, if_pos rfl]
      exact Tot.here ⟨fun f => (nomatch f), fun q => absurd q.2.1 e⟩
  · rw [decide_eq_false o, if_neg (show ¬ (false = true) by decide), spec_l12RefOk.j0, if_pos rfl]
    exact Tot.here ⟨fun f => (nomatch f), fun q => absurd q.1 o⟩
/-! spec_AbsOk impl_AbsOk -/
def VGood (v : S30) : Prop := VOk v.f0 v.f1 v.f2 v.f3 ∧ ¬ VN v.f0 v.f1 v.f2 v.f3
def RGood (r : S132) : Prop := RefOk r.f0 r.f1 r.f2.f0 r.f2.f1 r.f2.f2 r.f2.f3
def AOk (live : Bool) (ints : List S30) (refs : List S132) (cells : List S30) (n : Int) (d : List Int) : Prop :=
  (live = true ∧ (∀ v ∈ ints, VGood v) ∧ (∀ v ∈ cells, VGood v) ∧ (∀ r ∈ refs, RGood r) ∧ GOk n d ∧ n = (ints.length : Int)) ∨
  (live = false ∧ ints = [] ∧ refs = [] ∧ cells = [] ∧ n = 0 ∧ d = [])
/-- How long the rows may be. -/
def ASmall (ints : List S30) (refs : List S132) (cells : List S30) : Prop := ints.length ≤ 1048576 ∧ refs.length ≤ 1048576 ∧ cells.length ≤ 1048576 ∧ ∀ r ∈ refs, r.f1.length ≤ 1048576
theorem arr_small {refs : List S132} (h : ∀ r ∈ refs, r.f1.length ≤ 1048576) {i : Int} (h0 : 0 ≤ i) (h1 : i < (refs.length : Int)) : (rd_T132 refs i).f1.length ≤ 1048576 :=
  (all_get refs z132 (fun r => r.f1.length ≤ 1048576)).mpr h i h0 h1
theorem sl12Vals_tot {k : Nat} (x : List S30) (hx : x.length ≤ 1048576) (hk : 2000000 ≤ k) : Tot (spec_l12Vals.f k x) fun r => r = true ↔ ∀ v ∈ x, VGood v := by
  unfold spec_l12Vals.f
  have h : Tot (spec_l12Vals.l0 k x 0) fun r => r = true ↔ (∀ j : Int, 0 ≤ j → j < (x.length : Int) → VGood (rd_T30 x j)) ∧ True := by
    refine scan (g := fun k i => spec_l12Vals.l0 k x i) (n := (x.length : Int)) 10 (fun k i R hk h0 h1 yes no => ?_) (fun k _ => ?_) _ k 0 rfl (by omega) (by omega) (by omega)
    · try dsimp only at yes ⊢
      rw [spec_l12Vals.l0, if_pos h1, if_pos h0, wrap64_id (x := i + 1) (by omega) (by omega), svalOk_eq k (by omega), Option.bind_some]
      by_cases o : VOk (rd_T30 x i).f0 (rd_T30 x i).f1 (rd_T30 x i).f2 (rd_T30 x i).f3
      · rw [decide_eq_true o, if_pos rfl, svalNone_eq, Option.bind_some]
        refine Tot.ite (fun z => Tot.here (no fun q => q.2 ((vn_iff _ _ _ _).mp z))) (fun z => yes ⟨o, fun q => z ((vn_iff _ _ _ _).mpr q)⟩)
      · rw [decide_eq_false o, if_neg (show ¬ (false = true) by decide)]
        exact Tot.here (no fun q => o q.1)
    · try dsimp only
      rw [spec_l12Vals.l0, if_neg (by omega)]
      exact Tot.here ⟨fun _ => trivial, fun _ => rfl⟩
  obtain ⟨r, h1, h2⟩ := h
  exact ⟨r, h1, h2.trans ⟨fun q => (all_get x z30 VGood).mp q.1, fun q => ⟨(all_get x z30 VGood).mpr q, trivial⟩⟩⟩
theorem dead_tot {k : Nat} {f : Option Bool} (ints : List S30) (refs : List S132) (cells : List S30) (n : Int) (d : List Int)
    (e : f = if (ints.length : Int) = 0 then (if (refs.length : Int) = 0 then (if (cells.length : Int) = 0 then (if n = 0 then (some ((d.length : Int) == 0)) else (some false)) else (some false)) else (some false)) else (some false)) :
    Tot f fun b => b = true ↔ AOk false ints refs cells n d := by
  subst e
  have len : ∀ {α : Type} (l : List α), (l.length : Int) = 0 ↔ l = [] := fun l => by cases l <;> simp; omega
  have red : AOk false ints refs cells n d ↔ ints = [] ∧ refs = [] ∧ cells = [] ∧ n = 0 ∧ d = [] := by simp [AOk]
  refine Tot.ite (fun c1 => ?_) (fun c1 => Tot.here ⟨fun f => (nomatch f), fun q => absurd ((len _).mpr (red.mp q).1) c1⟩)
  refine Tot.ite (fun c2 => ?_) (fun c2 => Tot.here ⟨fun f => (nomatch f), fun q => absurd ((len _).mpr (red.mp q).2.1) c2⟩)
  refine Tot.ite (fun c3 => ?_) (fun c3 => Tot.here ⟨fun f => (nomatch f), fun q => absurd ((len _).mpr (red.mp q).2.2.1) c3⟩)
  refine Tot.ite (fun c4 => ?_) (fun c4 => Tot.here ⟨fun f => (nomatch f), fun q => absurd (red.mp q).2.2.2.1 c4⟩)
  exact Tot.here (((nil_iff d).trans ⟨fun q => ⟨(len _).mp c1, (len _).mp c2, (len _).mp c3, c4, q⟩, fun q => q.2.2.2.2⟩).trans red.symm)
theorem absOk_tot {k : Nat} {live : Bool} {ints : List S30} {refs : List S132} {cells : List S30} {n : Int} {d : List Int} (sm : ASmall ints refs cells) (hk : 20000000 ≤ k) :
    Tot (impl_AbsOk.f k live ints refs cells n d) fun b => b = true ↔ AOk live ints refs cells n d := by
  obtain ⟨hi, hr, hc, ha⟩ := sm
  unfold impl_AbsOk.f
  cases live with
  | false =>
    rw [if_neg (show ¬ (false = true) by decide)]
    exact dead_tot (k := k) ints refs cells n d rfl
  | true =>
    rw [if_pos rfl]
    have h2 : ∀ k, 8000000 ≤ k → Tot (impl_AbsOk.l2 k refs (refs.length : Int) 0 true ints refs cells n d) fun b => b = true ↔ (∀ j : Int, 0 ≤ j → j < (refs.length : Int) → RGood (rd_T132 refs j)) ∧ GOk n d ∧ n = (ints.length : Int) := by
      intro k hk
      refine scan (g := fun k i => impl_AbsOk.l2 k refs (refs.length : Int) i true ints refs cells n d) (n := (refs.length : Int)) 4000000 (fun k i R hk h0 h1 yes no => ?_) (fun k hk => ?_) _ k 0 rfl (by omega) (by omega) (by omega)
      · try dsimp only at yes ⊢
        rw [impl_AbsOk.l2, if_pos h1, if_pos h0, if_pos h1, wrap64_id (x := i + 1) (by omega) (by omega)]
        refine Tot.then (refOk_tot _ _ _ _ _ _ (arr_small ha h0 h1) (by omega)) ?_
        intro b hb
        exact Tot.ite (fun z => yes (hb.mp z)) (fun z => Tot.here (no fun q => z (hb.mpr q)))
      · try dsimp only
        rw [impl_AbsOk.l2, if_neg (by omega)]
        refine Tot.then (gapsOk_tot n d (by omega)) ?_
        intro b hb
        refine Tot.ite (fun z => Tot.here ?_) (fun z => Tot.here ⟨fun f => (nomatch f), fun q => absurd (hb.mpr q.1) z⟩)
        rw [beq_iff_eq]
        exact ⟨fun q => ⟨hb.mp z, q⟩, fun q => q.2⟩
    have h1 : ∀ k, 10000000 ≤ k → Tot (impl_AbsOk.l1 k cells (cells.length : Int) 0 true ints refs cells n d) fun b => b = true ↔ (∀ j : Int, 0 ≤ j → j < (cells.length : Int) → VGood (rd_T30 cells j)) ∧ (∀ j : Int, 0 ≤ j → j < (refs.length : Int) → RGood (rd_T132 refs j)) ∧ GOk n d ∧ n = (ints.length : Int) := by
      intro k hk
      refine scan (g := fun k i => impl_AbsOk.l1 k cells (cells.length : Int) i true ints refs cells n d) (n := (cells.length : Int)) 8000000 (fun k i R hk h0 h1 yes no => ?_) (fun k hk => ?_) _ k 0 rfl (by omega) (by omega) (by omega)
      · try dsimp only at yes ⊢
        rw [impl_AbsOk.l1, if_pos h1, if_pos h0, if_pos h1, wrap64_id (x := i + 1) (by omega) (by omega), valNone_q, Option.bind_some]
        refine Tot.ite (fun z => Tot.here (no fun q => q.2 ((vn_iff _ _ _ _).mp z))) (fun z => ?_)
        rw [valOk_eq k (by omega), Option.bind_some]
        exact Tot.ite (fun z2 => yes ⟨of_decide_eq_true z2, fun q => z ((vn_iff _ _ _ _).mpr q)⟩) (fun z2 => Tot.here (no fun q => z2 (decide_eq_true q.1)))
      · try dsimp only
        rw [impl_AbsOk.l1, if_neg (by omega)]
        exact h2 k (by omega)
    have h0 : Tot (impl_AbsOk.l0 k ints (ints.length : Int) 0 true ints refs cells n d) fun b => b = true ↔ (∀ j : Int, 0 ≤ j → j < (ints.length : Int) → VGood (rd_T30 ints j)) ∧ (∀ j : Int, 0 ≤ j → j < (cells.length : Int) → VGood (rd_T30 cells j)) ∧ (∀ j : Int, 0 ≤ j → j < (refs.length : Int) → RGood (rd_T132 refs j)) ∧ GOk n d ∧ n = (ints.length : Int) := by
      refine scan (g := fun k i => impl_AbsOk.l0 k ints (ints.length : Int) i true ints refs cells n d) (n := (ints.length : Int)) 12000000 (fun k i R hk h0 h1 yes no => ?_) (fun k hk => ?_) _ k 0 rfl (by omega) (by omega) (by omega)
      · try dsimp only at yes ⊢
        rw [impl_AbsOk.l0, if_pos h1, if_pos h0, if_pos h1, wrap64_id (x := i + 1) (by omega) (by omega), valNone_q, Option.bind_some]
        refine Tot.ite (fun z => Tot.here (no fun q => q.2 ((vn_iff _ _ _ _).mp z))) (fun z => ?_)
        rw [valOk_eq k (by omega), Option.bind_some]
        exact Tot.ite (fun z2 => yes ⟨of_decide_eq_true z2, fun q => z ((vn_iff _ _ _ _).mpr q)⟩) (fun z2 => Tot.here (no fun q => z2 (decide_eq_true q.1)))
      · try dsimp only
        rw [impl_AbsOk.l0, if_neg (by omega)]
        exact h1 k (by omega)
    obtain ⟨r, e1, e2⟩ := h0
    have a1 := all_get ints z30 VGood
    have a2 := all_get cells z30 VGood
    have a3 := all_get refs z132 RGood
    refine ⟨r, e1, e2.trans ⟨fun q => .inl ⟨rfl, a1.mp q.1, a2.mp q.2.1, a3.mp q.2.2.1, q.2.2.2.1, q.2.2.2.2⟩, fun q => ?_⟩⟩
    rcases q with q | q
    · exact ⟨a1.mpr q.2.1, a2.mpr q.2.2.1, a3.mpr q.2.2.2.1, q.2.2.2.2.1, q.2.2.2.2.2⟩
    · exact absurd q.1 (by decide)
theorem sabsOk_tot {k : Nat} {live : Bool} {ints : List S30} {refs : List S132} {cells : List S30} {n : Int} {d : List Int} (sm : ASmall ints refs cells) (hk : 20000000 ≤ k) :
    Tot (spec_AbsOk.f k live ints refs cells n d) fun b => b = true ↔ AOk live ints refs cells n d := by
  obtain ⟨hi, hr, hc, ha⟩ := sm
  unfold spec_AbsOk.f
  cases live with
  | false =>
    rw [if_neg (show ¬ (false = true) by decide)]
    exact dead_tot (k := k) ints refs cells n d rfl
  | true =>
    rw [if_pos rfl]
    have h0 : Tot (spec_AbsOk.l0 k 0 true ints refs cells n d) fun b => b = true ↔ (∀ j : Int, 0 ≤ j → j < (refs.length : Int) → RGood (rd_T132 refs j)) ∧ (∀ v ∈ ints, VGood v) ∧ (∀ v ∈ cells, VGood v) ∧ GOk n d ∧ n = (ints.length : Int) := by
      refine scan (g := fun k i => spec_AbsOk.l0 k i true ints refs cells n d) (n := (refs.length : Int)) 8000000 (fun k i R hk h0 h1 yes no => ?_) (fun k hk => ?_) _ k 0 rfl (by omega) (by omega) (by omega)
      · try dsimp only at yes ⊢
        rw [spec_AbsOk.l0, if_pos h1, if_pos h0, wrap64_id (x := i + 1) (by omega) (by omega)]
        refine Tot.then (srefOk_tot _ _ _ _ _ _ (arr_small ha h0 h1) (by omega)) ?_
        intro b hb
        exact Tot.ite (fun z => yes (hb.mp z)) (fun z => Tot.here (no fun q => z (hb.mpr q)))
      · try dsimp only
        rw [spec_AbsOk.l0, if_neg (by omega)]
        refine Tot.then (sl12Vals_tot ints hi (by omega)) ?_
        intro b1 hb1
        refine Tot.ite (fun z1 => ?_) (fun z1 => Tot.here ⟨fun f => (nomatch f), fun q => absurd (hb1.mpr q.1) z1⟩)
        refine Tot.then (sl12Vals_tot cells hc (by omega)) ?_
        intro b2 hb2
        refine Tot.ite (fun z2 => ?_) (fun z2 => Tot.here ⟨fun f => (nomatch f), fun q => absurd (hb2.mpr q.2.1) z2⟩)
        refine Tot.then (sGapsOk_tot n d (by omega)) ?_
        intro b hb
        refine Tot.ite (fun z => Tot.here ?_) (fun z => Tot.here ⟨fun f => (nomatch f), fun q => absurd (hb.mpr q.2.2.1) z⟩)
        rw [beq_iff_eq]
        exact ⟨fun q => ⟨hb1.mp z1, hb2.mp z2, hb.mp z, q⟩, fun q => q.2.2.2⟩
    obtain ⟨r, e1, e2⟩ := h0
    have a3 := all_get refs z132 RGood
    refine ⟨r, e1, e2.trans ⟨fun q => .inl ⟨rfl, q.2.1, q.2.2.1, a3.mp q.1, q.2.2.2.1, q.2.2.2.2⟩, fun q => ?_⟩⟩
    rcases q with q | q
    · exact ⟨a3.mpr q.2.2.2.1, q.2.1, q.2.2.1, q.2.2.2.2.1, q.2.2.2.2.2⟩
    · exact absurd q.1 (by decide)
/-! laws_toValS -/
def cv (x : S165) : S30 := ⟨x.f0, x.f1, x.f2, x.f3⟩
theorem toValS_eq {k : Nat} (x : List S165) (hx : x.length ≤ 1048576) (hk : 2000000 ≤ k) : laws_toValS.f k x = some (x.map cv) := by
  have hl : (x.map cv).length = x.length := List.length_map _
  unfold laws_toValS.f
  rw [if_pos (show 0 ≤ (x.length : Int) by omega), if_pos (show ((x.length : Int)).toNat ≤ 8796093022208 by omega)]
  refine fill (g := fun k acc i => laws_toValS.l0 k x acc i) (x.map cv) (fun i => cv (rd_T165 x i)) 0 (fun i h0 h1 => ?_) (fun k acc i _ h0 h1 ha => ?_) (fun k acc _ => ?_) _ k 0 _ rfl (by omega) (by omega) (by omega) (by simp) (fun j hj => absurd hj (by omega))
  · rw [List.getElem?_map]
    unfold rd_T165
    rw [List.getD_eq_getElem?_getD, List.getElem?_eq_getElem (show i.toNat < x.length by omega)]; rfl
  · try dsimp only
    rw [laws_toValS.l0, if_pos (show i < (x.length : Int) by omega), if_pos h0]
    show (if i < (acc.length : Int) then _ else _) = _
    rw [if_pos (by omega), wrap64_id (x := i + 1) (by omega) (by omega)]
    rfl
  · try dsimp only
    rw [laws_toValS.l0, if_neg (by omega)]
/-! laws_toRefValS laws_toIntS -/
def cr (x : S167) : S132 := ⟨x.f0, x.f1, cv x.f2⟩
theorem toRefValS_eq {k : Nat} (x : List S167) (hx : x.length ≤ 1048576) (ha : ∀ r ∈ x, r.f1.length ≤ 1048576) (hk : 4000000 ≤ k) : laws_toRefValS.f k x = some (x.map cr) := by
  have hl : (x.map cr).length = x.length := List.length_map _
  unfold laws_toRefValS.f
  rw [if_pos (show 0 ≤ (x.length : Int) by omega), if_pos (show ((x.length : Int)).toNat ≤ 4398046511104 by omega)]
  refine fill (g := fun k acc i => laws_toRefValS.l0 k x acc i) (x.map cr) (fun i => cr (rd_T167 x i)) 2000000 (fun i h0 h1 => ?_) (fun k acc i hk h0 h1 hl' => ?_) (fun k acc _ => ?_) _ k 0 _ rfl (by omega) (by omega) (by omega) (by simp) (fun j hj => absurd hj (by omega))
  · rw [List.getElem?_map]
    unfold rd_T167
    rw [List.getD_eq_getElem?_getD, List.getElem?_eq_getElem (show i.toNat < x.length by omega)]; rfl
  · try dsimp only
    have sm : (rd_T167 x i).f1.length ≤ 1048576 := (all_get x z167 (fun r => r.f1.length ≤ 1048576)).mpr ha i h0 (by omega)
    have e : laws_toRefVal.f k ((rd_T167 x i).f0) ((rd_T167 x i).f1) ((rd_T167 x i).f2.f0) ((rd_T167 x i).f2.f1) ((rd_T167 x i).f2.f2) ((rd_T167 x i).f2.f3) = some ((rd_T167 x i).f0, (rd_T167 x i).f1, (rd_T167 x i).f2.f0, (rd_T167 x i).f2.f1, (rd_T167 x i).f2.f2, (rd_T167 x i).f2.f3) := by
      unfold laws_toRefVal.f
      rw [toIntS_eq _ sm hk]; rfl
    rw [laws_toRefValS.l0, if_pos (show i < (x.length : Int) by omega), if_pos h0, e, Option.bind_some, if_pos (show i < (acc.length : Int) by omega), wrap64_id (x := i + 1) (by omega) (by omega)]
    rfl
  · try dsimp only
    rw [laws_toRefValS.l0, if_neg (by omega)]
/-! laws_toAbs -/
theorem toAbs_eq {k : Nat} (live : Bool) (ints : List S165) (refs : List S167) (cells : List S165) (n : Int) (d : List Int) (hi : ints.length ≤ 1048576) (hr : refs.length ≤ 1048576) (hc : cells.length ≤ 1048576) (ha : ∀ r ∈ refs, r.f1.length ≤ 1048576) (hd : d.length ≤ 1048576) (hk : 4000000 ≤ k) :
    laws_toAbs.f k live ints refs cells n d = some (live, ints.map cv, refs.map cr, cells.map cv, n, d) := by
  unfold laws_toAbs.f
  rw [toValS_eq ints hi (by omega), Option.bind_some, toRefValS_eq refs hr ha hk, Option.bind_some, toValS_eq cells hc (by omega), Option.bind_some, toGaps_eq n d hd (by omega)]
  rfl
theorem small_map {ints : List S165} {refs : List S167} {cells : List S165} (hi : ints.length ≤ 1048576) (hr : refs.length ≤ 1048576) (hc : cells.length ≤ 1048576) (ha : ∀ r ∈ refs, r.f1.length ≤ 1048576) : ASmall (ints.map cv) (refs.map cr) (cells.map cv) := by
  refine ⟨by simpa using hi, by simpa using hr, by simpa using hc, fun r h => ?_⟩
  obtain ⟨x, hx, rfl⟩ := List.mem_map.mp h
  exact ha x hx
/-! laws_szAbs laws_szValS laws_szRefValS laws_szIntS -/
theorem szValS_eq (x : List S165) (a : Int) (hx : x.length ≤ 9223372036854775807) (h0 : 0 ≤ a) (h : a ≤ 1048576) : laws_szValS.f x a = some (if (x.length : Int) ≤ a then a - x.length else -1) := by
  unfold laws_szValS.f
  rw [wrap64_id (by omega) (by omega)]
  by_cases c : (x.length : Int) ≤ a
  · rw [if_pos c, if_neg (by omega)]
  · rw [if_neg c, if_pos (by omega)]
theorem szRefValS_tot {k : Nat} (x : List S167) (a : Int) (hx : x.length ≤ 9223372036854775807) (ha : ∀ r ∈ x, r.f1.length ≤ 9223372036854775807) (h0 : 0 ≤ a) (h : a ≤ 1048576) (hk : 4000000 ≤ k) :
    Tot (laws_szRefValS.f k x a) fun t => t < 0 ∨ (0 ≤ t ∧ t ≤ a ∧ x.length ≤ 1048576 ∧ ∀ r ∈ x, r.f1.length ≤ 1048576) := by
  unfold laws_szRefValS.f
  rw [wrap64_id (by omega) (by omega)]
  refine Tot.ite (fun _ => Tot.here (.inl (by omega))) (fun c => ?_)
  have go : ∀ (m k : Nat) (i t : Int), ((x.length : Int) - i).toNat = m → 0 ≤ i → i ≤ (x.length : Int) → m < k → 0 ≤ t → t ≤ a → (∀ j : Int, 0 ≤ j → j < i → (rd_T167 x j).f1.length ≤ 1048576) →
      Tot (laws_szRefValS.l0 k x t i) fun t => t < 0 ∨ (0 ≤ t ∧ t ≤ a ∧ ∀ j : Int, 0 ≤ j → j < (x.length : Int) → (rd_T167 x j).f1.length ≤ 1048576) := by
    intro m
    induction m with
    | zero =>
      intro k i t hm hi hi' hk ht ht' q
      obtain ⟨k, rfl⟩ : ∃ j, k = j + 1 := ⟨k - 1, by omega⟩
      rw [laws_szRefValS.l0, if_neg (by omega)]
      exact Tot.here (.inr ⟨ht, ht', fun j a b => q j a (by omega)⟩)
    | succ m ih =>
      intro k i t hm hi hi' hk ht ht' q
      obtain ⟨k, rfl⟩ : ∃ j, k = j + 1 := ⟨k - 1, by omega⟩
      have la : (rd_T167 x i).f1.length ≤ 9223372036854775807 := (all_get x z167 (fun r => r.f1.length ≤ 9223372036854775807)).mpr ha i hi (by omega)
      rw [laws_szRefValS.l0, if_pos (show i < (x.length : Int) by omega), if_pos hi]
      unfold laws_szRefVal.f laws_szIntS.f
      rw [wrap64_id (x := t - ((rd_T167 x i).f1.length : Int)) (by omega) (by omega)]
      by_cases c1 : t - ((rd_T167 x i).f1.length : Int) < 0
      · rw [if_pos c1]
        exact Tot.here (.inl (by decide))
      · rw [if_neg c1, Option.bind_some, if_neg c1, Option.bind_some, if_neg c1, wrap64_id (x := i + 1) (by omega) (by omega)]
        refine ih k (i + 1) _ (by omega) (by omega) (by omega) (by omega) (by omega) (by omega) fun j a b => ?_
        by_cases e : j = i
        · subst e; omega
        · exact q j a (by omega)
  refine (go _ k 0 _ rfl (by omega) (by omega) (by omega) (by omega) (by omega) (fun j a b => absurd a (by omega))).mono fun t ht => ?_
  rcases ht with ht | ⟨t0, t1, q⟩
  · exact .inl ht
  · exact .inr ⟨t0, by omega, by omega, (all_get x z167 (fun r => r.f1.length ≤ 1048576)).mp q⟩
theorem szAbs_tot {k : Nat} (live : Bool) (ints : List S165) (refs : List S167) (cells : List S165) (n : Int) (d : List Int) (a : Int) (hi : ints.length ≤ 9223372036854775807) (hr : refs.length ≤ 9223372036854775807) (hc : cells.length ≤ 9223372036854775807) (hd : d.length ≤ 9223372036854775807)
    (ha : ∀ r ∈ refs, r.f1.length ≤ 9223372036854775807) (h0 : 0 ≤ a) (h : a ≤ 1048576) (hk : 4000000 ≤ k) :
    Tot (laws_szAbs.f k live ints refs cells n d a) fun t => t < 0 ∨ (0 ≤ t ∧ t ≤ a ∧ ints.length ≤ 1048576 ∧ refs.length ≤ 1048576 ∧ cells.length ≤ 1048576 ∧ d.length ≤ 1048576 ∧ ∀ r ∈ refs, r.f1.length ≤ 1048576) := by
  unfold laws_szAbs.f
  rw [szValS_eq ints a hi h0 h, Option.bind_some]
  refine Tot.ite (fun _ => Tot.here (.inl (by decide))) (fun c1 => ?_)
  have c1' : (ints.length : Int) ≤ a := by
    by_cases q : (ints.length : Int) ≤ a
    · exact q
    · rw [if_neg q] at c1; omega
  rw [if_pos c1']
  refine Tot.then (szRefValS_tot refs _ hr ha (by omega) (by omega) hk) ?_
  intro t ht
  refine Tot.ite (fun _ => Tot.here (.inl (by decide))) (fun c2 => ?_)
  obtain ⟨t0, t1, r1, r2⟩ := ht.resolve_left c2
  rw [szValS_eq cells t hc t0 (by omega), Option.bind_some]
  refine Tot.ite (fun _ => Tot.here (.inl (by decide))) (fun c3 => ?_)
  have c3' : (cells.length : Int) ≤ t := by
    by_cases q : (cells.length : Int) ≤ t
    · exact q
    · rw [if_neg q] at c3; omega
  rw [if_pos c3', szGaps_eq n d _ hd (by omega) (by omega), Option.bind_some]
  refine Tot.ite (fun _ => Tot.here (.inl (by decide))) (fun c4 => ?_)
  have c4' : (d.length : Int) ≤ t - cells.length := by
    by_cases q : (d.length : Int) ≤ t - cells.length
    · exact q
    · rw [if_neg q] at c4; omega
  rw [if_pos c4']
  exact Tot.here (.inr ⟨by omega, by omega, by omega, r1, by omega, by omega, r2⟩)
/-! laws_eqAbs laws_eqValS laws_eqRefValS laws_eqGaps -/
theorem eqVal_refl (a b c d : Int) : laws_eqVal.f a b c d a b c d = some true := by
  unfold laws_eqVal.f
  rw [if_pos rfl, if_pos rfl, if_pos rfl, if_pos rfl]
theorem eqValS_refl {k : Nat} (x : List S30) (hx : x.length ≤ 1048576) (hk : 2000000 ≤ k) : laws_eqValS.f k x x = some true := by
  unfold laws_eqValS.f
  rw [if_pos rfl]
  refine goes_on (g := fun k i => laws_eqValS.l0 k x x i) (n := (x.length : Int)) 0 (fun k i _ h0 h1 => ?_) (fun k _ => ?_) _ k 0 rfl (by omega) (by omega) (by omega)
  · try dsimp only
    rw [laws_eqValS.l0, if_pos h1, if_pos h0, if_pos h1, eqVal_refl, Option.bind_some, if_pos rfl, wrap64_id (x := i + 1) (by omega) (by omega)]
  · try dsimp only
    rw [laws_eqValS.l0, if_neg (by omega)]
theorem eqRefValS_refl {k : Nat} (x : List S132) (hx : x.length ≤ 1048576) (ha : ∀ r ∈ x, r.f1.length ≤ 1048576) (hk : 4000000 ≤ k) : laws_eqRefValS.f k x x = some true := by
  unfold laws_eqRefValS.f
  rw [if_pos rfl]
  refine goes_on (g := fun k i => laws_eqRefValS.l0 k x x i) (n := (x.length : Int)) 2000000 (fun k i hk h0 h1 => ?_) (fun k _ => ?_) _ k 0 rfl (by omega) (by omega) (by omega)
  · try dsimp only
    have e : laws_eqRefVal.f k ((rd_T132 x i).f0) ((rd_T132 x i).f1) ((rd_T132 x i).f2.f0) ((rd_T132 x i).f2.f1) ((rd_T132 x i).f2.f2) ((rd_T132 x i).f2.f3) ((rd_T132 x i).f0) ((rd_T132 x i).f1) ((rd_T132 x i).f2.f0) ((rd_T132 x i).f2.f1) ((rd_T132 x i).f2.f2) ((rd_T132 x i).f2.f3) = some true := by
      unfold laws_eqRefVal.f
      rw [if_neg (by simp), eqIntS_refl _ (arr_small ha h0 h1) hk, Option.bind_some, if_pos rfl, eqVal_refl, Option.bind_some, if_pos rfl]
    rw [laws_eqRefValS.l0, if_pos h1, if_pos h0, if_pos h1, e, Option.bind_some, if_pos rfl, wrap64_id (x := i + 1) (by omega) (by omega)]
  · try dsimp only
    rw [laws_eqRefValS.l0, if_neg (by omega)]
theorem eqAbs_refl {k : Nat} {live : Bool} {ints : List S30} {refs : List S132} {cells : List S30} {n : Int} {d : List Int} (sm : ASmall ints refs cells) (hd : d.length ≤ 1048576) (hk : 4000000 ≤ k) :
    laws_eqAbs.f k live ints refs cells n d live ints refs cells n d = some true := by
  unfold laws_eqAbs.f
  rw [if_neg (by simp), eqValS_refl ints sm.1 (by omega), Option.bind_some, if_pos rfl, eqRefValS_refl refs sm.2.1 sm.2.2.2 hk, Option.bind_some, if_pos rfl, eqValS_refl cells sm.2.2.1 (by omega), Option.bind_some, if_pos rfl, eqGaps_refl n d hd (by omega), Option.bind_some, if_pos rfl]
/-! spec_RestIn -/
theorem srestIn_eq (k : Nat) (hk : 1 ≤ k) (m a m' a' : Int) : spec_RestIn.f k m a m' a' = some (decide (SIn m a m' a')) := by
  obtain ⟨k, rfl⟩ : ∃ j, k = j + 1 := ⟨k - 1, by omega⟩
  have no : ¬ SIn m a m' a' → spec_RestIn.j0 (k + 1) true m a m' a' = some (decide (SIn m a m' a')) := fun h => by rw [spec_RestIn.j0, if_pos rfl]; exact dfl h
  unfold spec_RestIn.f
  rw [srestOk_eq, Option.bind_some]
  by_cases o : SOk m a
  · rw [decide_eq_true o, if_pos rfl, srestOk_eq, Option.bind_some]
    by_cases o' : SOk m' a'
    · rw [decide_eq_true o', spec_RestIn.j0, if_neg (by decide)]
      by_cases z : m' = 0
      · rw [if_pos z]
        congr 1
        rw [Bool.eq_iff_iff]
        simp only [Bool.and_eq_true, beq_iff_eq, decide_eq_true_eq]
        exact ⟨fun q => ⟨o, o', .inl ⟨z, q.1, q.2⟩⟩, fun q => q.2.2.elim (fun q => ⟨q.2.1, q.2.2⟩) (fun q => absurd z q.1)⟩
      · rw [if_neg z]
        have p := o.nok
        have p' := o'.pos z
        have e : Int.tmod m m' = m % m' := Int.tmod_eq_emod_of_nonneg p.2.1
        by_cases y : Int.tmod m m' = 0
        · rw [if_pos y, mod_eq (by omega) (by omega), Option.bind_some]
          congr 1
          rw [Bool.eq_iff_iff]
          simp only [beq_iff_eq, decide_eq_true_eq]
          exact ⟨fun q => ⟨o, o', .inr ⟨z, by omega, q⟩⟩, fun q => q.2.2.elim (fun q => absurd q.1 z) (fun q => q.2.2)⟩
        · rw [if_neg y]
          exact dfl fun q => q.2.2.elim (fun q => z q.1) (fun q => y (by omega))
    · rw [decide_eq_false o']; exact no fun q => o' q.2.1
  · rw [decide_eq_false o, if_neg (by decide)]; exact no fun q => o q.1
/-! spec_ValIn impl_ValIn impl_Val_none -/
/-- What is within. -/
def VIn (a b c d a' b' c' d' : Int) : Prop := VOk a b c d ∧ VOk a' b' c' d' ∧ (VN a b c d ∨ (¬ VN a' b' c' d' ∧ RIn a b a' b' ∧ SIn c d c' d'))
theorem valIn_tot {k : Nat} (hk : 10 ≤ k) (a b c d a' b' c' d' : Int) : Tot (impl_ValIn.f k a b c d a' b' c' d') fun r => r = true ↔ VIn a b c d a' b' c' d' := by
  obtain ⟨k, rfl⟩ : ∃ j, k = j + 1 := ⟨k - 1, by omega⟩
  have no : ¬ VIn a b c d a' b' c' d' → Tot (impl_ValIn.j0 (k + 1) true a b c d a' b' c' d') fun r => r = true ↔ VIn a b c d a' b' c' d' := fun h => by
    rw [impl_ValIn.j0, if_pos rfl]; exact Tot.here ⟨fun f => (nomatch f), fun q => absurd q h⟩
  unfold impl_ValIn.f
  rw [valOk_eq (k + 1) (by omega), Option.bind_some]
  by_cases o : VOk a b c d
  · rw [decide_eq_true o, if_pos rfl, valOk_eq (k + 1) (by omega), Option.bind_some]
    by_cases o' : VOk a' b' c' d'
    · rw [decide_eq_true o', impl_ValIn.j0, if_neg (by decide), valNone_q, Option.bind_some]
      refine Tot.ite (fun z => Tot.here ⟨fun _ => ⟨o, o', .inl ((vn_iff _ _ _ _).mp z)⟩, fun _ => rfl⟩) (fun z => ?_)
      have nz : ¬ VN a b c d := fun q => z ((vn_iff _ _ _ _).mpr q)
      rw [valNone_q, Option.bind_some]
      refine Tot.ite (fun y => Tot.here ⟨fun f => (nomatch f), fun q => q.2.2.elim (fun q => absurd q nz) (fun q => absurd ((vn_iff _ _ _ _).mp y) q.1)⟩) (fun y => ?_)
      have ny : ¬ VN a' b' c' d' := fun q => y ((vn_iff _ _ _ _).mpr q)
      show Tot ((impl_RangeIn.f a b a' b').bind _) _
      rw [rangeIn_eq, Option.bind_some]
      refine Tot.ite (fun x => ?_) (fun x => Tot.here ⟨fun f => (nomatch f), fun q => q.2.2.elim (fun q => absurd q nz) (fun q => absurd (decide_eq_true q.2.1) x)⟩)
      show Tot ((impl_RestIn.f k c d c' d').bind _) _
      rw [restIn_eq k (by omega), Option.bind_some]
      exact Tot.here (by rw [decide_eq_true_iff]; exact ⟨fun q => ⟨o, o', .inr ⟨ny, of_decide_eq_true x, q⟩⟩, fun q => q.2.2.elim (fun q => absurd q nz) (fun q => q.2.2)⟩)
    · rw [decide_eq_false o']; exact no fun q => o' q.2.1
  · rw [decide_eq_false o, if_neg (by decide)]; exact no fun q => o q.1
theorem svalIn_tot {k : Nat} (hk : 10 ≤ k) (a b c d a' b' c' d' : Int) : Tot (spec_ValIn.f k a b c d a' b' c' d') fun r => r = true ↔ VIn a b c d a' b' c' d' := by
  obtain ⟨k, rfl⟩ : ∃ j, k = j + 1 := ⟨k - 1, by omega⟩
  have no : ¬ VIn a b c d a' b' c' d' → Tot (spec_ValIn.j0 (k + 1) true a b c d a' b' c' d') fun r => r = true ↔ VIn a b c d a' b' c' d' := fun h => by
    rw [spec_ValIn.j0, if_pos rfl]; exact Tot.here ⟨fun f => (nomatch f), fun q => absurd q h⟩
  unfold spec_ValIn.f
  rw [svalOk_eq (k + 1) (by omega), Option.bind_some]
  by_cases o : VOk a b c d
  · rw [decide_eq_true o, if_pos rfl, svalOk_eq (k + 1) (by omega), Option.bind_some]
    by_cases o' : VOk a' b' c' d'
    · rw [decide_eq_true o', spec_ValIn.j0, if_neg (by decide), svalNone_eq, Option.bind_some]
      refine Tot.ite (fun z => Tot.here ⟨fun _ => ⟨o, o', .inl ((vn_iff _ _ _ _).mp z)⟩, fun _ => rfl⟩) (fun z => ?_)
      have nz : ¬ VN a b c d := fun q => z ((vn_iff _ _ _ _).mpr q)
      rw [Option.bind_some]
      have nn : (!(a' == 1) || (!(b' == 0) || (!(c' == 0) || (!(d' == 0))))) = true ↔ ¬ VN a' b' c' d' := by
        rw [← vn_iff]
        cases (a' == 1) <;> cases (b' == 0) <;> cases (c' == 0) <;> cases (d' == 0) <;> simp
      refine Tot.ite (fun y => ?_) (fun y => Tot.here ⟨fun f => (nomatch f), fun q => q.2.2.elim (fun q => absurd q nz) (fun q => absurd (nn.mpr q.1) y)⟩)
      have ny := nn.mp y
      show Tot ((spec_RangeIn.f a b a' b').bind _) _
      rw [srangeIn_eq, Option.bind_some]
      refine Tot.ite (fun x => ?_) (fun x => Tot.here ⟨fun f => (nomatch f), fun q => q.2.2.elim (fun q => absurd q nz) (fun q => absurd (decide_eq_true q.2.1) x)⟩)
      show Tot ((spec_RestIn.f k c d c' d').bind _) _
      rw [srestIn_eq k (by omega), Option.bind_some]
      exact Tot.here (by rw [decide_eq_true_iff]; exact ⟨fun q => ⟨o, o', .inr ⟨ny, of_decide_eq_true x, q⟩⟩, fun q => q.2.2.elim (fun q => absurd q nz) (fun q => q.2.2)⟩)
    · rw [decide_eq_false o']; exact no fun q => o' q.2.1
  · rw [decide_eq_false o, if_neg (by decide)]; exact no fun q => o q.1
/-! spec_GapsIn impl_GapsIn spec_l11Two -/
def GIn (n : Int) (d : List Int) (n' : Int) (d' : List Int) : Prop := GOk n d ∧ GOk n' d' ∧ n = n' ∧ ∀ p : Int, 0 ≤ p → p < (d.length : Int) → rd d p ≤ rd d' p
theorem sgapsIn_tot {k : Nat} (n : Int) (d : List Int) (n' : Int) (d' : List Int) (hk : 3000000 ≤ k) : Tot (spec_GapsIn.f k n d n' d') fun r => r = true ↔ GIn n d n' d' := by
  unfold spec_GapsIn.f
  refine Tot.then (sl11Two_eq n d n' d' (by omega)) ?_
  intro b hb
  refine Tot.ite (fun z => ?_) (fun z => Tot.here ⟨fun f => (nomatch f), fun q => absurd (hb.mpr ⟨q.1, q.2.1, q.2.2.1⟩) z⟩)
  obtain ⟨g, g', e⟩ := hb.mp z
  subst e
  have hl : d.length = d'.length := by have := g.2.2.1; have := g'.2.2.1; omega
  have sm := len_small g.1 g.2.1 g.2.2.1
  have h : Tot (spec_GapsIn.l0 k 0 n d n d') fun r => r = true ↔ (∀ j : Int, 0 ≤ j → j < (d.length : Int) → rd d j ≤ rd d' j) ∧ True := by
    refine scan (g := fun k i => spec_GapsIn.l0 k i n d n d') (n := (d.length : Int)) 0 (fun k i R _ h0 h1 yes no => ?_) (fun k _ => ?_) _ k 0 rfl (by omega) (by omega) (by omega)
    · try dsimp only at yes ⊢
      rw [spec_GapsIn.l0, if_pos h1, if_pos h0, if_pos (show i < (d'.length : Int) by omega), wrap64_id (x := i + 1) (by omega) (by omega)]
      exact Tot.ite (fun x => Tot.here (no (by omega))) (fun x => yes (by omega))
    · try dsimp only
      rw [spec_GapsIn.l0, if_neg (by omega)]
      exact Tot.here ⟨fun _ => trivial, fun _ => rfl⟩
  exact h.mono fun r hr => hr.trans ⟨fun q => ⟨g, g', rfl, q.1⟩, fun q => ⟨q.2.2.2, trivial⟩⟩
theorem gapsIn_tot {k : Nat} (n : Int) (d : List Int) (n' : Int) (d' : List Int) (hk : 3000000 ≤ k) : Tot (impl_GapsIn.f k n d n' d') fun r => r = true ↔ GIn n d n' d' := by
  obtain ⟨k, rfl⟩ : ∃ j, k = j + 1 := ⟨k - 1, by omega⟩
  have no : ¬ GIn n d n' d' → Tot (impl_GapsIn.j0 (k + 1) true n d n' d') fun r => r = true ↔ GIn n d n' d' := fun h => by
    rw [impl_GapsIn.j0, if_pos rfl]; exact Tot.here ⟨fun f => (nomatch f), fun q => absurd q h⟩
  unfold impl_GapsIn.f
  by_cases g : GOk n d
  · rw [gapsOk_yes g (by omega), Option.bind_some, if_pos rfl]
    by_cases g' : GOk n' d'
    · rw [gapsOk_yes g' (by omega), Option.bind_some, if_pos rfl]
      by_cases e : n = n'
      · subst e
        have hl : d.length = d'.length := by have := g.2.2.1; have := g'.2.2.1; omega
        have sm := len_small g.1 g.2.1 g.2.2.1
        rw [show (n != n) = false by simp, impl_GapsIn.j0, if_neg (by decide)]
        have h : Tot (impl_GapsIn.l0 k d (d.length : Int) 0 n d') fun r => r = true ↔ (∀ j : Int, 0 ≤ j → j < (d.length : Int) → rd d j ≤ rd d' j) ∧ True := by
          refine scan (g := fun k i => impl_GapsIn.l0 k d (d.length : Int) i n d') (n := (d.length : Int)) 0 (fun k i R _ h0 h1 yes no => ?_) (fun k _ => ?_) _ k 0 rfl (by omega) (by omega) (by omega)
          · try dsimp only at yes ⊢
            rw [impl_GapsIn.l0, if_pos h1, if_pos h0, if_pos h1, if_pos (show i < (d'.length : Int) by omega), wrap64_id (x := i + 1) (by omega) (by omega)]
            exact Tot.ite (fun x => Tot.here (no (by omega))) (fun x => yes (by omega))
          · try dsimp only
            rw [impl_GapsIn.l0, if_neg (by omega)]
            exact Tot.here ⟨fun _ => trivial, fun _ => rfl⟩
        exact h.mono fun r hr => hr.trans ⟨fun q => ⟨g, g', rfl, q.1⟩, fun q => ⟨q.2.2.2, trivial⟩⟩
      · rw [show (n != n') = true by simp [e]]; exact no fun q => e q.2.2.1
    · rw [gapsOk_no g' (by omega), Option.bind_some, if_neg (by decide)]; exact no fun q => g' q.2.1
  · rw [gapsOk_no g (by omega), Option.bind_some, if_neg (by decide)]; exact no fun q => g q.1
/-! impl_absHasArray spec_l12Place -/
def Ex (x : List Int) (v : Int) : Prop := ∃ j : Int, 0 ≤ j ∧ j < (x.length : Int) ∧ rd x j = v
theorem hasArray_tot {k : Nat} (x : List Int) (v : Int) (hx : x.length ≤ 1048576) (hk : 2000000 ≤ k) : Tot (impl_absHasArray.f k x v) fun b => b = true ↔ Ex x v := by
  unfold impl_absHasArray.f
  have go : ∀ (m k : Nat) (i : Int), ((x.length : Int) - i).toNat = m → 0 ≤ i → i ≤ (x.length : Int) → m < k → (∀ j : Int, 0 ≤ j → j < i → ¬ rd x j = v) → Tot (impl_absHasArray.l0 k v x (x.length : Int) i) fun b => b = true ↔ Ex x v := by
    intro m
    induction m with
    | zero =>
      intro k i hm h0 h1 hk hj
      obtain ⟨k, rfl⟩ : ∃ j, k = j + 1 := ⟨k - 1, by omega⟩
      rw [impl_absHasArray.l0, if_neg (by omega)]
      exact Tot.here ⟨fun f => (nomatch f), fun ⟨j, a, b, c⟩ => absurd c (hj j a (by omega))⟩
    | succ m ih =>
      intro k i hm h0 h1 hk hj
      obtain ⟨k, rfl⟩ : ∃ j, k = j + 1 := ⟨k - 1, by omega⟩
      rw [impl_absHasArray.l0, if_pos (by omega), if_pos h0, if_pos (by omega), wrap64_id (x := i + 1) (by omega) (by omega)]
      refine Tot.ite (fun c => Tot.here ⟨fun _ => ⟨i, h0, by omega, c⟩, fun _ => rfl⟩) (fun c => ih k (i + 1) (by omega) (by omega) (by omega) (by omega) fun j a b => ?_)
      by_cases e : j = i
      · subst e; exact c
      · exact hj j a (by omega)
  exact go _ k 0 rfl (by omega) (by omega) (by omega) (fun j a b => absurd a (by omega))
theorem place_tot {k : Nat} (x : List Int) (v : Int) (hx : x.length ≤ 1048576) (hk : 2000000 ≤ k) : Tot (spec_l12Place.f k x v) fun t => 0 ≤ t ↔ Ex x v := by
  unfold spec_l12Place.f
  have go : ∀ (m k : Nat) (i : Int), ((x.length : Int) - i).toNat = m → 0 ≤ i → i ≤ (x.length : Int) → m < k → (∀ j : Int, 0 ≤ j → j < i → ¬ rd x j = v) → Tot (spec_l12Place.l0 k x v i) fun t => 0 ≤ t ↔ Ex x v := by
    intro m
    induction m with
    | zero =>
      intro k i hm h0 h1 hk hj
      obtain ⟨k, rfl⟩ : ∃ j, k = j + 1 := ⟨k - 1, by omega⟩
      rw [spec_l12Place.l0, if_neg (by omega)]
      exact Tot.here ⟨fun f => absurd f (by decide), fun ⟨j, a, b, c⟩ => absurd c (hj j a (by omega))⟩
    | succ m ih =>
      intro k i hm h0 h1 hk hj
      obtain ⟨k, rfl⟩ : ∃ j, k = j + 1 := ⟨k - 1, by omega⟩
      rw [spec_l12Place.l0, if_pos (by omega), if_pos h0, wrap64_id (x := i + 1) (by omega) (by omega)]
      refine Tot.ite (fun c => Tot.here ⟨fun _ => ⟨i, h0, by omega, c⟩, fun _ => h0⟩) (fun c => ih k (i + 1) (by omega) (by omega) (by omega) (by omega) fun j a b => ?_)
      by_cases e : j = i
      · subst e; exact c
      · exact hj j a (by omega)
  exact go _ k 0 rfl (by omega) (by omega) (by omega) (fun j a b => absurd a (by omega))
/-! impl_refIn spec_l12RefIn -/
def RefIn (n : Bool) (x : List Int) (a b c d : Int) (n' : Bool) (x' : List Int) (a' b' c' d' : Int) : Prop := (n = true → n' = true) ∧ (∀ j : Int, 0 ≤ j → j < (x.length : Int) → Ex x' (rd x j)) ∧ VIn a b c d a' b' c' d'
theorem refIn_tot {k : Nat} (n : Bool) (x : List Int) (a b c d : Int) (n' : Bool) (x' : List Int) (a' b' c' d' : Int) (hx : x.length ≤ 1048576) (hx' : x'.length ≤ 1048576) (hk : 4000000 ≤ k) :
    Tot (impl_refIn.f k n x a b c d n' x' a' b' c' d') fun r => r = true ↔ RefIn n x a b c d n' x' a' b' c' d' := by
  obtain ⟨k, rfl⟩ : ∃ j, k = j + 1 := ⟨k - 1, by omega⟩
  have yes : (n = true → n' = true) → Tot (impl_refIn.j0 (k + 1) false n x a b c d n' x' a' b' c' d') fun r => r = true ↔ RefIn n x a b c d n' x' a' b' c' d' := by
    intro hn
    rw [impl_refIn.j0, if_neg (by decide)]
    have h : Tot (impl_refIn.l0 k x (x.length : Int) 0 n x a b c d n' x' a' b' c' d') fun r => r = true ↔ (∀ j : Int, 0 ≤ j → j < (x.length : Int) → Ex x' (rd x j)) ∧ VIn a b c d a' b' c' d' := by
      refine scan (g := fun k i => impl_refIn.l0 k x (x.length : Int) i n x a b c d n' x' a' b' c' d') (n := (x.length : Int)) 2000000 (fun k i R hk h0 h1 yes no => ?_) (fun k hk => ?_) _ k 0 rfl (by omega) (by omega) (by omega)
      · try dsimp only at yes ⊢
        rw [impl_refIn.l0, if_pos h1, if_pos h0, if_pos h1, wrap64_id (x := i + 1) (by omega) (by omega)]
        refine Tot.then (hasArray_tot x' _ hx' hk) ?_
        intro t ht
        exact Tot.ite (fun z => yes (ht.mp z)) (fun z => Tot.here (no fun q => z (ht.mpr q)))
      · try dsimp only
        rw [impl_refIn.l0, if_neg (by omega)]
        refine Tot.then (valIn_tot (by omega) a b c d a' b' c' d') ?_
        intro t ht
        exact Tot.here ht
    exact h.mono fun r hr => hr.trans ⟨fun q => ⟨hn, q.1, q.2⟩, fun q => ⟨q.2.1, q.2.2⟩⟩
  unfold impl_refIn.f
  refine Tot.ite (fun z => ?_) (fun z => yes (fun q => absurd q z))
  cases hn : n' with
  | true => rw [hn] at yes; exact yes fun _ => rfl
  | false =>
    show Tot (impl_refIn.j0 (k + 1) true n x a b c d false x' a' b' c' d') _
    rw [impl_refIn.j0, if_pos rfl]
    exact Tot.here ⟨fun f => (nomatch f), fun q => absurd (q.1 z) (by decide)⟩
theorem srefIn_tot {k : Nat} (n : Bool) (x : List Int) (a b c d : Int) (n' : Bool) (x' : List Int) (a' b' c' d' : Int) (hx : x.length ≤ 1048576) (hx' : x'.length ≤ 1048576) (hk : 4000000 ≤ k) :
    Tot (spec_l12RefIn.f k n x a b c d n' x' a' b' c' d') fun r => r = true ↔ RefIn n x a b c d n' x' a' b' c' d' := by
  obtain ⟨k, rfl⟩ : ∃ j, k = j + 1 := ⟨k - 1, by omega⟩
  have yes : (n = true → n' = true) → Tot (spec_l12RefIn.j0 (k + 1) false n x a b c d n' x' a' b' c' d') fun r => r = true ↔ RefIn n x a b c d n' x' a' b' c' d' := by
    intro hn
    rw [spec_l12RefIn.j0, if_neg (by decide)]
    have h : Tot (spec_l12RefIn.l0 k 0 n x a b c d n' x' a' b' c' d') fun r => r = true ↔ (∀ j : Int, 0 ≤ j → j < (x.length : Int) → Ex x' (rd x j)) ∧ VIn a b c d a' b' c' d' := by
      refine scan (g := fun k i => spec_l12RefIn.l0 k i n x a b c d n' x' a' b' c' d') (n := (x.length : Int)) 2000000 (fun k i R hk h0 h1 yes no => ?_) (fun k hk => ?_) _ k 0 rfl (by omega) (by omega) (by omega)
      · try dsimp only at yes ⊢
        rw [spec_l12RefIn.l0, if_pos h1, if_pos h0, wrap64_id (x := i + 1) (by omega) (by omega)]
        refine Tot.then (place_tot x' _ hx' hk) ?_
        intro t ht
        exact Tot.ite (fun z => Tot.here (no fun q => by have := ht.mpr q; omega)) (fun z => yes (ht.mp (by omega)))
      · try dsimp only
        rw [spec_l12RefIn.l0, if_neg (by omega)]
        refine Tot.then (svalIn_tot (by omega) a b c d a' b' c' d') ?_
        intro t ht
        exact Tot.here ht
    exact h.mono fun r hr => hr.trans ⟨fun q => ⟨hn, q.1, q.2⟩, fun q => ⟨q.2.1, q.2.2⟩⟩
  unfold spec_l12RefIn.f
  refine Tot.ite (fun z => ?_) (fun z => yes (fun q => absurd q z))
  cases hn : n' with
  | true => rw [hn] at yes; exact yes fun _ => rfl
  | false =>
    show Tot (spec_l12RefIn.j0 (k + 1) true n x a b c d false x' a' b' c' d') _
    rw [spec_l12RefIn.j0, if_pos rfl]
    exact Tot.here ⟨fun f => (nomatch f), fun q => absurd (q.1 z) (by decide)⟩
/-! impl_AbsIn spec_AbsIn -/
def VsIn (x y : List S30) : Prop := ∀ j : Int, 0 ≤ j → j < (x.length : Int) → VIn (rd_T30 x j).f0 (rd_T30 x j).f1 (rd_T30 x j).f2 (rd_T30 x j).f3 (rd_T30 y j).f0 (rd_T30 y j).f1 (rd_T30 y j).f2 (rd_T30 y j).f3
def RsIn (x y : List S132) : Prop := ∀ j : Int, 0 ≤ j → j < (x.length : Int) → RefIn (rd_T132 x j).f0 (rd_T132 x j).f1 (rd_T132 x j).f2.f0 (rd_T132 x j).f2.f1 (rd_T132 x j).f2.f2 (rd_T132 x j).f2.f3 (rd_T132 y j).f0 (rd_T132 y j).f1 (rd_T132 y j).f2.f0 (rd_T132 y j).f2.f1 (rd_T132 y j).f2.f2 (rd_T132 y j).f2.f3
def AIn (l : Bool) (i : List S30) (r : List S132) (c : List S30) (n : Int) (d : List Int) (l' : Bool) (i' : List S30) (r' : List S132) (c' : List S30) (n' : Int) (d' : List Int) : Prop :=
  AOk l i r c n d ∧ AOk l' i' r' c' n' d' ∧ (l = false ∨ (l' = true ∧ (i.length = i'.length ∧ r.length = r'.length ∧ c.length = c'.length) ∧ RsIn r r' ∧ VsIn i i' ∧ VsIn c c' ∧ GIn n d n' d'))
theorem valsIn_tot {k : Nat} (x y : List S30) (hx : x.length ≤ 1048576) (hl : x.length = y.length) (hk : 2000000 ≤ k) : Tot (impl_absValsIn.f k x y) fun r => r = true ↔ VsIn x y := by
  unfold impl_absValsIn.f
  have h : Tot (impl_absValsIn.l0 k y x (x.length : Int) 0) fun r => r = true ↔ VsIn x y ∧ True := by
    refine scan (g := fun k i => impl_absValsIn.l0 k y x (x.length : Int) i) (n := (x.length : Int)) 100 (fun k i R hk h0 h1 yes no => ?_) (fun k _ => ?_) _ k 0 rfl (by omega) (by omega) (by omega)
    · try dsimp only at yes ⊢
      rw [impl_absValsIn.l0, if_pos h1, if_pos h0, if_pos h1, if_pos (show i < (y.length : Int) by omega), wrap64_id (x := i + 1) (by omega) (by omega)]
      refine Tot.then (valIn_tot (by omega) _ _ _ _ _ _ _ _) ?_
      intro t ht
      exact Tot.ite (fun z => yes (ht.mp z)) (fun z => Tot.here (no fun q => z (ht.mpr q)))
    · try dsimp only
      rw [impl_absValsIn.l0, if_neg (by omega)]
      exact Tot.here ⟨fun _ => trivial, fun _ => rfl⟩
  exact h.mono fun r hr => hr.trans ⟨fun q => q.1, fun q => ⟨q, trivial⟩⟩
theorem svalsIn_tot {k : Nat} (x y : List S30) (hx : x.length ≤ 1048576) (hl : x.length = y.length) (hk : 2000000 ≤ k) : Tot (spec_l12ValsIn.f k x y) fun r => r = true ↔ VsIn x y := by
  unfold spec_l12ValsIn.f
  have h : Tot (spec_l12ValsIn.l0 k x y 0) fun r => r = true ↔ VsIn x y ∧ True := by
    refine scan (g := fun k i => spec_l12ValsIn.l0 k x y i) (n := (x.length : Int)) 100 (fun k i R hk h0 h1 yes no => ?_) (fun k _ => ?_) _ k 0 rfl (by omega) (by omega) (by omega)
    · try dsimp only at yes ⊢
      rw [spec_l12ValsIn.l0, if_pos h1, if_pos h0, if_pos (show i < (y.length : Int) by omega), wrap64_id (x := i + 1) (by omega) (by omega)]
      refine Tot.then (svalIn_tot (by omega) _ _ _ _ _ _ _ _) ?_
      intro t ht
      exact Tot.ite (fun z => yes (ht.mp z)) (fun z => Tot.here (no fun q => z (ht.mpr q)))
    · try dsimp only
      rw [spec_l12ValsIn.l0, if_neg (by omega)]
      exact Tot.here ⟨fun _ => trivial, fun _ => rfl⟩
  exact h.mono fun r hr => hr.trans ⟨fun q => q.1, fun q => ⟨q, trivial⟩⟩
theorem alike_iff {l : Bool} {i : List S30} {r : List S132} {c : List S30} {n : Int} {d : List Int} {l' : Bool} {i' : List S30} {r' : List S132} {c' : List S30} {n' : Int} {d' : List Int} :
    Tot (impl_absAlike.f l i r c n d l' i' r' c' n' d') fun b => b = true ↔ i.length = i'.length ∧ r.length = r'.length ∧ c.length = c'.length := by
  unfold impl_absAlike.f
  refine Tot.ite (fun x => ?_) (fun x => Tot.here ⟨fun f => (nomatch f), fun q => absurd (by omega) x⟩)
  refine Tot.ite (fun y => Tot.here ?_) (fun y => Tot.here ⟨fun f => (nomatch f), fun q => absurd (by omega) y⟩)
  rw [beq_iff_eq]
  exact ⟨fun q => ⟨by omega, by omega, by omega⟩, fun q => by omega⟩
theorem slike_iff {l : Bool} {i : List S30} {r : List S132} {c : List S30} {n : Int} {d : List Int} {l' : Bool} {i' : List S30} {r' : List S132} {c' : List S30} {n' : Int} {d' : List Int} :
    Tot (spec_l12Like.f l i r c n d l' i' r' c' n' d') fun b => b = true ↔ i.length = i'.length ∧ r.length = r'.length ∧ c.length = c'.length := by
  unfold spec_l12Like.f
  refine Tot.ite (fun x => ?_) (fun x => Tot.here ⟨fun f => (nomatch f), fun q => absurd (by omega) x⟩)
  refine Tot.ite (fun y => Tot.here ?_) (fun y => Tot.here ⟨fun f => (nomatch f), fun q => absurd (by omega) y⟩)
  rw [beq_iff_eq]
  exact ⟨fun q => ⟨by omega, by omega, by omega⟩, fun q => by omega⟩
theorem absIn_tot {k : Nat} {l : Bool} {i : List S30} {r : List S132} {c : List S30} {n : Int} {d : List Int} {l' : Bool} {i' : List S30} {r' : List S132} {c' : List S30} {n' : Int} {d' : List Int} (sm : ASmall i r c) (sm' : ASmall i' r' c') (hk : 30000000 ≤ k) :
    Tot (impl_AbsIn.f k l i r c n d l' i' r' c' n' d') fun b => b = true ↔ AIn l i r c n d l' i' r' c' n' d' := by
  obtain ⟨k, rfl⟩ : ∃ j, k = j + 1 + 1 := ⟨k - 2, by omega⟩
  unfold impl_AbsIn.f
  have bad : ¬ AIn l i r c n d l' i' r' c' n' d' → ∀ x, x = true → Tot (impl_AbsIn.j0 (k + 1 + 1) x l i r c n d l' i' r' c' n' d') fun b => b = true ↔ AIn l i r c n d l' i' r' c' n' d' := fun h x hx => by
    rw [impl_AbsIn.j0, if_pos hx]; exact Tot.here ⟨fun f => (nomatch f), fun q => absurd q h⟩
  refine Tot.then (absOk_tot sm (by omega)) ?_
  intro b hb
  refine Tot.ite (fun z => ?_) (fun z => bad (fun q => z (hb.mpr q.1)) _ rfl)
  refine Tot.then (absOk_tot sm' (by omega)) ?_
  intro b' hb'
  by_cases z' : b' = true
  · subst z'
    rw [show (!true) = false from rfl, impl_AbsIn.j0, if_neg (by decide)]
    refine Tot.ite (fun y => ?_) (fun y => Tot.here ⟨fun _ => ⟨hb.mp z, hb'.mp rfl, .inl (by simpa using y)⟩, fun _ => rfl⟩)
    have nl : ¬ l = false := by simp [y]
    have bad1 : ¬ (l' = true ∧ (i.length = i'.length ∧ r.length = r'.length ∧ c.length = c'.length)) → ∀ x, x = true → Tot (impl_AbsIn.j1 (k + 1) x l i r c n d l' i' r' c' n' d') fun b => b = true ↔ AIn l i r c n d l' i' r' c' n' d' := fun h x hx => by
      rw [impl_AbsIn.j1, if_pos hx]; exact Tot.here ⟨fun f => (nomatch f), fun q => q.2.2.elim (fun q => absurd q nl) (fun q => absurd ⟨q.1, q.2.1⟩ h)⟩
    refine Tot.ite (fun y' => ?_) (fun y' => bad1 (fun q => y' q.1) _ rfl)
    refine Tot.then alike_iff ?_
    intro t ht
    by_cases x : t = true
    · subst x
      obtain ⟨e1, e2, e3⟩ := ht.mp rfl
      rw [show (!true) = false from rfl, impl_AbsIn.j1, if_neg (by decide)]
      have h : Tot (impl_AbsIn.l0 k r (r.length : Int) 0 l i r c n d l' i' r' c' n' d') fun b => b = true ↔ RsIn r r' ∧ VsIn i i' ∧ VsIn c c' ∧ GIn n d n' d' := by
        refine scan (g := fun k j => impl_AbsIn.l0 k r (r.length : Int) j l i r c n d l' i' r' c' n' d') (n := (r.length : Int)) 5000000 (fun k j R hk h0 h1 yes no => ?_) (fun k hk => ?_) _ k 0 rfl (by omega) (by omega) (by have := sm.2.1; omega)
        · try dsimp only at yes ⊢
          have := sm.2.1
          rw [impl_AbsIn.l0, if_pos h1, if_pos h0, if_pos h1, if_pos (show j < (r'.length : Int) by omega), wrap64_id (x := j + 1) (by omega) (by omega)]
          refine Tot.then (refIn_tot _ _ _ _ _ _ _ _ _ _ _ _ (arr_small sm.2.2.2 h0 h1) (arr_small sm'.2.2.2 h0 (by omega)) (by omega)) ?_
          intro t ht
          exact Tot.ite (fun z => yes (ht.mp z)) (fun z => Tot.here (no fun q => z (ht.mpr q)))
        · try dsimp only
          rw [impl_AbsIn.l0, if_neg (by omega)]
          refine Tot.then (valsIn_tot i i' sm.1 e1 (by omega)) ?_
          intro t1 h1
          refine Tot.ite (fun z1 => ?_) (fun z1 => Tot.here ⟨fun f => (nomatch f), fun q => absurd (h1.mpr q.1) z1⟩)
          refine Tot.then (valsIn_tot c c' sm.2.2.1 e3 (by omega)) ?_
          intro t2 h2
          refine Tot.ite (fun z2 => ?_) (fun z2 => Tot.here ⟨fun f => (nomatch f), fun q => absurd (h2.mpr q.2.1) z2⟩)
          refine Tot.then (gapsIn_tot n d n' d' (by omega)) ?_
          intro t3 h3
          exact Tot.here ⟨fun q => ⟨h1.mp z1, h2.mp z2, h3.mp q⟩, fun q => h3.mpr q.2.2⟩
      exact h.mono fun b hb1 => hb1.trans ⟨fun q => ⟨hb.mp z, hb'.mp rfl, .inr ⟨y', ⟨e1, e2, e3⟩, q.1, q.2.1, q.2.2.1, q.2.2.2⟩⟩, fun q => q.2.2.elim (fun q => absurd q nl) (fun q => q.2.2)⟩
    · have : t = false := by simpa using x
      subst this
      exact bad1 (fun q => x (ht.mpr q.2)) _ rfl
  · have : b' = false := by simpa using z'
    subst this
    exact bad (fun q => z' (hb'.mpr q.2.1)) _ rfl
theorem sabsIn_tot {k : Nat} {l : Bool} {i : List S30} {r : List S132} {c : List S30} {n : Int} {d : List Int} {l' : Bool} {i' : List S30} {r' : List S132} {c' : List S30} {n' : Int} {d' : List Int} (sm : ASmall i r c) (sm' : ASmall i' r' c') (hk : 30000000 ≤ k) :
    Tot (spec_AbsIn.f k l i r c n d l' i' r' c' n' d') fun b => b = true ↔ AIn l i r c n d l' i' r' c' n' d' := by
  obtain ⟨k, rfl⟩ : ∃ j, k = j + 1 + 1 := ⟨k - 2, by omega⟩
  unfold spec_AbsIn.f
  have bad : ¬ AIn l i r c n d l' i' r' c' n' d' → ∀ x, x = true → Tot (spec_AbsIn.j0 (k + 1 + 1) x l i r c n d l' i' r' c' n' d') fun b => b = true ↔ AIn l i r c n d l' i' r' c' n' d' := fun h x hx => by
    rw [spec_AbsIn.j0, if_pos hx]; exact Tot.here ⟨fun f => (nomatch f), fun q => absurd q h⟩
  refine Tot.then (sabsOk_tot sm (by omega)) ?_
  intro b hb
  refine Tot.ite (fun z => ?_) (fun z => bad (fun q => z (hb.mpr q.1)) _ rfl)
  refine Tot.then (sabsOk_tot sm' (by omega)) ?_
  intro b' hb'
  by_cases z' : b' = true
  · subst z'
    rw [show (!true) = false from rfl, spec_AbsIn.j0, if_neg (by decide)]
    refine Tot.ite (fun y => ?_) (fun y => Tot.here ⟨fun _ => ⟨hb.mp z, hb'.mp rfl, .inl (by simpa using y)⟩, fun _ => rfl⟩)
    have nl : ¬ l = false := by simp [y]
    have bad1 : ¬ (l' = true ∧ (i.length = i'.length ∧ r.length = r'.length ∧ c.length = c'.length)) → ∀ x, x = true → Tot (spec_AbsIn.j1 (k + 1) x l i r c n d l' i' r' c' n' d') fun b => b = true ↔ AIn l i r c n d l' i' r' c' n' d' := fun h x hx => by
      rw [spec_AbsIn.j1, if_pos hx]; exact Tot.here ⟨fun f => (nomatch f), fun q => q.2.2.elim (fun q => absurd q nl) (fun q => absurd ⟨q.1, q.2.1⟩ h)⟩
    refine Tot.ite (fun y' => ?_) (fun y' => bad1 (fun q => y' q.1) _ rfl)
    refine Tot.then slike_iff ?_
    intro t ht
    by_cases x : t = true
    · subst x
      obtain ⟨e1, e2, e3⟩ := ht.mp rfl
      rw [show (!true) = false from rfl, spec_AbsIn.j1, if_neg (by decide)]
      have h : Tot (spec_AbsIn.l0 k 0 l i r c n d l' i' r' c' n' d') fun b => b = true ↔ RsIn r r' ∧ VsIn i i' ∧ VsIn c c' ∧ GIn n d n' d' := by
        refine scan (g := fun k j => spec_AbsIn.l0 k j l i r c n d l' i' r' c' n' d') (n := (r.length : Int)) 5000000 (fun k j R hk h0 h1 yes no => ?_) (fun k hk => ?_) _ k 0 rfl (by omega) (by omega) (by have := sm.2.1; omega)
        · try dsimp only at yes ⊢
          have := sm.2.1
          rw [spec_AbsIn.l0, if_pos h1, if_pos h0, if_pos (show j < (r'.length : Int) by omega), wrap64_id (x := j + 1) (by omega) (by omega)]
          refine Tot.then (srefIn_tot _ _ _ _ _ _ _ _ _ _ _ _ (arr_small sm.2.2.2 h0 h1) (arr_small sm'.2.2.2 h0 (by omega)) (by omega)) ?_
          intro t ht
          exact Tot.ite (fun z => yes (ht.mp z)) (fun z => Tot.here (no fun q => z (ht.mpr q)))
        · try dsimp only
          rw [spec_AbsIn.l0, if_neg (by omega)]
          refine Tot.then (svalsIn_tot i i' sm.1 e1 (by omega)) ?_
          intro t1 h1
          refine Tot.ite (fun z1 => ?_) (fun z1 => Tot.here ⟨fun f => (nomatch f), fun q => absurd (h1.mpr q.1) z1⟩)
          refine Tot.then (svalsIn_tot c c' sm.2.2.1 e3 (by omega)) ?_
          intro t2 h2
          refine Tot.ite (fun z2 => ?_) (fun z2 => Tot.here ⟨fun f => (nomatch f), fun q => absurd (h2.mpr q.2.1) z2⟩)
          refine Tot.then (sgapsIn_tot n d n' d' (by omega)) ?_
          intro t3 h3
          exact Tot.here ⟨fun q => ⟨h1.mp z1, h2.mp z2, h3.mp q⟩, fun q => h3.mpr q.2.2⟩
      exact h.mono fun b hb1 => hb1.trans ⟨fun q => ⟨hb.mp z, hb'.mp rfl, .inr ⟨y', ⟨e1, e2, e3⟩, q.1, q.2.1, q.2.2.1, q.2.2.2⟩⟩, fun q => q.2.2.elim (fun q => absurd q nl) (fun q => q.2.2)⟩
    · have : t = false := by simpa using x
      subst this
      exact bad1 (fun q => x (ht.mpr q.2)) _ rfl
  · have : b' = false := by simpa using z'
    subst this
    exact bad (fun q => z' (hb'.mpr q.2.1)) _ rfl
end Go.Proofs.Ytkekcenlleebeaa.LFnExactAbsIn
