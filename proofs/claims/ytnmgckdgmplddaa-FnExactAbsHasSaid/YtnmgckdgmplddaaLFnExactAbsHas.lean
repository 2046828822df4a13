/- What the small functions that the statement reaches tell, each by a plain law. Conditions: those in each law. -/
import Derived.Test.YtnmgckdgmplddaaDFnExactAbsHas
import Derived.Test.YtnmgckdgmplddaaBase
import Derived.Test.YtnmgckdgmplddaaBits
import Derived.Test.YtnmgckdgmplddaaRangeMath
import Derived.Test.YtnmgckdgmplddaaRestMath
import Derived.Test.YtnmgckdgmplddaaValMath
import Derived.Test.YtnmgckdgmplddaaGapsMath
import Derived.Test.YtnmgckdgmplddaaGaps2Math
import Derived.Test.YtnmgckdgmplddaaAbsMath
namespace Go.Proofs.Ytnmgckdgmplddaa.LFnExactAbsHas
open Go.RowKit Go.Proofs.Ytnmgckdgmplddaa.PFnExactAbsHas Go.Proofs.Ytnmgckdgmplddaa.Base Go.Proofs.YtnmgckdgmplddaaW.PrintWords Go.Proofs.YtnmgckdgmplddaaW.PrintLast Go.Proofs.YtnmgckdgmplddaaW.PrintMore
set_option linter.unusedVariables false
set_option linter.unusedSimpArgs false

/-! spec_l1Mod -/
theorem mod_eq {a b : Int} (hb : 0 < b) (h : b ≤ 9223372036854775807) : spec_l1Mod.f a b = some (a % b) := by
  unfold spec_l1Mod.f
  rw [if_neg (by omega)]
  have e := Int.emod_emod_of_dvd a (Int.dvd_refl b)
  have h1 : Int.tmod a b < b := Int.tmod_lt_of_pos a hb
  have h2 : -b < Int.tmod a b := Int.lt_tmod_of_pos a hb
  have h3 := Int.mul_tdiv_add_tmod a b
  have h4 : a % b = Int.tmod a b % b := by
    conv => lhs; rw [← h3]
    rw [Int.add_comm, Int.add_mul_emod_self_left]
  by_cases hn : Int.tmod a b < 0
  · rw [if_pos hn, wrap64_id (by omega) (by omega), h4, ← Int.add_emod_right, Int.emod_eq_of_lt (by omega) (by omega)]
  · rw [if_neg hn, h4, Int.emod_eq_of_lt (by omega) (by omega)]
/-! impl_NumOk -/
theorem numOk_eq (v : Int) : impl_NumOk.f v = some (decide (NOk v)) := by
  unfold impl_NumOk.f
  by_cases h : v ≥ -2147483648
  · rw [if_pos h]; exact dcl (by (try unfold NOk); omega)
  · rw [if_neg h]; exact dfl (by (try unfold NOk); omega)
/-! spec_l1In -/
theorem sin_eq (v a b : Int) : spec_l1In.f v a b = some (decide (a ≤ v ∧ v ≤ b)) := by
  unfold spec_l1In.f
  by_cases h : v ≥ a
  · rw [if_pos h]; exact dcl (by (try unfold NOk); omega)
  · rw [if_neg h]; exact dfl (by (try unfold NOk); omega)
/-! spec_NumOk -/
theorem snumOk_eq (v : Int) : spec_NumOk.f v = some (decide (NOk v)) := by
  unfold spec_NumOk.f
  rw [sin_eq]; exact dcl Iff.rfl
/-! impl_rangeNone -/
theorem rangeNone_eq : impl_rangeNone.f = some (1, 0) := rfl
/-! spec_l8None -/
theorem snone_eq : spec_l8None.f = some (1, 0) := rfl
/-! impl_RangeOk -/
theorem rangeOk_eq (l h : Int) : impl_RangeOk.f l h = some (decide (ROk l h)) := by
  unfold impl_RangeOk.f impl_rangeNone.f ROk
  simp only [Option.bind_some, numOk_eq, Bool.and_eq_true, beq_iff_eq]
  by_cases c : l = 1 ∧ h = 0
  · simp [c]
  · by_cases c1 : NOk l <;> by_cases c2 : NOk h <;> simp [c, c1, c2]
/-! spec_RangeOk -/
theorem srangeOk_eq (l h : Int) : spec_RangeOk.f l h = some (decide (ROk l h)) := by
  unfold spec_RangeOk.f spec_l8None.f ROk
  simp only [Option.bind_some, snumOk_eq, Bool.and_eq_true, beq_iff_eq]
  by_cases c : l = 1 ∧ h = 0
  · simp [c]
  · by_cases c1 : NOk l <;> by_cases c2 : NOk h <;> simp [c, c1, c2]
/-! impl_Range_empty -/
theorem rangeEmpty_eq (l h : Int) : impl_Range_empty.f l h = some (decide (l > h)) := rfl
/-! impl_RangeHas -/
theorem rangeHas_eq (l h v : Int) : impl_RangeHas.f l h v = some (decide (RHas l h v)) := by
  unfold impl_RangeHas.f RHas
  rw [rangeOk_eq]
  simp only [Option.bind_some]
  by_cases c : ROk l h <;> by_cases c1 : l ≤ v <;> simp [c, c1]
/-! spec_RangeHas -/
theorem srangeHas_eq (l h v : Int) : spec_RangeHas.f l h v = some (decide (RHas l h v)) := by
  unfold spec_RangeHas.f RHas
  rw [srangeOk_eq, sin_eq]
  simp only [Option.bind_some]
  by_cases c : ROk l h <;> simp [c]
/-! impl_RestOk -/
theorem restOk_eq (m a : Int) : impl_RestOk.f m a = some (decide (SOk m a)) := by
  unfold impl_RestOk.f
  rw [numOk_eq]
  simp only [Option.bind_some]
  by_cases c : m = 0
  · rw [if_pos c]; exact dcl ⟨fun h => Or.inl ⟨c, h⟩, fun h => h.zero c⟩
  · rw [if_neg c]
    have e : SOk m a ↔ (1 ≤ m ∧ m ≤ 65536 ∧ 0 ≤ a ∧ a < m) := by
      unfold SOk; constructor
      · intro h; rcases h with h | h
        · exact absurd h.1 c
        · exact h.2
      · intro h; exact Or.inr ⟨c, h⟩
    by_cases c1 : m ≥ 1
    · rw [if_pos c1]
      by_cases c2 : m ≤ 65536
      · rw [if_pos c2]
        by_cases c3 : a ≥ 0
        · rw [if_pos c3]; exact dcl (by rw [e]; omega)
        · rw [if_neg c3]; exact dfl (by rw [e]; omega)
      · rw [if_neg c2]; exact dfl (by rw [e]; omega)
    · rw [if_neg c1]; exact dfl (by rw [e]; omega)
/-! spec_RestOk -/
theorem srestOk_eq (m a : Int) : spec_RestOk.f m a = some (decide (SOk m a)) := by
  unfold spec_RestOk.f
  rw [snumOk_eq, sin_eq, sin_eq]
  simp only [Option.bind_some]
  by_cases c : m = 0
  · rw [if_pos c]; exact dcl ⟨fun h => Or.inl ⟨c, h⟩, fun h => h.zero c⟩
  · rw [if_neg c]
    have e : SOk m a ↔ (1 ≤ m ∧ m ≤ 65536 ∧ 0 ≤ a ∧ a < m) := by
      unfold SOk; constructor
      · intro h; rcases h with h | h
        · exact absurd h.1 c
        · exact h.2
      · intro h; exact Or.inr ⟨c, h⟩
    by_cases c1 : 1 ≤ m ∧ m ≤ 65536
    · simp only [c1, decide_true, if_true, and_self]
      rw [wrap64_id (by omega) (by omega)]; exact dcl (by rw [e]; omega)
    · simp only [c1, decide_false, Bool.false_eq_true, if_false]; exact dfl (by rw [e]; omega)
/-! impl_restMod -/
theorem restMod_eq {n m : Int} (hm : 0 < m) (h : m ≤ 9223372036854775807) : impl_restMod.f n m = some (n % m) := mod_eq hm h
/-! impl_RestHas -/
theorem restHas_eq (k : Nat) (hk : 1 ≤ k) (m a v : Int) : impl_RestHas.f k m a v = some (decide (SHas m a v)) := by
  obtain ⟨k, rfl⟩ : ∃ m, k = m + 1 := ⟨k - 1, by omega⟩
  unfold impl_RestHas.f
  rw [restOk_eq, numOk_eq]
  simp only [Option.bind_some]
  by_cases c : SOk m a
  case neg => simp only [c, decide_false, Bool.false_eq_true, if_false, impl_RestHas.j0, if_true]; exact dfl (fun h => c h.1)
  by_cases c1 : NOk v
  case neg => simp only [c, c1, decide_true, decide_false, Bool.not_false, impl_RestHas.j0, if_true]; exact dfl (fun h => c1 h.2.1)
  simp only [c, c1, decide_true, if_true, Bool.not_true, impl_RestHas.j0, Bool.false_eq_true, if_false]
  by_cases c2 : m = 0
  · rw [if_pos c2]
    by_cases c3 : v = a
    · subst c3
      have : SHas m v v := ⟨c, c1, Or.inl ⟨c2, rfl⟩⟩
      simp only [this, decide_true, beq_self_eq_true]
    · have : ¬ SHas m a v := fun h => by rcases h.2.2 with h | h; exact c3 h.2; exact h.1 c2
      simp [c3, this]
  · have p := c.pos c2
    rw [if_neg c2, restMod_eq (by omega) (by omega)]
    simp only [Option.bind_some]
    by_cases c3 : v % m = a
    · have : SHas m a v := ⟨c, c1, Or.inr ⟨c2, c3⟩⟩
      simp only [this, decide_true, c3, beq_self_eq_true]
    · have : ¬ SHas m a v := fun h => by rcases h.2.2 with h | h; exact c2 h.1; exact c3 h.2
      simp [c3, this]
/-! spec_RestHas -/
theorem srestHas_eq (k : Nat) (hk : 1 ≤ k) (m a v : Int) : spec_RestHas.f k m a v = some (decide (SHas m a v)) := by
  obtain ⟨k, rfl⟩ : ∃ m, k = m + 1 := ⟨k - 1, by omega⟩
  unfold spec_RestHas.f
  rw [srestOk_eq, snumOk_eq]
  simp only [Option.bind_some]
  by_cases c : SOk m a
  case neg => simp only [c, decide_false, Bool.false_eq_true, if_false, spec_RestHas.j0, if_true]; exact dfl (fun h => c h.1)
  by_cases c1 : NOk v
  case neg => simp only [c, c1, decide_true, decide_false, Bool.not_false, spec_RestHas.j0, if_true]; exact dfl (fun h => c1 h.2.1)
  simp only [c, c1, decide_true, if_true, Bool.not_true, spec_RestHas.j0, Bool.false_eq_true, if_false]
  by_cases c2 : m = 0
  · rw [if_pos c2]
    by_cases c3 : v = a
    · subst c3
      have : SHas m v v := ⟨c, c1, Or.inl ⟨c2, rfl⟩⟩
      simp only [this, decide_true, beq_self_eq_true]
    · have : ¬ SHas m a v := fun h => by rcases h.2.2 with h | h; exact c3 h.2; exact h.1 c2
      simp [c3, this]
  · have p := c.pos c2
    rw [if_neg c2, mod_eq (by omega) (by omega)]
    simp only [Option.bind_some]
    by_cases c3 : v % m = a
    · have : SHas m a v := ⟨c, c1, Or.inr ⟨c2, c3⟩⟩
      simp only [this, decide_true, c3, beq_self_eq_true]
    · have : ¬ SHas m a v := fun h => by rcases h.2.2 with h | h; exact c2 h.1; exact c3 h.2
      simp [c3, this]
/-! impl_valNone -/
theorem valNone_eq : impl_valNone.f = some (1, 0, 0, 0) := rfl
/-! impl_valOne -/
theorem valOne_eq (v : Int) : impl_valOne.f v = some (v, v, 0, v) := rfl
/-! spec_l10None -/
theorem svalNone_eq : spec_l10None.f = some (1, 0, 0, 0) := rfl
/-! spec_l10One -/
theorem svalOne_eq (v : Int) : spec_l10One.f v = some (v, v, 0, v) := rfl
/-! impl_ValMake -/
theorem valMake_eq (k : Nat) (hk : 1 ≤ k) (l h m a : Int) : impl_ValMake.f k l h m a = some (VMake l h m a) := by
  obtain ⟨k, rfl⟩ : ∃ m, k = m + 1 := ⟨k - 1, by omega⟩
  unfold impl_ValMake.f
  rw [rangeOk_eq, restOk_eq, rangeEmpty_eq]
  simp only [Option.bind_some]
  by_cases c : ¬ ROk l h ∨ ¬ SOk m a ∨ l > h
  · rw [VMake_none c]
    have N : impl_ValMake.j0 (k + 1) true l h m a = some (1, 0, 0, 0) := by simp only [impl_ValMake.j0, if_true, valNone_eq, Option.bind_some]
    by_cases c1 : ROk l h
    case neg => simp only [c1, decide_false, Bool.false_eq_true, if_false]; exact N
    by_cases c2 : SOk m a
    case neg => simp only [c1, c2, decide_true, decide_false, if_true, Bool.false_eq_true, if_false]; exact N
    have c3 : l > h := by
      rcases c with c | c | c
      · exact absurd c1 c
      · exact absurd c2 c
      · exact c
    simp only [c1, c2, c3, decide_true, if_true]; exact N
  have o : ROk l h := Decidable.byContradiction fun n => c (Or.inl n)
  have s : SOk m a := Decidable.byContradiction fun n => c (Or.inr (Or.inl n))
  have e : ¬ l > h := fun n => c (Or.inr (Or.inr n))
  have on := o.some e
  have sn := s.nok
  unfold NOk at on sn
  unfold VMake
  rw [if_neg c]
  simp only [o, s, e, decide_true, decide_false, if_true, impl_ValMake.j0, Bool.false_eq_true, if_false]
  rw [rangeHas_eq, valNone_eq]
  simp only [Option.bind_some, decide_eq_true_eq, valOne_eq]
  by_cases hm : m = 0
  · rw [if_pos hm, if_pos hm]; split <;> rfl
  rw [if_neg hm, if_neg hm]
  have p := s.pos hm
  rw [wrap64_id (x := a - l) (by omega) (by omega), wrap64_id (x := h - a) (by omega) (by omega), restMod_eq (by omega) (by omega), restMod_eq (by omega) (by omega)]
  simp only [Option.bind_some]
  have e1 := Int.emod_nonneg (a - l) hm
  have e2 := Int.emod_nonneg (h - a) hm
  have e3 := Int.emod_lt_of_pos (a - l) (b := m) (by omega)
  have e4 := Int.emod_lt_of_pos (h - a) (b := m) (by omega)
  rw [wrap64_id (x := l + (a - l) % m) (by omega) (by omega), wrap64_id (x := h - (h - a) % m) (by omega) (by omega)]
  split
  · rfl
  · split <;> rfl
/-! spec_ValMake -/
theorem svalMake_eq (k : Nat) (hk : 1 ≤ k) (l h m a : Int) : spec_ValMake.f k l h m a = some (VMake l h m a) := by
  obtain ⟨k, rfl⟩ : ∃ m, k = m + 1 := ⟨k - 1, by omega⟩
  unfold spec_ValMake.f
  rw [srangeOk_eq, srestOk_eq, snone_eq]
  simp only [Option.bind_some]
  by_cases c : ¬ ROk l h ∨ ¬ SOk m a ∨ l > h
  · rw [VMake_none c]
    have N : spec_ValMake.j0 (k + 1) true l h m a = some (1, 0, 0, 0) := by simp only [spec_ValMake.j0, if_true, svalNone_eq, Option.bind_some]
    by_cases c1 : ROk l h
    case neg => simp only [c1, decide_false, Bool.false_eq_true, if_false]; exact N
    by_cases c2 : SOk m a
    case neg => simp only [c1, c2, decide_true, decide_false, if_true, Bool.false_eq_true, if_false]; exact N
    have c3 : l > h := by
      rcases c with c | c | c
      · exact absurd c1 c
      · exact absurd c2 c
      · exact c
    have c4 := c1.none c3
    have c5 : (l == 1 && h == 0) = true := by simp [c4]
    simp only [c1, c2, c5, decide_true, if_true]; exact N
  have o : ROk l h := Decidable.byContradiction fun n => c (Or.inl n)
  have s : SOk m a := Decidable.byContradiction fun n => c (Or.inr (Or.inl n))
  have e : ¬ l > h := fun n => c (Or.inr (Or.inr n))
  have on := o.some e
  have sn := s.nok
  unfold NOk at on sn
  have c5 : (l == 1 && h == 0) = false := by
    rw [Bool.eq_false_iff]; simp only [ne_eq, Bool.and_eq_true, beq_iff_eq]; omega
  unfold VMake
  rw [if_neg c]
  simp only [o, s, c5, decide_true, decide_false, if_true, spec_ValMake.j0, Bool.false_eq_true, if_false]
  rw [srangeHas_eq, svalNone_eq]
  simp only [Option.bind_some, decide_eq_true_eq, svalOne_eq]
  by_cases hm : m = 0
  · rw [if_pos hm, if_pos hm]; split <;> rfl
  rw [if_neg hm, if_neg hm]
  have p := s.pos hm
  rw [wrap64_id (x := a - l) (by omega) (by omega), wrap64_id (x := h - a) (by omega) (by omega), mod_eq (by omega) (by omega), mod_eq (by omega) (by omega)]
  simp only [Option.bind_some]
  have e1 := Int.emod_nonneg (a - l) hm
  have e2 := Int.emod_nonneg (h - a) hm
  have e3 := Int.emod_lt_of_pos (a - l) (b := m) (by omega)
  have e4 := Int.emod_lt_of_pos (h - a) (b := m) (by omega)
  rw [wrap64_id (x := l + (a - l) % m) (by omega) (by omega), wrap64_id (x := h - (h - a) % m) (by omega) (by omega)]
  split
  · rfl
  · split <;> rfl
/-! impl_ValOk -/
theorem valOk_eq (k : Nat) (hk : 1 ≤ k) (l h m a : Int) : impl_ValOk.f k l h m a = some (decide (VOk l h m a)) := by
  unfold impl_ValOk.f impl_Val_span.f impl_Val_rest.f
  simp only [Option.bind_some]
  rw [valMake_eq k hk]
  simp only [Option.bind_some]
  congr 1
  rw [Bool.eq_iff_iff]
  simp only [Bool.and_eq_true, beq_iff_eq, decide_eq_true_eq]
  unfold VOk
  constructor
  · rintro ⟨a1, a2, a3, a4⟩; rw [Prod.ext_iff, Prod.ext_iff, Prod.ext_iff]; exact ⟨a1.symm, a2.symm, a3.symm, a4.symm⟩
  · intro e; rw [e]; exact ⟨rfl, rfl, rfl, rfl⟩
/-! spec_ValOk -/
theorem svalOk_eq (k : Nat) (hk : 1 ≤ k) (l h m a : Int) : spec_ValOk.f k l h m a = some (decide (VOk l h m a)) := by
  unfold spec_ValOk.f
  rw [svalNone_eq, Option.bind_some]
  show (if (l == 1 && (h == 0 && (m == 0 && (a == 0)))) = true then some true else _) = _
  by_cases z : (l == 1 && (h == 0 && (m == 0 && (a == 0)))) = true
  · rw [if_pos z]
    simp only [Bool.and_eq_true, beq_iff_eq] at z
    obtain ⟨rfl, rfl, rfl, rfl⟩ := z
    rw [decide_eq_true vok_none]
  · rw [if_neg z]
    have no : (¬ ROk l h ∨ ¬ SOk m a ∨ l > h) → ¬ VOk l h m a := fun c q => by
      unfold VOk at q
      rw [VMake_none c, Prod.mk.injEq, Prod.mk.injEq, Prod.mk.injEq] at q
      obtain ⟨rfl, rfl, rfl, rfl⟩ := q
      exact z rfl
    show (spec_RangeOk.f l h).bind _ = _
    rw [srangeOk_eq, Option.bind_some]
    by_cases o : ROk l h
    · rw [decide_eq_true o, if_pos rfl]
      show (spec_RestOk.f m a).bind _ = _
      rw [srestOk_eq, Option.bind_some]
      by_cases s : SOk m a
      · rw [decide_eq_true s, if_pos rfl]
        show (spec_ValMake.f k l h m a).bind _ = _
        rw [svalMake_eq k hk, Option.bind_some]
        congr 1
        rw [Bool.eq_iff_iff]
        simp only [Bool.and_eq_true, beq_iff_eq, decide_eq_true_eq]
        unfold VOk
        constructor
        · rintro ⟨a1, a2, a3, a4⟩; rw [Prod.ext_iff, Prod.ext_iff, Prod.ext_iff]; exact ⟨a1.symm, a2.symm, a3.symm, a4.symm⟩
        · intro e; rw [e]; exact ⟨rfl, rfl, rfl, rfl⟩
      · rw [decide_eq_false s, if_neg (by decide), decide_eq_false (no (.inr (.inl s)))]
    · rw [decide_eq_false o, if_neg (by decide), decide_eq_false (no (.inl o))]
/-! impl_ValHas -/
theorem valHas_eq (k : Nat) (hk : 1 ≤ k) (l h m a v : Int) : impl_ValHas.f k l h m a v = some (decide (VHas l h m a v)) := by
  unfold impl_ValHas.f impl_Val_span.f impl_Val_rest.f
  rw [valOk_eq k hk]
  simp only [Option.bind_some]
  rw [rangeHas_eq, restHas_eq k hk]
  simp only [Option.bind_some]
  unfold VHas
  by_cases c1 : VOk l h m a <;> by_cases c2 : RHas l h v <;> simp [c1, c2]
/-! laws_toIntS -/
theorem toIntS_loop (x : List Int) (hx : x.length ≤ 1099511627776) : ∀ (m : Nat) (k i : Nat) (acc : List Int), i + m = x.length → m < k → acc.length = x.length → (∀ j, j < i → acc[j]? = x[j]?) → laws_toIntS.l0 k x acc (i : Int) = some x
  | 0, 0, _, _, _, h, _, _ => absurd h (by omega)
  | 0, k + 1, i, acc, hm, _, hl, hj => by
    unfold laws_toIntS.l0
    rw [if_neg (by omega)]
    congr 1
    apply List.ext_getElem?
    intro j
    by_cases h : j < i
    · exact hj j h
    · rw [List.getElem?_eq_none (by omega), List.getElem?_eq_none (by omega)]
  | m + 1, 0, _, _, _, h, _, _ => absurd h (by omega)
  | m + 1, k + 1, i, acc, hm, hk, hl, hj => by
    unfold laws_toIntS.l0
    rw [if_pos (by omega), if_pos (by omega), if_pos (by omega), wrap64_id (by omega) (by omega)]
    have h2 := set_same x acc i (by omega) hl hj
    have e : ((i : Int) + 1) = ((i + 1 : Nat) : Int) := by omega
    rw [e, show (i : Int).toNat = i by omega]
    exact toIntS_loop x hx m k (i + 1) _ (by omega) (by omega) h2.1 h2.2
theorem toIntS_eq {k : Nat} (x : List Int) (hx : x.length ≤ 1048576) (hk : 2000000 ≤ k) : laws_toIntS.f k x = some x := by
  unfold laws_toIntS.f
  rw [if_pos (by omega), if_pos (by omega)]
  exact toIntS_loop x (by omega) x.length k 0 _ (by omega) (by omega) (by simp) (fun j h => absurd h (by omega))
/-! laws_toIntS laws_toGaps -/
theorem toGaps_eq {k : Nat} (n : Int) (x : List Int) (hx : x.length ≤ 1048576) (hk : 2000000 ≤ k) : laws_toGaps.f k n x = some (n, x) := by
  unfold laws_toGaps.f
  rw [toIntS_eq x hx hk]; rfl
/-! laws_szIntS -/
theorem szIntS_eq (x : List Int) (a : Int) (hx : x.length ≤ 9223372036854775807) (h0 : 0 ≤ a) (h : a ≤ 1048576) : laws_szIntS.f x a = some (if (x.length : Int) ≤ a then a - x.length else -1) := by
  unfold laws_szIntS.f
  rw [wrap64_id (by omega) (by omega)]
  by_cases c : (x.length : Int) ≤ a
  · rw [if_neg (by omega), if_pos c]
  · rw [if_pos (by omega), if_neg c]
/-! laws_szIntS laws_szGaps -/
theorem szGaps_eq (n : Int) (x : List Int) (a : Int) (hx : x.length ≤ 9223372036854775807) (h0 : 0 ≤ a) (h : a ≤ 1048576) : laws_szGaps.f n x a = some (if (x.length : Int) ≤ a then a - x.length else -1) := by
  unfold laws_szGaps.f
  rw [szIntS_eq x a hx h0 h]
  show (if (if (x.length : Int) ≤ a then a - x.length else -1) < 0 then (some (-1)) else some (if (x.length : Int) ≤ a then a - x.length else -1)) = _
  by_cases c : (x.length : Int) ≤ a
  · simp only [if_pos c]; rw [if_neg (by omega)]
  · simp only [if_neg c]; rw [if_pos (by omega)]
/-! laws_eqIntS -/
theorem eqIntS_loop (x : List Int) (hx : x.length ≤ 1099511627776) : ∀ (m : Nat) (k i : Nat), i + m = x.length → m < k → laws_eqIntS.l0 k x x (i : Int) = some true
  | 0, 0, _, _, h => absurd h (by omega)
  | 0, k + 1, i, hm, _ => by unfold laws_eqIntS.l0; rw [if_neg (by omega)]
  | m + 1, 0, _, _, h => absurd h (by omega)
  | m + 1, k + 1, i, hm, hk => by
    unfold laws_eqIntS.l0
    rw [if_pos (by omega), if_pos (by omega), if_pos (by omega), if_pos rfl, wrap64_id (by omega) (by omega)]
    exact eqIntS_loop x hx m k (i + 1) (by omega) (by omega)
theorem eqIntS_refl {k : Nat} (x : List Int) (hx : x.length ≤ 1048576) (hk : 2000000 ≤ k) : laws_eqIntS.f k x x = some true := by
  unfold laws_eqIntS.f
  rw [if_pos rfl]
  exact eqIntS_loop x (by omega) x.length k 0 (by omega) (by omega)
/-! laws_eqIntS laws_eqGaps -/
theorem eqGaps_refl {k : Nat} (n : Int) (x : List Int) (hx : x.length ≤ 1048576) (hk : 2000000 ≤ k) : laws_eqGaps.f k n x n x = some true := by
  unfold laws_eqGaps.f
  rw [if_pos rfl, eqIntS_refl x hx hk]; rfl
/-! spec_l11At -/
theorem sl11At_eq {n : Int} {d : List Int} {i j : Int} (h0 : 0 ≤ n) (h : n ≤ 12) (hl : (d.length : Int) = (n + 1) * (n + 1)) (hi0 : 0 ≤ i) (hi : i ≤ n) (hj0 : 0 ≤ j) (hj : j ≤ n) :
    spec_l11At.f n d i j = some (gat n d i j) := by
  have := idx_in h0 h hi0 hi hj0 hj
  unfold spec_l11At.f gat
  rw [idx_w h0 h hi0 hi hj0 hj, if_pos (by omega), if_pos (by omega)]
/-! impl_Gaps_at -/
theorem gapsAt_eq {n : Int} {d : List Int} {i j : Int} (h0 : 0 ≤ n) (h : n ≤ 12) (hi0 : 0 ≤ i) (hi : i ≤ n) (hj0 : 0 ≤ j) (hj : j ≤ n) :
    impl_Gaps_at.f n d i j = some (i * (n + 1) + j) := by
  unfold impl_Gaps_at.f
  rw [idx_w h0 h hi0 hi hj0 hj]
/-! spec_l1In spec_l11At spec_GapsOk -/
theorem sGapsOk_l1 {n : Int} {d : List Int} (h0 : 0 ≤ n) (h : n ≤ 12) (hl : (d.length : Int) = (n + 1) * (n + 1)) (i : Int) (hi0 : 0 ≤ i) (hi : i ≤ n) (K : Nat) (Q : Prop)
    (rest : ∀ k, K ≤ k → Tot (spec_GapsOk.l0 k (i + 1) n d) fun b => b = true ↔ Q) : ∀ (m : Nat) (k : Nat) (j : Int), (n + 1 - j).toNat = m → 0 ≤ j → j ≤ n + 1 → K + m < k →
    Tot (spec_GapsOk.l1 k i j n d) fun b => b = true ↔ (∀ j' : Int, j ≤ j' → j' ≤ n → DIn (gat n d i j') ∧ (i = j' → gat n d i j' = 0)) ∧ Q
  | m, 0, j, _, _, _, hk => absurd hk (by omega)
  | 0, k + 1, j, hm, hj, hj', hk => by
    unfold spec_GapsOk.l1
    rw [if_neg (by omega), wrap64_id (by omega) (by omega)]
    refine (rest k (by omega)).mono fun b hb => hb.trans ⟨fun q => ⟨fun j' a c => absurd a (by omega), q⟩, fun q => q.2⟩
  | m + 1, k + 1, j, hm, hj, hj', hk => by
    unfold spec_GapsOk.l1
    rw [if_pos (by omega), sl11At_eq h0 h hl hi0 hi hj (by omega)]
    show Tot ((spec_l1In.f (gat n d i j) (-1099511627776) 1099511627776).bind _) _
    rw [sin_eq]
    have next : DIn (gat n d i j) → (i = j → gat n d i j = 0) → Tot (spec_GapsOk.l1 k i (wrap64 (j + 1)) n d) fun b => b = true ↔ (∀ j' : Int, j ≤ j' → j' ≤ n → DIn (gat n d i j') ∧ (i = j' → gat n d i j' = 0)) ∧ Q := by
      intro a c
      rw [wrap64_id (by omega) (by omega)]
      refine (sGapsOk_l1 h0 h hl i hi0 hi K Q rest m k (j + 1) (by omega) (by omega) (by omega) (by omega)).mono fun b hb => hb.trans ⟨fun q => ⟨fun j' p p' => ?_, q.2⟩, fun q => ⟨fun j' p p' => q.1 j' (by omega) p', q.2⟩⟩
      by_cases e : j' = j
      · subst e; exact ⟨a, c⟩
      · exact q.1 j' (by omega) p'
    refine Tot.ite (fun c => ?_) (fun c => ?_)
    · have c' : DIn (gat n d i j) := (of_decide_eq_true c : -1099511627776 ≤ gat n d i j ∧ gat n d i j ≤ 1099511627776)
      refine Tot.ite (fun e => ?_) (fun e => next c' fun e' => absurd e' e)
      refine Tot.ite (fun z => next c' fun _ => z) (fun z => Tot.here ⟨fun f => (nomatch f), fun q => absurd ((q.1 j (by omega) (by omega)).2 e) z⟩)
    · refine Tot.here ⟨fun f => (nomatch f), fun q => ?_⟩
      have := (q.1 j (by omega) (by omega)).1
      exact absurd (decide_eq_true (show -1099511627776 ≤ gat n d i j ∧ gat n d i j ≤ 1099511627776 from this)) c
theorem sGapsOk_l0 {n : Int} {d : List Int} (h0 : 0 ≤ n) (h : n ≤ 12) (hl : (d.length : Int) = (n + 1) * (n + 1)) : ∀ (m : Nat) (k : Nat) (i : Int), (n + 1 - i).toNat = m → 0 ≤ i → i ≤ n + 1 → 20 * m < k →
    Tot (spec_GapsOk.l0 k i n d) fun b => b = true ↔ ∀ i' j : Int, i ≤ i' → i' ≤ n → 0 ≤ j → j ≤ n → DIn (gat n d i' j) ∧ (i' = j → gat n d i' j = 0)
  | m, 0, i, _, _, _, hk => absurd hk (by omega)
  | 0, k + 1, i, hm, hi, hi', hk => by
    unfold spec_GapsOk.l0
    rw [if_neg (by omega)]
    exact Tot.here ⟨fun _ i' j a b => absurd a (by omega), fun _ => rfl⟩
  | m + 1, k + 1, i, hm, hi, hi', hk => by
    unfold spec_GapsOk.l0
    rw [if_pos (by omega)]
    refine (sGapsOk_l1 h0 h hl i hi (by omega) (20 * m + 1) _ (fun k hk => sGapsOk_l0 h0 h hl m k (i + 1) (by omega) (by omega) (by omega) (by omega)) _ k 0 rfl (by omega) (by omega) (by omega)).mono fun b hb => hb.trans ⟨fun q i' j a b c e => ?_, fun q => ⟨fun j' a b => q i j' (by omega) (by omega) a b, fun i' j a b c e => q i' j (by omega) b c e⟩⟩
    by_cases e' : i' = i
    · subst e'; exact q.1 j c e
    · exact q.2 i' j (by omega) b c e
theorem sGapsOk_tot {k : Nat} (n : Int) (d : List Int) (hk : 1000 ≤ k) : Tot (spec_GapsOk.f k n d) fun b => b = true ↔ GOk n d := by
  obtain ⟨k, rfl⟩ : ∃ j, k = j + 1 := ⟨k - 1, by omega⟩
  unfold spec_GapsOk.f
  rw [sin_eq]
  show Tot (if decide (0 ≤ n ∧ n ≤ 12) = true then _ else _) _
  refine Tot.ite (fun c => ?_) (fun c => ?_)
  · have c := of_decide_eq_true c
    rw [sq_w c.1 c.2]
    rw [spec_GapsOk.j0]
    by_cases e : (d.length : Int) = (n + 1) * (n + 1)
    · have : ((d.length : Int) != (n + 1) * (n + 1)) = false := bne_eq_false_iff_eq.mpr e
      rw [this, if_neg (by simp)]
      exact (sGapsOk_l0 c.1 c.2 e _ k 0 rfl (by omega) (by omega) (by omega)).mono fun b hb => hb.trans (GOk.of_all c.1 c.2 e).symm
    · have : ((d.length : Int) != (n + 1) * (n + 1)) = true := bne_iff_ne.mpr e
      rw [this, if_pos rfl]
      exact Tot.here ⟨fun f => (nomatch f), fun q => absurd q.2.2.1 e⟩
  · rw [spec_GapsOk.j0]
    rw [if_pos rfl]
    exact Tot.here ⟨fun f => (nomatch f), fun q => absurd (decide_eq_true (show 0 ≤ n ∧ n ≤ 12 from ⟨q.1, q.2.1⟩)) c⟩
theorem sGapsOk_yes {k : Nat} {n : Int} {d : List Int} (h : GOk n d) (hk : 1000 ≤ k) : spec_GapsOk.f k n d = some true := by
  obtain ⟨b, e, hb⟩ := sGapsOk_tot (k := k) n d hk
  rw [e, hb.mpr h]
theorem sGapsOk_no {k : Nat} {n : Int} {d : List Int} (h : ¬ GOk n d) (hk : 1000 ≤ k) : spec_GapsOk.f k n d = some false := by
  obtain ⟨b, e, hb⟩ := sGapsOk_tot (k := k) n d hk
  rw [e]
  cases b with
  | false => rfl
  | true => exact absurd (hb.mp rfl) h
/-! impl_Gaps_at impl_GapsOk -/
theorem gapsOk_l1 (d : List Int) (hd : d.length ≤ 1000) : ∀ (m : Nat) (k : Nat) (p : Int), ((d.length : Int) - p).toNat = m → 0 ≤ p → p ≤ d.length → m < k →
    Tot (impl_GapsOk.l1 k d (d.length : Int) p) fun b => b = true ↔ ∀ q : Int, p ≤ q → q < (d.length : Int) → DIn (rd d q)
  | m, 0, p, _, _, _, hk => absurd hk (by omega)
  | 0, k + 1, p, hm, hp, hp', hk => by
    unfold impl_GapsOk.l1
    rw [if_neg (by omega)]
    exact Tot.here ⟨fun _ q a b => absurd a (by omega), fun _ => rfl⟩
  | m + 1, k + 1, p, hm, hp, hp', hk => by
    unfold impl_GapsOk.l1
    rw [if_pos (by omega), if_pos (by omega), if_pos (by omega)]
    refine Tot.ite (fun c => Tot.here ⟨fun f => (nomatch f), fun q => ?_⟩) (fun c => Tot.ite (fun c' => Tot.here ⟨fun f => (nomatch f), fun q => ?_⟩) (fun c' => ?_))
    · have := (q p (by omega) (by omega)).1; omega
    · have := (q p (by omega) (by omega)).2; omega
    · rw [wrap64_id (by omega) (by omega)]
      refine (gapsOk_l1 d hd m k (p + 1) (by omega) (by omega) (by omega) (by omega)).mono fun b hb => hb.trans ⟨fun q r a b => ?_, fun q r a b => q r (by omega) b⟩
      by_cases e : r = p
      · subst e; exact ⟨by omega, by omega⟩
      · exact q r (by omega) b
theorem gapsOk_l0 {n : Int} {d : List Int} (h0 : 0 ≤ n) (h : n ≤ 12) (hl : (d.length : Int) = (n + 1) * (n + 1)) (hd : d.length ≤ 1000) : ∀ (m : Nat) (k : Nat) (i : Int), (n + 1 - i).toNat = m → 0 ≤ i → i ≤ n + 1 → 1500 + m < k →
    Tot (impl_GapsOk.l0 k (n + 1) i n d) fun b => b = true ↔ (∀ i' : Int, i ≤ i' → i' ≤ n → rd d (i' * (n + 1) + i') = 0) ∧ ∀ q : Int, 0 ≤ q → q < (d.length : Int) → DIn (rd d q)
  | m, 0, p, _, _, _, hk => absurd hk (by omega)
  | 0, k + 1, i, hm, hi, hi', hk => by
    unfold impl_GapsOk.l0
    rw [if_neg (by omega)]
    refine (gapsOk_l1 d hd _ k 0 rfl (by omega) (by omega) (by omega)).mono fun b hb => hb.trans ⟨fun q => ⟨fun i' a b => absurd a (by omega), q⟩, fun q => q.2⟩
  | m + 1, k + 1, i, hm, hi, hi', hk => by
    unfold impl_GapsOk.l0
    have ix := idx_in h0 h hi (by omega : i ≤ n) hi (by omega)
    rw [if_pos (by omega), gapsAt_eq h0 h hi (by omega) hi (by omega)]
    show Tot (if 0 ≤ i * (n + 1) + i then _ else _) _
    rw [if_pos (by omega), if_pos (by omega)]
    refine Tot.ite (fun c => ?_) (fun c => Tot.here ⟨fun f => (nomatch f), fun q => absurd (q.1 i (by omega) (by omega)) c⟩)
    rw [wrap64_id (by omega) (by omega)]
    refine (gapsOk_l0 h0 h hl hd m k (i + 1) (by omega) (by omega) (by omega) (by omega)).mono fun b hb => hb.trans ⟨fun q => ⟨fun i' a b => ?_, q.2⟩, fun q => ⟨fun i' a b => q.1 i' (by omega) b, q.2⟩⟩
    by_cases e : i' = i
    · subst e; exact c
    · exact q.1 i' (by omega) b
theorem gapsOk_tot {k : Nat} (n : Int) (d : List Int) (hk : 2000 ≤ k) : Tot (impl_GapsOk.f k n d) fun b => b = true ↔ GOk n d := by
  obtain ⟨k, rfl⟩ : ∃ j, k = j + 1 := ⟨k - 1, by omega⟩
  unfold impl_GapsOk.f
  have no : ¬ GOk n d → Tot (impl_GapsOk.j0 (k + 1) true n d) fun b => b = true ↔ GOk n d := by
    intro hn
    rw [impl_GapsOk.j0]
    rw [if_pos rfl]
    exact Tot.here ⟨fun f => (nomatch f), fun q => absurd q hn⟩
  refine Tot.ite (fun c => no fun q => by have := q.1; omega) (fun c => Tot.ite (fun c' => no fun q => by have := q.2.1; omega) (fun c' => ?_))
  have a : 0 ≤ n := by omega
  have b : n ≤ 12 := by omega
  rw [sq_w a b]
  by_cases e : (d.length : Int) = (n + 1) * (n + 1)
  · have : ((d.length : Int) != (n + 1) * (n + 1)) = false := bne_eq_false_iff_eq.mpr e
    have ix := idx_in a b a (Int.le_refl n) a (Int.le_refl n)
    have big : d.length ≤ 1000 := by rcases twelve a b with rfl | rfl | rfl | rfl | rfl | rfl | rfl | rfl | rfl | rfl | rfl | rfl | rfl <;> omega
    rw [this]
    rw [impl_GapsOk.j0]
    rw [if_neg (by simp), wrap64_id (x := n + 1) (by omega) (by omega)]
    refine (gapsOk_l0 a b e big _ k 0 rfl (by omega) (by omega) (by omega)).mono fun r hr => hr.trans ⟨fun q => ⟨a, b, e, q.2, q.1⟩, fun q => ⟨q.2.2.2.2, q.2.2.2.1⟩⟩
  · have : ((d.length : Int) != (n + 1) * (n + 1)) = true := bne_iff_ne.mpr e
    rw [this]
    exact no fun q => e q.2.2.1
theorem gapsOk_yes {k : Nat} {n : Int} {d : List Int} (h : GOk n d) (hk : 2000 ≤ k) : impl_GapsOk.f k n d = some true := by
  obtain ⟨b, e, hb⟩ := gapsOk_tot (k := k) n d hk
  rw [e, hb.mpr h]
theorem gapsOk_no {k : Nat} {n : Int} {d : List Int} (h : ¬ GOk n d) (hk : 2000 ≤ k) : impl_GapsOk.f k n d = some false := by
  obtain ⟨b, e, hb⟩ := gapsOk_tot (k := k) n d hk
  rw [e]
  cases b with
  | false => rfl
  | true => exact absurd (hb.mp rfl) h
/-! spec_l11Num -/
theorem l11Num_tot {x : List Int} {n i : Int} (hl : (x.length : Int) = n) (hn : n ≤ 12) (h0 : 0 ≤ i) (h : i ≤ n) : Tot (spec_l11Num.f x i) fun _ => True := by
  unfold spec_l11Num.f
  refine Tot.ite (fun _ => Tot.here trivial) (fun c => ?_)
  rw [wrap64_id (x := i - 1) (by omega) (by omega), if_pos (by omega), if_pos (by omega)]
  exact Tot.here trivial
/-! spec_GapsHas impl_GapsHas spec_l11Num spec_l11At impl_Gaps_at spec_NumOk impl_NumOk -/
/-- A number that may stand; the number i of a row, 0 ahead of it. -/
def NIn (x : Int) : Prop := -2147483648 ≤ x ∧ x ≤ 2147483647
def numAt (l : List Int) (i : Int) : Int := if i = 0 then 0 else rd l (i - 1)
def Nums (l : List Int) : Prop := ∀ p : Int, 0 ≤ p → p < (l.length : Int) → NIn (rd l p)
def Keeps (n : Int) (d l : List Int) : Prop := ∀ i j : Int, 0 ≤ i → i ≤ n → 0 ≤ j → j ≤ n → numAt l i - numAt l j ≤ gat n d i j
def Has (n : Int) (d l : List Int) : Prop := GOk n d ∧ (l.length : Int) = n ∧ Nums l ∧ Keeps n d l
theorem numAt_in {n : Int} {l : List Int} (hl : (l.length : Int) = n) (h : Nums l) {i : Int} (h0 : 0 ≤ i) (hi : i ≤ n) : NIn (numAt l i) := by
  unfold numAt
  by_cases e : i = 0
  · rw [if_pos e]; exact ⟨by omega, by omega⟩
  · rw [if_neg e]; exact h (i - 1) (by omega) (by omega)
theorem l11Num_eq {n : Int} {l : List Int} (hl : (l.length : Int) = n) (hn : n ≤ 12) {i : Int} (h0 : 0 ≤ i) (hi : i ≤ n) : spec_l11Num.f l i = some (numAt l i) := by
  unfold spec_l11Num.f numAt
  by_cases e : i = 0
  · rw [if_pos e, if_pos e]
  · rw [if_neg e, if_neg e, wrap64_id (x := i - 1) (by omega) (by omega), if_pos (by omega), if_pos (by omega)]
theorem snumOk_in (x : Int) : spec_NumOk.f x = some (decide (-2147483648 ≤ x ∧ x ≤ 2147483647)) := by
  unfold spec_NumOk.f
  rw [sin_eq]; rfl
theorem numOk_in (x : Int) : impl_NumOk.f x = some (decide (-2147483648 ≤ x ∧ x ≤ 2147483647)) := by
  unfold impl_NumOk.f
  by_cases c : x ≥ -2147483648
  · rw [if_pos c]; exact dcl ⟨fun h => ⟨c, h⟩, fun h => h.2⟩
  · rw [if_neg c]; exact dfl (fun h => c h.1)
theorem sHas_l2 {n : Int} {d l : List Int} (h0 : 0 ≤ n) (h : n ≤ 12) (hl : (d.length : Int) = (n + 1) * (n + 1)) (ll : (l.length : Int) = n) (hn : Nums l) (i : Int) (hi0 : 0 ≤ i) (hi : i ≤ n) (K : Nat) (Q : Prop)
    (rest : ∀ k, K ≤ k → Tot (spec_GapsHas.l1 k l (i + 1) n d) fun b => b = true ↔ Q) : ∀ (m : Nat) (k : Nat) (j : Int), (n + 1 - j).toNat = m → 0 ≤ j → j ≤ n + 1 → K + m < k →
    Tot (spec_GapsHas.l2 k l i j n d) fun b => b = true ↔ (∀ j' : Int, j ≤ j' → j' ≤ n → numAt l i - numAt l j' ≤ gat n d i j') ∧ Q
  | m, 0, j, _, _, _, hk => absurd hk (by omega)
  | 0, k + 1, j, hm, hj, hj', hk => by
    rw [spec_GapsHas.l2, if_neg (show ¬ j ≤ n by omega), wrap64_id (by omega) (by omega)]
    exact (rest k (by omega)).mono fun b hb => hb.trans ⟨fun q => ⟨fun j' a c => absurd a (by omega), q⟩, fun q => q.2⟩
  | m + 1, k + 1, j, hm, hj, hj', hk => by
    have a := numAt_in ll hn hi0 hi
    have b := numAt_in ll hn hj (by omega)
    unfold NIn at a b
    rw [spec_GapsHas.l2, if_pos (show j ≤ n by omega), l11Num_eq ll h hi0 hi, l11Num_eq ll h hj (by omega), sl11At_eq h0 h hl hi0 hi hj (by omega), Option.bind_some, Option.bind_some, Option.bind_some, wrap64_id (x := numAt l i - numAt l j) (by omega) (by omega), wrap64_id (x := j + 1) (by omega) (by omega)]
    refine Tot.ite (fun c => Tot.here ⟨fun f => (nomatch f), fun q => absurd (q.1 j (by omega) (by omega)) (by omega)⟩) (fun c => ?_)
    refine (sHas_l2 h0 h hl ll hn i hi0 hi K Q rest m k (j + 1) (by omega) (by omega) (by omega) (by omega)).mono fun b hb => hb.trans ⟨fun q => ⟨fun j' p p' => ?_, q.2⟩, fun q => ⟨fun j' p p' => q.1 j' (by omega) p', q.2⟩⟩
    by_cases e : j' = j
    · subst e; omega
    · exact q.1 j' (by omega) p'
theorem sHas_l1 {n : Int} {d l : List Int} (h0 : 0 ≤ n) (h : n ≤ 12) (hl : (d.length : Int) = (n + 1) * (n + 1)) (ll : (l.length : Int) = n) (hn : Nums l) : ∀ (m : Nat) (k : Nat) (i : Int), (n + 1 - i).toNat = m → 0 ≤ i → i ≤ n + 1 → 20 * m < k →
    Tot (spec_GapsHas.l1 k l i n d) fun b => b = true ↔ ∀ i' j : Int, i ≤ i' → i' ≤ n → 0 ≤ j → j ≤ n → numAt l i' - numAt l j ≤ gat n d i' j
  | m, 0, i, _, _, _, hk => absurd hk (by omega)
  | 0, k + 1, i, hm, hi, hi', hk => by
    rw [spec_GapsHas.l1, if_neg (show ¬ i ≤ n by omega)]
    exact Tot.here ⟨fun _ i' j a b => absurd a (by omega), fun _ => rfl⟩
  | m + 1, k + 1, i, hm, hi, hi', hk => by
    rw [spec_GapsHas.l1, if_pos (show i ≤ n by omega)]
    refine (sHas_l2 h0 h hl ll hn i hi (by omega) (20 * m + 1) _ (fun k hk => sHas_l1 h0 h hl ll hn m k (i + 1) (by omega) (by omega) (by omega) (by omega)) _ k 0 rfl (by omega) (by omega) (by omega)).mono fun b hb => hb.trans ⟨fun q i' j a b c e => ?_, fun q => ⟨fun j' a b => q i j' (by omega) (by omega) a b, fun i' j a b c e => q i' j (by omega) b c e⟩⟩
    by_cases e' : i' = i
    · subst e'; exact q.1 j c e
    · exact q.2 i' j (by omega) b c e
theorem sHas_l0 {n : Int} {d l : List Int} (h0 : 0 ≤ n) (h : n ≤ 12) (hl : (d.length : Int) = (n + 1) * (n + 1)) (ll : (l.length : Int) = n) : ∀ (m : Nat) (k : Nat) (p : Int), (n - p).toNat = m → 0 ≤ p → p ≤ n → 500 + m < k → (∀ q : Int, 0 ≤ q → q < p → NIn (rd l q)) →
    Tot (spec_GapsHas.l0 k l p n d) fun b => b = true ↔ Nums l ∧ Keeps n d l
  | m, 0, p, _, _, _, hk, _ => absurd hk (by omega)
  | 0, k + 1, p, hm, hp, hp', hk, hq => by
    have hn : Nums l := fun q a b => hq q a (by omega)
    rw [spec_GapsHas.l0, if_neg (show ¬ p < (l.length : Int) by omega)]
    exact (sHas_l1 h0 h hl ll hn _ k 0 rfl (by omega) (by omega) (by omega)).mono fun b hb => hb.trans ⟨fun q => ⟨hn, fun i j a b c e => q i j a b c e⟩, fun q i j a b c e => q.2 i j a b c e⟩
  | m + 1, k + 1, p, hm, hp, hp', hk, hq => by
    rw [spec_GapsHas.l0, if_pos (show p < (l.length : Int) by omega), if_pos hp, snumOk_in, Option.bind_some, wrap64_id (x := p + 1) (by omega) (by omega)]
    refine Tot.ite (fun c => ?_) (fun c => Tot.here ⟨fun f => (nomatch f), fun q => absurd (decide_eq_true (show -2147483648 ≤ rd l p ∧ rd l p ≤ 2147483647 from q.1 p hp (by omega))) c⟩)
    have c' : NIn (rd l p) := (of_decide_eq_true c : -2147483648 ≤ rd l p ∧ rd l p ≤ 2147483647)
    exact sHas_l0 h0 h hl ll m k (p + 1) (by omega) (by omega) (by omega) (by omega) fun q a b => by
      by_cases e : q = p
      · subst e; exact c'
      · exact hq q a (by omega)
theorem sHas_tot {k : Nat} (n : Int) (d l : List Int) (hk : 5000 ≤ k) : Tot (spec_GapsHas.f k n d l) fun b => b = true ↔ Has n d l := by
  obtain ⟨k, rfl⟩ : ∃ j, k = j + 1 := ⟨k - 1, by omega⟩
  have no : ¬ Has n d l → Tot (spec_GapsHas.j0 (k + 1) l true n d) fun b => b = true ↔ Has n d l := fun hn => by
    rw [spec_GapsHas.j0, if_pos rfl]
    exact Tot.here ⟨fun f => (nomatch f), fun q => absurd q hn⟩
  unfold spec_GapsHas.f
  by_cases g : GOk n d
  · rw [sGapsOk_yes g (by omega), Option.bind_some, if_pos rfl]
    by_cases e : (l.length : Int) = n
    · have ne : ((l.length : Int) != n) = false := bne_eq_false_iff_eq.mpr e
      rw [ne, spec_GapsHas.j0, if_neg (show ¬ (false = true) by decide)]
      exact (sHas_l0 g.1 g.2.1 g.2.2.1 e _ k 0 rfl (by omega) g.1 (by have := g.2.1; omega) (fun q a b => absurd a (by omega))).mono fun b hb => hb.trans ⟨fun q => ⟨g, e, q.1, q.2⟩, fun q => ⟨q.2.2.1, q.2.2.2⟩⟩
    · have ne : ((l.length : Int) != n) = true := bne_iff_ne.mpr e
      rw [ne]; exact no fun q => e q.2.1
  · rw [sGapsOk_no g (by omega), Option.bind_some, if_neg (show ¬ (false = true) by decide)]
    exact no fun q => g q.1
theorem has_l2 {n : Int} {d l : List Int} (h0 : 0 ≤ n) (h : n ≤ 12) (hl : (d.length : Int) = (n + 1) * (n + 1)) (ll : (l.length : Int) = n) (hn : Nums l) (x : List Int) (hx : (x.length : Int) = n + 1) (xe : ∀ i : Int, 0 ≤ i → i ≤ n → rd x i = numAt l i) (i : Int) (hi0 : 0 ≤ i) (hi : i ≤ n) (K : Nat) (Q : Prop)
    (rest : ∀ k, K ≤ k → Tot (impl_GapsHas.l1 k x x (x.length : Int) (i + 1) n d) fun b => b = true ↔ Q) : ∀ (m : Nat) (k : Nat) (j : Int), (n + 1 - j).toNat = m → 0 ≤ j → j ≤ n + 1 → K + m < k →
    Tot (impl_GapsHas.l2 k x i (rd x i) x (x.length : Int) i x (x.length : Int) j n d) fun b => b = true ↔ (∀ j' : Int, j ≤ j' → j' ≤ n → numAt l i - numAt l j' ≤ gat n d i j') ∧ Q
  | m, 0, j, _, _, _, hk => absurd hk (by omega)
  | 0, k + 1, j, hm, hj, hj', hk => by
    rw [impl_GapsHas.l2, if_neg (show ¬ j < (x.length : Int) by omega), wrap64_id (by omega) (by omega)]
    exact (rest k (by omega)).mono fun b hb => hb.trans ⟨fun q => ⟨fun j' a c => absurd a (by omega), q⟩, fun q => q.2⟩
  | m + 1, k + 1, j, hm, hj, hj', hk => by
    have a := numAt_in ll hn hi0 hi
    have b := numAt_in ll hn hj (by omega)
    have ix := idx_in h0 h hi0 hi hj (by omega)
    unfold NIn at a b
    rw [impl_GapsHas.l2, if_pos (show j < (x.length : Int) by omega), if_pos hj, if_pos (show j < (x.length : Int) by omega), gapsAt_eq h0 h hi0 hi hj (by omega), Option.bind_some, if_pos ix.1, if_pos (show i * (n + 1) + j < (d.length : Int) by omega), xe i hi0 hi, xe j hj (by omega), wrap64_id (x := numAt l i - numAt l j) (by omega) (by omega), wrap64_id (x := j + 1) (by omega) (by omega)]
    have next : numAt l i - numAt l j ≤ gat n d i j → Tot (impl_GapsHas.l2 k x i (numAt l i) x (x.length : Int) i x (x.length : Int) (j + 1) n d) fun b => b = true ↔ (∀ j' : Int, j ≤ j' → j' ≤ n → numAt l i - numAt l j' ≤ gat n d i j') ∧ Q := fun z => by
      have t := has_l2 h0 h hl ll hn x hx xe i hi0 hi K Q rest m k (j + 1) (by omega) (by omega) (by omega) (by omega)
      rw [xe i hi0 hi] at t
      refine t.mono fun b hb => hb.trans ⟨fun q => ⟨fun j' p p' => ?_, q.2⟩, fun q => ⟨fun j' p p' => q.1 j' (by omega) p', q.2⟩⟩
      by_cases e : j' = j
      · subst e; exact z
      · exact q.1 j' (by omega) p'
    refine Tot.ite (fun z => next (by unfold gat; omega)) (fun _ => Tot.ite (fun c => Tot.here ⟨fun f => (nomatch f), fun q => ?_⟩) (fun c => next (by unfold gat; omega)))
    have := q.1 j (by omega) (by omega)
    unfold gat at this; omega
theorem has_l1 {n : Int} {d l : List Int} (h0 : 0 ≤ n) (h : n ≤ 12) (hl : (d.length : Int) = (n + 1) * (n + 1)) (ll : (l.length : Int) = n) (hn : Nums l) (x : List Int) (hx : (x.length : Int) = n + 1) (xe : ∀ i : Int, 0 ≤ i → i ≤ n → rd x i = numAt l i) : ∀ (m : Nat) (k : Nat) (i : Int), (n + 1 - i).toNat = m → 0 ≤ i → i ≤ n + 1 → 20 * m < k →
    Tot (impl_GapsHas.l1 k x x (x.length : Int) i n d) fun b => b = true ↔ ∀ i' j : Int, i ≤ i' → i' ≤ n → 0 ≤ j → j ≤ n → numAt l i' - numAt l j ≤ gat n d i' j
  | m, 0, i, _, _, _, hk => absurd hk (by omega)
  | 0, k + 1, i, hm, hi, hi', hk => by
    rw [impl_GapsHas.l1, if_neg (show ¬ i < (x.length : Int) by omega)]
    exact Tot.here ⟨fun _ i' j a b => absurd a (by omega), fun _ => rfl⟩
  | m + 1, k + 1, i, hm, hi, hi', hk => by
    rw [impl_GapsHas.l1, if_pos (show i < (x.length : Int) by omega), if_pos hi, if_pos (show i < (x.length : Int) by omega)]
    refine (has_l2 h0 h hl ll hn x hx xe i hi (by omega) (20 * m + 1) _ (fun k hk => has_l1 h0 h hl ll hn x hx xe m k (i + 1) (by omega) (by omega) (by omega) (by omega)) _ k 0 rfl (by omega) (by omega) (by omega)).mono fun b hb => hb.trans ⟨fun q i' j a b c e => ?_, fun q => ⟨fun j' a b => q i j' (by omega) (by omega) a b, fun i' j a b c e => q i' j (by omega) b c e⟩⟩
    by_cases e' : i' = i
    · subst e'; exact q.1 j c e
    · exact q.2 i' j (by omega) b c e
theorem has_l0 {n : Int} {d l : List Int} (h0 : 0 ≤ n) (h : n ≤ 12) (hl : (d.length : Int) = (n + 1) * (n + 1)) (ll : (l.length : Int) = n) : ∀ (m : Nat) (k : Nat) (p : Nat), (l.length - p) = m → p ≤ l.length → 500 + m < k → (∀ q : Int, 0 ≤ q → q < p → NIn (rd l q)) →
    Tot (impl_GapsHas.l0 k (0 :: l.take p) l (l.length : Int) (p : Int) n d) fun b => b = true ↔ Nums l ∧ Keeps n d l
  | m, 0, p, _, _, hk, _ => absurd hk (by omega)
  | 0, k + 1, p, hm, hp, hk, hq => by
    have hn : Nums l := fun q a b => hq q a (by omega)
    rw [impl_GapsHas.l0, if_neg (show ¬ (p : Int) < (l.length : Int) by omega), List.take_of_length_le (by omega)]
    refine (has_l1 h0 h hl ll hn (0 :: l) (by simp; omega) (fun i a b => ?_) _ k 0 rfl (by omega) (by omega) (by omega)).mono fun b hb => hb.trans ⟨fun q => ⟨hn, fun i j a b c e => q i j a b c e⟩, fun q i j a b c e => q.2 i j a b c e⟩
    unfold numAt rd
    by_cases e : i = 0
    · subst e; rfl
    · obtain ⟨t, ht⟩ : ∃ t : Nat, i = (t : Int) + 1 := ⟨(i - 1).toNat, by omega⟩
      subst ht
      rw [if_neg e, show ((t : Int) + 1).toNat = t + 1 by omega, show ((t : Int) + 1 - 1).toNat = t by omega]
      simp
  | m + 1, k + 1, p, hm, hp, hk, hq => by
    have hlt : p < l.length := by omega
    rw [impl_GapsHas.l0, if_pos (show (p : Int) < (l.length : Int) by omega), if_pos (show 0 ≤ (p : Int) by omega), if_pos (show (p : Int) < (l.length : Int) by omega), numOk_in, Option.bind_some, wrap64_id (x := (p : Int) + 1) (by omega) (by omega)]
    refine Tot.ite (fun c => ?_) (fun c => Tot.here ⟨fun f => (nomatch f), fun q => absurd (decide_eq_true (show -2147483648 ≤ rd l (p : Int) ∧ rd l (p : Int) ≤ 2147483647 from q.1 p (by omega) (by omega))) c⟩)
    have c' : NIn (rd l p) := (of_decide_eq_true c : -2147483648 ≤ rd l p ∧ rd l p ≤ 2147483647)
    rw [if_pos (by simp; omega)]
    have e : (0 :: l.take p) ++ [rd l (p : Int)] = 0 :: l.take (p + 1) := by
      rw [List.cons_append, List.take_add_one, List.getElem?_eq_getElem hlt]
      simp [rd, List.getD_eq_getElem?_getD, List.getElem?_eq_getElem hlt]
    rw [e, show ((p : Int) + 1) = ((p + 1 : Nat) : Int) by omega]
    exact has_l0 h0 h hl ll m k (p + 1) (by omega) (by omega) (by omega) fun q a b => by
      by_cases e : q = p
      · subst e; exact c'
      · exact hq q a (by omega)
theorem has_tot {k : Nat} (n : Int) (d l : List Int) (hk : 5000 ≤ k) : Tot (impl_GapsHas.f k n d l) fun b => b = true ↔ Has n d l := by
  obtain ⟨k, rfl⟩ : ∃ j, k = j + 1 := ⟨k - 1, by omega⟩
  have no : ¬ Has n d l → Tot (impl_GapsHas.j0 (k + 1) l true n d) fun b => b = true ↔ Has n d l := fun hn => by
    rw [impl_GapsHas.j0, if_pos rfl]
    exact Tot.here ⟨fun f => (nomatch f), fun q => absurd q hn⟩
  unfold impl_GapsHas.f
  by_cases g : GOk n d
  · rw [gapsOk_yes g (by omega), Option.bind_some, if_pos rfl]
    by_cases e : (l.length : Int) = n
    · have ne : ((l.length : Int) != n) = false := bne_eq_false_iff_eq.mpr e
      have h0 := g.1
      have h12 := g.2.1
      rw [ne, impl_GapsHas.j0, if_neg (show ¬ (false = true) by decide), wrap64_id (x := n + 1) (by omega) (by omega), if_pos (show 0 ≤ n + 1 by omega), if_pos (show (n + 1).toNat ≤ 35184372088832 by omega), Option.bind_some, if_pos (by simp)]
      exact (has_l0 h0 h12 g.2.2.1 e _ k 0 rfl (by omega) (by omega) (fun q a b => absurd a (by omega))).mono fun b hb => hb.trans ⟨fun q => ⟨g, e, q.1, q.2⟩, fun q => ⟨q.2.2.1, q.2.2.2⟩⟩
    · have ne : ((l.length : Int) != n) = true := bne_iff_ne.mpr e
      rw [ne]; exact no fun q => e q.2.1
  · rw [gapsOk_no g (by omega), Option.bind_some, if_neg (show ¬ (false = true) by decide)]
    exact no fun q => g q.1
/-! impl_Val_none -/
theorem valNone_q (a b c d : Int) : impl_Val_none.f a b c d = some (a == 1 && (b == 0 && (c == 0 && (d == 0)))) := rfl
/-! spec_l12RefOk impl_refOk -/
def RefOk (null : Bool) (x : List Int) (a b c d : Int) : Prop := VOk a b c d ∧ (VN a b c d ↔ x = []) ∧ Asc x ∧ (null = true ∨ x ≠ [])
def lastOf (x : List Int) (i : Int) : Int := if i = 0 then -1 else rd x (i - 1)
theorem ne_iff {p q : Prop} {b b' : Bool} (h : b = true ↔ p) (h' : b' = true ↔ q) : (b != b') = false ↔ (p ↔ q) := by
  cases b <;> cases b' <;> simp_all
theorem nil_iff (x : List Int) : ((x.length : Int) == 0) = true ↔ x = [] := by
  cases x with
  | nil => simp
  | cons a l => simp; omega
theorem refOk_l0 {k : Nat} (null : Bool) (x : List Int) (a b c d : Int) (hx : x.length ≤ 1048576) (hk : 2000000 ≤ k) : Tot (impl_refOk.l0 k (-1) x (x.length : Int) 0 null x a b c d) fun r => r = true ↔ Asc x ∧ (null = true ∨ x ≠ []) := by
  have h : Tot (impl_refOk.l0 k (lastOf x 0) x (x.length : Int) 0 null x a b c d) fun r => r = true ↔ (∀ j : Int, 0 ≤ j → j < (x.length : Int) → lastOf x j < rd x j) ∧ (null = true ∨ x ≠ []) := by
    refine scan (g := fun k i => impl_refOk.l0 k (lastOf x i) x (x.length : Int) i null x a b c d) (n := (x.length : Int)) 0 (fun k i R _ h0 h1 yes no => ?_) (fun k _ => ?_) _ k 0 rfl (by omega) (by omega) (by omega)
    · try dsimp only at yes ⊢
      rw [impl_refOk.l0, if_pos h1, if_pos h0, if_pos h1, wrap64_id (x := i + 1) (by omega) (by omega)]
      refine Tot.ite (fun z => Tot.here (no (by omega))) (fun z => ?_)
      have e : lastOf x (i + 1) = rd x i := by
        unfold lastOf
        rw [if_neg (by omega), show i + 1 - 1 = i by omega]
      rw [← e]
      exact yes (by omega)
    · try dsimp only
      rw [impl_refOk.l0, if_neg (by omega)]
      refine Tot.ite (fun z => Tot.here ⟨fun _ => .inl z, fun _ => rfl⟩) (fun z => Tot.here ?_)
      rw [decide_eq_true_iff]
      cases x with
      | nil => simp [z]
      | cons a l => simp
  obtain ⟨r, h1, h2⟩ := h
  exact ⟨r, h1, h2.trans (by rw [asc_iff]; exact Iff.rfl)⟩
theorem refOk_tot {k : Nat} (null : Bool) (x : List Int) (a b c d : Int) (hx : x.length ≤ 1048576) (hk : 3000000 ≤ k) : Tot (impl_refOk.f k null x a b c d) fun r => r = true ↔ RefOk null x a b c d := by
  obtain ⟨k, rfl⟩ : ∃ j, k = j + 1 := ⟨k - 1, by omega⟩
  unfold impl_refOk.f
  rw [valOk_eq (k + 1) (by omega), Option.bind_some]
  by_cases o : VOk a b c d
  · rw [decide_eq_true o, if_pos rfl, valNone_q, Option.bind_some, impl_refOk.j0]
    by_cases e : VN a b c d ↔ x = []
    · rw [(ne_iff (vn_iff a b c d) (nil_iff x)).mpr e, if_neg (show ¬ (false = true) by decide)]
      exact (refOk_l0 null x a b c d hx (by omega)).mono fun r hr => hr.trans ⟨fun q => ⟨o, e, q.1, q.2⟩, fun q => ⟨q.2.2.1, q.2.2.2⟩⟩
    · have ne : ((a == 1 && (b == 0 && (c == 0 && (d == 0)))) != ((x.length : Int) == 0)) = true := by
        rw [← Bool.not_eq_false]; exact fun z => e ((ne_iff (vn_iff a b c d) (nil_iff x)).mp z)
      rw [ne, if_pos rfl]
      exact Tot.here ⟨fun f => (nomatch f), fun q => absurd q.2.1 e⟩
  · rw [decide_eq_false o, if_neg (show ¬ (false = true) by decide), impl_refOk.j0, if_pos rfl]
    exact Tot.here ⟨fun f => (nomatch f), fun q => absurd q.1 o⟩
theorem srefOk_l0 {k : Nat} (null : Bool) (x : List Int) (a b c d : Int) (hx : x.length ≤ 1048576) (hk : 2000000 ≤ k) : Tot (spec_l12RefOk.l0 k 0 null x a b c d) fun r => r = true ↔ Asc x := by
  have h : Tot (spec_l12RefOk.l0 k 0 null x a b c d) fun r => r = true ↔ (∀ j : Int, 0 ≤ j → j < (x.length : Int) → 0 ≤ rd x j ∧ (0 < j → rd x (j - 1) < rd x j)) ∧ True := by
    refine scan (g := fun k i => spec_l12RefOk.l0 k i null x a b c d) (n := (x.length : Int)) 0 (fun k i R _ h0 h1 yes no => ?_) (fun k _ => ?_) _ k 0 rfl (by omega) (by omega) (by omega)
    · try dsimp only at yes ⊢
      rw [spec_l12RefOk.l0, if_pos h1, if_pos h0, wrap64_id (x := i + 1) (by omega) (by omega)]
      refine Tot.ite (fun z => Tot.here (no (by omega))) (fun z => ?_)
      refine Tot.ite (fun z2 => ?_) (fun z2 => yes ⟨by omega, fun h => absurd h (by omega)⟩)
      rw [wrap64_id (x := i - 1) (by omega) (by omega), if_pos (by omega), if_pos (by omega)]
      refine Tot.ite (fun z3 => Tot.here (no (fun q => by have := q.2 (by omega); omega))) (fun z3 => yes ⟨by omega, fun _ => by omega⟩)
    · try dsimp only
      rw [spec_l12RefOk.l0, if_neg (by omega)]
      exact Tot.here ⟨fun _ => trivial, fun _ => rfl⟩
  obtain ⟨r, h1, h2⟩ := h
  exact ⟨r, h1, h2.trans ⟨fun q => q.1, fun q => ⟨q, trivial⟩⟩⟩
theorem srefOk_tot {k : Nat} (null : Bool) (x : List Int) (a b c d : Int) (hx : x.length ≤ 1048576) (hk : 3000000 ≤ k) : Tot (spec_l12RefOk.f k null x a b c d) fun r => r = true ↔ RefOk null x a b c d := by
  obtain ⟨k, rfl⟩ : ∃ j, k = j + 1 := ⟨k - 1, by omega⟩
  unfold spec_l12RefOk.f
  rw [svalOk_eq (k + 1) (by omega), Option.bind_some]
  by_cases o : VOk a b c d
  · rw [decide_eq_true o, if_pos rfl, svalNone_eq, Option.bind_some]
    show Tot (if (((x.length : Int) == 0) != (a == 1 && (b == 0 && (c == 0 && (d == 0))))) = true then _ else _) _
    by_cases e : VN a b c d ↔ x = []
    · rw [(ne_iff (nil_iff x) (vn_iff a b c d)).mpr e.symm, if_neg (show ¬ (false = true) by decide)]
      have fin : (null = true ∨ x ≠ []) → Tot (spec_l12RefOk.j0 (k + 1) false null x a b c d) fun r => r = true ↔ RefOk null x a b c d := fun z => by
        rw [spec_l12RefOk.j0, if_neg (show ¬ (false = true) by decide)]
        exact (srefOk_l0 null x a b c d hx (by omega)).mono fun r hr => hr.trans ⟨fun q => ⟨o, e, q, z⟩, fun q => q.2.2.1⟩
      refine Tot.ite (fun z => fin (.inl z)) (fun z => ?_)
      by_cases y : x = []
      · rw [(nil_iff x).mpr y, spec_l12RefOk.j0, if_pos rfl]
        exact Tot.here ⟨fun f => (nomatch f), fun q => q.2.2.2.elim (fun n => absurd n z) (fun n => absurd y n)⟩
      · have : ((x.length : Int) == 0) = false := by rw [← Bool.not_eq_true]; exact fun h => y ((nil_iff x).mp h)
        rw [this]
        exact fin (.inr y)
    · have ne : (((x.length : Int) == 0) != (a == 1 && (b == 0 && (c == 0 && (d == 0))))) = true := by
        rw [← Bool.not_eq_false]; exact fun z => e ((ne_iff (nil_iff x) (vn_iff a b c d)).mp z).symm
      rw [ne, if_pos rfl, spec_l12RefOk.j0, if_pos rfl]
      exact Tot.here ⟨fun f => (nomatch f), fun q => absurd q.2.1 e⟩
  · rw [decide_eq_false o, if_neg (show ¬ (false = true) by decide), spec_l12RefOk.j0, if_pos rfl]
    exact Tot.here ⟨fun f => (nomatch f), fun q => absurd q.1 o⟩
/-! spec_AbsOk impl_AbsOk -/
def VGood (v : S60) : Prop := VOk v.f0 v.f1 v.f2 v.f3 ∧ ¬ VN v.f0 v.f1 v.f2 v.f3
def RGood (r : S63) : Prop := RefOk r.f0 r.f1 r.f2.f0 r.f2.f1 r.f2.f2 r.f2.f3
def AOk (live : Bool) (ints : List S60) (refs : List S63) (cells : List S60) (n : Int) (d : List Int) : Prop :=
  (live = true ∧ (∀ v ∈ ints, VGood v) ∧ (∀ v ∈ cells, VGood v) ∧ (∀ r ∈ refs, RGood r) ∧ GOk n d ∧ n = (ints.length : Int)) ∨
  (live = false ∧ ints = [] ∧ refs = [] ∧ cells = [] ∧ n = 0 ∧ d = [])
/-- How long the rows may be. -/
def ASmall (ints : List S60) (refs : List S63) (cells : List S60) : Prop := ints.length ≤ 1048576 ∧ refs.length ≤ 1048576 ∧ cells.length ≤ 1048576 ∧ ∀ r ∈ refs, r.f1.length ≤ 1048576
theorem arr_small {refs : List S63} (h : ∀ r ∈ refs, r.f1.length ≤ 1048576) {i : Int} (h0 : 0 ≤ i) (h1 : i < (refs.length : Int)) : (rd_T63 refs i).f1.length ≤ 1048576 :=
  (all_get refs z63 (fun r => r.f1.length ≤ 1048576)).mpr h i h0 h1
theorem sl12Vals_tot {k : Nat} (x : List S60) (hx : x.length ≤ 1048576) (hk : 2000000 ≤ k) : Tot (spec_l12Vals.f k x) fun r => r = true ↔ ∀ v ∈ x, VGood v := by
  unfold spec_l12Vals.f
  have h : Tot (spec_l12Vals.l0 k x 0) fun r => r = true ↔ (∀ j : Int, 0 ≤ j → j < (x.length : Int) → VGood (rd_T60 x j)) ∧ True := by
    refine scan (g := fun k i => spec_l12Vals.l0 k x i) (n := (x.length : Int)) 10 (fun k i R hk h0 h1 yes no => ?_) (fun k _ => ?_) _ k 0 rfl (by omega) (by omega) (by omega)
    · try dsimp only at yes ⊢
      rw [spec_l12Vals.l0, if_pos h1, if_pos h0, wrap64_id (x := i + 1) (by omega) (by omega), svalOk_eq k (by omega), Option.bind_some]
      by_cases o : VOk (rd_T60 x i).f0 (rd_T60 x i).f1 (rd_T60 x i).f2 (rd_T60 x i).f3
      · rw [decide_eq_true o, if_pos rfl, svalNone_eq, Option.bind_some]
        refine Tot.ite (fun z => Tot.here (no fun q => q.2 ((vn_iff _ _ _ _).mp z))) (fun z => yes ⟨o, fun q => z ((vn_iff _ _ _ _).mpr q)⟩)
      · rw [decide_eq_false o, if_neg (show ¬ (false = true) by decide)]
        exact Tot.here (no fun q => o q.1)
    · try dsimp only
      rw [spec_l12Vals.l0, if_neg (by omega)]
      exact Tot.here ⟨fun _ => trivial, fun _ => rfl⟩
  obtain ⟨r, h1, h2⟩ := h
  exact ⟨r, h1, h2.trans ⟨fun q => (all_get x z60 VGood).mp q.1, fun q => ⟨(all_get x z60 VGood).mpr q, trivial⟩⟩⟩
theorem dead_tot {k : Nat} {f : Option Bool} (ints : List S60) (refs : List S63) (cells : List S60) (n : Int) (d : List Int)
    (e : f = if (ints.length : Int) = 0 then (if (refs.length : Int) = 0 then (if (cells.length : Int) = 0 then (if n = 0 then (some ((d.length : Int) == 0)) else (some false)) else (some false)) else (some false)) else (some false)) :
    Tot f fun b => b = true ↔ AOk false ints refs cells n d := by
  subst e
  have len : ∀ {α : Type} (l : List α), (l.length : Int) = 0 ↔ l = [] := fun l => by cases l <;> simp; omega
  have red : AOk false ints refs cells n d ↔ ints = [] ∧ refs = [] ∧ cells = [] ∧ n = 0 ∧ d = [] := by simp [AOk]
  refine Tot.ite (fun c1 => ?_) (fun c1 => Tot.here ⟨fun f => (nomatch f), fun q => absurd ((len _).mpr (red.mp q).1) c1⟩)
  refine Tot.ite (fun c2 => ?_) (fun c2 => Tot.here ⟨fun f => (nomatch f), fun q => absurd ((len _).mpr (red.mp q).2.1) c2⟩)
  refine Tot.ite (fun c3 => ?_) (fun c3 => Tot.here ⟨fun f => (nomatch f), fun q => absurd ((len _).mpr (red.mp q).2.2.1) c3⟩)
  refine Tot.ite (fun c4 => ?_) (fun c4 => Tot.here ⟨fun f => (nomatch f), fun q => absurd (red.mp q).2.2.2.1 c4⟩)
  exact Tot.here (((nil_iff d).trans ⟨fun q => ⟨(len _).mp c1, (len _).mp c2, (len _).mp c3, c4, q⟩, fun q => q.2.2.2.2⟩).trans red.symm)
theorem absOk_tot {k : Nat} {live : Bool} {ints : List S60} {refs : List S63} {cells : List S60} {n : Int} {d : List Int} (sm : ASmall ints refs cells) (hk : 20000000 ≤ k) :
    Tot (impl_AbsOk.f k live ints refs cells n d) fun b => b = true ↔ AOk live ints refs cells n d := by
  obtain ⟨hi, hr, hc, ha⟩ := sm
  unfold impl_AbsOk.f
  cases live with
  | false =>
    rw [if_neg (show ¬ (false = true) by decide)]
    exact dead_tot (k := k) ints refs cells n d rfl
  | true =>
    rw [if_pos rfl]
    have h2 : ∀ k, 8000000 ≤ k → Tot (impl_AbsOk.l2 k refs (refs.length : Int) 0 true ints refs cells n d) fun b => b = true ↔ (∀ j : Int, 0 ≤ j → j < (refs.length : Int) → RGood (rd_T63 refs j)) ∧ GOk n d ∧ n = (ints.length : Int) := by
      intro k hk
      refine scan (g := fun k i => impl_AbsOk.l2 k refs (refs.length : Int) i true ints refs cells n d) (n := (refs.length : Int)) 4000000 (fun k i R hk h0 h1 yes no => ?_) (fun k hk => ?_) _ k 0 rfl (by omega) (by omega) (by omega)
      · try dsimp only at yes ⊢
        rw [impl_AbsOk.l2, if_pos h1, if_pos h0, if_pos h1, wrap64_id (x := i + 1) (by omega) (by omega)]
        refine Tot.then (refOk_tot _ _ _ _ _ _ (arr_small ha h0 h1) (by omega)) ?_
        intro b hb
        exact Tot.ite (fun z => yes (hb.mp z)) (fun z => Tot.here (no fun q => z (hb.mpr q)))
      · try dsimp only
        rw [impl_AbsOk.l2, if_neg (by omega)]
        refine Tot.then (gapsOk_tot n d (by omega)) ?_
        intro b hb
        refine Tot.ite (fun z => Tot.here ?_) (fun z => Tot.here ⟨fun f => (nomatch f), fun q => absurd (hb.mpr q.1) z⟩)
        rw [beq_iff_eq]
        exact ⟨fun q => ⟨hb.mp z, q⟩, fun q => q.2⟩
    have h1 : ∀ k, 10000000 ≤ k → Tot (impl_AbsOk.l1 k cells (cells.length : Int) 0 true ints refs cells n d) fun b => b = true ↔ (∀ j : Int, 0 ≤ j → j < (cells.length : Int) → VGood (rd_T60 cells j)) ∧ (∀ j : Int, 0 ≤ j → j < (refs.length : Int) → RGood (rd_T63 refs j)) ∧ GOk n d ∧ n = (ints.length : Int) := by
      intro k hk
      refine scan (g := fun k i => impl_AbsOk.l1 k cells (cells.length : Int) i true ints refs cells n d) (n := (cells.length : Int)) 8000000 (fun k i R hk h0 h1 yes no => ?_) (fun k hk => ?_) _ k 0 rfl (by omega) (by omega) (by omega)
      · try dsimp only at yes ⊢
        rw [impl_AbsOk.l1, if_pos h1, if_pos h0, if_pos h1, wrap64_id (x := i + 1) (by omega) (by omega), valNone_q, Option.bind_some]
        refine Tot.ite (fun z => Tot.here (no fun q => q.2 ((vn_iff _ _ _ _).mp z))) (fun z => ?_)
        rw [valOk_eq k (by omega), Option.bind_some]
        exact Tot.ite (fun z2 => yes ⟨of_decide_eq_true z2, fun q => z ((vn_iff _ _ _ _).mpr q)⟩) (fun z2 => Tot.here (no fun q => z2 (decide_eq_true q.1)))
      · try dsimp only
        rw [impl_AbsOk.l1, if_neg (by omega)]
        exact h2 k (by omega)
    have h0 : Tot (impl_AbsOk.l0 k ints (ints.length : Int) 0 true ints refs cells n d) fun b => b = true ↔ (∀ j : Int, 0 ≤ j → j < (ints.length : Int) → VGood (rd_T60 ints j)) ∧ (∀ j : Int, 0 ≤ j → j < (cells.length : Int) → VGood (rd_T60 cells j)) ∧ (∀ j : Int, 0 ≤ j → j < (refs.length : Int) → RGood (rd_T63 refs j)) ∧ GOk n d ∧ n = (ints.length : Int) := by
      refine scan (g := fun k i => impl_AbsOk.l0 k ints (ints.length : Int) i true ints refs cells n d) (n := (ints.length : Int)) 12000000 (fun k i R hk h0 h1 yes no => ?_) (fun k hk => ?_) _ k 0 rfl (by omega) (by omega) (by omega)
      · try dsimp only at yes ⊢
        rw [impl_AbsOk.l0, if_pos h1, if_pos h0, if_pos h1, wrap64_id (x := i + 1) (by omega) (by omega), valNone_q, Option.bind_some]
        refine Tot.ite (fun z => Tot.here (no fun q => q.2 ((vn_iff _ _ _ _).mp z))) (fun z => ?_)
        rw [valOk_eq k (by omega), Option.bind_some]
        exact Tot.ite (fun z2 => yes ⟨of_decide_eq_true z2, fun q => z ((vn_iff _ _ _ _).mpr q)⟩) (fun z2 => Tot.here (no fun q => z2 (decide_eq_true q.1)))
      · try dsimp only
        rw [impl_AbsOk.l0, if_neg (by omega)]
        exact h1 k (by omega)
    obtain ⟨r, e1, e2⟩ := h0
    have a1 := all_get ints z60 VGood
    have a2 := all_get cells z60 VGood
    have a3 := all_get refs z63 RGood
    refine ⟨r, e1, e2.trans ⟨fun q => .inl ⟨rfl, a1.mp q.1, a2.mp q.2.1, a3.mp q.2.2.1, q.2.2.2.1, q.2.2.2.2⟩, fun q => ?_⟩⟩
    rcases q with q | q
    · exact ⟨a1.mpr q.2.1, a2.mpr q.2.2.1, a3.mpr q.2.2.2.1, q.2.2.2.2.1, q.2.2.2.2.2⟩
    · exact absurd q.1 (by decide)
theorem sabsOk_tot {k : Nat} {live : Bool} {ints : List S60} {refs : List S63} {cells : List S60} {n : Int} {d : List Int} (sm : ASmall ints refs cells) (hk : 20000000 ≤ k) :
    Tot (spec_AbsOk.f k live ints refs cells n d) fun b => b = true ↔ AOk live ints refs cells n d := by
  obtain ⟨hi, hr, hc, ha⟩ := sm
  unfold spec_AbsOk.f
  cases live with
  | false =>
    rw [if_neg (show ¬ (false = true) by decide)]
    exact dead_tot (k := k) ints refs cells n d rfl
  | true =>
    rw [if_pos rfl]
    have h0 : Tot (spec_AbsOk.l0 k 0 true ints refs cells n d) fun b => b = true ↔ (∀ j : Int, 0 ≤ j → j < (refs.length : Int) → RGood (rd_T63 refs j)) ∧ (∀ v ∈ ints, VGood v) ∧ (∀ v ∈ cells, VGood v) ∧ GOk n d ∧ n = (ints.length : Int) := by
      refine scan (g := fun k i => spec_AbsOk.l0 k i true ints refs cells n d) (n := (refs.length : Int)) 8000000 (fun k i R hk h0 h1 yes no => ?_) (fun k hk => ?_) _ k 0 rfl (by omega) (by omega) (by omega)
      · try dsimp only at yes ⊢
        rw [spec_AbsOk.l0, if_pos h1, if_pos h0, wrap64_id (x := i + 1) (by omega) (by omega)]
        refine Tot.then (srefOk_tot _ _ _ _ _ _ (arr_small ha h0 h1) (by omega)) ?_
        intro b hb
        exact Tot.ite (fun z => yes (hb.mp z)) (fun z => Tot.here (no fun q => z (hb.mpr q)))
      · try dsimp only
        rw [spec_AbsOk.l0, if_neg (by omega)]
        refine Tot.then (sl12Vals_tot ints hi (by omega)) ?_
        intro b1 hb1
        refine Tot.ite (fun z1 => ?_) (fun z1 => Tot.here ⟨fun f => (nomatch f), fun q => absurd (hb1.mpr q.1) z1⟩)
        refine Tot.then (sl12Vals_tot cells hc (by omega)) ?_
        intro b2 hb2
        refine Tot.ite (fun z2 => ?_) (fun z2 => Tot.here ⟨fun f => (nomatch f), fun q => absurd (hb2.mpr q.2.1) z2⟩)
        refine Tot.then (sGapsOk_tot n d (by omega)) ?_
        intro b hb
        refine Tot.ite (fun z => Tot.here ?_) (fun z => Tot.here ⟨fun f => (nomatch f), fun q => absurd (hb.mpr q.2.2.1) z⟩)
        rw [beq_iff_eq]
        exact ⟨fun q => ⟨hb1.mp z1, hb2.mp z2, hb.mp z, q⟩, fun q => q.2.2.2⟩
    obtain ⟨r, e1, e2⟩ := h0
    have a3 := all_get refs z63 RGood
    refine ⟨r, e1, e2.trans ⟨fun q => .inl ⟨rfl, q.2.1, q.2.2.1, a3.mp q.1, q.2.2.2.1, q.2.2.2.2⟩, fun q => ?_⟩⟩
    rcases q with q | q
    · exact ⟨a3.mpr q.2.2.2.1, q.2.1, q.2.2.1, q.2.2.2.2.1, q.2.2.2.2.2⟩
    · exact absurd q.1 (by decide)
/-! laws_toValS -/
def cv (x : S81) : S60 := ⟨x.f0, x.f1, x.f2, x.f3⟩
theorem toValS_eq {k : Nat} (x : List S81) (hx : x.length ≤ 1048576) (hk : 2000000 ≤ k) : laws_toValS.f k x = some (x.map cv) := by
  have hl : (x.map cv).length = x.length := List.length_map _
  unfold laws_toValS.f
  rw [if_pos (show 0 ≤ (x.length : Int) by omega), if_pos (show ((x.length : Int)).toNat ≤ 8796093022208 by omega)]
  refine fill (g := fun k acc i => laws_toValS.l0 k x acc i) (x.map cv) (fun i => cv (rd_T81 x i)) 0 (fun i h0 h1 => ?_) (fun k acc i _ h0 h1 ha => ?_) (fun k acc _ => ?_) _ k 0 _ rfl (by omega) (by omega) (by omega) (by simp) (fun j hj => absurd hj (by omega))
  · rw [List.getElem?_map]
    unfold rd_T81
    rw [List.getD_eq_getElem?_getD, List.getElem?_eq_getElem (show i.toNat < x.length by omega)]; rfl
  · try dsimp only
    rw [laws_toValS.l0, if_pos (show i < (x.length : Int) by omega), if_pos h0]
    show (if i < (acc.length : Int) then _ else _) = _
    rw [if_pos (by omega), wrap64_id (x := i + 1) (by omega) (by omega)]
    rfl
  · try dsimp only
    rw [laws_toValS.l0, if_neg (by omega)]
/-! laws_toRefValS laws_toIntS -/
def cr (x : S83) : S63 := ⟨x.f0, x.f1, cv x.f2⟩
theorem toRefValS_eq {k : Nat} (x : List S83) (hx : x.length ≤ 1048576) (ha : ∀ r ∈ x, r.f1.length ≤ 1048576) (hk : 4000000 ≤ k) : laws_toRefValS.f k x = some (x.map cr) := by
  have hl : (x.map cr).length = x.length := List.length_map _
  unfold laws_toRefValS.f
  rw [if_pos (show 0 ≤ (x.length : Int) by omega), if_pos (show ((x.length : Int)).toNat ≤ 4398046511104 by omega)]
  refine fill (g := fun k acc i => laws_toRefValS.l0 k x acc i) (x.map cr) (fun i => cr (rd_T83 x i)) 2000000 (fun i h0 h1 => ?_) (fun k acc i hk h0 h1 hl' => ?_) (fun k acc _ => ?_) _ k 0 _ rfl (by omega) (by omega) (by omega) (by simp) (fun j hj => absurd hj (by omega))
  · rw [List.getElem?_map]
    unfold rd_T83
    rw [List.getD_eq_getElem?_getD, List.getElem?_eq_getElem (show i.toNat < x.length by omega)]; rfl
  · try dsimp only
    have sm : (rd_T83 x i).f1.length ≤ 1048576 := (all_get x z83 (fun r => r.f1.length ≤ 1048576)).mpr ha i h0 (by omega)
    have e : laws_toRefVal.f k ((rd_T83 x i).f0) ((rd_T83 x i).f1) ((rd_T83 x i).f2.f0) ((rd_T83 x i).f2.f1) ((rd_T83 x i).f2.f2) ((rd_T83 x i).f2.f3) = some ((rd_T83 x i).f0, (rd_T83 x i).f1, (rd_T83 x i).f2.f0, (rd_T83 x i).f2.f1, (rd_T83 x i).f2.f2, (rd_T83 x i).f2.f3) := by
      unfold laws_toRefVal.f
      rw [toIntS_eq _ sm hk]; rfl
    rw [laws_toRefValS.l0, if_pos (show i < (x.length : Int) by omega), if_pos h0, e, Option.bind_some, if_pos (show i < (acc.length : Int) by omega), wrap64_id (x := i + 1) (by omega) (by omega)]
    rfl
  · try dsimp only
    rw [laws_toRefValS.l0, if_neg (by omega)]
/-! laws_toAbs -/
theorem toAbs_eq {k : Nat} (live : Bool) (ints : List S81) (refs : List S83) (cells : List S81) (n : Int) (d : List Int) (hi : ints.length ≤ 1048576) (hr : refs.length ≤ 1048576) (hc : cells.length ≤ 1048576) (ha : ∀ r ∈ refs, r.f1.length ≤ 1048576) (hd : d.length ≤ 1048576) (hk : 4000000 ≤ k) :
    laws_toAbs.f k live ints refs cells n d = some (live, ints.map cv, refs.map cr, cells.map cv, n, d) := by
  unfold laws_toAbs.f
  rw [toValS_eq ints hi (by omega), Option.bind_some, toRefValS_eq refs hr ha hk, Option.bind_some, toValS_eq cells hc (by omega), Option.bind_some, toGaps_eq n d hd (by omega)]
  rfl
theorem small_map {ints : List S81} {refs : List S83} {cells : List S81} (hi : ints.length ≤ 1048576) (hr : refs.length ≤ 1048576) (hc : cells.length ≤ 1048576) (ha : ∀ r ∈ refs, r.f1.length ≤ 1048576) : ASmall (ints.map cv) (refs.map cr) (cells.map cv) := by
  refine ⟨by simpa using hi, by simpa using hr, by simpa using hc, fun r h => ?_⟩
  obtain ⟨x, hx, rfl⟩ := List.mem_map.mp h
  exact ha x hx
/-! laws_szAbs laws_szValS laws_szRefValS laws_szIntS -/
theorem szValS_eq (x : List S81) (a : Int) (hx : x.length ≤ 9223372036854775807) (h0 : 0 ≤ a) (h : a ≤ 1048576) : laws_szValS.f x a = some (if (x.length : Int) ≤ a then a - x.length else -1) := by
  unfold laws_szValS.f
  rw [wrap64_id (by omega) (by omega)]
  by_cases c : (x.length : Int) ≤ a
  · rw [if_pos c, if_neg (by omega)]
  · rw [if_neg c, if_pos (by omega)]
theorem szRefValS_tot {k : Nat} (x : List S83) (a : Int) (hx : x.length ≤ 9223372036854775807) (ha : ∀ r ∈ x, r.f1.length ≤ 9223372036854775807) (h0 : 0 ≤ a) (h : a ≤ 1048576) (hk : 4000000 ≤ k) :
    Tot (laws_szRefValS.f k x a) fun t => t < 0 ∨ (0 ≤ t ∧ t ≤ a ∧ x.length ≤ 1048576 ∧ ∀ r ∈ x, r.f1.length ≤ 1048576) := by
  unfold laws_szRefValS.f
  rw [wrap64_id (by omega) (by omega)]
  refine Tot.ite (fun _ => Tot.here (.inl (by omega))) (fun c => ?_)
  have go : ∀ (m k : Nat) (i t : Int), ((x.length : Int) - i).toNat = m → 0 ≤ i → i ≤ (x.length : Int) → m < k → 0 ≤ t → t ≤ a → (∀ j : Int, 0 ≤ j → j < i → (rd_T83 x j).f1.length ≤ 1048576) →
      Tot (laws_szRefValS.l0 k x t i) fun t => t < 0 ∨ (0 ≤ t ∧ t ≤ a ∧ ∀ j : Int, 0 ≤ j → j < (x.length : Int) → (rd_T83 x j).f1.length ≤ 1048576) := by
    intro m
    induction m with
    | zero =>
      intro k i t hm hi hi' hk ht ht' q
      obtain ⟨k, rfl⟩ : ∃ j, k = j + 1 := ⟨k - 1, by omega⟩
      rw [laws_szRefValS.l0, if_neg (by omega)]
      exact Tot.here (.inr ⟨ht, ht', fun j a b => q j a (by omega)⟩)
    | succ m ih =>
      intro k i t hm hi hi' hk ht ht' q
      obtain ⟨k, rfl⟩ : ∃ j, k = j + 1 := ⟨k - 1, by omega⟩
      have la : (rd_T83 x i).f1.length ≤ 9223372036854775807 := (all_get x z83 (fun r => r.f1.length ≤ 9223372036854775807)).mpr ha i hi (by omega)
      rw [laws_szRefValS.l0, if_pos (show i < (x.length : Int) by omega), if_pos hi]
      unfold laws_szRefVal.f laws_szIntS.f
      rw [wrap64_id (x := t - ((rd_T83 x i).f1.length : Int)) (by omega) (by omega)]
      by_cases c1 : t - ((rd_T83 x i).f1.length : Int) < 0
      · rw [if_pos c1]
        exact Tot.here (.inl (by decide))
      · rw [if_neg c1, Option.bind_some, if_neg c1, Option.bind_some, if_neg c1, wrap64_id (x := i + 1) (by omega) (by omega)]
        refine ih k (i + 1) _ (by omega) (by omega) (by omega) (by omega) (by omega) (by omega) fun j a b => ?_
        by_cases e : j = i
        · subst e; omega
        · exact q j a (by omega)
  refine (go _ k 0 _ rfl (by omega) (by omega) (by omega) (by omega) (by omega) (fun j a b => absurd a (by omega))).mono fun t ht => ?_
  rcases ht with ht | ⟨t0, t1, q⟩
  · exact .inl ht
  · exact .inr ⟨t0, by omega, by omega, (all_get x z83 (fun r => r.f1.length ≤ 1048576)).mp q⟩
theorem szAbs_tot {k : Nat} (live : Bool) (ints : List S81) (refs : List S83) (cells : List S81) (n : Int) (d : List Int) (a : Int) (hi : ints.length ≤ 9223372036854775807) (hr : refs.length ≤ 9223372036854775807) (hc : cells.length ≤ 9223372036854775807) (hd : d.length ≤ 9223372036854775807)
    (ha : ∀ r ∈ refs, r.f1.length ≤ 9223372036854775807) (h0 : 0 ≤ a) (h : a ≤ 1048576) (hk : 4000000 ≤ k) :
    Tot (laws_szAbs.f k live ints refs cells n d a) fun t => t < 0 ∨ (0 ≤ t ∧ t ≤ a ∧ ints.length ≤ 1048576 ∧ refs.length ≤ 1048576 ∧ cells.length ≤ 1048576 ∧ d.length ≤ 1048576 ∧ ∀ r ∈ refs, r.f1.length ≤ 1048576) := by
  unfold laws_szAbs.f
  rw [szValS_eq ints a hi h0 h, Option.bind_some]
  refine Tot.ite (fun _ => Tot.here (.inl (by decide))) (fun c1 => ?_)
  have c1' : (ints.length : Int) ≤ a := by
    by_cases q : (ints.length : Int) ≤ a
    · exact q
    · rw [if_neg q] at c1; omega
  rw [if_pos c1']
  refine Tot.then (szRefValS_tot refs _ hr ha (by omega) (by omega) hk) ?_
  intro t ht
  refine Tot.ite (fun _ => Tot.here (.inl (by decide))) (fun c2 => ?_)
  obtain ⟨t0, t1, r1, r2⟩ := ht.resolve_left c2
  rw [szValS_eq cells t hc t0 (by omega), Option.bind_some]
  refine Tot.ite (fun _ => Tot.here (.inl (by decide))) (fun c3 => ?_)
  have c3' : (cells.length : Int) ≤ t := by
    by_cases q : (cells.length : Int) ≤ t
    · exact q
    · rw [if_neg q] at c3; omega
  rw [if_pos c3', szGaps_eq n d _ hd (by omega) (by omega), Option.bind_some]
  refine Tot.ite (fun _ => Tot.here (.inl (by decide))) (fun c4 => ?_)
  have c4' : (d.length : Int) ≤ t - cells.length := by
    by_cases q : (d.length : Int) ≤ t - cells.length
    · exact q
    · rw [if_neg q] at c4; omega
  rw [if_pos c4']
  exact Tot.here (.inr ⟨by omega, by omega, by omega, r1, by omega, by omega, r2⟩)
/-! laws_eqAbs laws_eqValS laws_eqRefValS laws_eqGaps -/
theorem eqVal_refl (a b c d : Int) : laws_eqVal.f a b c d a b c d = some true := by
  unfold laws_eqVal.f
  rw [if_pos rfl, if_pos rfl, if_pos rfl, if_pos rfl]
theorem eqValS_refl {k : Nat} (x : List S60) (hx : x.length ≤ 1048576) (hk : 2000000 ≤ k) : laws_eqValS.f k x x = some true := by
  unfold laws_eqValS.f
  rw [if_pos rfl]
  refine goes_on (g := fun k i => laws_eqValS.l0 k x x i) (n := (x.length : Int)) 0 (fun k i _ h0 h1 => ?_) (fun k _ => ?_) _ k 0 rfl (by omega) (by omega) (by omega)
  · try dsimp only
    rw [laws_eqValS.l0, if_pos h1, if_pos h0, if_pos h1, eqVal_refl, Option.bind_some, if_pos rfl, wrap64_id (x := i + 1) (by omega) (by omega)]
  · try dsimp only
    rw [laws_eqValS.l0, if_neg (by omega)]
theorem eqRefValS_refl {k : Nat} (x : List S63) (hx : x.length ≤ 1048576) (ha : ∀ r ∈ x, r.f1.length ≤ 1048576) (hk : 4000000 ≤ k) : laws_eqRefValS.f k x x = some true := by
  unfold laws_eqRefValS.f
  rw [if_pos rfl]
  refine goes_on (g := fun k i => laws_eqRefValS.l0 k x x i) (n := (x.length : Int)) 2000000 (fun k i hk h0 h1 => ?_) (fun k _ => ?_) _ k 0 rfl (by omega) (by omega) (by omega)
  · try dsimp only
    have e : laws_eqRefVal.f k ((rd_T63 x i).f0) ((rd_T63 x i).f1) ((rd_T63 x i).f2.f0) ((rd_T63 x i).f2.f1) ((rd_T63 x i).f2.f2) ((rd_T63 x i).f2.f3) ((rd_T63 x i).f0) ((rd_T63 x i).f1) ((rd_T63 x i).f2.f0) ((rd_T63 x i).f2.f1) ((rd_T63 x i).f2.f2) ((rd_T63 x i).f2.f3) = some true := by
      unfold laws_eqRefVal.f
      rw [if_neg (by simp), eqIntS_refl _ (arr_small ha h0 h1) hk, Option.bind_some, if_pos rfl, eqVal_refl, Option.bind_some, if_pos rfl]
    rw [laws_eqRefValS.l0, if_pos h1, if_pos h0, if_pos h1, e, Option.bind_some, if_pos rfl, wrap64_id (x := i + 1) (by omega) (by omega)]
  · try dsimp only
    rw [laws_eqRefValS.l0, if_neg (by omega)]
theorem eqAbs_refl {k : Nat} {live : Bool} {ints : List S60} {refs : List S63} {cells : List S60} {n : Int} {d : List Int} (sm : ASmall ints refs cells) (hd : d.length ≤ 1048576) (hk : 4000000 ≤ k) :
    laws_eqAbs.f k live ints refs cells n d live ints refs cells n d = some true := by
  unfold laws_eqAbs.f
  rw [if_neg (by simp), eqValS_refl ints sm.1 (by omega), Option.bind_some, if_pos rfl, eqRefValS_refl refs sm.2.1 sm.2.2.2 hk, Option.bind_some, if_pos rfl, eqValS_refl cells sm.2.2.1 (by omega), Option.bind_some, if_pos rfl, eqGaps_refl n d hd (by omega), Option.bind_some, if_pos rfl]
/-! impl_absHasArray spec_l12Place -/
def Ex (x : List Int) (v : Int) : Prop := ∃ j : Int, 0 ≤ j ∧ j < (x.length : Int) ∧ rd x j = v
theorem hasArray_tot {k : Nat} (x : List Int) (v : Int) (hx : x.length ≤ 1048576) (hk : 2000000 ≤ k) : Tot (impl_absHasArray.f k x v) fun b => b = true ↔ Ex x v := by
  unfold impl_absHasArray.f
  have go : ∀ (m k : Nat) (i : Int), ((x.length : Int) - i).toNat = m → 0 ≤ i → i ≤ (x.length : Int) → m < k → (∀ j : Int, 0 ≤ j → j < i → ¬ rd x j = v) → Tot (impl_absHasArray.l0 k v x (x.length : Int) i) fun b => b = true ↔ Ex x v := by
    intro m
    induction m with
    | zero =>
      intro k i hm h0 h1 hk hj
      obtain ⟨k, rfl⟩ : ∃ j, k = j + 1 := ⟨k - 1, by omega⟩
      rw [impl_absHasArray.l0, if_neg (by omega)]
      exact Tot.here ⟨fun f => (nomatch f), fun ⟨j, a, b, c⟩ => absurd c (hj j a (by omega))⟩
    | succ m ih =>
      intro k i hm h0 h1 hk hj
      obtain ⟨k, rfl⟩ : ∃ j, k = j + 1 := ⟨k - 1, by omega⟩
      rw [impl_absHasArray.l0, if_pos (by omega), if_pos h0, if_pos (by omega), wrap64_id (x := i + 1) (by omega) (by omega)]
      refine Tot.ite (fun c => Tot.here ⟨fun _ => ⟨i, h0, by omega, c⟩, fun _ => rfl⟩) (fun c => ih k (i + 1) (by omega) (by omega) (by omega) (by omega) fun j a b => ?_)
      by_cases e : j = i
      · subst e; exact c
      · exact hj j a (by omega)
  exact go _ k 0 rfl (by omega) (by omega) (by omega) (fun j a b => absurd a (by omega))
theorem place_tot {k : Nat} (x : List Int) (v : Int) (hx : x.length ≤ 1048576) (hk : 2000000 ≤ k) : Tot (spec_l12Place.f k x v) fun t => 0 ≤ t ↔ Ex x v := by
  unfold spec_l12Place.f
  have go : ∀ (m k : Nat) (i : Int), ((x.length : Int) - i).toNat = m → 0 ≤ i → i ≤ (x.length : Int) → m < k → (∀ j : Int, 0 ≤ j → j < i → ¬ rd x j = v) → Tot (spec_l12Place.l0 k x v i) fun t => 0 ≤ t ↔ Ex x v := by
    intro m
    induction m with
    | zero =>
      intro k i hm h0 h1 hk hj
      obtain ⟨k, rfl⟩ : ∃ j, k = j + 1 := ⟨k - 1, by omega⟩
      rw [spec_l12Place.l0, if_neg (by omega)]
      exact Tot.here ⟨fun f => absurd f (by decide), fun ⟨j, a, b, c⟩ => absurd c (hj j a (by omega))⟩
    | succ m ih =>
      intro k i hm h0 h1 hk hj
      obtain ⟨k, rfl⟩ : ∃ j, k = j + 1 := ⟨k - 1, by omega⟩
      rw [spec_l12Place.l0, if_pos (by omega), if_pos h0, wrap64_id (x := i + 1) (by omega) (by omega)]
      refine Tot.ite (fun c => Tot.here ⟨fun _ => ⟨i, h0, by omega, c⟩, fun _ => h0⟩) (fun c => ih k (i + 1) (by omega) (by omega) (by omega) (by omega) fun j a b => ?_)
      by_cases e : j = i
      · subst e; exact c
      · exact hj j a (by omega)
  exact go _ k 0 rfl (by omega) (by omega) (by omega) (fun j a b => absurd a (by omega))
/-! spec_ValHas -/
theorem svalHas_tot {k : Nat} (hk : 10 ≤ k) (l h m a v : Int) : Tot (spec_ValHas.f k l h m a v) fun r => r = true ↔ VHas l h m a v := by
  unfold spec_ValHas.f
  rw [svalOk_eq k (by omega), Option.bind_some]
  by_cases o : VOk l h m a
  · rw [decide_eq_true o, if_pos rfl, svalNone_eq, Option.bind_some]
    have nn : (!(l == 1) || (!(h == 0) || (!(m == 0) || (!(a == 0))))) = true ↔ ¬ VN l h m a := by
      rw [← vn_iff]
      cases (l == 1) <;> cases (h == 0) <;> cases (m == 0) <;> cases (a == 0) <;> simp
    refine Tot.ite (fun y => ?_) (fun y => Tot.here ⟨fun f => (nomatch f), fun q => absurd (nn.mpr (fun z => by
      obtain ⟨rfl, rfl, rfl, rfl⟩ := z
      exact vhas_none v q)) y⟩)
    show Tot ((spec_RangeHas.f l h v).bind _) _
    rw [srangeHas_eq, Option.bind_some]
    refine Tot.ite (fun x => ?_) (fun x => Tot.here ⟨fun f => (nomatch f), fun q => absurd (decide_eq_true q.2.1) x⟩)
    show Tot ((spec_RestHas.f k m a v).bind _) _
    rw [srestHas_eq k (by omega), Option.bind_some]
    exact Tot.here (by rw [decide_eq_true_iff]; exact ⟨fun q => ⟨o, of_decide_eq_true x, q⟩, fun q => q.2.2⟩)
  · rw [decide_eq_false o, if_neg (by decide)]
    exact Tot.here ⟨fun f => (nomatch f), fun q => absurd q.1 o⟩
/-! spec_l12RefHas -/
def RefHas (n : Bool) (x : List Int) (a b c d : Int) (p q : Int) : Prop := (p < 0 ∧ n = true) ∨ (¬ p < 0 ∧ Ex x p ∧ VHas a b c d q)
theorem srefHas_tot {k : Nat} (n : Bool) (x : List Int) (a b c d p q : Int) (hx : x.length ≤ 1048576) (hk : 3000000 ≤ k) : Tot (spec_l12RefHas.f k n x a b c d p q) fun r => r = true ↔ RefHas n x a b c d p q := by
  unfold spec_l12RefHas.f
  refine Tot.ite (fun z => Tot.here ⟨fun e => .inl ⟨z, e⟩, fun e => e.elim (fun e => e.2) (fun e => absurd z e.1)⟩) (fun z => ?_)
  refine Tot.then (place_tot x p hx (by omega)) ?_
  intro t ht
  refine Tot.ite (fun y => ?_) (fun y => Tot.here ⟨fun f => (nomatch f), fun e => e.elim (fun e => absurd e.1 z) (fun e => absurd (ht.mpr e.2.1) y)⟩)
  refine Tot.then (svalHas_tot (by omega) a b c d q) ?_
  intro r hr
  exact Tot.here (hr.trans ⟨fun e => .inr ⟨z, ht.mp y, e⟩, fun e => e.elim (fun e => absurd e.1 z) (fun e => e.2.2)⟩)
/-! impl_AbsHas spec_AbsHas -/
def VsHas (c : List S60) (x : List Int) : Prop := ∀ j : Int, 0 ≤ j → j < (x.length : Int) → VHas (rd_T60 c j).f0 (rd_T60 c j).f1 (rd_T60 c j).f2 (rd_T60 c j).f3 (rd x j)
def RsHas (r : List S63) (x : List S65) : Prop := ∀ j : Int, 0 ≤ j → j < (x.length : Int) → RefHas (rd_T63 r j).f0 (rd_T63 r j).f1 (rd_T63 r j).f2.f0 (rd_T63 r j).f2.f1 (rd_T63 r j).f2.f2 (rd_T63 r j).f2.f3 (rd_T65 x j).f0 (rd_T65 x j).f1
def CHas (c : S60) (x : List Int) : Prop := ∀ j : Int, 0 ≤ j → j < (x.length : Int) → VHas c.f0 c.f1 c.f2 c.f3 (rd x j)
def CsHas (c : List S60) (x : List S66) : Prop := ∀ j : Int, 0 ≤ j → j < (x.length : Int) → CHas (rd_T60 c j) (rd_T66 x j).f0
def AHas (l : Bool) (i : List S60) (r : List S63) (c : List S60) (n : Int) (d : List Int) (x : List Int) (y : List S65) (z : List S66) : Prop :=
  AOk l i r c n d ∧ l = true ∧ (x.length = i.length ∧ y.length = r.length ∧ z.length = c.length) ∧ VsHas i x ∧ RsHas r y ∧ CsHas c z ∧ Has n d x
def HSmall (x : List Int) (y : List S65) (z : List S66) : Prop := x.length ≤ 1048576 ∧ y.length ≤ 1048576 ∧ z.length ≤ 1048576 ∧ ∀ r ∈ z, r.f0.length ≤ 1048576
theorem cell_small {z : List S66} (h : ∀ r ∈ z, r.f0.length ≤ 1048576) {i : Int} (h0 : 0 ≤ i) (h1 : i < (z.length : Int)) : (rd_T66 z i).f0.length ≤ 1048576 :=
  (all_get z z66 (fun r => r.f0.length ≤ 1048576)).mpr h i h0 h1
theorem absHas_tot {k : Nat} {l : Bool} {i : List S60} {r : List S63} {c : List S60} {n : Int} {d : List Int} {x : List Int} {y : List S65} {z : List S66} (sm : ASmall i r c) (sh : HSmall x y z) (hk : 10000000000000 ≤ k) :
    Tot (impl_AbsHas.f k l i r c n d x y z) fun b => b = true ↔ AHas l i r c n d x y z := by
  obtain ⟨k, rfl⟩ : ∃ j, k = j + 1 := ⟨k - 1, by omega⟩
  obtain ⟨sx, sy, sz, sc⟩ := sh
  unfold impl_AbsHas.f
  have bad : ¬ AHas l i r c n d x y z → ∀ q, q = true → Tot (impl_AbsHas.j0 (k + 1) x y z q l i r c n d) fun b => b = true ↔ AHas l i r c n d x y z := fun h q hq => by
    rw [impl_AbsHas.j0, if_pos hq]; exact Tot.here ⟨fun f => (nomatch f), fun q => absurd q h⟩
  refine Tot.then (absOk_tot sm (by omega)) ?_
  intro b hb
  refine Tot.ite (fun e => ?_) (fun e => bad (fun q => e (hb.mpr q.1)) _ rfl)
  refine Tot.ite (fun e1 => ?_) (fun e1 => bad (fun q => e1 q.2.1) _ rfl)
  refine Tot.ite (fun e2 => ?_) (fun e2 => bad (fun q => e2 (by have := q.2.2.1.1; omega)) _ rfl)
  refine Tot.ite (fun e3 => ?_) (fun e3 => bad (fun q => e3 (by have := q.2.2.1.2.1; omega)) _ rfl)
  by_cases e4 : (z.length : Int) = (c.length : Int)
  · rw [show ((z.length : Int) != (c.length : Int)) = false by simp [e4], impl_AbsHas.j0, if_neg (by decide)]
    have h2 : ∀ k, 2000000000000 ≤ k → Tot (impl_AbsHas.l2 k x z (z.length : Int) 0 l i r c n d) fun b => b = true ↔ (∀ j : Int, 0 ≤ j → j < (z.length : Int) → CHas (rd_T60 c j) (rd_T66 z j).f0) ∧ Has n d x := by
      intro k hk
      refine scan2 (g := fun k j => impl_AbsHas.l2 k x z (z.length : Int) j l i r c n d) (n := (z.length : Int)) 4000000 1048577 (fun k j R hk h0 h1 yes no => ?_) (fun k hk => ?_) _ k 0 rfl (by omega) (by omega) (by omega)
      · try dsimp only at yes ⊢
        rw [impl_AbsHas.l2, if_pos h1, if_pos h0, if_pos h1]
        have hr := cell_small sc h0 h1
        refine pass (g := fun k e => impl_AbsHas.l3 k x j z (z.length : Int) j (rd_T66 z j).f0 ((rd_T66 z j).f0.length : Int) e l i r c n d) (n := ((rd_T66 z j).f0.length : Int)) 10 no (fun k e hk a0 a1 yes1 no1 => ?_) _ k 0 rfl (by omega) (by omega) (by omega) (fun j a b => absurd a (by omega)) (fun p k' e => ?_)
        · try dsimp only at yes1 ⊢
          rw [impl_AbsHas.l3, if_pos a1, if_pos a0, if_pos a1, if_pos h0, if_pos (show j < (c.length : Int) by omega), wrap64_id (x := e + 1) (by omega) (by omega), valHas_eq k (by omega), Option.bind_some]
          exact Tot.ite (fun a3 => yes1 (of_decide_eq_true a3)) (fun a3 => Tot.here (no1 fun q => a3 (decide_eq_true q)))
        · try dsimp only
          rw [impl_AbsHas.l3, if_neg (by omega), wrap64_id (x := j + 1) (by omega) (by omega)]
          exact yes p k' (by omega)
      · try dsimp only
        rw [impl_AbsHas.l2, if_neg (by omega)]
        refine Tot.then (has_tot n d x (by omega)) ?_
        intro t ht
        exact Tot.here ht
    have h1 : ∀ k, 4000000000000 ≤ k → Tot (impl_AbsHas.l1 k x z y (y.length : Int) 0 l i r c n d) fun b => b = true ↔ RsHas r y ∧ (∀ j : Int, 0 ≤ j → j < (z.length : Int) → CHas (rd_T60 c j) (rd_T66 z j).f0) ∧ Has n d x := by
      intro k hk
      refine scan (g := fun k j => impl_AbsHas.l1 k x z y (y.length : Int) j l i r c n d) (n := (y.length : Int)) 3000000000000 (fun k j R hk h0 h1 yes no => ?_) (fun k hk => ?_) _ k 0 rfl (by omega) (by omega) (by omega)
      · try dsimp only at yes ⊢
        rw [impl_AbsHas.l1, if_pos h1, if_pos h0, if_pos h1, if_pos (show j < (r.length : Int) by omega), wrap64_id (x := j + 1) (by omega) (by omega)]
        refine Tot.ite (fun a1 => ?_) (fun a1 => ?_)
        · exact Tot.ite (fun a2 => yes (.inl ⟨a1, a2⟩)) (fun a2 => Tot.here (no fun q => q.elim (fun q => a2 q.2) (fun q => q.1 a1)))
        · refine Tot.then (hasArray_tot _ _ (arr_small sm.2.2.2 h0 (by omega)) (by omega)) ?_
          intro t ht
          refine Tot.ite (fun a2 => ?_) (fun a2 => Tot.here (no fun q => q.elim (fun q => a1 q.1) (fun q => a2 (ht.mpr q.2.1))))
          rw [valHas_eq k (by omega), Option.bind_some]
          exact Tot.ite (fun a3 => yes (.inr ⟨a1, ht.mp a2, of_decide_eq_true a3⟩)) (fun a3 => Tot.here (no fun q => q.elim (fun q => a1 q.1) (fun q => a3 (decide_eq_true q.2.2))))
      · try dsimp only
        rw [impl_AbsHas.l1, if_neg (by omega)]
        exact h2 k (by omega)
    have h0 : Tot (impl_AbsHas.l0 k x y z x (x.length : Int) 0 l i r c n d) fun b => b = true ↔ VsHas i x ∧ RsHas r y ∧ (∀ j : Int, 0 ≤ j → j < (z.length : Int) → CHas (rd_T60 c j) (rd_T66 z j).f0) ∧ Has n d x := by
      refine scan (g := fun k j => impl_AbsHas.l0 k x y z x (x.length : Int) j l i r c n d) (n := (x.length : Int)) 5000000000000 (fun k j R hk h0 h1 yes no => ?_) (fun k hk => ?_) _ k 0 rfl (by omega) (by omega) (by omega)
      · try dsimp only at yes ⊢
        rw [impl_AbsHas.l0, if_pos h1, if_pos h0, if_pos h1, if_pos (show j < (i.length : Int) by omega), wrap64_id (x := j + 1) (by omega) (by omega), valHas_eq k (by omega), Option.bind_some]
        exact Tot.ite (fun a3 => yes (of_decide_eq_true a3)) (fun a3 => Tot.here (no fun q => a3 (decide_eq_true q)))
      · try dsimp only
        rw [impl_AbsHas.l0, if_neg (by omega)]
        exact h1 k (by omega)
    exact h0.mono fun b hb1 => hb1.trans ⟨fun q => ⟨hb.mp e, e1, ⟨by omega, by omega, by omega⟩, q.1, q.2.1, q.2.2.1, q.2.2.2⟩, fun q => ⟨q.2.2.2.1, q.2.2.2.2.1, q.2.2.2.2.2.1, q.2.2.2.2.2.2⟩⟩
  · exact bad (fun q => e4 (by have := q.2.2.1.2.2; omega)) _ (by simp [e4])
theorem sabsHas_tot {k : Nat} {l : Bool} {i : List S60} {r : List S63} {c : List S60} {n : Int} {d : List Int} {x : List Int} {y : List S65} {z : List S66} (sm : ASmall i r c) (sh : HSmall x y z) (hk : 10000000000000 ≤ k) :
    Tot (spec_AbsHas.f k l i r c n d x y z) fun b => b = true ↔ AHas l i r c n d x y z := by
  obtain ⟨k, rfl⟩ : ∃ j, k = j + 1 := ⟨k - 1, by omega⟩
  obtain ⟨sx, sy, sz, sc⟩ := sh
  unfold spec_AbsHas.f
  have bad : ¬ AHas l i r c n d x y z → ∀ q, q = true → Tot (spec_AbsHas.j0 (k + 1) x y z q l i r c n d) fun b => b = true ↔ AHas l i r c n d x y z := fun h q hq => by
    rw [spec_AbsHas.j0, if_pos hq]; exact Tot.here ⟨fun f => (nomatch f), fun q => absurd q h⟩
  refine Tot.then (sabsOk_tot sm (by omega)) ?_
  intro b hb
  refine Tot.ite (fun e => ?_) (fun e => bad (fun q => e (hb.mpr q.1)) _ rfl)
  refine Tot.ite (fun e1 => ?_) (fun e1 => bad (fun q => e1 q.2.1) _ rfl)
  refine Tot.ite (fun e2 => ?_) (fun e2 => bad (fun q => e2 (by have := q.2.2.1.1; omega)) _ rfl)
  refine Tot.ite (fun e3 => ?_) (fun e3 => bad (fun q => e3 (by have := q.2.2.1.2.1; omega)) _ rfl)
  by_cases e4 : (z.length : Int) = (c.length : Int)
  · rw [show ((z.length : Int) != (c.length : Int)) = false by simp [e4], spec_AbsHas.j0, if_neg (by decide)]
    have h2 : ∀ k, 2000000000000 ≤ k → Tot (spec_AbsHas.l2 k x z 0 l i r c n d) fun b => b = true ↔ (∀ j : Int, 0 ≤ j → j < (z.length : Int) → CHas (rd_T60 c j) (rd_T66 z j).f0) ∧ Has n d x := by
      intro k hk
      refine scan2 (g := fun k j => spec_AbsHas.l2 k x z j l i r c n d) (n := (z.length : Int)) 4000000 1048577 (fun k j R hk h0 h1 yes no => ?_) (fun k hk => ?_) _ k 0 rfl (by omega) (by omega) (by omega)
      · try dsimp only at yes ⊢
        rw [spec_AbsHas.l2, if_pos h1]
        have hr := cell_small sc h0 h1
        refine pass (g := fun k e => spec_AbsHas.l3 k x z j e l i r c n d) (n := ((rd_T66 z j).f0.length : Int)) 10 no (fun k e hk a0 a1 yes1 no1 => ?_) _ k 0 rfl (by omega) (by omega) (by omega) (fun j a b => absurd a (by omega)) (fun p k' e => ?_)
        · try dsimp only at yes1 ⊢
          rw [spec_AbsHas.l3, if_pos h0, if_pos h1, if_pos a1, if_pos (show j < (c.length : Int) by omega), if_pos a0, wrap64_id (x := e + 1) (by omega) (by omega)]
          refine Tot.then (svalHas_tot (by omega) _ _ _ _ _) ?_
          intro t ht
          exact Tot.ite (fun a3 => yes1 (ht.mp a3)) (fun a3 => Tot.here (no1 fun q => a3 (ht.mpr q)))
        · try dsimp only
          rw [spec_AbsHas.l3, if_pos h0, if_pos h1, if_neg (by omega), wrap64_id (x := j + 1) (by omega) (by omega)]
          exact yes p k' (by omega)
      · try dsimp only
        rw [spec_AbsHas.l2, if_neg (by omega)]
        refine Tot.then (sHas_tot n d x (by omega)) ?_
        intro t ht
        exact Tot.here ht
    have h1 : ∀ k, 4000000000000 ≤ k → Tot (spec_AbsHas.l1 k x y z 0 l i r c n d) fun b => b = true ↔ RsHas r y ∧ (∀ j : Int, 0 ≤ j → j < (z.length : Int) → CHas (rd_T60 c j) (rd_T66 z j).f0) ∧ Has n d x := by
      intro k hk
      refine scan (g := fun k j => spec_AbsHas.l1 k x y z j l i r c n d) (n := (y.length : Int)) 3000000000000 (fun k j R hk h0 h1 yes no => ?_) (fun k hk => ?_) _ k 0 rfl (by omega) (by omega) (by omega)
      · try dsimp only at yes ⊢
        rw [spec_AbsHas.l1, if_pos h1, if_pos h0, if_pos (show j < (r.length : Int) by omega), wrap64_id (x := j + 1) (by omega) (by omega)]
        refine Tot.then (srefHas_tot _ _ _ _ _ _ _ _ (arr_small sm.2.2.2 h0 (by omega)) (by omega)) ?_
        intro t ht
        exact Tot.ite (fun a3 => yes (ht.mp a3)) (fun a3 => Tot.here (no fun q => a3 (ht.mpr q)))
      · try dsimp only
        rw [spec_AbsHas.l1, if_neg (by omega)]
        exact h2 k (by omega)
    have h0 : Tot (spec_AbsHas.l0 k x y z 0 l i r c n d) fun b => b = true ↔ VsHas i x ∧ RsHas r y ∧ (∀ j : Int, 0 ≤ j → j < (z.length : Int) → CHas (rd_T60 c j) (rd_T66 z j).f0) ∧ Has n d x := by
      refine scan (g := fun k j => spec_AbsHas.l0 k x y z j l i r c n d) (n := (x.length : Int)) 5000000000000 (fun k j R hk h0 h1 yes no => ?_) (fun k hk => ?_) _ k 0 rfl (by omega) (by omega) (by omega)
      · try dsimp only at yes ⊢
        rw [spec_AbsHas.l0, if_pos h1, if_pos h0, if_pos (show j < (i.length : Int) by omega), wrap64_id (x := j + 1) (by omega) (by omega)]
        refine Tot.then (svalHas_tot (by omega) _ _ _ _ _) ?_
        intro t ht
        exact Tot.ite (fun a3 => yes (ht.mp a3)) (fun a3 => Tot.here (no fun q => a3 (ht.mpr q)))
      · try dsimp only
        rw [spec_AbsHas.l0, if_neg (by omega)]
        exact h1 k (by omega)
    exact h0.mono fun b hb1 => hb1.trans ⟨fun q => ⟨hb.mp e, e1, ⟨by omega, by omega, by omega⟩, q.1, q.2.1, q.2.2.1, q.2.2.2⟩, fun q => ⟨q.2.2.2.1, q.2.2.2.2.1, q.2.2.2.2.2.1, q.2.2.2.2.2.2⟩⟩
  · exact bad (fun q => e4 (by have := q.2.2.1.2.2; omega)) _ (by simp [e4])
/-! laws_szRefS laws_szCellsS laws_szIntS -/
theorem szRefS_tot (x : List S72) (a : Int) (hx : x.length ≤ 9223372036854775807) (h0 : 0 ≤ a) (h : a ≤ 1048576) : Tot (laws_szRefS.f x a) fun t => t < 0 ∨ (0 ≤ t ∧ t ≤ a ∧ x.length ≤ 1048576) := by
  unfold laws_szRefS.f
  rw [wrap64_id (by omega) (by omega)]
  exact Tot.ite (fun c => Tot.here (.inl (by decide))) (fun c => Tot.here (.inr ⟨by omega, by omega, by omega⟩))
theorem szCellsS_tot {k : Nat} (x : List S56) (a : Int) (hx : x.length ≤ 9223372036854775807) (ha : ∀ r ∈ x, r.f0.length ≤ 9223372036854775807) (h0 : 0 ≤ a) (h : a ≤ 1048576) (hk : 4000000 ≤ k) :
    Tot (laws_szCellsS.f k x a) fun t => t < 0 ∨ (0 ≤ t ∧ t ≤ a ∧ x.length ≤ 1048576 ∧ ∀ r ∈ x, r.f0.length ≤ 1048576) := by
  unfold laws_szCellsS.f
  rw [wrap64_id (by omega) (by omega)]
  refine Tot.ite (fun _ => Tot.here (.inl (by omega))) (fun c => ?_)
  have go : ∀ (m k : Nat) (i t : Int), ((x.length : Int) - i).toNat = m → 0 ≤ i → i ≤ (x.length : Int) → m < k → 0 ≤ t → t ≤ a → (∀ j : Int, 0 ≤ j → j < i → (rd_T56 x j).f0.length ≤ 1048576) →
      Tot (laws_szCellsS.l0 k x t i) fun t => t < 0 ∨ (0 ≤ t ∧ t ≤ a ∧ ∀ j : Int, 0 ≤ j → j < (x.length : Int) → (rd_T56 x j).f0.length ≤ 1048576) := by
    intro m
    induction m with
    | zero =>
      intro k i t hm hi hi' hk ht ht' q
      obtain ⟨k, rfl⟩ : ∃ j, k = j + 1 := ⟨k - 1, by omega⟩
      rw [laws_szCellsS.l0, if_neg (by omega)]
      exact Tot.here (.inr ⟨ht, ht', fun j a b => q j a (by omega)⟩)
    | succ m ih =>
      intro k i t hm hi hi' hk ht ht' q
      obtain ⟨k, rfl⟩ : ∃ j, k = j + 1 := ⟨k - 1, by omega⟩
      have la : (rd_T56 x i).f0.length ≤ 9223372036854775807 := (all_get x z56 (fun r => r.f0.length ≤ 9223372036854775807)).mpr ha i hi (by omega)
      rw [laws_szCellsS.l0, if_pos (show i < (x.length : Int) by omega), if_pos hi]
      unfold laws_szCells.f laws_szIntS.f
      rw [wrap64_id (x := t - ((rd_T56 x i).f0.length : Int)) (by omega) (by omega)]
      by_cases c1 : t - ((rd_T56 x i).f0.length : Int) < 0
      · rw [if_pos c1]
        exact Tot.here (.inl (by decide))
      · rw [if_neg c1, Option.bind_some, if_neg c1, Option.bind_some, if_neg c1, wrap64_id (x := i + 1) (by omega) (by omega)]
        refine ih k (i + 1) _ (by omega) (by omega) (by omega) (by omega) (by omega) (by omega) fun j a b => ?_
        by_cases e : j = i
        · subst e; omega
        · exact q j a (by omega)
  refine (go _ k 0 _ rfl (by omega) (by omega) (by omega) (by omega) (by omega) (fun j a b => absurd a (by omega))).mono fun t ht => ?_
  rcases ht with ht | ⟨t0, t1, q⟩
  · exact .inl ht
  · exact .inr ⟨t0, by omega, by omega, (all_get x z56 (fun r => r.f0.length ≤ 1048576)).mp q⟩
/-! laws_toRefS -/
def cf (x : S72) : S65 := ⟨x.f0, x.f1⟩
theorem toRefS_eq {k : Nat} (x : List S72) (hx : x.length ≤ 1048576) (hk : 2000000 ≤ k) : laws_toRefS.f k x = some (x.map cf) := by
  have hl : (x.map cf).length = x.length := List.length_map _
  unfold laws_toRefS.f
  rw [if_pos (show 0 ≤ (x.length : Int) by omega), if_pos (show ((x.length : Int)).toNat ≤ 17592186044416 by omega)]
  refine fill (g := fun k acc i => laws_toRefS.l0 k x acc i) (x.map cf) (fun i => cf (rd_T72 x i)) 0 (fun i h0 h1 => ?_) (fun k acc i _ h0 h1 hl' => ?_) (fun k acc _ => ?_) _ k 0 _ rfl (by omega) (by omega) (by omega) (by simp) (fun j hj => absurd hj (by omega))
  · rw [List.getElem?_map]
    unfold rd_T72
    rw [List.getD_eq_getElem?_getD, List.getElem?_eq_getElem (show i.toNat < x.length by omega)]; rfl
  · try dsimp only
    have e : ∀ a b : Int, laws_toRef.f a b = some (a, b) := fun _ _ => rfl
    rw [laws_toRefS.l0, if_pos (show i < (x.length : Int) by omega), if_pos h0, e, Option.bind_some, if_pos (show i < (acc.length : Int) by omega), wrap64_id (x := i + 1) (by omega) (by omega)]
    rfl
  · try dsimp only
    rw [laws_toRefS.l0, if_neg (by omega)]
/-! laws_toCellsS laws_toIntS -/
def cc (x : S56) : S66 := ⟨x.f0⟩
theorem toCellsS_eq {k : Nat} (x : List S56) (hx : x.length ≤ 1048576) (ha : ∀ r ∈ x, r.f0.length ≤ 1048576) (hk : 4000000 ≤ k) : laws_toCellsS.f k x = some (x.map cc) := by
  have hl : (x.map cc).length = x.length := List.length_map _
  unfold laws_toCellsS.f
  rw [if_pos (show 0 ≤ (x.length : Int) by omega), if_pos (show ((x.length : Int)).toNat ≤ 11728124029610 by omega)]
  refine fill (g := fun k acc i => laws_toCellsS.l0 k x acc i) (x.map cc) (fun i => cc (rd_T56 x i)) 2000000 (fun i h0 h1 => ?_) (fun k acc i hk h0 h1 hl' => ?_) (fun k acc _ => ?_) _ k 0 _ rfl (by omega) (by omega) (by omega) (by simp) (fun j hj => absurd hj (by omega))
  · rw [List.getElem?_map]
    unfold rd_T56
    rw [List.getD_eq_getElem?_getD, List.getElem?_eq_getElem (show i.toNat < x.length by omega)]; rfl
  · try dsimp only
    have sm : (rd_T56 x i).f0.length ≤ 1048576 := (all_get x z56 (fun r => r.f0.length ≤ 1048576)).mpr ha i h0 (by omega)
    have e : laws_toCells.f k ((rd_T56 x i).f0) = some (rd_T56 x i).f0 := by
      unfold laws_toCells.f
      rw [toIntS_eq _ sm hk]; rfl
    rw [laws_toCellsS.l0, if_pos (show i < (x.length : Int) by omega), if_pos h0, e, Option.bind_some, if_pos (show i < (acc.length : Int) by omega), wrap64_id (x := i + 1) (by omega) (by omega)]
    rfl
  · try dsimp only
    rw [laws_toCellsS.l0, if_neg (by omega)]
theorem cells_map {z : List S56} (ha : ∀ r ∈ z, r.f0.length ≤ 1048576) : ∀ r ∈ z.map cc, r.f0.length ≤ 1048576 := fun r h => by
  obtain ⟨x, hx, rfl⟩ := List.mem_map.mp h
  exact ha x hx
/-! laws_eqRefS laws_eqCellsS laws_eqIntS -/
theorem eqRefS_refl {k : Nat} (x : List S65) (hx : x.length ≤ 1048576) (hk : 2000000 ≤ k) : laws_eqRefS.f k x x = some true := by
  unfold laws_eqRefS.f
  rw [if_pos rfl]
  refine goes_on (g := fun k i => laws_eqRefS.l0 k x x i) (n := (x.length : Int)) 0 (fun k i _ h0 h1 => ?_) (fun k _ => ?_) _ k 0 rfl (by omega) (by omega) (by omega)
  · try dsimp only
    have e : ∀ a b : Int, laws_eqRef.f a b a b = some true := fun a b => by unfold laws_eqRef.f; rw [if_pos rfl, if_pos rfl]
    rw [laws_eqRefS.l0, if_pos h1, if_pos h0, if_pos h1, e, Option.bind_some, if_pos rfl, wrap64_id (x := i + 1) (by omega) (by omega)]
  · try dsimp only
    rw [laws_eqRefS.l0, if_neg (by omega)]
theorem eqCellsS_refl {k : Nat} (x : List S66) (hx : x.length ≤ 1048576) (ha : ∀ r ∈ x, r.f0.length ≤ 1048576) (hk : 4000000 ≤ k) : laws_eqCellsS.f k x x = some true := by
  unfold laws_eqCellsS.f
  rw [if_pos rfl]
  refine goes_on (g := fun k i => laws_eqCellsS.l0 k x x i) (n := (x.length : Int)) 2000000 (fun k i hk h0 h1 => ?_) (fun k _ => ?_) _ k 0 rfl (by omega) (by omega) (by omega)
  · try dsimp only
    have e : laws_eqCells.f k (rd_T66 x i).f0 (rd_T66 x i).f0 = some true := by
      unfold laws_eqCells.f
      rw [eqIntS_refl _ (cell_small ha h0 h1) hk, Option.bind_some, if_pos rfl]
    rw [laws_eqCellsS.l0, if_pos h1, if_pos h0, if_pos h1, e, Option.bind_some, if_pos rfl, wrap64_id (x := i + 1) (by omega) (by omega)]
  · try dsimp only
    rw [laws_eqCellsS.l0, if_neg (by omega)]
end Go.Proofs.Ytnmgckdgmplddaa.LFnExactAbsHas
