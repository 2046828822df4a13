/- What the small functions that the statement reaches tell, each by a plain law. Conditions: those in each law. -/
import Derived.Test.YtklkdpcopfjmcaaDFnExactAbsTightV
import Derived.Test.YtklkdpcopfjmcaaBaseV
import Derived.Test.YtklkdpcopfjmcaaBitsV
import Derived.Test.YtklkdpcopfjmcaaRangeMathV
import Derived.Test.YtklkdpcopfjmcaaRestMathV
import Derived.Test.YtklkdpcopfjmcaaValMathV
import Derived.Test.YtklkdpcopfjmcaaGapsMathV
import Derived.Test.YtklkdpcopfjmcaaGaps2MathV
import Derived.Test.YtklkdpcopfjmcaaAbsMathV
namespace Go.Proofs.Ytklkdpcopfjmcaa.LFnExactAbsTight
open Go.RowKit Go.Proofs.Ytklkdpcopfjmcaa.PFnExactAbsTight Go.Proofs.Ytklkdpcopfjmcaa.Base Go.Proofs.YtklkdpcopfjmcaaW.PrintWords Go.Proofs.YtklkdpcopfjmcaaW.PrintLast Go.Proofs.YtklkdpcopfjmcaaW.PrintMore
set_option linter.unusedVariables false
set_option linter.unusedSimpArgs false

/-! spec_l1Mod -/
theorem mod_eq {a b : Int} (hb : 0 < b) (h : b ≤ 9223372036854775807) : spec_l1Mod.f a b = some (a % b) := by
  unfold spec_l1Mod.f
  rw [if_neg (by omega)]
  have e := Int.emod_emod_of_dvd a (Int.dvd_refl b)
  have h1 : Int.tmod a b < b := Int.tmod_lt_of_pos a hb
  have h2 : -b < Int.tmod a b := Int.lt_tmod_of_pos a hb
  have h3 := Int.mul_tdiv_add_tmod a b
  have h4 : a % b = Int.tmod a b % b := by
    conv => lhs; rw [← h3]
    rw [Int.add_comm, Int.add_mul_emod_self_left]
  by_cases hn : Int.tmod a b < 0
  · rw [if_pos hn, wrap64_id (by omega) (by omega), h4, ← Int.add_emod_right, Int.emod_eq_of_lt (by omega) (by omega)]
  · rw [if_neg hn, h4, Int.emod_eq_of_lt (by omega) (by omega)]
/-! impl_NumOk -/
theorem numOk_eq (v : Int) : impl_NumOk.f v = some (decide (NOk v)) := by
  unfold impl_NumOk.f
  by_cases h : v ≥ -2147483648
  · rw [if_pos h]; exact dcl (by (try unfold NOk); omega)
  · rw [if_neg h]; exact dfl (by (try unfold NOk); omega)
/-! spec_l1In -/
theorem sin_eq (v a b : Int) : spec_l1In.f v a b = some (decide (a ≤ v ∧ v ≤ b)) := by
  unfold spec_l1In.f
  by_cases h : v ≥ a
  · rw [if_pos h]; exact dcl (by (try unfold NOk); omega)
  · rw [if_neg h]; exact dfl (by (try unfold NOk); omega)
/-! spec_NumOk -/
theorem snumOk_eq (v : Int) : spec_NumOk.f v = some (decide (NOk v)) := by
  unfold spec_NumOk.f
  rw [sin_eq]; exact dcl Iff.rfl
/-! impl_rangeNone -/
theorem rangeNone_eq : impl_rangeNone.f = some (1, 0) := rfl
/-! spec_l8None -/
theorem snone_eq : spec_l8None.f = some (1, 0) := rfl
/-! impl_RangeOk -/
theorem rangeOk_eq (l h : Int) : impl_RangeOk.f l h = some (decide (ROk l h)) := by
  unfold impl_RangeOk.f impl_rangeNone.f ROk
  simp only [Option.bind_some, numOk_eq, Bool.and_eq_true, beq_iff_eq]
  by_cases c : l = 1 ∧ h = 0
  · simp [c]
  · by_cases c1 : NOk l <;> by_cases c2 : NOk h <;> simp [c, c1, c2]
/-! spec_RangeOk -/
theorem srangeOk_eq (l h : Int) : spec_RangeOk.f l h = some (decide (ROk l h)) := by
  unfold spec_RangeOk.f spec_l8None.f ROk
  simp only [Option.bind_some, snumOk_eq, Bool.and_eq_true, beq_iff_eq]
  by_cases c : l = 1 ∧ h = 0
  · simp [c]
  · by_cases c1 : NOk l <;> by_cases c2 : NOk h <;> simp [c, c1, c2]
/-! impl_Range_empty -/
theorem rangeEmpty_eq (l h : Int) : impl_Range_empty.f l h = some (decide (l > h)) := rfl
/-! spec_l8Min -/
theorem smin_eq (a b : Int) : spec_l8Min.f a b = some (min a b) := by
  unfold spec_l8Min.f; split <;> congr 1 <;> omega
/-! spec_l8Max -/
theorem smax_eq (a b : Int) : spec_l8Max.f a b = some (max a b) := by
  unfold spec_l8Max.f; split <;> congr 1 <;> omega
/-! impl_rangeFrom -/
theorem rangeFrom_eq (a b : Int) : impl_rangeFrom.f a b = some (RFrom a b) := by
  unfold impl_rangeFrom.f RFrom
  rw [rangeNone_eq, mx_eq, mn_eq]
  split <;> rfl
/-! spec_l8Cut -/
theorem scut_eq (a b : Int) : spec_l8Cut.f a b = some (RFrom a b) := by
  unfold spec_l8Cut.f RFrom
  rw [smax_eq, smin_eq, snone_eq]
  simp only [Option.bind_some]
  split <;> rfl
/-! impl_RangeHas -/
theorem rangeHas_eq (l h v : Int) : impl_RangeHas.f l h v = some (decide (RHas l h v)) := by
  unfold impl_RangeHas.f RHas
  rw [rangeOk_eq]
  simp only [Option.bind_some]
  by_cases c : ROk l h <;> by_cases c1 : l ≤ v <;> simp [c, c1]
/-! spec_RangeHas -/
theorem srangeHas_eq (l h v : Int) : spec_RangeHas.f l h v = some (decide (RHas l h v)) := by
  unfold spec_RangeHas.f RHas
  rw [srangeOk_eq, sin_eq]
  simp only [Option.bind_some]
  by_cases c : ROk l h <;> simp [c]
/-! impl_RangeMeet -/
theorem rangeMeet_eq (k : Nat) (hk : 1 ≤ k) (l h l' h' : Int) : impl_RangeMeet.f k l h l' h' = some (RMeet l h l' h') := by
  obtain ⟨k, rfl⟩ : ∃ m, k = m + 1 := ⟨k - 1, by omega⟩
  unfold impl_RangeMeet.f RMeet
  rw [rangeOk_eq, rangeOk_eq]
  simp only [Option.bind_some, rangeEmpty_eq, mn_eq, mx_eq]
  by_cases c : ROk l h
  case neg => simp [c, impl_RangeMeet.j0, rangeNone_eq]
  by_cases c1 : ROk l' h'
  case neg => simp [c, c1, impl_RangeMeet.j0, rangeNone_eq]
  by_cases c2 : l > h
  · simp [c, c1, c2, impl_RangeMeet.j0, rangeNone_eq]
  by_cases c3 : l' > h'
  · simp [c, c1, c2, c3, impl_RangeMeet.j0, rangeNone_eq]
  simp only [c, c1, c2, c3, decide_true, decide_false, if_true, Bool.not_true, impl_RangeMeet.j0, Bool.false_eq_true, if_false, rangeFrom_eq, Option.bind_some, mn_eq, mx_eq, not_true, or_self]
/-! spec_RangeMeet -/
theorem srangeMeet_eq (k : Nat) (hk : 1 ≤ k) (l h l' h' : Int) : spec_RangeMeet.f k l h l' h' = some (RMeet l h l' h') := by
  obtain ⟨k, rfl⟩ : ∃ m, k = m + 1 := ⟨k - 1, by omega⟩
  unfold spec_RangeMeet.f RMeet
  rw [srangeOk_eq, srangeOk_eq]
  simp only [Option.bind_some, snone_eq, Bool.and_eq_true, beq_iff_eq]
  by_cases c : ROk l h
  case neg => simp [c, spec_RangeMeet.j0, snone_eq]
  by_cases c1 : ROk l' h'
  case neg => simp [c, c1, spec_RangeMeet.j0, snone_eq]
  simp only [c.empty_iff, c1.empty_iff]
  by_cases c2 : l = 1 ∧ h = 0
  · simp [c, c1, c2, spec_RangeMeet.j0, snone_eq]
  by_cases c3 : l' = 1 ∧ h' = 0
  · simp [c, c1, c2, c3, spec_RangeMeet.j0, snone_eq]
  have e : (l' == 1 && h' == 0) = false := by
    rw [Bool.eq_false_iff]; simpa using c3
  simp only [c, c1, c2, c3, e, decide_true, decide_false, if_true, Bool.not_true, spec_RangeMeet.j0, Bool.false_eq_true, if_false, scut_eq, smin_eq, smax_eq, Option.bind_some, not_true, or_self]
/-! impl_RestOk -/
theorem restOk_eq (m a : Int) : impl_RestOk.f m a = some (decide (SOk m a)) := by
  unfold impl_RestOk.f
  rw [numOk_eq]
  simp only [Option.bind_some]
  by_cases c : m = 0
  · rw [if_pos c]; exact dcl ⟨fun h => Or.inl ⟨c, h⟩, fun h => h.zero c⟩
  · rw [if_neg c]
    have e : SOk m a ↔ (1 ≤ m ∧ m ≤ 65536 ∧ 0 ≤ a ∧ a < m) := by
      unfold SOk; constructor
      · intro h; rcases h with h | h
        · exact absurd h.1 c
        · exact h.2
      · intro h; exact Or.inr ⟨c, h⟩
    by_cases c1 : m ≥ 1
    · rw [if_pos c1]
      by_cases c2 : m ≤ 65536
      · rw [if_pos c2]
        by_cases c3 : a ≥ 0
        · rw [if_pos c3]; exact dcl (by rw [e]; omega)
        · rw [if_neg c3]; exact dfl (by rw [e]; omega)
      · rw [if_neg c2]; exact dfl (by rw [e]; omega)
    · rw [if_neg c1]; exact dfl (by rw [e]; omega)
/-! spec_RestOk -/
theorem srestOk_eq (m a : Int) : spec_RestOk.f m a = some (decide (SOk m a)) := by
  unfold spec_RestOk.f
  rw [snumOk_eq, sin_eq, sin_eq]
  simp only [Option.bind_some]
  by_cases c : m = 0
  · rw [if_pos c]; exact dcl ⟨fun h => Or.inl ⟨c, h⟩, fun h => h.zero c⟩
  · rw [if_neg c]
    have e : SOk m a ↔ (1 ≤ m ∧ m ≤ 65536 ∧ 0 ≤ a ∧ a < m) := by
      unfold SOk; constructor
      · intro h; rcases h with h | h
        · exact absurd h.1 c
        · exact h.2
      · intro h; exact Or.inr ⟨c, h⟩
    by_cases c1 : 1 ≤ m ∧ m ≤ 65536
    · simp only [c1, decide_true, if_true, and_self]
      rw [wrap64_id (by omega) (by omega)]; exact dcl (by rw [e]; omega)
    · simp only [c1, decide_false, Bool.false_eq_true, if_false]; exact dfl (by rw [e]; omega)
/-! impl_restAll -/
theorem restAll_eq : impl_restAll.f = some (1, 0) := rfl
/-! spec_l9All -/
theorem srestAll_eq : spec_l9All.f = some (1, 0) := rfl
/-! impl_restMod -/
theorem restMod_eq {n m : Int} (hm : 0 < m) (h : m ≤ 9223372036854775807) : impl_restMod.f n m = some (n % m) := mod_eq hm h
/-! impl_restGcd -/
theorem tmod_gcd (g n : Int) : Int.gcd n (Int.tmod g n) = Int.gcd g n := by
  rw [Int.gcd_eq_natAbs_gcd_natAbs, Int.gcd_eq_natAbs_gcd_natAbs, Int.natAbs_tmod, Nat.gcd_comm g.natAbs, Nat.gcd_comm n.natAbs (g.natAbs % n.natAbs), ← Nat.gcd_rec]
theorem gcd_l1 {xs : List Int} {len i r : Int} (K : Nat) : ∀ (d k : Nat) (g n : Int), n.natAbs ≤ d → K + d + 1 ≤ k →
    (∀ (k' : Nat) (g' : Int), K ≤ k' → g'.natAbs = Int.gcd g n → impl_restGcd.l0 k' g' xs len (wrap64 (i + 1)) = some r) → impl_restGcd.l1 k g n xs len i = some r := by
  intro d
  induction d with
  | zero =>
    intro k g n hn hk h
    obtain ⟨k, rfl⟩ : ∃ m, k = m + 1 := ⟨k - 1, by omega⟩
    have : n = 0 := by omega
    subst this
    simp only [impl_restGcd.l1, if_true]
    exact h k g (by omega) (by simp)
  | succ d ih =>
    intro k g n hn hk h
    obtain ⟨k, rfl⟩ : ∃ m, k = m + 1 := ⟨k - 1, by omega⟩
    simp only [impl_restGcd.l1]
    by_cases c : n = 0
    · subst c
      rw [if_pos rfl]
      exact h k g (by omega) (by simp)
    · rw [if_neg c]
      have : (Int.tmod g n).natAbs < n.natAbs := by rw [Int.natAbs_tmod]; exact Nat.mod_lt _ (by omega)
      refine ih k n (Int.tmod g n) (by omega) (by omega) ?_
      rw [tmod_gcd]; exact fun k' g' => h k' g'
def gcds (g : Nat) (xs : List Int) : Nat := xs.foldl (fun g n => Nat.gcd g n.natAbs) g
theorem gcd_l0 (xs : List Int) (hx : ∀ x ∈ xs, x.natAbs ≤ 9223372036854775807) (hl : xs.length ≤ 1000) : ∀ (d k : Nat) (g i : Int), 0 ≤ i → i ≤ xs.length → ((xs.length : Int) - i = d) → d * 9223372036854775900 + 2 ≤ k → g.natAbs ≤ 9223372036854775807 →
    impl_restGcd.l0 k g xs (xs.length : Int) i = some ((gcds g.natAbs (xs.drop i.toNat) : Nat) : Int) := by
  intro d
  induction d with
  | zero =>
    intro k g i h0 h1 hd hk hg
    obtain ⟨k, rfl⟩ : ∃ m, k = m + 1 := ⟨k - 1, by omega⟩
    simp only [impl_restGcd.l0]
    rw [if_neg (by omega), List.drop_of_length_le (by omega)]
    simp only [gcds, List.foldl_nil]
    by_cases c : g < 0
    · rw [if_pos c, wrap64_id (by omega) (by omega)]; congr 1; omega
    · rw [if_neg c]; congr 1; omega
  | succ d ih =>
    intro k g i h0 h1 hd hk hg
    obtain ⟨k, rfl⟩ : ∃ m, k = m + 1 := ⟨k - 1, by omega⟩
    simp only [impl_restGcd.l0]
    rw [if_pos (by omega), if_pos h0, if_pos (by omega), drop_rd h0 (by omega)]
    have hm : rd xs i ∈ xs := by
      have := drop_rd (xs := xs) h0 (by omega)
      exact List.mem_of_mem_drop (by rw [this]; exact List.mem_cons_self ..)
    have hn := hx _ hm
    generalize rd xs i = n at *
    have e : (i + 1).toNat = i.toNat + 1 := by omega
    refine gcd_l1 (d * 9223372036854775900 + 2) n.natAbs k g n (Nat.le_refl _) (by omega) ?_
    intro k' g' hk' hg'
    have le : g'.natAbs ≤ 9223372036854775807 := by
      rw [hg', Int.gcd_eq_natAbs_gcd_natAbs]
      rcases Nat.eq_zero_or_pos g.natAbs with z | z
      · rw [z, Nat.gcd_zero_left]; exact hn
      · exact Nat.le_trans (Nat.gcd_le_left _ z) hg
    rw [wrap64_id (by omega) (by omega), ih k' g' (i + 1) (by omega) (by omega) (by omega) hk' le, e, hg']
    rfl
theorem restGcd_eq (k : Nat) (xs : List Int) (hk : xs.length * 9223372036854775900 + 2 ≤ k) (hx : ∀ x ∈ xs, x.natAbs ≤ 9223372036854775807) (hl : xs.length ≤ 1000) : impl_restGcd.f k xs = some ((gcds 0 xs : Nat) : Int) := by
  unfold impl_restGcd.f
  rw [gcd_l0 xs hx hl xs.length k 0 0 (by omega) (by omega) (by omega) hk (by decide)]
  simp
theorem restGcd2 (k : Nat) (hk : 100000000000000000000 ≤ k) {a b : Int} (ha : a.natAbs ≤ 9223372036854775807) (hb : b.natAbs ≤ 9223372036854775807) : impl_restGcd.f k [a, b] = some ((Int.gcd a b : Nat) : Int) := by
  rw [restGcd_eq k _ (by simp; omega) (by intro x hx; simp at hx; rcases hx with rfl | rfl <;> assumption) (by simp)]
  simp [gcds, Int.gcd_eq_natAbs_gcd_natAbs]
theorem restGcd3 (k : Nat) (hk : 100000000000000000000 ≤ k) {a b c : Int} (ha : a.natAbs ≤ 9223372036854775807) (hb : b.natAbs ≤ 9223372036854775807) (hc : c.natAbs ≤ 9223372036854775807) :
    impl_restGcd.f k [a, b, c] = some ((Int.gcd (Int.gcd a b : Int) c : Nat) : Int) := by
  rw [restGcd_eq k _ (by simp; omega) (by intro x hx; simp at hx; rcases hx with rfl | rfl | rfl <;> assumption) (by simp)]
  simp [gcds, Int.gcd_eq_natAbs_gcd_natAbs]
/-! impl_RestHas -/
theorem restHas_eq (k : Nat) (hk : 1 ≤ k) (m a v : Int) : impl_RestHas.f k m a v = some (decide (SHas m a v)) := by
  obtain ⟨k, rfl⟩ : ∃ m, k = m + 1 := ⟨k - 1, by omega⟩
  unfold impl_RestHas.f
  rw [restOk_eq, numOk_eq]
  simp only [Option.bind_some]
  by_cases c : SOk m a
  case neg => simp only [c, decide_false, Bool.false_eq_true, if_false, impl_RestHas.j0, if_true]; exact dfl (fun h => c h.1)
  by_cases c1 : NOk v
  case neg => simp only [c, c1, decide_true, decide_false, Bool.not_false, impl_RestHas.j0, if_true]; exact dfl (fun h => c1 h.2.1)
  simp only [c, c1, decide_true, if_true, Bool.not_true, impl_RestHas.j0, Bool.false_eq_true, if_false]
  by_cases c2 : m = 0
  · rw [if_pos c2]
    by_cases c3 : v = a
    · subst c3
      have : SHas m v v := ⟨c, c1, Or.inl ⟨c2, rfl⟩⟩
      simp only [this, decide_true, beq_self_eq_true]
    · have : ¬ SHas m a v := fun h => by rcases h.2.2 with h | h; exact c3 h.2; exact h.1 c2
      simp [c3, this]
  · have p := c.pos c2
    rw [if_neg c2, restMod_eq (by omega) (by omega)]
    simp only [Option.bind_some]
    by_cases c3 : v % m = a
    · have : SHas m a v := ⟨c, c1, Or.inr ⟨c2, c3⟩⟩
      simp only [this, decide_true, c3, beq_self_eq_true]
    · have : ¬ SHas m a v := fun h => by rcases h.2.2 with h | h; exact c2 h.1; exact c3 h.2
      simp [c3, this]
/-! spec_RestHas -/
theorem srestHas_eq (k : Nat) (hk : 1 ≤ k) (m a v : Int) : spec_RestHas.f k m a v = some (decide (SHas m a v)) := by
  obtain ⟨k, rfl⟩ : ∃ m, k = m + 1 := ⟨k - 1, by omega⟩
  unfold spec_RestHas.f
  rw [srestOk_eq, snumOk_eq]
  simp only [Option.bind_some]
  by_cases c : SOk m a
  case neg => simp only [c, decide_false, Bool.false_eq_true, if_false, spec_RestHas.j0, if_true]; exact dfl (fun h => c h.1)
  by_cases c1 : NOk v
  case neg => simp only [c, c1, decide_true, decide_false, Bool.not_false, spec_RestHas.j0, if_true]; exact dfl (fun h => c1 h.2.1)
  simp only [c, c1, decide_true, if_true, Bool.not_true, spec_RestHas.j0, Bool.false_eq_true, if_false]
  by_cases c2 : m = 0
  · rw [if_pos c2]
    by_cases c3 : v = a
    · subst c3
      have : SHas m v v := ⟨c, c1, Or.inl ⟨c2, rfl⟩⟩
      simp only [this, decide_true, beq_self_eq_true]
    · have : ¬ SHas m a v := fun h => by rcases h.2.2 with h | h; exact c3 h.2; exact h.1 c2
      simp [c3, this]
  · have p := c.pos c2
    rw [if_neg c2, mod_eq (by omega) (by omega)]
    simp only [Option.bind_some]
    by_cases c3 : v % m = a
    · have : SHas m a v := ⟨c, c1, Or.inr ⟨c2, c3⟩⟩
      simp only [this, decide_true, c3, beq_self_eq_true]
    · have : ¬ SHas m a v := fun h => by rcases h.2.2 with h | h; exact c2 h.1; exact c3 h.2
      simp [c3, this]
/-! impl_RestMeet -/
theorem meet_l0 {p m a m' a' x : Int} (hm : 1 ≤ m) (hm1 : m ≤ 65536) (hm' : 1 ≤ m') (hm1' : m' ≤ 65536) (hx : Both m a m' a' x) (hp : (Int.lcm m m' : Int) ≤ 65536) : ∀ (d k : Nat) (at' : Int), 0 ≤ at' → at' ≤ x → at' % m = a → (x - at').toNat ≤ d → d < k →
    impl_RestMeet.l0 k p at' m a m' a' = some (p, x, true) := by
  intro d
  induction d with
  | zero =>
    intro k y h0 h1 h2 hd hk
    obtain ⟨k, rfl⟩ : ∃ m, k = m + 1 := ⟨k - 1, by omega⟩
    have : y = x := by omega
    subst this
    simp only [impl_RestMeet.l0]
    rw [restMod_eq (by omega) (by omega), hx.2.2.2]
    simp
  | succ d ih =>
    intro k y h0 h1 h2 hd hk
    obtain ⟨k, rfl⟩ : ∃ m, k = m + 1 := ⟨k - 1, by omega⟩
    simp only [impl_RestMeet.l0]
    rw [restMod_eq (by omega) (by omega)]
    simp only [Option.bind_some]
    have hx1 := hx.2.1
    by_cases c : y % m' = a'
    · rw [if_pos c, both_unique (⟨h0, by omega, h2, c⟩ : Both m a m' a' y) hx]
    · rw [if_neg c, wrap64_id (by omega) (by omega)]
      have ne : y ≠ x := fun e => c (by rw [e]; exact hx.2.2.2)
      have d1 : m ∣ x - y := Int.dvd_of_emod_eq_zero ((Int.emod_eq_emod_iff_emod_sub_eq_zero).mp (hx.2.2.1.trans h2.symm))
      have le := Int.le_of_dvd (by omega) d1
      exact ih k (y + m) (by omega) (by omega) (by rw [Int.add_emod_right]; exact h2) (by omega) (by omega)
theorem lcm_div {m m' : Int} (hm : 1 ≤ m) (hm' : 1 ≤ m') : Int.tdiv m (Int.gcd m m' : Int) * m' = (Int.lcm m m' : Int) := by
  have g := Int.gcd_pos_of_ne_zero_left (a := m) m' (by omega)
  have d : (Int.gcd m m' : Int) ∣ m := Int.gcd_dvd_left _ _
  rw [Int.tdiv_eq_ediv_of_nonneg (by omega)]
  obtain ⟨t, ht⟩ := d
  have e : m / (Int.gcd m m' : Int) = t := by
    have e6 : (Int.gcd m m' : Int) ≠ 0 := by clear ht; omega
    exact Int.ediv_eq_of_eq_mul_right e6 ht
  rw [e, Int.lcm_eq_mul_div]
  have nm : (m.natAbs : Int) = m := by omega
  have nm' : (m'.natAbs : Int) = m' := by omega
  push_cast
  rw [nm, nm']
  have e5 : m * m' = (Int.gcd m m' : Int) * (t * m') := by rw [← Int.mul_assoc, ← ht]
  have e6 : (Int.gcd m m' : Int) ≠ 0 := by omega
  rw [e5, Int.mul_ediv_cancel_left _ e6]
theorem lcm_small {m m' : Int} (hm : 1 ≤ m) (hm1 : m ≤ 65536) (hm' : 1 ≤ m') (hm1' : m' ≤ 65536) : Int.tdiv m (Int.gcd m m' : Int) ≤ 65536 ∧ 0 ≤ Int.tdiv m (Int.gcd m m' : Int) ∧ (Int.lcm m m' : Int) ≤ 4294967296 := by
  have g := Int.gcd_pos_of_ne_zero_left (a := m) m' (by omega)
  have l := Int.lcm_le_natAbs_mul (a := m) (b := m') (by omega) (by omega)
  have : m.natAbs * m'.natAbs ≤ 65536 * 65536 := Nat.mul_le_mul (by omega) (by omega)
  refine ⟨?_, tdiv_nonneg (by omega) (by omega), by omega⟩
  have := tdiv_le (a := m) (b := (Int.gcd m m' : Int)) (by omega) (by omega)
  omega
theorem restMeet_eq (k : Nat) (hk : 200000000000000000000 ≤ k) (m a m' a' : Int) : impl_RestMeet.f k m a m' a' = some (SMeet m a m' a') := by
  obtain ⟨k, rfl⟩ : ∃ m, k = m + 3 := ⟨k - 3, by omega⟩
  unfold impl_RestMeet.f SMeet
  rw [restOk_eq, restOk_eq]
  simp only [Option.bind_some]
  by_cases c : SOk m a
  case neg => simp [c, impl_RestMeet.j0]
  by_cases c1 : SOk m' a'
  case neg => simp [c, c1, impl_RestMeet.j0]
  simp only [c, c1, decide_true, if_true, Bool.not_true, impl_RestMeet.j0, Bool.false_eq_true, if_false, not_true, or_self]
  rw [restHas_eq _ (by omega), restHas_eq _ (by omega)]
  simp only [Option.bind_some, decide_eq_true_eq]
  by_cases c2 : m = 0
  · rw [if_pos c2, if_pos c2]; split <;> rfl
  rw [if_neg c2, if_neg c2]
  by_cases c3 : m' = 0
  · rw [if_pos c3, if_pos c3]; split <;> rfl
  rw [if_neg c3, if_neg c3]
  have p := c.pos c2
  have p' := c1.pos c3
  have g := Int.gcd_pos_of_ne_zero_left (a := m) m' (by omega)
  have gl := Int.gcd_le_left (a := m) m' (by omega)
  rw [restGcd2 _ (by omega) (by omega) (by omega)]
  simp only [Option.bind_some]
  rw [if_neg (by omega), wrap64_id (x := a - a') (by omega) (by omega)]
  have tm : Int.tmod (a - a') (Int.gcd m m' : Int) = 0 ↔ (a - a') % (Int.gcd m m' : Int) = 0 := by
    rw [← Int.dvd_iff_tmod_eq_zero, Int.dvd_iff_emod_eq_zero]
  by_cases c4 : (a - a') % (Int.gcd m m' : Int) = 0
  case neg => rw [if_neg (fun h => c4 (tm.mp h)), if_pos c4]
  rw [if_pos (tm.mpr c4), if_neg (fun h => h c4 : ¬ ¬ (a - a') % (Int.gcd m m' : Int) = 0)]
  have dv : (Int.gcd m m' : Int) ∣ a - a' := Int.dvd_of_emod_eq_zero c4
  obtain ⟨x, hx⟩ := both_exists p.1 p'.1 p.2.2.1 p.2.2.2 p'.2.2.1 p'.2.2.2 dv
  have J : ∀ (M A M' A' : Int), 1 ≤ M → M ≤ 65536 → 1 ≤ M' → M' ≤ 65536 → 0 ≤ A → A < M → (Int.gcd M M' = Int.gcd m m') → (Int.lcm M M' = Int.lcm m m') → Both M A M' A' x →
      impl_RestMeet.j1 (k + 2) (Int.gcd m m' : Int) M A M' A' = some (if (Int.lcm m m' : Int) > 65536 then (M, A, true) else ((Int.lcm m m' : Int), x, true)) := by
    intro M A M' A' h1 h2 h3 h4 h5 h6 hg hl hb
    have ls := lcm_small h1 h2 h3 h4
    have ld := lcm_div h1 h3
    rw [hg] at ls ld
    rw [hl] at ls ld
    simp only [impl_RestMeet.j1]
    rw [if_neg (by omega), wrap64_id (x := Int.tdiv M (Int.gcd m m' : Int)) (by omega) (by omega), ld, wrap64_id (by omega) (by omega)]
    by_cases cl : (Int.lcm m m' : Int) > 65536
    · rw [if_pos cl, if_pos cl]
    · rw [if_neg cl, if_neg cl]
      have e : A % M = A := Int.emod_eq_of_lt h5 h6
      have le : A ≤ x := by
        have := hb.2.2.1
        have d1 := Int.mul_ediv_add_emod x M
        have d2 := Int.ediv_nonneg hb.1 (show 0 ≤ M by omega)
        have d3 : 0 ≤ M * (x / M) := Int.mul_nonneg (by omega) d2
        omega
      have hx1 := hb.2.1
      rw [hl] at hx1
      exact meet_l0 h1 h2 h3 h4 hb (by rw [hl]; omega) (x - A).toNat (k + 1) A h5 le e (by omega) (by omega)
  by_cases c5 : m' > m
  · rw [if_pos c5, J m' a' m a p'.1 p'.2.1 p.1 p.2.1 p'.2.2.1 p'.2.2.2 (Int.gcd_comm _ _) (Int.lcm_comm _ _) (both_swap hx), bothOf_eq hx]
    by_cases cl : (Int.lcm m m' : Int) > 65536
    · rw [if_pos cl, if_pos cl, if_pos c5]
    · rw [if_neg cl, if_neg cl]
  · rw [if_neg c5, J m a m' a' p.1 p.2.1 p'.1 p'.2.1 p.2.2.1 p.2.2.2 rfl rfl hx, bothOf_eq hx]
    by_cases cl : (Int.lcm m m' : Int) > 65536
    · rw [if_pos cl, if_pos cl, if_neg c5]
    · rw [if_neg cl, if_neg cl]
/-! spec_l9Gcd -/
theorem sgcd_l0 : ∀ (d k : Nat) (a b : Int), 0 ≤ a → 0 ≤ b → b.toNat ≤ d → d < k → spec_l9Gcd.l0 k a b = some ((Int.gcd a b : Nat) : Int) := by
  intro d
  induction d with
  | zero =>
    intro k a b h0 h1 hd hk
    obtain ⟨k, rfl⟩ : ∃ m, k = m + 1 := ⟨k - 1, by omega⟩
    have : b = 0 := by omega
    subst this
    simp only [spec_l9Gcd.l0, if_true, Int.gcd_zero]; congr 1; omega
  | succ d ih =>
    intro k a b h0 h1 hd hk
    obtain ⟨k, rfl⟩ : ∃ m, k = m + 1 := ⟨k - 1, by omega⟩
    simp only [spec_l9Gcd.l0]
    by_cases c : b = 0
    · subst c
      rw [if_pos rfl, Int.gcd_zero]; congr 1; omega
    · rw [if_neg c]
      have t0 := tmod_nonneg (b := b) h0
      have t1 := tmod_lt (a := a) (b := b) (by omega)
      rw [ih k b (Int.tmod a b) h1 t0 (by omega) (by omega)]
      congr 2
      rw [Int.gcd_eq_natAbs_gcd_natAbs, Int.gcd_eq_natAbs_gcd_natAbs, Int.natAbs_tmod, Nat.gcd_comm a.natAbs, Nat.gcd_comm b.natAbs (a.natAbs % b.natAbs), ← Nat.gcd_rec]
theorem sgcd_eq (k : Nat) (hk : 100000000000000000000 ≤ k) {a b : Int} (ha : a.natAbs ≤ 9223372036854775807) (hb : b.natAbs ≤ 9223372036854775807) : spec_l9Gcd.f k a b = some ((Int.gcd a b : Nat) : Int) := by
  obtain ⟨k, rfl⟩ : ∃ m, k = m + 2 := ⟨k - 2, by omega⟩
  have L : ∀ x y : Int, 0 ≤ x → 0 ≤ y → y ≤ 9223372036854775807 → spec_l9Gcd.l0 k x y = some ((Int.gcd x y : Nat) : Int) := fun x y h h' h'' => sgcd_l0 y.toNat k x y h h' (Nat.le_refl _) (by omega)
  unfold spec_l9Gcd.f
  simp only [spec_l9Gcd.j0, spec_l9Gcd.j1]
  by_cases c : a < 0
  · rw [if_pos c, wrap64_id (x := -a) (by omega) (by omega)]
    by_cases c1 : b < 0
    · rw [if_pos c1, wrap64_id (by omega) (by omega), L _ _ (by omega) (by omega) (by omega)]; simp
    · rw [if_neg c1, L _ _ (by omega) (by omega) (by omega)]; simp
  · rw [if_neg c]
    by_cases c1 : b < 0
    · rw [if_pos c1, wrap64_id (by omega) (by omega), L _ _ (by omega) (by omega) (by omega)]; simp
    · rw [if_neg c1, L _ _ (by omega) (by omega) (by omega)]
/-! spec_RestMeet -/
theorem smeet_l0 {p m a m' a' x : Int} (hm : 1 ≤ m) (hm1 : m ≤ 65536) (hm' : 1 ≤ m') (hm1' : m' ≤ 65536) (hx : Both m a m' a' x) (hp : (Int.lcm m m' : Int) ≤ 65536) : ∀ (d k : Nat) (at' : Int), 0 ≤ at' → at' ≤ x → at' % m = a → (x - at').toNat ≤ d → d < k →
    spec_RestMeet.l0 k p at' m a m' a' = some (p, x, true) := by
  intro d
  induction d with
  | zero =>
    intro k y h0 h1 h2 hd hk
    obtain ⟨k, rfl⟩ : ∃ m, k = m + 1 := ⟨k - 1, by omega⟩
    have : y = x := by omega
    subst this
    simp only [spec_RestMeet.l0]
    rw [mod_eq (by omega) (by omega), hx.2.2.2]
    simp
  | succ d ih =>
    intro k y h0 h1 h2 hd hk
    obtain ⟨k, rfl⟩ : ∃ m, k = m + 1 := ⟨k - 1, by omega⟩
    simp only [spec_RestMeet.l0]
    rw [mod_eq (by omega) (by omega)]
    simp only [Option.bind_some]
    have hx1 := hx.2.1
    by_cases c : y % m' = a'
    · rw [if_pos c, both_unique (⟨h0, by omega, h2, c⟩ : Both m a m' a' y) hx]
    · rw [if_neg c, wrap64_id (by omega) (by omega)]
      have ne : y ≠ x := fun e => c (by rw [e]; exact hx.2.2.2)
      have d1 : m ∣ x - y := Int.dvd_of_emod_eq_zero ((Int.emod_eq_emod_iff_emod_sub_eq_zero).mp (hx.2.2.1.trans h2.symm))
      have le := Int.le_of_dvd (by omega) d1
      exact ih k (y + m) (by omega) (by omega) (by rw [Int.add_emod_right]; exact h2) (by omega) (by omega)
theorem slcm_div {m m' : Int} (hm : 1 ≤ m) (hm' : 1 ≤ m') : Int.tdiv m (Int.gcd m m' : Int) * m' = (Int.lcm m m' : Int) := by
  have g := Int.gcd_pos_of_ne_zero_left (a := m) m' (by omega)
  have d : (Int.gcd m m' : Int) ∣ m := Int.gcd_dvd_left _ _
  rw [Int.tdiv_eq_ediv_of_nonneg (by omega)]
  obtain ⟨t, ht⟩ := d
  have e : m / (Int.gcd m m' : Int) = t := by
    have e6 : (Int.gcd m m' : Int) ≠ 0 := by clear ht; omega
    exact Int.ediv_eq_of_eq_mul_right e6 ht
  rw [e, Int.lcm_eq_mul_div]
  have nm : (m.natAbs : Int) = m := by omega
  have nm' : (m'.natAbs : Int) = m' := by omega
  push_cast
  rw [nm, nm']
  have e5 : m * m' = (Int.gcd m m' : Int) * (t * m') := by rw [← Int.mul_assoc, ← ht]
  have e6 : (Int.gcd m m' : Int) ≠ 0 := by omega
  rw [e5, Int.mul_ediv_cancel_left _ e6]
theorem srestMeet_eq (k : Nat) (hk : 200000000000000000000 ≤ k) (m a m' a' : Int) : spec_RestMeet.f k m a m' a' = some (SMeet m a m' a') := by
  have main : ∀ (k : Nat), 150000000000000000000 ≤ k → ∀ m a m' a', (m = 0 ∨ m' ≠ 0) → spec_RestMeet.f k m a m' a' = some (SMeet m a m' a') := by
    intro k hk m a m' a' h
    obtain ⟨k, rfl⟩ : ∃ m, k = m + 2 := ⟨k - 2, by omega⟩
    unfold SMeet
    simp only [spec_RestMeet.f]
    rw [srestOk_eq, srestOk_eq]
    simp only [Option.bind_some]
    by_cases c : SOk m a
    case neg => simp [c, spec_RestMeet.j0]
    by_cases c1 : SOk m' a'
    case neg => simp [c, c1, spec_RestMeet.j0]
    simp only [c, c1, decide_true, if_true, Bool.not_true, spec_RestMeet.j0, Bool.false_eq_true, if_false, not_true, or_self]
    rw [srestHas_eq _ (by omega)]
    simp only [Option.bind_some, decide_eq_true_eq]
    by_cases c2 : m = 0
    · rw [if_pos c2, if_pos c2]; split <;> rfl
    rw [if_neg c2, if_neg c2]
    have c3 : ¬ m' = 0 := by rcases h with h | h; exact absurd h c2; exact h
    rw [if_neg c3, if_neg c3]
    have p := c.pos c2
    have p' := c1.pos c3
    have g := Int.gcd_pos_of_ne_zero_left (a := m) m' (by omega)
    have gl := Int.gcd_le_left (a := m) m' (by omega)
    rw [sgcd_eq _ (by omega) (by omega) (by omega)]
    simp only [Option.bind_some]
    rw [wrap64_id (x := a - a') (by omega) (by omega), mod_eq (by omega) (by omega)]
    simp only [Option.bind_some]
    by_cases c4 : (a - a') % (Int.gcd m m' : Int) = 0
    case neg => rw [if_neg c4, if_pos c4]
    rw [if_pos c4, if_neg (fun h => h c4 : ¬ ¬ (a - a') % (Int.gcd m m' : Int) = 0), if_neg (by omega : ¬ (Int.gcd m m' : Int) = 0)]
    obtain ⟨x, hx⟩ := both_exists p.1 p'.1 p.2.2.1 p.2.2.2 p'.2.2.1 p'.2.2.2 (Int.dvd_of_emod_eq_zero c4)
    have l := Int.lcm_le_natAbs_mul (a := m) (b := m') (by omega) (by omega)
    have l' : m.natAbs * m'.natAbs ≤ 65536 * 65536 := Nat.mul_le_mul (by omega) (by omega)
    have td := tdiv_le (a := m) (b := (Int.gcd m m' : Int)) (by omega) (by omega)
    have td0 := tdiv_nonneg (a := m) (b := (Int.gcd m m' : Int)) (by omega) (by omega)
    rw [wrap64_id (x := Int.tdiv m (Int.gcd m m' : Int)) (by omega) (by omega), slcm_div p.1 p'.1, wrap64_id (by omega) (by omega), bothOf_eq hx]
    by_cases cl : (Int.lcm m m' : Int) > 65536
    · rw [if_pos cl, if_pos cl]; split <;> rfl
    · rw [if_neg cl, if_neg cl]
      have e : a % m = a := Int.emod_eq_of_lt p.2.2.1 p.2.2.2
      have le : a ≤ x := by
        have := hx.2.2.1
        have d1 := Int.mul_ediv_add_emod x m
        have d2 := Int.ediv_nonneg hx.1 (show 0 ≤ m by omega)
        have d3 : 0 ≤ m * (x / m) := Int.mul_nonneg (by omega) d2
        omega
      have hx1 := hx.2.1
      exact smeet_l0 p.1 p.2.1 p'.1 p'.2.1 hx (by omega) (x - a).toNat _ a p.2.2.1 le e (by omega) (by omega)
  by_cases h : m = 0 ∨ m' ≠ 0
  · exact main k (by omega) m a m' a' h
  · have h1 : ¬ m = 0 := fun e => h (Or.inl e)
    have h2 : m' = 0 := Decidable.byContradiction fun e => h (Or.inr e)
    obtain ⟨k, rfl⟩ : ∃ m, k = m + 2 := ⟨k - 2, by omega⟩
    have sw := main k (by omega) m' a' m a (Or.inl h2)
    simp only [spec_RestMeet.f]
    rw [srestOk_eq, srestOk_eq]
    simp only [Option.bind_some]
    by_cases c : SOk m a
    case neg => unfold SMeet; simp [c, spec_RestMeet.j0]
    by_cases c1 : SOk m' a'
    case neg => unfold SMeet; simp [c, c1, spec_RestMeet.j0]
    simp only [c, c1, decide_true, if_true, Bool.not_true, spec_RestMeet.j0, Bool.false_eq_true, if_false, not_true, or_self]
    have e1 : SMeet m' a' m a = if SHas m a a' then (m', a', true) else (0, 0, false) := by
      unfold SMeet; rw [if_neg (by simp [c, c1]), if_pos h2]
    have e2 : SMeet m a m' a' = if SHas m a a' then (m', a', true) else (0, 0, false) := by
      unfold SMeet; rw [if_neg (by simp [c, c1]), if_neg h1, if_pos h2]
    rw [if_neg h1, if_pos h2, sw, e1, e2]
    rfl
/-! impl_valNone -/
theorem valNone_eq : impl_valNone.f = some (1, 0, 0, 0) := rfl
/-! impl_valOne -/
theorem valOne_eq (v : Int) : impl_valOne.f v = some (v, v, 0, v) := rfl
/-! spec_l10None -/
theorem svalNone_eq : spec_l10None.f = some (1, 0, 0, 0) := rfl
/-! spec_l10One -/
theorem svalOne_eq (v : Int) : spec_l10One.f v = some (v, v, 0, v) := rfl
/-! impl_ValMake -/
theorem valMake_eq (k : Nat) (hk : 1 ≤ k) (l h m a : Int) : impl_ValMake.f k l h m a = some (VMake l h m a) := by
  obtain ⟨k, rfl⟩ : ∃ m, k = m + 1 := ⟨k - 1, by omega⟩
  unfold impl_ValMake.f
  rw [rangeOk_eq, restOk_eq, rangeEmpty_eq]
  simp only [Option.bind_some]
  by_cases c : ¬ ROk l h ∨ ¬ SOk m a ∨ l > h
  · rw [VMake_none c]
    have N : impl_ValMake.j0 (k + 1) true l h m a = some (1, 0, 0, 0) := by simp only [impl_ValMake.j0, if_true, valNone_eq, Option.bind_some]
    by_cases c1 : ROk l h
    case neg => simp only [c1, decide_false, Bool.false_eq_true, if_false]; exact N
    by_cases c2 : SOk m a
    case neg => simp only [c1, c2, decide_true, decide_false, if_true, Bool.false_eq_true, if_false]; exact N
    have c3 : l > h := by
      rcases c with c | c | c
      · exact absurd c1 c
      · exact absurd c2 c
      · exact c
    simp only [c1, c2, c3, decide_true, if_true]; exact N
  have o : ROk l h := Decidable.byContradiction fun n => c (Or.inl n)
  have s : SOk m a := Decidable.byContradiction fun n => c (Or.inr (Or.inl n))
  have e : ¬ l > h := fun n => c (Or.inr (Or.inr n))
  have on := o.some e
  have sn := s.nok
  unfold NOk at on sn
  unfold VMake
  rw [if_neg c]
  simp only [o, s, e, decide_true, decide_false, if_true, impl_ValMake.j0, Bool.false_eq_true, if_false]
  rw [rangeHas_eq, valNone_eq]
  simp only [Option.bind_some, decide_eq_true_eq, valOne_eq]
  by_cases hm : m = 0
  · rw [if_pos hm, if_pos hm]; split <;> rfl
  rw [if_neg hm, if_neg hm]
  have p := s.pos hm
  rw [wrap64_id (x := a - l) (by omega) (by omega), wrap64_id (x := h - a) (by omega) (by omega), restMod_eq (by omega) (by omega), restMod_eq (by omega) (by omega)]
  simp only [Option.bind_some]
  have e1 := Int.emod_nonneg (a - l) hm
  have e2 := Int.emod_nonneg (h - a) hm
  have e3 := Int.emod_lt_of_pos (a - l) (b := m) (by omega)
  have e4 := Int.emod_lt_of_pos (h - a) (b := m) (by omega)
  rw [wrap64_id (x := l + (a - l) % m) (by omega) (by omega), wrap64_id (x := h - (h - a) % m) (by omega) (by omega)]
  split
  · rfl
  · split <;> rfl
/-! spec_ValMake -/
theorem svalMake_eq (k : Nat) (hk : 1 ≤ k) (l h m a : Int) : spec_ValMake.f k l h m a = some (VMake l h m a) := by
  obtain ⟨k, rfl⟩ : ∃ m, k = m + 1 := ⟨k - 1, by omega⟩
  unfold spec_ValMake.f
  rw [srangeOk_eq, srestOk_eq, snone_eq]
  simp only [Option.bind_some]
  by_cases c : ¬ ROk l h ∨ ¬ SOk m a ∨ l > h
  · rw [VMake_none c]
    have N : spec_ValMake.j0 (k + 1) true l h m a = some (1, 0, 0, 0) := by simp only [spec_ValMake.j0, if_true, svalNone_eq, Option.bind_some]
    by_cases c1 : ROk l h
    case neg => simp only [c1, decide_false, Bool.false_eq_true, if_false]; exact N
    by_cases c2 : SOk m a
    case neg => simp only [c1, c2, decide_true, decide_false, if_true, Bool.false_eq_true, if_false]; exact N
    have c3 : l > h := by
      rcases c with c | c | c
      · exact absurd c1 c
      · exact absurd c2 c
      · exact c
    have c4 := c1.none c3
    have c5 : (l == 1 && h == 0) = true := by simp [c4]
    simp only [c1, c2, c5, decide_true, if_true]; exact N
  have o : ROk l h := Decidable.byContradiction fun n => c (Or.inl n)
  have s : SOk m a := Decidable.byContradiction fun n => c (Or.inr (Or.inl n))
  have e : ¬ l > h := fun n => c (Or.inr (Or.inr n))
  have on := o.some e
  have sn := s.nok
  unfold NOk at on sn
  have c5 : (l == 1 && h == 0) = false := by
    rw [Bool.eq_false_iff]; simp only [ne_eq, Bool.and_eq_true, beq_iff_eq]; omega
  unfold VMake
  rw [if_neg c]
  simp only [o, s, c5, decide_true, decide_false, if_true, spec_ValMake.j0, Bool.false_eq_true, if_false]
  rw [srangeHas_eq, svalNone_eq]
  simp only [Option.bind_some, decide_eq_true_eq, svalOne_eq]
  by_cases hm : m = 0
  · rw [if_pos hm, if_pos hm]; split <;> rfl
  rw [if_neg hm, if_neg hm]
  have p := s.pos hm
  rw [wrap64_id (x := a - l) (by omega) (by omega), wrap64_id (x := h - a) (by omega) (by omega), mod_eq (by omega) (by omega), mod_eq (by omega) (by omega)]
  simp only [Option.bind_some]
  have e1 := Int.emod_nonneg (a - l) hm
  have e2 := Int.emod_nonneg (h - a) hm
  have e3 := Int.emod_lt_of_pos (a - l) (b := m) (by omega)
  have e4 := Int.emod_lt_of_pos (h - a) (b := m) (by omega)
  rw [wrap64_id (x := l + (a - l) % m) (by omega) (by omega), wrap64_id (x := h - (h - a) % m) (by omega) (by omega)]
  split
  · rfl
  · split <;> rfl
/-! impl_ValOk -/
theorem valOk_eq (k : Nat) (hk : 1 ≤ k) (l h m a : Int) : impl_ValOk.f k l h m a = some (decide (VOk l h m a)) := by
  unfold impl_ValOk.f impl_Val_span.f impl_Val_rest.f
  simp only [Option.bind_some]
  rw [valMake_eq k hk]
  simp only [Option.bind_some]
  congr 1
  rw [Bool.eq_iff_iff]
  simp only [Bool.and_eq_true, beq_iff_eq, decide_eq_true_eq]
  unfold VOk
  constructor
  · rintro ⟨a1, a2, a3, a4⟩; rw [Prod.ext_iff, Prod.ext_iff, Prod.ext_iff]; exact ⟨a1.symm, a2.symm, a3.symm, a4.symm⟩
  · intro e; rw [e]; exact ⟨rfl, rfl, rfl, rfl⟩
/-! spec_ValOk -/
theorem svalOk_eq (k : Nat) (hk : 1 ≤ k) (l h m a : Int) : spec_ValOk.f k l h m a = some (decide (VOk l h m a)) := by
  unfold spec_ValOk.f
  rw [svalNone_eq, Option.bind_some]
  show (if (l == 1 && (h == 0 && (m == 0 && (a == 0)))) = true then some true else _) = _
  by_cases z : (l == 1 && (h == 0 && (m == 0 && (a == 0)))) = true
  · rw [if_pos z]
    simp only [Bool.and_eq_true, beq_iff_eq] at z
    obtain ⟨rfl, rfl, rfl, rfl⟩ := z
    rw [decide_eq_true vok_none]
  · rw [if_neg z]
    have no : (¬ ROk l h ∨ ¬ SOk m a ∨ l > h) → ¬ VOk l h m a := fun c q => by
      unfold VOk at q
      rw [VMake_none c, Prod.mk.injEq, Prod.mk.injEq, Prod.mk.injEq] at q
      obtain ⟨rfl, rfl, rfl, rfl⟩ := q
      exact z rfl
    show (spec_RangeOk.f l h).bind _ = _
    rw [srangeOk_eq, Option.bind_some]
    by_cases o : ROk l h
    · rw [decide_eq_true o, if_pos rfl]
      show (spec_RestOk.f m a).bind _ = _
      rw [srestOk_eq, Option.bind_some]
      by_cases s : SOk m a
      · rw [decide_eq_true s, if_pos rfl]
        show (spec_ValMake.f k l h m a).bind _ = _
        rw [svalMake_eq k hk, Option.bind_some]
        congr 1
        rw [Bool.eq_iff_iff]
        simp only [Bool.and_eq_true, beq_iff_eq, decide_eq_true_eq]
        unfold VOk
        constructor
        · rintro ⟨a1, a2, a3, a4⟩; rw [Prod.ext_iff, Prod.ext_iff, Prod.ext_iff]; exact ⟨a1.symm, a2.symm, a3.symm, a4.symm⟩
        · intro e; rw [e]; exact ⟨rfl, rfl, rfl, rfl⟩
      · rw [decide_eq_false s, if_neg (by decide), decide_eq_false (no (.inr (.inl s)))]
    · rw [decide_eq_false o, if_neg (by decide), decide_eq_false (no (.inl o))]
/-! laws_toIntS -/
theorem toIntS_loop (x : List Int) (hx : x.length ≤ 1099511627776) : ∀ (m : Nat) (k i : Nat) (acc : List Int), i + m = x.length → m < k → acc.length = x.length → (∀ j, j < i → acc[j]? = x[j]?) → laws_toIntS.l0 k x acc (i : Int) = some x
  | 0, 0, _, _, _, h, _, _ => absurd h (by omega)
  | 0, k + 1, i, acc, hm, _, hl, hj => by
    unfold laws_toIntS.l0
    rw [if_neg (by omega)]
    congr 1
    apply List.ext_getElem?
    intro j
    by_cases h : j < i
    · exact hj j h
    · rw [List.getElem?_eq_none (by omega), List.getElem?_eq_none (by omega)]
  | m + 1, 0, _, _, _, h, _, _ => absurd h (by omega)
  | m + 1, k + 1, i, acc, hm, hk, hl, hj => by
    unfold laws_toIntS.l0
    rw [if_pos (by omega), if_pos (by omega), if_pos (by omega), wrap64_id (by omega) (by omega)]
    have h2 := set_same x acc i (by omega) hl hj
    have e : ((i : Int) + 1) = ((i + 1 : Nat) : Int) := by omega
    rw [e, show (i : Int).toNat = i by omega]
    exact toIntS_loop x hx m k (i + 1) _ (by omega) (by omega) h2.1 h2.2
theorem toIntS_eq {k : Nat} (x : List Int) (hx : x.length ≤ 1048576) (hk : 2000000 ≤ k) : laws_toIntS.f k x = some x := by
  unfold laws_toIntS.f
  rw [if_pos (by omega), if_pos (by omega)]
  exact toIntS_loop x (by omega) x.length k 0 _ (by omega) (by omega) (by simp) (fun j h => absurd h (by omega))
/-! laws_toIntS laws_toGaps -/
theorem toGaps_eq {k : Nat} (n : Int) (x : List Int) (hx : x.length ≤ 1048576) (hk : 2000000 ≤ k) : laws_toGaps.f k n x = some (n, x) := by
  unfold laws_toGaps.f
  rw [toIntS_eq x hx hk]; rfl
/-! laws_szIntS -/
theorem szIntS_eq (x : List Int) (a : Int) (hx : x.length ≤ 9223372036854775807) (h0 : 0 ≤ a) (h : a ≤ 1048576) : laws_szIntS.f x a = some (if (x.length : Int) ≤ a then a - x.length else -1) := by
  unfold laws_szIntS.f
  rw [wrap64_id (by omega) (by omega)]
  by_cases c : (x.length : Int) ≤ a
  · rw [if_neg (by omega), if_pos c]
  · rw [if_pos (by omega), if_neg c]
/-! laws_szIntS laws_szGaps -/
theorem szGaps_eq (n : Int) (x : List Int) (a : Int) (hx : x.length ≤ 9223372036854775807) (h0 : 0 ≤ a) (h : a ≤ 1048576) : laws_szGaps.f n x a = some (if (x.length : Int) ≤ a then a - x.length else -1) := by
  unfold laws_szGaps.f
  rw [szIntS_eq x a hx h0 h]
  show (if (if (x.length : Int) ≤ a then a - x.length else -1) < 0 then (some (-1)) else some (if (x.length : Int) ≤ a then a - x.length else -1)) = _
  by_cases c : (x.length : Int) ≤ a
  · simp only [if_pos c]; rw [if_neg (by omega)]
  · simp only [if_neg c]; rw [if_pos (by omega)]
/-! laws_eqIntS -/
theorem eqIntS_loop (x : List Int) (hx : x.length ≤ 1099511627776) : ∀ (m : Nat) (k i : Nat), i + m = x.length → m < k → laws_eqIntS.l0 k x x (i : Int) = some true
  | 0, 0, _, _, h => absurd h (by omega)
  | 0, k + 1, i, hm, _ => by unfold laws_eqIntS.l0; rw [if_neg (by omega)]
  | m + 1, 0, _, _, h => absurd h (by omega)
  | m + 1, k + 1, i, hm, hk => by
    unfold laws_eqIntS.l0
    rw [if_pos (by omega), if_pos (by omega), if_pos (by omega), if_pos rfl, wrap64_id (by omega) (by omega)]
    exact eqIntS_loop x hx m k (i + 1) (by omega) (by omega)
theorem eqIntS_refl {k : Nat} (x : List Int) (hx : x.length ≤ 1048576) (hk : 2000000 ≤ k) : laws_eqIntS.f k x x = some true := by
  unfold laws_eqIntS.f
  rw [if_pos rfl]
  exact eqIntS_loop x (by omega) x.length k 0 (by omega) (by omega)
/-! laws_eqIntS laws_eqGaps -/
theorem eqGaps_refl {k : Nat} (n : Int) (x : List Int) (hx : x.length ≤ 1048576) (hk : 2000000 ≤ k) : laws_eqGaps.f k n x n x = some true := by
  unfold laws_eqGaps.f
  rw [if_pos rfl, eqIntS_refl x hx hk]; rfl
/-! spec_l11At -/
theorem sl11At_eq {n : Int} {d : List Int} {i j : Int} (h0 : 0 ≤ n) (h : n ≤ 12) (hl : (d.length : Int) = (n + 1) * (n + 1)) (hi0 : 0 ≤ i) (hi : i ≤ n) (hj0 : 0 ≤ j) (hj : j ≤ n) :
    spec_l11At.f n d i j = some (gat n d i j) := by
  have := idx_in h0 h hi0 hi hj0 hj
  unfold spec_l11At.f gat
  rw [idx_w h0 h hi0 hi hj0 hj, if_pos (by omega), if_pos (by omega)]
/-! impl_Gaps_at -/
theorem gapsAt_eq {n : Int} {d : List Int} {i j : Int} (h0 : 0 ≤ n) (h : n ≤ 12) (hi0 : 0 ≤ i) (hi : i ≤ n) (hj0 : 0 ≤ j) (hj : j ≤ n) :
    impl_Gaps_at.f n d i j = some (i * (n + 1) + j) := by
  unfold impl_Gaps_at.f
  rw [idx_w h0 h hi0 hi hj0 hj]
/-! spec_l1In spec_l11At spec_GapsOk -/
theorem sGapsOk_l1 {n : Int} {d : List Int} (h0 : 0 ≤ n) (h : n ≤ 12) (hl : (d.length : Int) = (n + 1) * (n + 1)) (i : Int) (hi0 : 0 ≤ i) (hi : i ≤ n) (K : Nat) (Q : Prop)
    (rest : ∀ k, K ≤ k → Tot (spec_GapsOk.l0 k (i + 1) n d) fun b => b = true ↔ Q) : ∀ (m : Nat) (k : Nat) (j : Int), (n + 1 - j).toNat = m → 0 ≤ j → j ≤ n + 1 → K + m < k →
    Tot (spec_GapsOk.l1 k i j n d) fun b => b = true ↔ (∀ j' : Int, j ≤ j' → j' ≤ n → DIn (gat n d i j') ∧ (i = j' → gat n d i j' = 0)) ∧ Q
  | m, 0, j, _, _, _, hk => absurd hk (by omega)
  | 0, k + 1, j, hm, hj, hj', hk => by
    unfold spec_GapsOk.l1
    rw [if_neg (by omega), wrap64_id (by omega) (by omega)]
    refine (rest k (by omega)).mono fun b hb => hb.trans ⟨fun q => ⟨fun j' a c => absurd a (by omega), q⟩, fun q => q.2⟩
  | m + 1, k + 1, j, hm, hj, hj', hk => by
    unfold spec_GapsOk.l1
    rw [if_pos (by omega), sl11At_eq h0 h hl hi0 hi hj (by omega)]
    show Tot ((spec_l1In.f (gat n d i j) (-1099511627776) 1099511627776).bind _) _
    rw [sin_eq]
    have next : DIn (gat n d i j) → (i = j → gat n d i j = 0) → Tot (spec_GapsOk.l1 k i (wrap64 (j + 1)) n d) fun b => b = true ↔ (∀ j' : Int, j ≤ j' → j' ≤ n → DIn (gat n d i j') ∧ (i = j' → gat n d i j' = 0)) ∧ Q := by
      intro a c
      rw [wrap64_id (by omega) (by omega)]
      refine (sGapsOk_l1 h0 h hl i hi0 hi K Q rest m k (j + 1) (by omega) (by omega) (by omega) (by omega)).mono fun b hb => hb.trans ⟨fun q => ⟨fun j' p p' => ?_, q.2⟩, fun q => ⟨fun j' p p' => q.1 j' (by omega) p', q.2⟩⟩
      by_cases e : j' = j
      · subst e; exact ⟨a, c⟩
      · exact q.1 j' (by omega) p'
    refine Tot.ite (fun c => ?_) (fun c => ?_)
    · have c' : DIn (gat n d i j) := (of_decide_eq_true c : -1099511627776 ≤ gat n d i j ∧ gat n d i j ≤ 1099511627776)
      refine Tot.ite (fun e => ?_) (fun e => next c' fun e' => absurd e' e)
      refine Tot.ite (fun z => next c' fun _ => z) (fun z => Tot.here ⟨fun f => (nomatch f), fun q => absurd ((q.1 j (by omega) (by omega)).2 e) z⟩)
    · refine Tot.here ⟨fun f => (nomatch f), fun q => ?_⟩
      have := (q.1 j (by omega) (by omega)).1
      exact absurd (decide_eq_true (show -1099511627776 ≤ gat n d i j ∧ gat n d i j ≤ 1099511627776 from this)) c
theorem sGapsOk_l0 {n : Int} {d : List Int} (h0 : 0 ≤ n) (h : n ≤ 12) (hl : (d.length : Int) = (n + 1) * (n + 1)) : ∀ (m : Nat) (k : Nat) (i : Int), (n + 1 - i).toNat = m → 0 ≤ i → i ≤ n + 1 → 20 * m < k →
    Tot (spec_GapsOk.l0 k i n d) fun b => b = true ↔ ∀ i' j : Int, i ≤ i' → i' ≤ n → 0 ≤ j → j ≤ n → DIn (gat n d i' j) ∧ (i' = j → gat n d i' j = 0)
  | m, 0, i, _, _, _, hk => absurd hk (by omega)
  | 0, k + 1, i, hm, hi, hi', hk => by
    unfold spec_GapsOk.l0
    rw [if_neg (by omega)]
    exact Tot.here ⟨fun _ i' j a b => absurd a (by omega), fun _ => rfl⟩
  | m + 1, k + 1, i, hm, hi, hi', hk => by
    unfold spec_GapsOk.l0
    rw [if_pos (by omega)]
    refine (sGapsOk_l1 h0 h hl i hi (by omega) (20 * m + 1) _ (fun k hk => sGapsOk_l0 h0 h hl m k (i + 1) (by omega) (by omega) (by omega) (by omega)) _ k 0 rfl (by omega) (by omega) (by omega)).mono fun b hb => hb.trans ⟨fun q i' j a b c e => ?_, fun q => ⟨fun j' a b => q i j' (by omega) (by omega) a b, fun i' j a b c e => q i' j (by omega) b c e⟩⟩
    by_cases e' : i' = i
    · subst e'; exact q.1 j c e
    · exact q.2 i' j (by omega) b c e
theorem sGapsOk_tot {k : Nat} (n : Int) (d : List Int) (hk : 1000 ≤ k) : Tot (spec_GapsOk.f k n d) fun b => b = true ↔ GOk n d := by
  obtain ⟨k, rfl⟩ : ∃ j, k = j + 1 := ⟨k - 1, by omega⟩
  unfold spec_GapsOk.f
  rw [sin_eq]
  show Tot (if decide (0 ≤ n ∧ n ≤ 12) = true then _ else _) _
  refine Tot.ite (fun c => ?_) (fun c => ?_)
  · have c := of_decide_eq_true c
    rw [sq_w c.1 c.2]
    rw [spec_GapsOk.j0]
    by_cases e : (d.length : Int) = (n + 1) * (n + 1)
    · have : ((d.length : Int) != (n + 1) * (n + 1)) = false := bne_eq_false_iff_eq.mpr e
      rw [this, if_neg (by simp)]
      exact (sGapsOk_l0 c.1 c.2 e _ k 0 rfl (by omega) (by omega) (by omega)).mono fun b hb => hb.trans (GOk.of_all c.1 c.2 e).symm
    · have : ((d.length : Int) != (n + 1) * (n + 1)) = true := bne_iff_ne.mpr e
      rw [this, if_pos rfl]
      exact Tot.here ⟨fun f => (nomatch f), fun q => absurd q.2.2.1 e⟩
  · rw [spec_GapsOk.j0]
    rw [if_pos rfl]
    exact Tot.here ⟨fun f => (nomatch f), fun q => absurd (decide_eq_true (show 0 ≤ n ∧ n ≤ 12 from ⟨q.1, q.2.1⟩)) c⟩
theorem sGapsOk_yes {k : Nat} {n : Int} {d : List Int} (h : GOk n d) (hk : 1000 ≤ k) : spec_GapsOk.f k n d = some true := by
  obtain ⟨b, e, hb⟩ := sGapsOk_tot (k := k) n d hk
  rw [e, hb.mpr h]
theorem sGapsOk_no {k : Nat} {n : Int} {d : List Int} (h : ¬ GOk n d) (hk : 1000 ≤ k) : spec_GapsOk.f k n d = some false := by
  obtain ⟨b, e, hb⟩ := sGapsOk_tot (k := k) n d hk
  rw [e]
  cases b with
  | false => rfl
  | true => exact absurd (hb.mp rfl) h
/-! impl_Gaps_at impl_GapsOk -/
theorem gapsOk_l1 (d : List Int) (hd : d.length ≤ 1000) : ∀ (m : Nat) (k : Nat) (p : Int), ((d.length : Int) - p).toNat = m → 0 ≤ p → p ≤ d.length → m < k →
    Tot (impl_GapsOk.l1 k d (d.length : Int) p) fun b => b = true ↔ ∀ q : Int, p ≤ q → q < (d.length : Int) → DIn (rd d q)
  | m, 0, p, _, _, _, hk => absurd hk (by omega)
  | 0, k + 1, p, hm, hp, hp', hk => by
    unfold impl_GapsOk.l1
    rw [if_neg (by omega)]
    exact Tot.here ⟨fun _ q a b => absurd a (by omega), fun _ => rfl⟩
  | m + 1, k + 1, p, hm, hp, hp', hk => by
    unfold impl_GapsOk.l1
    rw [if_pos (by omega), if_pos (by omega), if_pos (by omega)]
    refine Tot.ite (fun c => Tot.here ⟨fun f => (nomatch f), fun q => ?_⟩) (fun c => Tot.ite (fun c' => Tot.here ⟨fun f => (nomatch f), fun q => ?_⟩) (fun c' => ?_))
    · have := (q p (by omega) (by omega)).1; omega
    · have := (q p (by omega) (by omega)).2; omega
    · rw [wrap64_id (by omega) (by omega)]
      refine (gapsOk_l1 d hd m k (p + 1) (by omega) (by omega) (by omega) (by omega)).mono fun b hb => hb.trans ⟨fun q r a b => ?_, fun q r a b => q r (by omega) b⟩
      by_cases e : r = p
      · subst e; exact ⟨by omega, by omega⟩
      · exact q r (by omega) b
theorem gapsOk_l0 {n : Int} {d : List Int} (h0 : 0 ≤ n) (h : n ≤ 12) (hl : (d.length : Int) = (n + 1) * (n + 1)) (hd : d.length ≤ 1000) : ∀ (m : Nat) (k : Nat) (i : Int), (n + 1 - i).toNat = m → 0 ≤ i → i ≤ n + 1 → 1500 + m < k →
    Tot (impl_GapsOk.l0 k (n + 1) i n d) fun b => b = true ↔ (∀ i' : Int, i ≤ i' → i' ≤ n → rd d (i' * (n + 1) + i') = 0) ∧ ∀ q : Int, 0 ≤ q → q < (d.length : Int) → DIn (rd d q)
  | m, 0, p, _, _, _, hk => absurd hk (by omega)
  | 0, k + 1, i, hm, hi, hi', hk => by
    unfold impl_GapsOk.l0
    rw [if_neg (by omega)]
    refine (gapsOk_l1 d hd _ k 0 rfl (by omega) (by omega) (by omega)).mono fun b hb => hb.trans ⟨fun q => ⟨fun i' a b => absurd a (by omega), q⟩, fun q => q.2⟩
  | m + 1, k + 1, i, hm, hi, hi', hk => by
    unfold impl_GapsOk.l0
    have ix := idx_in h0 h hi (by omega : i ≤ n) hi (by omega)
    rw [if_pos (by omega), gapsAt_eq h0 h hi (by omega) hi (by omega)]
    show Tot (if 0 ≤ i * (n + 1) + i then _ else _) _
    rw [if_pos (by omega), if_pos (by omega)]
    refine Tot.ite (fun c => ?_) (fun c => Tot.here ⟨fun f => (nomatch f), fun q => absurd (q.1 i (by omega) (by omega)) c⟩)
    rw [wrap64_id (by omega) (by omega)]
    refine (gapsOk_l0 h0 h hl hd m k (i + 1) (by omega) (by omega) (by omega) (by omega)).mono fun b hb => hb.trans ⟨fun q => ⟨fun i' a b => ?_, q.2⟩, fun q => ⟨fun i' a b => q.1 i' (by omega) b, q.2⟩⟩
    by_cases e : i' = i
    · subst e; exact c
    · exact q.1 i' (by omega) b
theorem gapsOk_tot {k : Nat} (n : Int) (d : List Int) (hk : 2000 ≤ k) : Tot (impl_GapsOk.f k n d) fun b => b = true ↔ GOk n d := by
  obtain ⟨k, rfl⟩ : ∃ j, k = j + 1 := ⟨k - 1, by omega⟩
  unfold impl_GapsOk.f
  have no : ¬ GOk n d → Tot (impl_GapsOk.j0 (k + 1) true n d) fun b => b = true ↔ GOk n d := by
    intro hn
    rw [impl_GapsOk.j0]
    rw [if_pos rfl]
    exact Tot.here ⟨fun f => (nomatch f), fun q => absurd q hn⟩
  refine Tot.ite (fun c => no fun q => by have := q.1; omega) (fun c => Tot.ite (fun c' => no fun q => by have := q.2.1; omega) (fun c' => ?_))
  have a : 0 ≤ n := by omega
  have b : n ≤ 12 := by omega
  rw [sq_w a b]
  by_cases e : (d.length : Int) = (n + 1) * (n + 1)
  · have : ((d.length : Int) != (n + 1) * (n + 1)) = false := bne_eq_false_iff_eq.mpr e
    have ix := idx_in a b a (Int.le_refl n) a (Int.le_refl n)
    have big : d.length ≤ 1000 := by rcases twelve a b with rfl | rfl | rfl | rfl | rfl | rfl | rfl | rfl | rfl | rfl | rfl | rfl | rfl <;> omega
    rw [this]
    rw [impl_GapsOk.j0]
    rw [if_neg (by simp), wrap64_id (x := n + 1) (by omega) (by omega)]
    refine (gapsOk_l0 a b e big _ k 0 rfl (by omega) (by omega) (by omega)).mono fun r hr => hr.trans ⟨fun q => ⟨a, b, e, q.2, q.1⟩, fun q => ⟨q.2.2.2.2, q.2.2.2.1⟩⟩
  · have : ((d.length : Int) != (n + 1) * (n + 1)) = true := bne_iff_ne.mpr e
    rw [this]
    exact no fun q => e q.2.2.1
theorem gapsOk_yes {k : Nat} {n : Int} {d : List Int} (h : GOk n d) (hk : 2000 ≤ k) : impl_GapsOk.f k n d = some true := by
  obtain ⟨b, e, hb⟩ := gapsOk_tot (k := k) n d hk
  rw [e, hb.mpr h]
theorem gapsOk_no {k : Nat} {n : Int} {d : List Int} (h : ¬ GOk n d) (hk : 2000 ≤ k) : impl_GapsOk.f k n d = some false := by
  obtain ⟨b, e, hb⟩ := gapsOk_tot (k := k) n d hk
  rw [e]
  cases b with
  | false => rfl
  | true => exact absurd (hb.mp rfl) h
/-! laws_markIntS -/
theorem markIntS_loop : ∀ (m : Nat) (k i : Nat) (x : List Int) (a : Int), i + m = x.length → m < k → 0 ≤ a → a + m ≤ 9007199254740992 → x.length ≤ 1048576 →
    Tot (laws_markIntS.l0 k x a (i : Int)) fun r => r.1 = a + m ∧ r.2.length = x.length ∧ (∀ p : Int, 0 ≤ p → p < i → rd r.2 p = rd x p) ∧ ∀ p : Int, (i : Int) ≤ p → p < (x.length : Int) → rd r.2 p = a + (p - i)
  | m, 0, _, _, _, _, h, _, _, _ => absurd h (by omega)
  | 0, k + 1, i, x, a, hm, hk, h0, h1, hx => by
    unfold laws_markIntS.l0
    rw [if_neg (by omega)]
    exact Tot.here ⟨by simp, rfl, fun _ _ _ => rfl, fun p h h' => absurd h (by omega)⟩
  | m + 1, k + 1, i, x, a, hm, hk, h0, h1, hx => by
    unfold laws_markIntS.l0
    rw [if_pos (by omega), if_pos (by omega), wrap64_id (x := a + 1) (by omega) (by omega), wrap64_id (x := (i : Int) + 1) (by omega) (by omega)]
    have e : (i : Int).toNat = i := by omega
    rw [e]
    refine (markIntS_loop m k (i + 1) (x.set i a) (a + 1) (by simp; omega) (by omega) (by omega) (by omega) (by simpa using hx)).mono fun r hr => ?_
    obtain ⟨r1, r2, r3, r4⟩ := hr
    refine ⟨by omega, by simpa using r2, fun p hp hp' => ?_, fun p hp hp' => ?_⟩
    · rw [r3 p hp (by omega), rd_set _ _ _ _ (by omega) hp, if_neg (by omega)]
    · by_cases q : p = (i : Int)
      · subst q
        rw [r3 _ (by omega) (by omega), rd_set _ _ _ _ (by omega) (by omega), if_pos rfl]; omega
      · rw [r4 p (by omega) (by simpa using hp')]; omega
/-! laws_heldIntS -/
theorem heldIntS_loop (x : List Int) (hx : x.length ≤ 1048576) : ∀ (m : Nat) (k i : Nat) (a : Int), i + m = x.length → m < k → 0 ≤ a → a + m ≤ 9007199254740992 →
    (∀ p : Int, (i : Int) ≤ p → p < (x.length : Int) → rd x p = a + (p - i)) → laws_heldIntS.l0 k x a (i : Int) = some (a + m)
  | m, 0, _, _, _, h, _, _, _ => absurd h (by omega)
  | 0, k + 1, i, a, hm, hk, h0, h1, h => by
    unfold laws_heldIntS.l0
    rw [if_neg (by omega)]; simp
  | m + 1, k + 1, i, a, hm, hk, h0, h1, h => by
    unfold laws_heldIntS.l0
    rw [if_pos (by omega), if_pos (by omega), if_pos (by rw [h i (by omega) (by omega)]; omega), wrap64_id (x := a + 1) (by omega) (by omega), wrap64_id (x := (i : Int) + 1) (by omega) (by omega)]
    have e : ((i : Int) + 1) = ((i + 1 : Nat) : Int) := by omega
    rw [e, heldIntS_loop x hx m k (i + 1) (a + 1) (by omega) (by omega) (by omega) (by omega) (fun p hp hp' => by rw [h p (by omega) hp']; omega)]
    congr 1; omega
/-! laws_markIntS laws_heldIntS laws_markGaps laws_heldGaps -/
theorem mark_held {k : Nat} (n n' : Int) (x : List Int) (hx : x.length ≤ 1048576) (hk : 2000000 ≤ k) (a : Int) (ha : 0 ≤ a) (ha' : a ≤ 4503599627370496) :
    ∃ y, laws_markGaps.f k n x a = some (a + x.length, y) ∧ laws_heldGaps.f k n' y a = some (a + x.length) := by
  obtain ⟨⟨r1, y⟩, e, h1, h2, _, h4⟩ := markIntS_loop x.length k 0 x a (by omega) (by omega) ha (by omega) hx
  have h1 : r1 = a + x.length := h1
  have h2 : y.length = x.length := h2
  subst h1
  refine ⟨y, ?_, ?_⟩
  · unfold laws_markGaps.f laws_markIntS.f
    rw [show (0 : Int) = ((0 : Nat) : Int) from rfl, e]; rfl
  · unfold laws_heldGaps.f laws_heldIntS.f
    have := heldIntS_loop y (by omega) x.length k 0 a (by omega) (by omega) ha (by omega) (fun p hp hp' => h4 p hp (by omega))
    rw [show (0 : Int) = ((0 : Nat) : Int) from rfl, this]
    show (if a + (x.length : Int) < 0 then _ else _) = _
    rw [if_neg (by omega)]
/-! spec_l11Copy -/
theorem sl11Copy_loop (n : Int) (x : List Int) (hx : x.length ≤ 1048576) : ∀ (m : Nat) (k i : Nat) (acc : List Int), i + m = x.length → m < k → acc = x.take i → spec_l11Copy.l0 k (i : Int) n x n acc = some (n, x)
  | m, 0, _, _, _, h, _ => absurd h (by omega)
  | 0, k + 1, i, acc, hm, hk, h => by
    unfold spec_l11Copy.l0
    rw [if_neg (by omega), h, List.take_of_length_le (by omega)]
  | m + 1, k + 1, i, acc, hm, hk, h => by
    unfold spec_l11Copy.l0
    have hl : acc.length = i := by rw [h, List.length_take]; omega
    rw [if_pos (by omega), if_pos (by omega), if_pos (by omega), wrap64_id (by omega) (by omega)]
    refine sl11Copy_loop n x hx m k (i + 1) _ (by omega) (by omega) ?_
    have hi : i < x.length := by omega
    rw [h, List.take_add_one, List.getElem?_eq_getElem hi]
    simp [rd, List.getD_eq_getElem?_getD, List.getElem?_eq_getElem hi]
theorem sl11Copy_eq {k : Nat} (n : Int) (x : List Int) (hx : x.length ≤ 1048576) (hk : 2000000 ≤ k) : spec_l11Copy.f k n x = some (n, x) := by
  unfold spec_l11Copy.f
  exact sl11Copy_loop n x hx x.length k 0 [] (by omega) (by omega) (by simp)
/-! impl_Gaps_clone -/
theorem clone_eq (n : Int) (x : List Int) (hx : x.length ≤ 1048576) : impl_Gaps_clone.f n x = some (n, x) := by
  unfold impl_Gaps_clone.f
  rw [if_pos (by simp; omega)]; rfl
/-! spec_l11Put -/
theorem sl11Put_eq {n : Int} {d : List Int} {i j : Int} (v : Int) (h0 : 0 ≤ n) (h : n ≤ 12) (hl : (d.length : Int) = (n + 1) * (n + 1)) (hi0 : 0 ≤ i) (hi : i ≤ n) (hj0 : 0 ≤ j) (hj : j ≤ n) :
    spec_l11Put.f n d i j v = some (gput n d i j v) := by
  have := idx_in h0 h hi0 hi hj0 hj
  unfold spec_l11Put.f gput
  rw [idx_w h0 h hi0 hi hj0 hj, if_pos (by omega), if_pos (by omega)]
/-! spec_l1In spec_l11C -/
theorem sl11C_eq (a : Int) : spec_l11C.f a = some (decide (-4294967296 ≤ a ∧ a ≤ 4294967296)) := by
  unfold spec_l11C.f
  rw [sin_eq]; rfl
/-! spec_l11Add -/
theorem sl11Add_eq (a b : Int) : spec_l11Add.f a b = some (if a ≥ 1099511627776 ∨ b ≥ 1099511627776 ∨ wrap64 (a + b) ≥ 1099511627776 then 1099511627776 else wrap64 (a + b)) := by
  unfold spec_l11Add.f
  by_cases c : a ≥ 1099511627776
  · rw [if_pos c, if_pos (.inl c)]
  · rw [if_neg c]
    by_cases c2 : b ≥ 1099511627776
    · rw [if_pos c2, if_pos (.inr (.inl c2))]
    · rw [if_neg c2]
      by_cases c3 : wrap64 (a + b) ≥ 1099511627776
      · rw [if_pos c3, if_pos (.inr (.inr c3))]
      · rw [if_neg c3, if_neg (by omega)]
/-! spec_l11Add impl_gapsTogether -/
theorem together_eq {a b : Int} (ha : a ≤ 1099511627776) (hb : b ≤ 1099511627776) : impl_gapsTogether.f a b = spec_l11Add.f a b := by
  unfold impl_gapsTogether.f spec_l11Add.f
  by_cases c : a ≥ 1099511627776
  · rw [if_pos (by omega : a = 1099511627776), if_pos c]
  · rw [if_neg (by omega : ¬ a = 1099511627776), if_neg c]
    by_cases c2 : b ≥ 1099511627776
    · rw [if_pos (by omega : b = 1099511627776), if_pos c2]
    · rw [if_neg (by omega : ¬ b = 1099511627776), if_neg c2]
/-! spec_GapsClose impl_GapsClose spec_l11Add impl_gapsTogether -/
theorem idx_w2 {n i j : Int} (h0 : 0 ≤ n) (h : n ≤ 12) (hi0 : 0 ≤ i) (hi : i ≤ n) (hj0 : 0 ≤ j) (hj : j ≤ n) : wrap64 (wrap64 (i * (n + 1)) + j) = i * (n + 1) + j := by
  have := idx_w h0 h hi0 hi hj0 hj
  rwa [wrap64_id (x := n + 1) (by omega) (by omega)] at this
/-- A matrix on the way to be closed. -/
def Way (n : Int) (d : List Int) : Prop := (d.length : Int) = (n + 1) * (n + 1) ∧ ∀ p : Int, 0 ≤ p → p < (d.length : Int) → rd d p ≤ 1099511627776
def Less (n : Int) (d' d : List Int) : Prop := ∀ i j : Int, 0 ≤ i → i ≤ n → 0 ≤ j → j ≤ n → gat n d' i j ≤ gat n d i j
theorem close_l2 {n : Int} (h0 : 0 ≤ n) (h : n ≤ 12) (d0 : List Int) (t i : Int) (ht0 : 0 ≤ t) (ht : t ≤ n) (hi0 : 0 ≤ i) (hi : i ≤ n) : ∀ (m : Nat) (j : Int) (d : List Int), (n + 1 - j).toNat = m → 0 ≤ j → j ≤ n + 1 → Way n d →
    ∃ d', Way n d' ∧ Less n d' d ∧ ∀ K : Nat, spec_GapsClose.l2 (K + (m + 1)) t i j n d0 n d = spec_GapsClose.l1 K t (i + 1) n d0 n d' ∧
      impl_GapsClose.l2 (K + (m + 1)) (n + 1) t i (n + 1) t (n + 1) i (n + 1) j n d = impl_GapsClose.l1 K (n + 1) t (n + 1) t (n + 1) (i + 1) n d'
  | 0, j, d, hm, hj, hj', w => by
    refine ⟨d, w, fun _ _ _ _ _ _ => Int.le_refl _, fun K => ⟨?_, ?_⟩⟩
    · show spec_GapsClose.l2 (K + 1) t i j n d0 n d = _
      rw [spec_GapsClose.l2, if_neg (show ¬ j ≤ n by omega), wrap64_id (by omega) (by omega)]
    · show impl_GapsClose.l2 (K + 1) _ _ _ _ _ _ _ _ _ _ _ = _
      rw [impl_GapsClose.l2, if_neg (show ¬ j < n + 1 by omega), wrap64_id (by omega) (by omega)]
  | m + 1, j, d, hm, hj, hj', w => by
    have w' := w
    obtain ⟨hl, ub⟩ := w'
    have a := idx_in h0 h hi0 hi ht0 ht
    have b := idx_in h0 h ht0 ht hj (by omega : j ≤ n)
    have c := idx_in h0 h hi0 hi hj (by omega : j ≤ n)
    have ua := ub (i * (n + 1) + t) (by omega) (by omega)
    have ub' := ub (t * (n + 1) + j) (by omega) (by omega)
    obtain ⟨s, hs, hsu⟩ : ∃ s, spec_l11Add.f (rd d (i * (n + 1) + t)) (rd d (t * (n + 1) + j)) = some s ∧ s ≤ 1099511627776 := ⟨_, sl11Add_eq _ _, by split <;> omega⟩
    have gs : impl_gapsTogether.f (rd d (i * (n + 1) + t)) (rd d (t * (n + 1) + j)) = some s := by rw [together_eq (by omega) (by omega), hs]
    have nw : Way n (gput n d i j s) := by
      refine ⟨by rw [gput_len]; exact hl, fun p hp hp' => ?_⟩
      rw [gput_len] at hp'
      unfold gput
      rw [rd_set _ _ _ _ (by omega) hp]
      split
      · exact hsu
      · exact ub p hp hp'
    by_cases q : s < rd d (i * (n + 1) + j)
    · obtain ⟨d', w2, le, eq⟩ := close_l2 h0 h d0 t i ht0 ht hi0 hi m (j + 1) (gput n d i j s) (by omega) (by omega) (by omega) nw
      refine ⟨d', w2, fun x y hx hx' hy hy' => ?_, fun K => ⟨?_, ?_⟩⟩
      · have := le x y hx hx' hy hy'
        rw [gat_put h0 h hl hi0 hi hj (by omega) hx hx' hy hy'] at this
        split at this
        · rename_i e; obtain ⟨rfl, rfl⟩ := e
          have q' : s < gat n d x y := q
          omega
        · exact this
      · show spec_GapsClose.l2 ((K + (m + 1)) + 1) t i j n d0 n d = _
        rw [spec_GapsClose.l2, if_pos (show j ≤ n by omega), sl11At_eq h0 h hl hi0 hi ht0 ht, sl11At_eq h0 h hl ht0 ht hj (by omega), sl11At_eq h0 h hl hi0 hi hj (by omega), Option.bind_some, Option.bind_some]
        show (spec_l11Add.f (rd d (i * (n + 1) + t)) (rd d (t * (n + 1) + j))).bind _ = _
        rw [hs, Option.bind_some, Option.bind_some, if_pos (show s < gat n d i j from q), sl11Put_eq _ h0 h hl hi0 hi hj (by omega), Option.bind_some, wrap64_id (by omega) (by omega)]
        exact (eq K).1
      · show impl_GapsClose.l2 ((K + (m + 1)) + 1) _ _ _ _ _ _ _ _ _ _ _ = _
        rw [impl_GapsClose.l2, if_pos (show j < n + 1 by omega), idx_w2 h0 h hi0 hi ht0 ht, idx_w2 h0 h ht0 ht hj (by omega), idx_w2 h0 h hi0 hi hj (by omega)]
        rw [if_pos a.1, if_pos (show i * (n + 1) + t < (d.length : Int) by omega), if_pos b.1, if_pos (show t * (n + 1) + j < (d.length : Int) by omega), gs, Option.bind_some, if_pos c.1, if_pos (show i * (n + 1) + j < (d.length : Int) by omega), if_pos q, wrap64_id (by omega) (by omega)]
        exact (eq K).2
    · obtain ⟨d', w2, le, eq⟩ := close_l2 h0 h d0 t i ht0 ht hi0 hi m (j + 1) d (by omega) (by omega) (by omega) w
      refine ⟨d', w2, le, fun K => ⟨?_, ?_⟩⟩
      · show spec_GapsClose.l2 ((K + (m + 1)) + 1) t i j n d0 n d = _
        rw [spec_GapsClose.l2, if_pos (show j ≤ n by omega), sl11At_eq h0 h hl hi0 hi ht0 ht, sl11At_eq h0 h hl ht0 ht hj (by omega), sl11At_eq h0 h hl hi0 hi hj (by omega), Option.bind_some, Option.bind_some]
        show (spec_l11Add.f (rd d (i * (n + 1) + t)) (rd d (t * (n + 1) + j))).bind _ = _
        rw [hs, Option.bind_some, Option.bind_some, if_neg (show ¬ s < gat n d i j from q), wrap64_id (by omega) (by omega)]
        exact (eq K).1
      · show impl_GapsClose.l2 ((K + (m + 1)) + 1) _ _ _ _ _ _ _ _ _ _ _ = _
        rw [impl_GapsClose.l2, if_pos (show j < n + 1 by omega), idx_w2 h0 h hi0 hi ht0 ht, idx_w2 h0 h ht0 ht hj (by omega), idx_w2 h0 h hi0 hi hj (by omega)]
        rw [if_pos a.1, if_pos (show i * (n + 1) + t < (d.length : Int) by omega), if_pos b.1, if_pos (show t * (n + 1) + j < (d.length : Int) by omega), gs, Option.bind_some, if_pos c.1, if_pos (show i * (n + 1) + j < (d.length : Int) by omega), if_neg q, wrap64_id (by omega) (by omega)]
        exact (eq K).2
theorem close_l1 {n : Int} (h0 : 0 ≤ n) (h : n ≤ 12) (d0 : List Int) (t : Int) (ht0 : 0 ≤ t) (ht : t ≤ n) : ∀ (m : Nat) (i : Int) (d : List Int), (n + 1 - i).toNat = m → 0 ≤ i → i ≤ n + 1 → Way n d →
    ∃ d', Way n d' ∧ Less n d' d ∧ ∃ F : Nat, F ≤ m * 25 + 1 ∧ ∀ K : Nat, spec_GapsClose.l1 (K + F) t i n d0 n d = spec_GapsClose.l0 K (t + 1) n d0 n d' ∧
      impl_GapsClose.l1 (K + F) (n + 1) t (n + 1) t (n + 1) i n d = impl_GapsClose.l3 K (n + 1) (n + 1) t (n + 1) 0 n d'
  | 0, i, d, hm, hi, hi', w => by
    refine ⟨d, w, fun _ _ _ _ _ _ => Int.le_refl _, 1, by omega, fun K => ⟨?_, ?_⟩⟩
    · rw [spec_GapsClose.l1, if_neg (show ¬ i ≤ n by omega), wrap64_id (by omega) (by omega)]
    · rw [impl_GapsClose.l1, if_neg (show ¬ i < n + 1 by omega)]
  | m + 1, i, d, hm, hi, hi', w => by
    obtain ⟨d1, w1, le1, eq1⟩ := close_l2 h0 h d0 t i ht0 ht hi (by omega) _ 0 d rfl (by omega) (by omega) w
    obtain ⟨d2, w2, le2, F, hF, eq2⟩ := close_l1 h0 h d0 t ht0 ht m (i + 1) d1 (by omega) (by omega) (by omega) w1
    refine ⟨d2, w2, fun x y a b c e => Int.le_trans (le2 x y a b c e) (le1 x y a b c e), F + ((n + 1 - 0).toNat + 1) + 1, by omega, fun K => ⟨?_, ?_⟩⟩
    · rw [show K + (F + ((n + 1 - 0).toNat + 1) + 1) = (K + F + ((n + 1 - 0).toNat + 1)) + 1 by omega]
      rw [spec_GapsClose.l1, if_pos (show i ≤ n by omega), (eq1 (K + F)).1, (eq2 K).1]
    · rw [show K + (F + ((n + 1 - 0).toNat + 1) + 1) = (K + F + ((n + 1 - 0).toNat + 1)) + 1 by omega]
      rw [impl_GapsClose.l1, if_pos (show i < n + 1 by omega), (eq1 (K + F)).2, (eq2 K).2]
/-- A number that is below itself. -/
def Loops (n : Int) (d : List Int) : Prop := ∃ i : Int, 0 ≤ i ∧ i ≤ n ∧ gat n d i i < 0
theorem close_l3 {n : Int} (h0 : 0 ≤ n) (h : n ≤ 12) (t : Int) (d : List Int) (ht0 : 0 ≤ t) (ht : t ≤ n) (hl : (d.length : Int) = (n + 1) * (n + 1)) : ∀ (m : Nat) (i : Int), (n + 1 - i).toNat = m → 0 ≤ i → i ≤ n + 1 →
    (∀ x : Int, 0 ≤ x → x < i → ¬ gat n d x x < 0) → ∀ K : Nat, (Loops n d → impl_GapsClose.l3 (K + (m + 1)) (n + 1) (n + 1) t (n + 1) i n d = some (0, [], false)) ∧
      (¬ Loops n d → impl_GapsClose.l3 (K + (m + 1)) (n + 1) (n + 1) t (n + 1) i n d = impl_GapsClose.l0 K (n + 1) (n + 1) (t + 1) n d)
  | 0, i, hm, hi, hi', hx, K => by
    refine ⟨fun l => ?_, fun l => ?_⟩
    · obtain ⟨x, a, b, c⟩ := l
      exact absurd c (hx x a (by omega))
    · show impl_GapsClose.l3 (K + 1) _ _ _ _ _ _ _ = _
      rw [impl_GapsClose.l3, if_neg (show ¬ i < n + 1 by omega), wrap64_id (by omega) (by omega)]
  | m + 1, i, hm, hi, hi', hx, K => by
    have a := idx_in h0 h hi (by omega : i ≤ n) hi (by omega)
    have step : impl_GapsClose.l3 (K + (m + 1 + 1)) (n + 1) (n + 1) t (n + 1) i n d = if gat n d i i < 0 then some (0, [], false) else impl_GapsClose.l3 (K + (m + 1)) (n + 1) (n + 1) t (n + 1) (i + 1) n d := by
      show impl_GapsClose.l3 ((K + (m + 1)) + 1) _ _ _ _ _ _ _ = _
      rw [impl_GapsClose.l3, if_pos (show i < n + 1 by omega), idx_w2 h0 h hi (by omega) hi (by omega), if_pos a.1, if_pos (show i * (n + 1) + i < (d.length : Int) by omega), wrap64_id (x := i + 1) (by omega) (by omega)]
      rfl
    rw [step]
    by_cases c : gat n d i i < 0
    · rw [if_pos c]
      exact ⟨fun _ => rfl, fun l => absurd ⟨i, hi, by omega, c⟩ l⟩
    · rw [if_neg c]
      refine close_l3 h0 h t d ht0 ht hl m (i + 1) (by omega) (by omega) (by omega) (fun x p q => ?_) K
      by_cases e : x = i
      · subst e; exact c
      · exact hx x p (by omega)
theorem diag_pos {n p : Int} (h0 : 0 ≤ n) (h : n ≤ 12) (hp : 0 ≤ p) (hp' : p < (n + 1) * (n + 1)) (e : Int.tmod p (n + 2) = 0) : ∃ i : Int, 0 ≤ i ∧ i ≤ n ∧ p = i * (n + 1) + i := by
  rw [Int.tmod_eq_emod_of_nonneg hp] at e
  refine ⟨p / (n + 2), ?_⟩
  rcases twelve h0 h with rfl | rfl | rfl | rfl | rfl | rfl | rfl | rfl | rfl | rfl | rfl | rfl | rfl <;> omega
theorem pos_diag {n i : Int} (h0 : 0 ≤ n) (h : n ≤ 12) (hi : 0 ≤ i) (hi' : i ≤ n) : Int.tmod (i * (n + 1) + i) (n + 2) = 0 := by
  have a := idx_in h0 h hi hi' hi hi'
  rw [Int.tmod_eq_emod_of_nonneg a.1]
  rcases twelve h0 h with rfl | rfl | rfl | rfl | rfl | rfl | rfl | rfl | rfl | rfl | rfl | rfl | rfl <;> omega
theorem close_neg3 {n : Int} (h0 : 0 ≤ n) (h : n ≤ 12) (d0 d : List Int) (hl : (d.length : Int) = (n + 1) * (n + 1)) (i : Int) (hi : 0 ≤ i) (hi' : i ≤ n) (c : gat n d i i < 0) : ∀ (m : Nat) (p : Int) (K : Nat), (i * (n + 1) + i - p).toNat = m → 0 ≤ p → p ≤ i * (n + 1) + i → m < K →
    spec_GapsClose.l3 K p n d0 n d = some (0, [], false)
  | m, p, 0, _, _, _, h => absurd h (by omega)
  | m, p, K + 1, hm, hp, hp', hK => by
    have a := idx_in h0 h hi hi' hi hi'
    rw [spec_GapsClose.l3, if_pos (show p < (d.length : Int) by omega), if_pos hp]
    by_cases q : rd d p < -4294967296
    · rw [if_pos q]
    · rw [if_neg q, wrap64_id (x := n + 2) (by omega) (by omega), if_neg (show ¬ n + 2 = 0 by omega), wrap64_id (x := p + 1) (by omega) (by omega)]
      match m, hm with
      | 0, hm =>
        obtain rfl : p = i * (n + 1) + i := by omega
        rw [if_pos (pos_diag h0 h hi hi'), if_pos (show rd d (i * (n + 1) + i) < 0 from c)]
      | m + 1, hm =>
        have next := close_neg3 h0 h d0 d hl i hi hi' c m (p + 1) K (by omega) (by omega) (by omega) (by omega)
        by_cases e : Int.tmod p (n + 2) = 0
        · rw [if_pos e]
          by_cases z : rd d p < 0
          · rw [if_pos z]
          · rw [if_neg z]; exact next
        · rw [if_neg e]; exact next
set_option maxRecDepth 20000 in
theorem close_neg {n : Int} (h0 : 0 ≤ n) (h : n ≤ 12) (d0 : List Int) (m : Nat) : ∀ (t : Int) (d : List Int) (K : Nat), (n + 1 - t).toNat = m → 0 ≤ t → t ≤ n + 1 → Way n d → Loops n d → m * 500 + 500 ≤ K → spec_GapsClose.l0 K t n d0 n d = some (0, [], false) := by
  induction m with
  | zero =>
    intro t d K hm ht ht' w l hK
    obtain ⟨K, rfl⟩ : ∃ K', K = K' + 1 := ⟨K - 1, by omega⟩
    obtain ⟨i, a, b, c⟩ := l
    have ix := idx_in h0 h a b a b
    rw [spec_GapsClose.l0, if_neg (show ¬ t ≤ n by omega)]
    exact close_neg3 h0 h d0 d w.1 i a b c _ 0 K rfl (by omega) (by omega) (by omega)
  | succ m ih =>
    intro t d K hm ht ht' w l hK
    obtain ⟨K, rfl⟩ : ∃ K', K = K' + 1 := ⟨K - 1, by omega⟩
    obtain ⟨d', w', le, F, hF, eq⟩ := close_l1 h0 h d0 t ht (by omega) _ 0 d rfl (by omega) (by omega) w
    rw [spec_GapsClose.l0, if_pos (show t ≤ n by omega)]
    obtain ⟨G, e⟩ : ∃ G, K = G + F := ⟨K - F, by omega⟩
    rw [e, (eq G).1]
    obtain ⟨i, a, b, c⟩ := l
    exact ih (t + 1) d' G (by omega) (by omega) (by omega) w' ⟨i, a, b, Int.lt_of_le_of_lt (le i i a b a b) c⟩ (by omega)
theorem close_end {n : Int} (h0 : 0 ≤ n) (h : n ≤ 12) (d0 d : List Int) (hl : (d.length : Int) = (n + 1) * (n + 1)) (nl : ¬ Loops n d) : ∀ (m : Nat) (p : Int) (K L : Nat), ((d.length : Int) - p).toNat = m → 0 ≤ p → p ≤ (d.length : Int) → m < K → m < L →
    ∃ r, spec_GapsClose.l3 K p n d0 n d = some r ∧ impl_GapsClose.l4 L d (d.length : Int) p n d = some r ∧ r.2.1.length ≤ 169 ∧ (r.2.2 = true → r.1 = n ∧ r.2.1 = d ∧ ∀ q : Int, p ≤ q → q < (d.length : Int) → -4294967296 ≤ rd d q)
  | m, p, 0, _, _, _, _, h, _ => absurd h (by omega)
  | m, p, _, 0, _, _, _, _, h => absurd h (by omega)
  | 0, p, K + 1, L + 1, hm, hp, hp', hK, hL => by
    rw [spec_GapsClose.l3, impl_GapsClose.l4, if_neg (show ¬ p < (d.length : Int) by omega), if_neg (show ¬ p < (d.length : Int) by omega)]
    exact ⟨_, rfl, rfl, len_small h0 h hl, fun _ => ⟨rfl, rfl, fun q a b => absurd a (by omega)⟩⟩
  | m + 1, p, K + 1, L + 1, hm, hp, hp', hK, hL => by
    have sm := len_small h0 h hl
    rw [spec_GapsClose.l3, impl_GapsClose.l4, if_pos (show p < (d.length : Int) by omega), if_pos (show p < (d.length : Int) by omega), if_pos (show 0 ≤ p by omega), if_pos (show 0 ≤ p by omega), if_pos (show p < (d.length : Int) by omega)]
    by_cases q : rd d p < -4294967296
    · rw [if_pos q, if_pos q]
      exact ⟨_, rfl, rfl, by simp, fun f => (nomatch f)⟩
    · rw [if_neg q, if_neg q, wrap64_id (x := n + 2) (by omega) (by omega), if_neg (show ¬ n + 2 = 0 by omega), wrap64_id (x := p + 1) (by omega) (by omega)]
      obtain ⟨r, n1, n2, n3, n4⟩ := close_end h0 h d0 d hl nl m (p + 1) K L (by omega) (by omega) (by omega) (by omega) (by omega)
      refine ⟨r, ?_, n2, n3, fun f => ⟨(n4 f).1, (n4 f).2.1, fun x a b => ?_⟩⟩
      rotate_left
      · by_cases e : x = p
        · subst e; omega
        · exact (n4 f).2.2 x (by omega) b
      by_cases e : Int.tmod p (n + 2) = 0
      · obtain ⟨i, a, b, c⟩ := diag_pos h0 h hp (by omega) e
        have z : ¬ rd d p < 0 := fun z => nl ⟨i, a, b, by unfold gat; rw [← c]; exact z⟩
        rw [if_pos e, if_neg z]; exact n1
      · rw [if_neg e]; exact n1
set_option maxRecDepth 20000 in
theorem close_l0 {n : Int} (h0 : 0 ≤ n) (h : n ≤ 12) (d0 : List Int) (m : Nat) : ∀ (t : Int) (d : List Int) (K L : Nat), (n + 1 - t).toNat = m → 0 ≤ t → t ≤ n + 1 → Way n d → (m = 0 → ¬ Loops n d) → m * 1000 + 1000 ≤ K → m * 1000 + 1000 ≤ L →
    ∃ r, spec_GapsClose.l0 K t n d0 n d = some r ∧ impl_GapsClose.l0 L (n + 1) (n + 1) t n d = some r ∧ r.2.1.length ≤ 169 ∧ (r.2.2 = true → r.1 = n ∧ Way n r.2.1 ∧ Less n r.2.1 d ∧ ¬ Loops n r.2.1 ∧ ∀ q : Int, 0 ≤ q → q < (r.2.1.length : Int) → -4294967296 ≤ rd r.2.1 q) := by
  induction m with
  | zero =>
    intro t d K L hm ht ht' w l hK hL
    obtain ⟨K, rfl⟩ : ∃ K', K = K' + 1 := ⟨K - 1, by omega⟩
    obtain ⟨L, rfl⟩ : ∃ K', L = K' + 1 := ⟨L - 1, by omega⟩
    have sm := len_small h0 h w.1
    rw [spec_GapsClose.l0, impl_GapsClose.l0, if_neg (show ¬ t ≤ n by omega), if_neg (show ¬ t < n + 1 by omega)]
    obtain ⟨r, n1, n2, n3, n4⟩ := close_end h0 h d0 d w.1 (l rfl) _ 0 K L rfl (by omega) (by omega) (by omega) (by omega)
    refine ⟨r, n1, n2, n3, fun f => ?_⟩
    obtain ⟨a, b, c⟩ := n4 f
    rw [b]
    exact ⟨a, w, fun _ _ _ _ _ _ => Int.le_refl _, l rfl, c⟩
  | succ m ih =>
    intro t d K L hm ht ht' w l hK hL
    obtain ⟨K, rfl⟩ : ∃ K', K = K' + 1 := ⟨K - 1, by omega⟩
    obtain ⟨L, rfl⟩ : ∃ K', L = K' + 1 := ⟨L - 1, by omega⟩
    obtain ⟨d', w', le, F, hF, eq⟩ := close_l1 h0 h d0 t ht (by omega) _ 0 d rfl (by omega) (by omega) w
    rw [spec_GapsClose.l0, impl_GapsClose.l0, if_pos (show t ≤ n by omega), if_pos (show t < n + 1 by omega)]
    obtain ⟨G, e⟩ : ∃ G, K = G + F := ⟨K - F, by omega⟩
    obtain ⟨H, e'⟩ : ∃ H, L = (H + ((n + 1 - 0).toNat + 1)) + F := ⟨L - F - ((n + 1 - 0).toNat + 1), by omega⟩
    rw [e, (eq G).1, e', (eq _).2]
    have s3 := close_l3 h0 h t d' ht (by omega) w'.1 _ 0 rfl (by omega) (by omega) (fun x a b => absurd a (by omega)) H
    by_cases lo : Loops n d'
    · rw [s3.1 lo, close_neg h0 h d0 m (t + 1) d' G (by omega) (by omega) (by omega) w' lo (by omega)]
      exact ⟨_, rfl, rfl, by simp, fun f => (nomatch f)⟩
    · rw [s3.2 lo]
      obtain ⟨r, n1, n2, n3, n4⟩ := ih (t + 1) d' G H (by omega) (by omega) (by omega) w' (fun _ => lo) (by omega) (by omega)
      exact ⟨r, n1, n2, n3, fun f => ⟨(n4 f).1, (n4 f).2.1, fun x y a b c e => Int.le_trans ((n4 f).2.2.1 x y a b c e) (le x y a b c e), (n4 f).2.2.2⟩⟩
theorem close_full {k : Nat} (n : Int) (d : List Int) (hk : 3000000 ≤ k) : ∃ r, spec_GapsClose.f k n d = some r ∧ impl_GapsClose.f k n d = some r ∧ r.2.1.length ≤ 169 ∧ (r.2.2 = true → GOk n d ∧ r.1 = n ∧ GOk n r.2.1 ∧ ∀ q : Int, 0 ≤ q → q < (r.2.1.length : Int) → -4294967296 ≤ rd r.2.1 q) := by
  unfold spec_GapsClose.f impl_GapsClose.f
  by_cases g : GOk n d
  · have g' := g
    obtain ⟨h0, h, hl, hin, hz⟩ := g'
    have sm := len_small h0 h hl
    rw [sGapsOk_yes g (by omega), gapsOk_yes g (by omega), Option.bind_some, Option.bind_some, if_pos rfl, if_pos rfl, sl11Copy_eq n d (by omega) (by omega), clone_eq n d (by omega), Option.bind_some, Option.bind_some, wrap64_id (x := n + 1) (by omega) (by omega)]
    obtain ⟨r, n1, n2, n3, n4⟩ := close_l0 h0 h d _ 0 d k k rfl (by omega) (by omega) ⟨hl, fun p a b => (hin p a b).2⟩ (fun e => absurd e (by omega)) (by omega) (by omega)
    refine ⟨r, n1, n2, n3, fun f => ?_⟩
    obtain ⟨m1, m2, m3, m4, m5⟩ := n4 f
    refine ⟨g, m1, ⟨h0, h, m2.1, fun p a b => ⟨?_, m2.2 p a b⟩, fun i a b => ?_⟩, m5⟩
    · have := m5 p a b; omega
    · have x1 := m3 i i a b a b
      have x2 : gat n d i i = 0 := hz i a b
      have x3 : ¬ gat n r.2.1 i i < 0 := fun q => m4 ⟨i, a, b, q⟩
      show gat n r.2.1 i i = 0
      omega
  · rw [sGapsOk_no g (by omega), gapsOk_no g (by omega)]
    exact ⟨_, rfl, rfl, by simp, fun f => (nomatch f)⟩
theorem close_both {k : Nat} (n : Int) (d : List Int) (hk : 3000000 ≤ k) : ∃ r, spec_GapsClose.f k n d = some r ∧ impl_GapsClose.f k n d = some r ∧ r.2.1.length ≤ 169 := by
  obtain ⟨r, a, b, c, _⟩ := close_full (k := k) n d hk
  exact ⟨r, a, b, c⟩
/-! spec_GapsRange impl_GapsRange -/
theorem range_both {k : Nat} (n : Int) (d : List Int) (v : Int) (hk : 5000 ≤ k) : ∃ r, spec_GapsRange.f k n d v = some r ∧ impl_GapsRange.f k n d v = some r := by
  obtain ⟨k, rfl⟩ : ∃ j, k = j + 1 := ⟨k - 1, by omega⟩
  unfold spec_GapsRange.f impl_GapsRange.f
  by_cases g : GOk n d
  · rw [sGapsOk_yes g (by omega), gapsOk_yes g (by omega)]
    show ∃ r, (spec_l1In.f v 1 n).bind _ = _ ∧ _
    rw [sin_eq]
    by_cases c : 1 ≤ v ∧ v ≤ n
    · have g' := g
      obtain ⟨h0, h, hl, a, b⟩ := g'
      have i1 := idx_in h0 h (Int.le_refl 0) h0 (by omega : 0 ≤ v) c.2
      have i2 := idx_in h0 h (by omega : 0 ≤ v) c.2 (Int.le_refl 0) h0
      refine ⟨RFrom (wrap64 (-(gat n d 0 v))) (gat n d v 0), ?_, ?_⟩
      · show spec_GapsRange.j0 (k + 1) v (!decide (1 ≤ v ∧ v ≤ n)) n d = _
        rw [decide_eq_true c, spec_GapsRange.j0]
        rw [if_neg (by simp), sl11At_eq h0 h hl (Int.le_refl 0) h0 (by omega) c.2, sl11At_eq h0 h hl (by omega : 0 ≤ v) c.2 (Int.le_refl 0) h0]
        show (spec_l8Cut.f (wrap64 (-(gat n d 0 v))) (gat n d v 0)).bind _ = _
        rw [scut_eq]; rfl
      · show (if v < 1 then _ else _) = _
        rw [if_neg (by omega), decide_eq_false (by omega : ¬ v > n), impl_GapsRange.j0]
        rw [if_neg (by simp), gapsAt_eq h0 h (Int.le_refl 0) h0 (by omega) c.2, gapsAt_eq h0 h (by omega : 0 ≤ v) c.2 (Int.le_refl 0) h0]
        show (if 0 ≤ 0 * (n + 1) + v then _ else _) = _
        rw [if_pos (by omega), if_pos (by omega)]
        show (if 0 ≤ v * (n + 1) + 0 then _ else _) = _
        rw [if_pos (by omega), if_pos (by omega), rangeFrom_eq]; rfl
    · refine ⟨(1, 0), ?_, ?_⟩
      · show spec_GapsRange.j0 (k + 1) v (!decide (1 ≤ v ∧ v ≤ n)) n d = _
        rw [decide_eq_false c, spec_GapsRange.j0]
        rfl
      · show (if v < 1 then _ else _) = _
        by_cases c1 : v < 1
        · rw [if_pos c1, impl_GapsRange.j0]; rfl
        · rw [if_neg c1, decide_eq_true (by omega : v > n), impl_GapsRange.j0]; rfl
  · rw [sGapsOk_no g (by omega), gapsOk_no g (by omega)]
    refine ⟨(1, 0), ?_, ?_⟩
    · show spec_GapsRange.j0 (k + 1) v true n d = _
      rw [spec_GapsRange.j0]; rfl
    · show impl_GapsRange.j0 (k + 1) v true n d = _
      rw [impl_GapsRange.j0]; rfl
/-! impl_Val_none -/
theorem valNone_q (a b c d : Int) : impl_Val_none.f a b c d = some (a == 1 && (b == 0 && (c == 0 && (d == 0)))) := rfl
/-! spec_l12RefOk impl_refOk -/
def RefOk (null : Bool) (x : List Int) (a b c d : Int) : Prop := VOk a b c d ∧ (VN a b c d ↔ x = []) ∧ Asc x ∧ (null = true ∨ x ≠ [])
def lastOf (x : List Int) (i : Int) : Int := if i = 0 then -1 else rd x (i - 1)
theorem ne_iff {p q : Prop} {b b' : Bool} (h : b = true ↔ p) (h' : b' = true ↔ q) : (b != b') = false ↔ (p ↔ q) := by
  cases b <;> cases b' <;> simp_all
theorem nil_iff (x : List Int) : ((x.length : Int) == 0) = true ↔ x = [] := by
  cases x with
  | nil => simp
  | cons a l => simp; omega
theorem refOk_l0 {k : Nat} (null : Bool) (x : List Int) (a b c d : Int) (hx : x.length ≤ 1048576) (hk : 2000000 ≤ k) : Tot (impl_refOk.l0 k (-1) x (x.length : Int) 0 null x a b c d) fun r => r = true ↔ Asc x ∧ (null = true ∨ x ≠ []) := by
  have h : Tot (impl_refOk.l0 k (lastOf x 0) x (x.length : Int) 0 null x a b c d) fun r => r = true ↔ (∀ j : Int, 0 ≤ j → j < (x.length : Int) → lastOf x j < rd x j) ∧ (null = true ∨ x ≠ []) := by
    refine scan (g := fun k i => impl_refOk.l0 k (lastOf x i) x (x.length : Int) i null x a b c d) (n := (x.length : Int)) 0 (fun k i R _ h0 h1 yes no => ?_) (fun k _ => ?_) _ k 0 rfl (by omega) (by omega) (by omega)
    · try dsimp only at yes ⊢
      rw [impl_refOk.l0, if_pos h1, if_pos h0, if_pos h1, wrap64_id (x := i + 1) (by omega) (by omega)]
      refine Tot.ite (fun z => Tot.here (no (by omega))) (fun z => ?_)
      have e : lastOf x (i + 1) = rd x i := by
        unfold lastOf
        rw [if_neg (by omega), show i + 1 - 1 = i by omega]
      rw [← e]
      exact yes (by omega)
    · try dsimp only
      rw [impl_refOk.l0, if_neg (by omega)]
      refine Tot.ite (fun z => Tot.here ⟨fun _ => .inl z, fun _ => rfl⟩) (fun z => Tot.here ?_)
      rw [decide_eq_true_iff]
      cases x with
      | nil => simp [z]
      | cons a l => simp
  obtain ⟨r, h1, h2⟩ := h
  exact ⟨r, h1, h2.trans (by rw [asc_iff]; exact Iff.rfl)⟩
theorem refOk_tot {k : Nat} (null : Bool) (x : List Int) (a b c d : Int) (hx : x.length ≤ 1048576) (hk : 3000000 ≤ k) : Tot (impl_refOk.f k null x a b c d) fun r => r = true ↔ RefOk null x a b c d := by
  obtain ⟨k, rfl⟩ : ∃ j, k = j + 1 := ⟨k - 1, by omega⟩
  unfold impl_refOk.f
  rw [valOk_eq (k + 1) (by omega), Option.bind_some]
  by_cases o : VOk a b c d
  · rw [decide_eq_true o, if_pos rfl, valNone_q, Option.bind_some, impl_refOk.j0]
    by_cases e : VN a b c d ↔ x = []
    · rw [(ne_iff (vn_iff a b c d) (nil_iff x)).mpr e, if_neg (show ¬ (false = true) by decide)]
      exact (refOk_l0 null x a b c d hx (by omega)).mono fun r hr => hr.trans ⟨fun q => ⟨o, e, q.1, q.2⟩, fun q => ⟨q.2.2.1, q.2.2.2⟩⟩
    · have ne : ((a == 1 && (b == 0 && (c == 0 && (d == 0)))) != ((x.length : Int) == 0)) = true := by
        rw [← Bool.not_eq_false]; exact fun z => e ((ne_iff (vn_iff a b c d) (nil_iff x)).mp z)
      rw [ne, if_pos rfl]
      exact Tot.here ⟨fun f => (nomatch f), fun q => absurd q.2.1 e⟩
  · rw [decide_eq_false o, if_neg (show ¬ (false = true) by decide), impl_refOk.j0, if_pos rfl]
    exact Tot.here ⟨fun f => (nomatch f), fun q => absurd q.1 o⟩
theorem srefOk_l0 {k : Nat} (null : Bool) (x : List Int) (a b c d : Int) (hx : x.length ≤ 1048576) (hk : 2000000 ≤ k) : Tot (spec_l12RefOk.l0 k 0 null x a b c d) fun r => r = true ↔ Asc x := by
  have h : Tot (spec_l12RefOk.l0 k 0 null x a b c d) fun r => r = true ↔ (∀ j : Int, 0 ≤ j → j < (x.length : Int) → 0 ≤ rd x j ∧ (0 < j → rd x (j - 1) < rd x j)) ∧ True := by
    refine scan (g := fun k i => spec_l12RefOk.l0 k i null x a b c d) (n := (x.length : Int)) 0 (fun k i R _ h0 h1 yes no => ?_) (fun k _ => ?_) _ k 0 rfl (by omega) (by omega) (by omega)
    · try dsimp only at yes ⊢
      rw [spec_l12RefOk.l0, if_pos h1, if_pos h0, wrap64_id (x := i + 1) (by omega) (by omega)]
      refine Tot.ite (fun z => Tot.here (no (by omega))) (fun z => ?_)
      refine Tot.ite (fun z2 => ?_) (fun z2 => yes ⟨by omega, fun h => absurd h (by omega)⟩)
      rw [wrap64_id (x := i - 1) (by omega) (by omega), if_pos (by omega), if_pos (by omega)]
      refine Tot.ite (fun z3 => Tot.here (no (fun q => by have := q.2 (by omega); omega))) (fun z3 => yes ⟨by omega, fun _ => by omega⟩)
    · try dsimp only
      rw [spec_l12RefOk.l0, if_neg (by omega)]
      exact Tot.here ⟨fun _ => trivial, fun _ => rfl⟩
  obtain ⟨r, h1, h2⟩ := h
  exact ⟨r, h1, h2.trans ⟨fun q => q.1, fun q => ⟨q, trivial⟩⟩⟩
theorem srefOk_tot {k : Nat} (null : Bool) (x : List Int) (a b c d : Int) (hx : x.length ≤ 1048576) (hk : 3000000 ≤ k) : Tot (spec_l12RefOk.f k null x a b c d) fun r => r = true ↔ RefOk null x a b c d := by
  obtain ⟨k, rfl⟩ : ∃ j, k = j + 1 := ⟨k - 1, by omega⟩
  unfold spec_l12RefOk.f
  rw [svalOk_eq (k + 1) (by omega), Option.bind_some]
  by_cases o : VOk a b c d
  · rw [decide_eq_true o, if_pos rfl, svalNone_eq, Option.bind_some]
    show Tot (if (((x.length : Int) == 0) != (a == 1 && (b == 0 && (c == 0 && (d == 0))))) = true then _ else _) _
    by_cases e : VN a b c d ↔ x = []
    · rw [(ne_iff (nil_iff x) (vn_iff a b c d)).mpr e.symm, if_neg (show ¬ (false = true) by decide)]
      have fin : (null = true ∨ x ≠ []) → Tot (spec_l12RefOk.j0 (k + 1) false null x a b c d) fun r => r = true ↔ RefOk null x a b c d := fun z => by
        rw [spec_l12RefOk.j0, if_neg (show ¬ (false = true) by decide)]
        exact (srefOk_l0 null x a b c d hx (by omega)).mono fun r hr => hr.trans ⟨fun q => ⟨o, e, q, z⟩, fun q => q.2.2.1⟩
      refine Tot.ite (fun z => fin (.inl z)) (fun z => ?_)
      by_cases y : x = []
      · rw [(nil_iff x).mpr y, spec_l12RefOk.j0, if_pos rfl]
        exact Tot.here ⟨fun f => (nomatch f), fun q => q.2.2.2.elim (fun n => absurd n z) (fun n => absurd y n)⟩
      · have : ((x.length : Int) == 0) = false := by rw [← Bool.not_eq_true]; exact fun h => y ((nil_iff x).mp h)
        rw [this]
        exact fin (.inr y)
    · have ne : (((x.length : Int) == 0) != (a == 1 && (b == 0 && (c == 0 && (d == 0))))) = true := by
        rw [← Bool.not_eq_false]; exact fun z => e ((ne_iff (nil_iff x) (vn_iff a b c d)).mp z).symm
      rw [ne, if_pos rfl, spec_l12RefOk.j0, if_pos rfl]
      exact Tot.here ⟨fun f => (nomatch f), fun q => absurd q.2.1 e⟩
  · rw [decide_eq_false o, if_neg (show ¬ (false = true) by decide), spec_l12RefOk.j0, if_pos rfl]
    exact Tot.here ⟨fun f => (nomatch f), fun q => absurd q.1 o⟩
/-! spec_AbsOk impl_AbsOk -/
def VGood (v : S51) : Prop := VOk v.f0 v.f1 v.f2 v.f3 ∧ ¬ VN v.f0 v.f1 v.f2 v.f3
def RGood (r : S82) : Prop := RefOk r.f0 r.f1 r.f2.f0 r.f2.f1 r.f2.f2 r.f2.f3
def AOk (live : Bool) (ints : List S51) (refs : List S82) (cells : List S51) (n : Int) (d : List Int) : Prop :=
  (live = true ∧ (∀ v ∈ ints, VGood v) ∧ (∀ v ∈ cells, VGood v) ∧ (∀ r ∈ refs, RGood r) ∧ GOk n d ∧ n = (ints.length : Int)) ∨
  (live = false ∧ ints = [] ∧ refs = [] ∧ cells = [] ∧ n = 0 ∧ d = [])
/-- How long the rows may be. -/
def ASmall (ints : List S51) (refs : List S82) (cells : List S51) : Prop := ints.length ≤ 1048576 ∧ refs.length ≤ 1048576 ∧ cells.length ≤ 1048576 ∧ ∀ r ∈ refs, r.f1.length ≤ 1048576
theorem arr_small {refs : List S82} (h : ∀ r ∈ refs, r.f1.length ≤ 1048576) {i : Int} (h0 : 0 ≤ i) (h1 : i < (refs.length : Int)) : (rd_T82 refs i).f1.length ≤ 1048576 :=
  (all_get refs z82 (fun r => r.f1.length ≤ 1048576)).mpr h i h0 h1
theorem sl12Vals_tot {k : Nat} (x : List S51) (hx : x.length ≤ 1048576) (hk : 2000000 ≤ k) : Tot (spec_l12Vals.f k x) fun r => r = true ↔ ∀ v ∈ x, VGood v := by
  unfold spec_l12Vals.f
  have h : Tot (spec_l12Vals.l0 k x 0) fun r => r = true ↔ (∀ j : Int, 0 ≤ j → j < (x.length : Int) → VGood (rd_T51 x j)) ∧ True := by
    refine scan (g := fun k i => spec_l12Vals.l0 k x i) (n := (x.length : Int)) 10 (fun k i R hk h0 h1 yes no => ?_) (fun k _ => ?_) _ k 0 rfl (by omega) (by omega) (by omega)
    · try dsimp only at yes ⊢
      rw [spec_l12Vals.l0, if_pos h1, if_pos h0, wrap64_id (x := i + 1) (by omega) (by omega), svalOk_eq k (by omega), Option.bind_some]
      by_cases o : VOk (rd_T51 x i).f0 (rd_T51 x i).f1 (rd_T51 x i).f2 (rd_T51 x i).f3
      · rw [decide_eq_true o, if_pos rfl, svalNone_eq, Option.bind_some]
        refine Tot.ite (fun z => Tot.here (no fun q => q.2 ((vn_iff _ _ _ _).mp z))) (fun z => yes ⟨o, fun q => z ((vn_iff _ _ _ _).mpr q)⟩)
      · rw [decide_eq_false o, if_neg (show ¬ (false = true) by decide)]
        exact Tot.here (no fun q => o q.1)
    · try dsimp only
      rw [spec_l12Vals.l0, if_neg (by omega)]
      exact Tot.here ⟨fun _ => trivial, fun _ => rfl⟩
  obtain ⟨r, h1, h2⟩ := h
  exact ⟨r, h1, h2.trans ⟨fun q => (all_get x z51 VGood).mp q.1, fun q => ⟨(all_get x z51 VGood).mpr q, trivial⟩⟩⟩
theorem dead_tot {k : Nat} {f : Option Bool} (ints : List S51) (refs : List S82) (cells : List S51) (n : Int) (d : List Int)
    (e : f = if (ints.length : Int) = 0 then (if (refs.length : Int) = 0 then (if (cells.length : Int) = 0 then (if n = 0 then (some ((d.length : Int) == 0)) else (some false)) else (some false)) else (some false)) else (some false)) :
    Tot f fun b => b = true ↔ AOk false ints refs cells n d := by
  subst e
  have len : ∀ {α : Type} (l : List α), (l.length : Int) = 0 ↔ l = [] := fun l => by cases l <;> simp; omega
  have red : AOk false ints refs cells n d ↔ ints = [] ∧ refs = [] ∧ cells = [] ∧ n = 0 ∧ d = [] := by simp [AOk]
  refine Tot.ite (fun c1 => ?_) (fun c1 => Tot.here ⟨fun f => (nomatch f), fun q => absurd ((len _).mpr (red.mp q).1) c1⟩)
  refine Tot.ite (fun c2 => ?_) (fun c2 => Tot.here ⟨fun f => (nomatch f), fun q => absurd ((len _).mpr (red.mp q).2.1) c2⟩)
  refine Tot.ite (fun c3 => ?_) (fun c3 => Tot.here ⟨fun f => (nomatch f), fun q => absurd ((len _).mpr (red.mp q).2.2.1) c3⟩)
  refine Tot.ite (fun c4 => ?_) (fun c4 => Tot.here ⟨fun f => (nomatch f), fun q => absurd (red.mp q).2.2.2.1 c4⟩)
  exact Tot.here (((nil_iff d).trans ⟨fun q => ⟨(len _).mp c1, (len _).mp c2, (len _).mp c3, c4, q⟩, fun q => q.2.2.2.2⟩).trans red.symm)
theorem absOk_tot {k : Nat} {live : Bool} {ints : List S51} {refs : List S82} {cells : List S51} {n : Int} {d : List Int} (sm : ASmall ints refs cells) (hk : 20000000 ≤ k) :
    Tot (impl_AbsOk.f k live ints refs cells n d) fun b => b = true ↔ AOk live ints refs cells n d := by
  obtain ⟨hi, hr, hc, ha⟩ := sm
  unfold impl_AbsOk.f
  cases live with
  | false =>
    rw [if_neg (show ¬ (false = true) by decide)]
    exact dead_tot (k := k) ints refs cells n d rfl
  | true =>
    rw [if_pos rfl]
    have h2 : ∀ k, 8000000 ≤ k → Tot (impl_AbsOk.l2 k refs (refs.length : Int) 0 true ints refs cells n d) fun b => b = true ↔ (∀ j : Int, 0 ≤ j → j < (refs.length : Int) → RGood (rd_T82 refs j)) ∧ GOk n d ∧ n = (ints.length : Int) := by
      intro k hk
      refine scan (g := fun k i => impl_AbsOk.l2 k refs (refs.length : Int) i true ints refs cells n d) (n := (refs.length : Int)) 4000000 (fun k i R hk h0 h1 yes no => ?_) (fun k hk => ?_) _ k 0 rfl (by omega) (by omega) (by omega)
      · try dsimp only at yes ⊢
        rw [impl_AbsOk.l2, if_pos h1, if_pos h0, if_pos h1, wrap64_id (x := i + 1) (by omega) (by omega)]
        refine Tot.then (refOk_tot _ _ _ _ _ _ (arr_small ha h0 h1) (by omega)) ?_
        intro b hb
        exact Tot.ite (fun z => yes (hb.mp z)) (fun z => Tot.here (no fun q => z (hb.mpr q)))
      · try dsimp only
        rw [impl_AbsOk.l2, if_neg (by omega)]
        refine Tot.then (gapsOk_tot n d (by omega)) ?_
        intro b hb
        refine Tot.ite (fun z => Tot.here ?_) (fun z => Tot.here ⟨fun f => (nomatch f), fun q => absurd (hb.mpr q.1) z⟩)
        rw [beq_iff_eq]
        exact ⟨fun q => ⟨hb.mp z, q⟩, fun q => q.2⟩
    have h1 : ∀ k, 10000000 ≤ k → Tot (impl_AbsOk.l1 k cells (cells.length : Int) 0 true ints refs cells n d) fun b => b = true ↔ (∀ j : Int, 0 ≤ j → j < (cells.length : Int) → VGood (rd_T51 cells j)) ∧ (∀ j : Int, 0 ≤ j → j < (refs.length : Int) → RGood (rd_T82 refs j)) ∧ GOk n d ∧ n = (ints.length : Int) := by
      intro k hk
      refine scan (g := fun k i => impl_AbsOk.l1 k cells (cells.length : Int) i true ints refs cells n d) (n := (cells.length : Int)) 8000000 (fun k i R hk h0 h1 yes no => ?_) (fun k hk => ?_) _ k 0 rfl (by omega) (by omega) (by omega)
      · try dsimp only at yes ⊢
        rw [impl_AbsOk.l1, if_pos h1, if_pos h0, if_pos h1, wrap64_id (x := i + 1) (by omega) (by omega), valNone_q, Option.bind_some]
        refine Tot.ite (fun z => Tot.here (no fun q => q.2 ((vn_iff _ _ _ _).mp z))) (fun z => ?_)
        rw [valOk_eq k (by omega), Option.bind_some]
        exact Tot.ite (fun z2 => yes ⟨of_decide_eq_true z2, fun q => z ((vn_iff _ _ _ _).mpr q)⟩) (fun z2 => Tot.here (no fun q => z2 (decide_eq_true q.1)))
      · try dsimp only
        rw [impl_AbsOk.l1, if_neg (by omega)]
        exact h2 k (by omega)
    have h0 : Tot (impl_AbsOk.l0 k ints (ints.length : Int) 0 true ints refs cells n d) fun b => b = true ↔ (∀ j : Int, 0 ≤ j → j < (ints.length : Int) → VGood (rd_T51 ints j)) ∧ (∀ j : Int, 0 ≤ j → j < (cells.length : Int) → VGood (rd_T51 cells j)) ∧ (∀ j : Int, 0 ≤ j → j < (refs.length : Int) → RGood (rd_T82 refs j)) ∧ GOk n d ∧ n = (ints.length : Int) := by
      refine scan (g := fun k i => impl_AbsOk.l0 k ints (ints.length : Int) i true ints refs cells n d) (n := (ints.length : Int)) 12000000 (fun k i R hk h0 h1 yes no => ?_) (fun k hk => ?_) _ k 0 rfl (by omega) (by omega) (by omega)
      · try dsimp only at yes ⊢
        rw [impl_AbsOk.l0, if_pos h1, if_pos h0, if_pos h1, wrap64_id (x := i + 1) (by omega) (by omega), valNone_q, Option.bind_some]
        refine Tot.ite (fun z => Tot.here (no fun q => q.2 ((vn_iff _ _ _ _).mp z))) (fun z => ?_)
        rw [valOk_eq k (by omega), Option.bind_some]
        exact Tot.ite (fun z2 => yes ⟨of_decide_eq_true z2, fun q => z ((vn_iff _ _ _ _).mpr q)⟩) (fun z2 => Tot.here (no fun q => z2 (decide_eq_true q.1)))
      · try dsimp only
        rw [impl_AbsOk.l0, if_neg (by omega)]
        exact h1 k (by omega)
    obtain ⟨r, e1, e2⟩ := h0
    have a1 := all_get ints z51 VGood
    have a2 := all_get cells z51 VGood
    have a3 := all_get refs z82 RGood
    refine ⟨r, e1, e2.trans ⟨fun q => .inl ⟨rfl, a1.mp q.1, a2.mp q.2.1, a3.mp q.2.2.1, q.2.2.2.1, q.2.2.2.2⟩, fun q => ?_⟩⟩
    rcases q with q | q
    · exact ⟨a1.mpr q.2.1, a2.mpr q.2.2.1, a3.mpr q.2.2.2.1, q.2.2.2.2.1, q.2.2.2.2.2⟩
    · exact absurd q.1 (by decide)
theorem sabsOk_tot {k : Nat} {live : Bool} {ints : List S51} {refs : List S82} {cells : List S51} {n : Int} {d : List Int} (sm : ASmall ints refs cells) (hk : 20000000 ≤ k) :
    Tot (spec_AbsOk.f k live ints refs cells n d) fun b => b = true ↔ AOk live ints refs cells n d := by
  obtain ⟨hi, hr, hc, ha⟩ := sm
  unfold spec_AbsOk.f
  cases live with
  | false =>
    rw [if_neg (show ¬ (false = true) by decide)]
    exact dead_tot (k := k) ints refs cells n d rfl
  | true =>
    rw [if_pos rfl]
    have h0 : Tot (spec_AbsOk.l0 k 0 true ints refs cells n d) fun b => b = true ↔ (∀ j : Int, 0 ≤ j → j < (refs.length : Int) → RGood (rd_T82 refs j)) ∧ (∀ v ∈ ints, VGood v) ∧ (∀ v ∈ cells, VGood v) ∧ GOk n d ∧ n = (ints.length : Int) := by
      refine scan (g := fun k i => spec_AbsOk.l0 k i true ints refs cells n d) (n := (refs.length : Int)) 8000000 (fun k i R hk h0 h1 yes no => ?_) (fun k hk => ?_) _ k 0 rfl (by omega) (by omega) (by omega)
      · try dsimp only at yes ⊢
        rw [spec_AbsOk.l0, if_pos h1, if_pos h0, wrap64_id (x := i + 1) (by omega) (by omega)]
        refine Tot.then (srefOk_tot _ _ _ _ _ _ (arr_small ha h0 h1) (by omega)) ?_
        intro b hb
        exact Tot.ite (fun z => yes (hb.mp z)) (fun z => Tot.here (no fun q => z (hb.mpr q)))
      · try dsimp only
        rw [spec_AbsOk.l0, if_neg (by omega)]
        refine Tot.then (sl12Vals_tot ints hi (by omega)) ?_
        intro b1 hb1
        refine Tot.ite (fun z1 => ?_) (fun z1 => Tot.here ⟨fun f => (nomatch f), fun q => absurd (hb1.mpr q.1) z1⟩)
        refine Tot.then (sl12Vals_tot cells hc (by omega)) ?_
        intro b2 hb2
        refine Tot.ite (fun z2 => ?_) (fun z2 => Tot.here ⟨fun f => (nomatch f), fun q => absurd (hb2.mpr q.2.1) z2⟩)
        refine Tot.then (sGapsOk_tot n d (by omega)) ?_
        intro b hb
        refine Tot.ite (fun z => Tot.here ?_) (fun z => Tot.here ⟨fun f => (nomatch f), fun q => absurd (hb.mpr q.2.2.1) z⟩)
        rw [beq_iff_eq]
        exact ⟨fun q => ⟨hb1.mp z1, hb2.mp z2, hb.mp z, q⟩, fun q => q.2.2.2⟩
    obtain ⟨r, e1, e2⟩ := h0
    have a3 := all_get refs z82 RGood
    refine ⟨r, e1, e2.trans ⟨fun q => .inl ⟨rfl, q.2.1, q.2.2.1, a3.mp q.1, q.2.2.2.1, q.2.2.2.2⟩, fun q => ?_⟩⟩
    rcases q with q | q
    · exact ⟨a3.mpr q.2.2.2.1, q.2.1, q.2.2.1, q.2.2.2.2.1, q.2.2.2.2.2⟩
    · exact absurd q.1 (by decide)
/-! laws_toValS -/
def cv (x : S85) : S51 := ⟨x.f0, x.f1, x.f2, x.f3⟩
theorem toValS_eq {k : Nat} (x : List S85) (hx : x.length ≤ 1048576) (hk : 2000000 ≤ k) : laws_toValS.f k x = some (x.map cv) := by
  have hl : (x.map cv).length = x.length := List.length_map _
  unfold laws_toValS.f
  rw [if_pos (show 0 ≤ (x.length : Int) by omega), if_pos (show ((x.length : Int)).toNat ≤ 8796093022208 by omega)]
  refine fill (g := fun k acc i => laws_toValS.l0 k x acc i) (x.map cv) (fun i => cv (rd_T85 x i)) 0 (fun i h0 h1 => ?_) (fun k acc i _ h0 h1 ha => ?_) (fun k acc _ => ?_) _ k 0 _ rfl (by omega) (by omega) (by omega) (by simp) (fun j hj => absurd hj (by omega))
  · rw [List.getElem?_map]
    unfold rd_T85
    rw [List.getD_eq_getElem?_getD, List.getElem?_eq_getElem (show i.toNat < x.length by omega)]; rfl
  · try dsimp only
    rw [laws_toValS.l0, if_pos (show i < (x.length : Int) by omega), if_pos h0]
    show (if i < (acc.length : Int) then _ else _) = _
    rw [if_pos (by omega), wrap64_id (x := i + 1) (by omega) (by omega)]
    rfl
  · try dsimp only
    rw [laws_toValS.l0, if_neg (by omega)]
/-! laws_toRefValS laws_toIntS -/
def cr (x : S87) : S82 := ⟨x.f0, x.f1, cv x.f2⟩
theorem toRefValS_eq {k : Nat} (x : List S87) (hx : x.length ≤ 1048576) (ha : ∀ r ∈ x, r.f1.length ≤ 1048576) (hk : 4000000 ≤ k) : laws_toRefValS.f k x = some (x.map cr) := by
  have hl : (x.map cr).length = x.length := List.length_map _
  unfold laws_toRefValS.f
  rw [if_pos (show 0 ≤ (x.length : Int) by omega), if_pos (show ((x.length : Int)).toNat ≤ 4398046511104 by omega)]
  refine fill (g := fun k acc i => laws_toRefValS.l0 k x acc i) (x.map cr) (fun i => cr (rd_T87 x i)) 2000000 (fun i h0 h1 => ?_) (fun k acc i hk h0 h1 hl' => ?_) (fun k acc _ => ?_) _ k 0 _ rfl (by omega) (by omega) (by omega) (by simp) (fun j hj => absurd hj (by omega))
  · rw [List.getElem?_map]
    unfold rd_T87
    rw [List.getD_eq_getElem?_getD, List.getElem?_eq_getElem (show i.toNat < x.length by omega)]; rfl
  · try dsimp only
    have sm : (rd_T87 x i).f1.length ≤ 1048576 := (all_get x z87 (fun r => r.f1.length ≤ 1048576)).mpr ha i h0 (by omega)
    have e : laws_toRefVal.f k ((rd_T87 x i).f0) ((rd_T87 x i).f1) ((rd_T87 x i).f2.f0) ((rd_T87 x i).f2.f1) ((rd_T87 x i).f2.f2) ((rd_T87 x i).f2.f3) = some ((rd_T87 x i).f0, (rd_T87 x i).f1, (rd_T87 x i).f2.f0, (rd_T87 x i).f2.f1, (rd_T87 x i).f2.f2, (rd_T87 x i).f2.f3) := by
      unfold laws_toRefVal.f
      rw [toIntS_eq _ sm hk]; rfl
    rw [laws_toRefValS.l0, if_pos (show i < (x.length : Int) by omega), if_pos h0, e, Option.bind_some, if_pos (show i < (acc.length : Int) by omega), wrap64_id (x := i + 1) (by omega) (by omega)]
    rfl
  · try dsimp only
    rw [laws_toRefValS.l0, if_neg (by omega)]
/-! laws_toAbs -/
theorem toAbs_eq {k : Nat} (live : Bool) (ints : List S85) (refs : List S87) (cells : List S85) (n : Int) (d : List Int) (hi : ints.length ≤ 1048576) (hr : refs.length ≤ 1048576) (hc : cells.length ≤ 1048576) (ha : ∀ r ∈ refs, r.f1.length ≤ 1048576) (hd : d.length ≤ 1048576) (hk : 4000000 ≤ k) :
    laws_toAbs.f k live ints refs cells n d = some (live, ints.map cv, refs.map cr, cells.map cv, n, d) := by
  unfold laws_toAbs.f
  rw [toValS_eq ints hi (by omega), Option.bind_some, toRefValS_eq refs hr ha hk, Option.bind_some, toValS_eq cells hc (by omega), Option.bind_some, toGaps_eq n d hd (by omega)]
  rfl
theorem small_map {ints : List S85} {refs : List S87} {cells : List S85} (hi : ints.length ≤ 1048576) (hr : refs.length ≤ 1048576) (hc : cells.length ≤ 1048576) (ha : ∀ r ∈ refs, r.f1.length ≤ 1048576) : ASmall (ints.map cv) (refs.map cr) (cells.map cv) := by
  refine ⟨by simpa using hi, by simpa using hr, by simpa using hc, fun r h => ?_⟩
  obtain ⟨x, hx, rfl⟩ := List.mem_map.mp h
  exact ha x hx
/-! laws_szAbs laws_szValS laws_szRefValS laws_szIntS -/
theorem szValS_eq (x : List S85) (a : Int) (hx : x.length ≤ 9223372036854775807) (h0 : 0 ≤ a) (h : a ≤ 1048576) : laws_szValS.f x a = some (if (x.length : Int) ≤ a then a - x.length else -1) := by
  unfold laws_szValS.f
  rw [wrap64_id (by omega) (by omega)]
  by_cases c : (x.length : Int) ≤ a
  · rw [if_pos c, if_neg (by omega)]
  · rw [if_neg c, if_pos (by omega)]
theorem szRefValS_tot {k : Nat} (x : List S87) (a : Int) (hx : x.length ≤ 9223372036854775807) (ha : ∀ r ∈ x, r.f1.length ≤ 9223372036854775807) (h0 : 0 ≤ a) (h : a ≤ 1048576) (hk : 4000000 ≤ k) :
    Tot (laws_szRefValS.f k x a) fun t => t < 0 ∨ (0 ≤ t ∧ t ≤ a ∧ x.length ≤ 1048576 ∧ ∀ r ∈ x, r.f1.length ≤ 1048576) := by
  unfold laws_szRefValS.f
  rw [wrap64_id (by omega) (by omega)]
  refine Tot.ite (fun _ => Tot.here (.inl (by omega))) (fun c => ?_)
  have go : ∀ (m k : Nat) (i t : Int), ((x.length : Int) - i).toNat = m → 0 ≤ i → i ≤ (x.length : Int) → m < k → 0 ≤ t → t ≤ a → (∀ j : Int, 0 ≤ j → j < i → (rd_T87 x j).f1.length ≤ 1048576) →
      Tot (laws_szRefValS.l0 k x t i) fun t => t < 0 ∨ (0 ≤ t ∧ t ≤ a ∧ ∀ j : Int, 0 ≤ j → j < (x.length : Int) → (rd_T87 x j).f1.length ≤ 1048576) := by
    intro m
    induction m with
    | zero =>
      intro k i t hm hi hi' hk ht ht' q
      obtain ⟨k, rfl⟩ : ∃ j, k = j + 1 := ⟨k - 1, by omega⟩
      rw [laws_szRefValS.l0, if_neg (by omega)]
      exact Tot.here (.inr ⟨ht, ht', fun j a b => q j a (by omega)⟩)
    | succ m ih =>
      intro k i t hm hi hi' hk ht ht' q
      obtain ⟨k, rfl⟩ : ∃ j, k = j + 1 := ⟨k - 1, by omega⟩
      have la : (rd_T87 x i).f1.length ≤ 9223372036854775807 := (all_get x z87 (fun r => r.f1.length ≤ 9223372036854775807)).mpr ha i hi (by omega)
      rw [laws_szRefValS.l0, if_pos (show i < (x.length : Int) by omega), if_pos hi]
      unfold laws_szRefVal.f laws_szIntS.f
      rw [wrap64_id (x := t - ((rd_T87 x i).f1.length : Int)) (by omega) (by omega)]
      by_cases c1 : t - ((rd_T87 x i).f1.length : Int) < 0
      · rw [if_pos c1]
        exact Tot.here (.inl (by decide))
      · rw [if_neg c1, Option.bind_some, if_neg c1, Option.bind_some, if_neg c1, wrap64_id (x := i + 1) (by omega) (by omega)]
        refine ih k (i + 1) _ (by omega) (by omega) (by omega) (by omega) (by omega) (by omega) fun j a b => ?_
        by_cases e : j = i
        · subst e; omega
        · exact q j a (by omega)
  refine (go _ k 0 _ rfl (by omega) (by omega) (by omega) (by omega) (by omega) (fun j a b => absurd a (by omega))).mono fun t ht => ?_
  rcases ht with ht | ⟨t0, t1, q⟩
  · exact .inl ht
  · exact .inr ⟨t0, by omega, by omega, (all_get x z87 (fun r => r.f1.length ≤ 1048576)).mp q⟩
theorem szAbs_tot {k : Nat} (live : Bool) (ints : List S85) (refs : List S87) (cells : List S85) (n : Int) (d : List Int) (a : Int) (hi : ints.length ≤ 9223372036854775807) (hr : refs.length ≤ 9223372036854775807) (hc : cells.length ≤ 9223372036854775807) (hd : d.length ≤ 9223372036854775807)
    (ha : ∀ r ∈ refs, r.f1.length ≤ 9223372036854775807) (h0 : 0 ≤ a) (h : a ≤ 1048576) (hk : 4000000 ≤ k) :
    Tot (laws_szAbs.f k live ints refs cells n d a) fun t => t < 0 ∨ (0 ≤ t ∧ t ≤ a ∧ ints.length ≤ 1048576 ∧ refs.length ≤ 1048576 ∧ cells.length ≤ 1048576 ∧ d.length ≤ 1048576 ∧ ∀ r ∈ refs, r.f1.length ≤ 1048576) := by
  unfold laws_szAbs.f
  rw [szValS_eq ints a hi h0 h, Option.bind_some]
  refine Tot.ite (fun _ => Tot.here (.inl (by decide))) (fun c1 => ?_)
  have c1' : (ints.length : Int) ≤ a := by
    by_cases q : (ints.length : Int) ≤ a
    · exact q
    · rw [if_neg q] at c1; omega
  rw [if_pos c1']
  refine Tot.then (szRefValS_tot refs _ hr ha (by omega) (by omega) hk) ?_
  intro t ht
  refine Tot.ite (fun _ => Tot.here (.inl (by decide))) (fun c2 => ?_)
  obtain ⟨t0, t1, r1, r2⟩ := ht.resolve_left c2
  rw [szValS_eq cells t hc t0 (by omega), Option.bind_some]
  refine Tot.ite (fun _ => Tot.here (.inl (by decide))) (fun c3 => ?_)
  have c3' : (cells.length : Int) ≤ t := by
    by_cases q : (cells.length : Int) ≤ t
    · exact q
    · rw [if_neg q] at c3; omega
  rw [if_pos c3', szGaps_eq n d _ hd (by omega) (by omega), Option.bind_some]
  refine Tot.ite (fun _ => Tot.here (.inl (by decide))) (fun c4 => ?_)
  have c4' : (d.length : Int) ≤ t - cells.length := by
    by_cases q : (d.length : Int) ≤ t - cells.length
    · exact q
    · rw [if_neg q] at c4; omega
  rw [if_pos c4']
  exact Tot.here (.inr ⟨by omega, by omega, by omega, r1, by omega, by omega, r2⟩)
/-! laws_eqAbs laws_eqValS laws_eqRefValS laws_eqGaps -/
theorem eqVal_refl (a b c d : Int) : laws_eqVal.f a b c d a b c d = some true := by
  unfold laws_eqVal.f
  rw [if_pos rfl, if_pos rfl, if_pos rfl, if_pos rfl]
theorem eqValS_refl {k : Nat} (x : List S51) (hx : x.length ≤ 1048576) (hk : 2000000 ≤ k) : laws_eqValS.f k x x = some true := by
  unfold laws_eqValS.f
  rw [if_pos rfl]
  refine goes_on (g := fun k i => laws_eqValS.l0 k x x i) (n := (x.length : Int)) 0 (fun k i _ h0 h1 => ?_) (fun k _ => ?_) _ k 0 rfl (by omega) (by omega) (by omega)
  · try dsimp only
    rw [laws_eqValS.l0, if_pos h1, if_pos h0, if_pos h1, eqVal_refl, Option.bind_some, if_pos rfl, wrap64_id (x := i + 1) (by omega) (by omega)]
  · try dsimp only
    rw [laws_eqValS.l0, if_neg (by omega)]
theorem eqRefValS_refl {k : Nat} (x : List S82) (hx : x.length ≤ 1048576) (ha : ∀ r ∈ x, r.f1.length ≤ 1048576) (hk : 4000000 ≤ k) : laws_eqRefValS.f k x x = some true := by
  unfold laws_eqRefValS.f
  rw [if_pos rfl]
  refine goes_on (g := fun k i => laws_eqRefValS.l0 k x x i) (n := (x.length : Int)) 2000000 (fun k i hk h0 h1 => ?_) (fun k _ => ?_) _ k 0 rfl (by omega) (by omega) (by omega)
  · try dsimp only
    have e : laws_eqRefVal.f k ((rd_T82 x i).f0) ((rd_T82 x i).f1) ((rd_T82 x i).f2.f0) ((rd_T82 x i).f2.f1) ((rd_T82 x i).f2.f2) ((rd_T82 x i).f2.f3) ((rd_T82 x i).f0) ((rd_T82 x i).f1) ((rd_T82 x i).f2.f0) ((rd_T82 x i).f2.f1) ((rd_T82 x i).f2.f2) ((rd_T82 x i).f2.f3) = some true := by
      unfold laws_eqRefVal.f
      rw [if_neg (by simp), eqIntS_refl _ (arr_small ha h0 h1) hk, Option.bind_some, if_pos rfl, eqVal_refl, Option.bind_some, if_pos rfl]
    rw [laws_eqRefValS.l0, if_pos h1, if_pos h0, if_pos h1, e, Option.bind_some, if_pos rfl, wrap64_id (x := i + 1) (by omega) (by omega)]
  · try dsimp only
    rw [laws_eqRefValS.l0, if_neg (by omega)]
theorem eqAbs_refl {k : Nat} {live : Bool} {ints : List S51} {refs : List S82} {cells : List S51} {n : Int} {d : List Int} (sm : ASmall ints refs cells) (hd : d.length ≤ 1048576) (hk : 4000000 ≤ k) :
    laws_eqAbs.f k live ints refs cells n d live ints refs cells n d = some true := by
  unfold laws_eqAbs.f
  rw [if_neg (by simp), eqValS_refl ints sm.1 (by omega), Option.bind_some, if_pos rfl, eqRefValS_refl refs sm.2.1 sm.2.2.2 hk, Option.bind_some, if_pos rfl, eqValS_refl cells sm.2.2.1 (by omega), Option.bind_some, if_pos rfl, eqGaps_refl n d hd (by omega), Option.bind_some, if_pos rfl]
/-! impl_Val_none -/
instance (a b c d : Int) : Decidable (VN a b c d) := inferInstanceAs (Decidable (_ ∧ _))
theorem vn_b (a b c d : Int) : (a == 1 && (b == 0 && (c == 0 && (d == 0)))) = decide (VN a b c d) := by
  rw [Bool.eq_iff_iff, decide_eq_true_iff]; exact vn_iff a b c d
theorem vok_parts {a b c d : Int} (o : VOk a b c d) (n : ¬ VN a b c d) : ROk a b ∧ ¬ a > b ∧ SOk c d := by
  have h : ¬ (¬ ROk a b ∨ ¬ SOk c d ∨ a > b) := fun q => by
    unfold VOk at o
    rw [VMake_none q, Prod.mk.injEq, Prod.mk.injEq, Prod.mk.injEq] at o
    exact n ⟨o.1.symm, o.2.1.symm, o.2.2.1.symm, o.2.2.2.symm⟩
  exact ⟨Decidable.byContradiction fun q => h (.inl q), fun q => h (.inr (.inr q)), Decidable.byContradiction fun q => h (.inr (.inl q))⟩
/-! impl_ValMeet spec_ValMeet impl_Val_none -/
noncomputable def VMeet (a b c d a' b' c' d' : Int) : Int × Int × Int × Int :=
  if ¬ VOk a b c d ∨ ¬ VOk a' b' c' d' ∨ VN a b c d ∨ VN a' b' c' d' then (1, 0, 0, 0)
  else if (SMeet c d c' d').2.2 = true then VMake (RMeet a b a' b').1 (RMeet a b a' b').2 (SMeet c d c' d').1 (SMeet c d c' d').2.1 else (1, 0, 0, 0)
theorem vmeet_has {a b c d a' b' c' d' u : Int} (x : VHas a b c d u) (y : VHas a' b' c' d' u) : VHas (VMeet a b c d a' b' c' d').1 (VMeet a b c d a' b' c' d').2.1 (VMeet a b c d a' b' c' d').2.2.1 (VMeet a b c d a' b' c' d').2.2.2 u := by
  have z : ∀ {a b c d : Int}, VHas a b c d u → ¬ VN a b c d := fun x q => by
    obtain ⟨rfl, rfl, rfl, rfl⟩ := q; exact vhas_none u x
  unfold VMeet
  rw [if_neg (by simp [x.1, y.1, z x, z y])]
  by_cases s : (SMeet c d c' d').2.2 = true
  · rw [if_pos s]
    exact (VMake_has _ _ _ _ _).mpr ⟨(RMeet_has _ _ _ _ _).mpr ⟨x.2.1, y.2.1⟩, (SMeet_some s).2 u x.2.2 y.2.2⟩
  · exact absurd ⟨x.2.2, y.2.2⟩ (SMeet_none x.2.2.1 y.2.2.1 (by simpa using s) u)
theorem valMeet_eq (k : Nat) (hk : 200000000000000000001 ≤ k) (a b c d a' b' c' d' : Int) : impl_ValMeet.f k a b c d a' b' c' d' = some (VMeet a b c d a' b' c' d') := by
  obtain ⟨k, rfl⟩ : ∃ m, k = m + 1 := ⟨k - 1, by omega⟩
  have N : ¬ VOk a b c d ∨ ¬ VOk a' b' c' d' ∨ VN a b c d ∨ VN a' b' c' d' → impl_ValMeet.j0 (k + 1) true a b c d a' b' c' d' = some (VMeet a b c d a' b' c' d') := fun h => by
    rw [impl_ValMeet.j0, if_pos rfl, valNone_eq]
    unfold VMeet; rw [if_pos h]; rfl
  unfold impl_ValMeet.f
  rw [valOk_eq _ (by omega), Option.bind_some]
  by_cases o : VOk a b c d
  case neg => rw [decide_eq_false o, if_neg (by decide)]; exact N (.inl o)
  rw [decide_eq_true o, if_pos rfl, valOk_eq _ (by omega), Option.bind_some]
  by_cases o' : VOk a' b' c' d'
  case neg => rw [decide_eq_false o', if_neg (by decide)]; exact N (.inr (.inl o'))
  rw [decide_eq_true o', if_pos rfl, valNone_q, Option.bind_some, vn_b]
  by_cases z : VN a b c d
  · rw [decide_eq_true z, if_pos rfl]; exact N (.inr (.inr (.inl z)))
  rw [decide_eq_false z, if_neg (by decide), valNone_q, Option.bind_some, vn_b]
  by_cases z' : VN a' b' c' d'
  · rw [decide_eq_true z']; exact N (.inr (.inr (.inr z')))
  rw [decide_eq_false z', impl_ValMeet.j0, if_neg (by decide)]
  have e0 : ¬ (¬ VOk a b c d ∨ ¬ VOk a' b' c' d' ∨ VN a b c d ∨ VN a' b' c' d') := by simp [o, o', z, z']
  unfold VMeet
  rw [if_neg e0]
  show (impl_RestMeet.f k c d c' d').bind _ = _
  rw [restMeet_eq _ (by omega), Option.bind_some]
  by_cases s : (SMeet c d c' d').2.2 = true
  · rw [if_pos s, if_pos s]
    show (impl_RangeMeet.f k a b a' b').bind _ = _
    rw [rangeMeet_eq _ (by omega), Option.bind_some, valMake_eq _ (by omega)]
    rfl
  · rw [if_neg s, if_neg s, valNone_eq]; rfl
theorem svalMeet_eq (k : Nat) (hk : 200000000000000000001 ≤ k) (a b c d a' b' c' d' : Int) : spec_ValMeet.f k a b c d a' b' c' d' = some (VMeet a b c d a' b' c' d') := by
  obtain ⟨k, rfl⟩ : ∃ m, k = m + 1 := ⟨k - 1, by omega⟩
  have N : ¬ VOk a b c d ∨ ¬ VOk a' b' c' d' ∨ VN a b c d ∨ VN a' b' c' d' → spec_ValMeet.j0 (k + 1) true a b c d a' b' c' d' = some (VMeet a b c d a' b' c' d') := fun h => by
    rw [spec_ValMeet.j0, if_pos rfl, svalNone_eq]
    unfold VMeet; rw [if_pos h]; rfl
  unfold spec_ValMeet.f
  rw [svalOk_eq _ (by omega), Option.bind_some]
  by_cases o : VOk a b c d
  case neg => rw [decide_eq_false o, if_neg (by decide)]; exact N (.inl o)
  rw [decide_eq_true o, if_pos rfl, svalOk_eq _ (by omega), Option.bind_some]
  by_cases o' : VOk a' b' c' d'
  case neg => rw [decide_eq_false o', if_neg (by decide)]; exact N (.inr (.inl o'))
  rw [decide_eq_true o', if_pos rfl, svalNone_eq, Option.bind_some]
  dsimp only
  rw [vn_b]
  by_cases z : VN a b c d
  · rw [decide_eq_true z, if_pos rfl]; exact N (.inr (.inr (.inl z)))
  rw [decide_eq_false z, if_neg (by decide), Option.bind_some]
  dsimp only
  rw [vn_b]
  by_cases z' : VN a' b' c' d'
  · rw [decide_eq_true z']; exact N (.inr (.inr (.inr z')))
  rw [decide_eq_false z', spec_ValMeet.j0, if_neg (by decide)]
  have e0 : ¬ (¬ VOk a b c d ∨ ¬ VOk a' b' c' d' ∨ VN a b c d ∨ VN a' b' c' d') := by simp [o, o', z, z']
  unfold VMeet
  rw [if_neg e0]
  show (spec_RestMeet.f k c d c' d').bind _ = _
  rw [srestMeet_eq _ (by omega), Option.bind_some]
  by_cases s : (SMeet c d c' d').2.2 = true
  · rw [if_pos s, if_pos s]
    show (spec_RangeMeet.f k a b a' b').bind _ = _
    rw [srangeMeet_eq _ (by omega), Option.bind_some, svalMake_eq _ (by omega)]
    rfl
  · rw [if_neg s, if_neg s, svalNone_eq]; rfl
end Go.Proofs.Ytklkdpcopfjmcaa.LFnExactAbsTight
