/- What the small functions that the statement reaches tell, each by a plain law. Conditions: those in each law. -/
import Derived.Test.YtkekcenlleebeaaDFnValCmpV
import Derived.Test.YtkekcenlleebeaaBaseV
import Derived.Test.YtkekcenlleebeaaBitsV
import Derived.Test.YtkekcenlleebeaaRangeMathV
import Derived.Test.YtkekcenlleebeaaRestMathV
import Derived.Test.YtkekcenlleebeaaValMathV
import Derived.Test.YtkekcenlleebeaaRangeCmpMathV
import Derived.Test.YtkekcenlleebeaaAbsMathV
namespace Go.Proofs.Ytkekcenlleebeaa.LFnValCmp
open Go.RowKit Go.Proofs.Ytkekcenlleebeaa.PFnValCmp Go.Proofs.Ytkekcenlleebeaa.Base Go.Proofs.YtkekcenlleebeaaW.PrintWords Go.Proofs.YtkekcenlleebeaaW.PrintLast Go.Proofs.YtkekcenlleebeaaW.PrintMore
set_option linter.unusedVariables false
set_option linter.unusedSimpArgs false

/-! spec_l1Rd_pick -/
theorem pick_tot (k : Nat) (hk : 1 ≤ k) {s : List Int} {p n : Int} (hs : Bytes s) (h0 : 0 ≤ p) (h1 : p ≤ 1073741824) :
    Tot (spec_l1Rd_pick.f k s p n) fun r => r.2 = p + 1 ∧ 0 ≤ r.1 ∧ (1 ≤ n → r.1 < n) := by
  obtain ⟨k, rfl⟩ : ∃ m, k = m + 1 := ⟨k - 1, by omega⟩
  have e1 : wrap64 (p + 1) = p + 1 := wrap64_id (by omega) (by omega)
  have e2 : wrap64 (p + 1 - 1) = p := by rw [wrap64_id (by omega) (by omega)]; omega
  unfold spec_l1Rd_pick.f
  rw [e1]
  refine Tot.ite (fun hn => ?_) (fun hn => ?_)
  · simp only [spec_l1Rd_pick.j0, if_true]
    exact Tot.here ⟨rfl, Int.le_refl _, fun h => by omega⟩
  · simp only [spec_l1Rd_pick.j0, e2]
    refine Tot.ite (fun h => Tot.here ⟨rfl, Int.le_refl _, fun _ => by dsimp only; omega⟩) fun h => ?_
    have hne : (s.length : Int) ≠ 0 := by simpa using h
    have hlen : 0 < (s.length : Int) := by omega
    refine Tot.ite (fun hp => ?_) fun hp => ?_
    · rw [if_pos h0, if_neg (by omega)]
      have b := hs.byte p
      rw [wrap64_id (by omega) (by omega)]
      exact Tot.here ⟨rfl, tmod_nonneg b.1, fun _ => tmod_lt (by omega)⟩
    · have m1 := tmod_nonneg (b := (s.length : Int)) h0
      have m2 := tmod_lt (a := p) hlen
      have q1 : wrap64 (p * 7) = p * 7 := wrap64_id (by omega) (by omega)
      have q2 : wrap64 (p * 7 + 3) = p * 7 + 3 := wrap64_id (by omega) (by omega)
      have m3 := tmod_nonneg (b := (s.length : Int)) (a := p * 7 + 3) (by omega)
      have m4 := tmod_lt (a := p * 7 + 3) hlen
      rw [if_neg hne, if_pos m1, if_pos m2, q1, q2, if_pos m3, if_pos m4, if_neg (by omega)]
      have b1 := hs.byte (Int.tmod p s.length)
      have b2 := hs.byte (Int.tmod (p * 7 + 3) s.length)
      generalize rd s (Int.tmod p s.length) = x1 at *
      generalize rd s (Int.tmod (p * 7 + 3) s.length) = x2 at *
      have d1 := tdiv_nonneg h0 (Int.le_of_lt hlen)
      have d2 := tdiv_le h0 hlen
      generalize Int.tdiv p s.length = d at *
      rw [wrap64_id (x := x1) (by omega) (by omega), wrap64_id (x := x2) (by omega) (by omega), wrap64_id (x := d) (by omega) (by omega)]
      rw [wrap64_id (x := x1 * 131) (by omega) (by omega), wrap64_id (x := x2 * 1117) (by omega) (by omega), wrap64_id (x := p * 29) (by omega) (by omega), wrap64_id (x := d * 53) (by omega) (by omega)]
      rw [wrap64_id (x := x1 * 131 + x2 * 1117) (by omega) (by omega)]
      rw [wrap64_id (x := x1 * 131 + x2 * 1117 + p * 29) (by omega) (by omega)]
      rw [wrap64_id (x := x1 * 131 + x2 * 1117 + p * 29 + d * 53) (by omega) (by omega)]
      have z0 : 0 ≤ x1 * 131 + x2 * 1117 + p * 29 + d * 53 := by omega
      have z1 : x1 * 131 + x2 * 1117 + p * 29 + d * 53 < 9223372036854775808 := by omega
      generalize x1 * 131 + x2 * 1117 + p * 29 + d * 53 = z at *
      have y0 := tdiv_nonneg (b := 64) z0 (by omega)
      have y1 := tdiv_le (b := 64) z0 (by omega)
      rw [wrap64_id (x := Int.tdiv z 64) (by omega) (by omega)]
      exact Tot.here ⟨rfl, tmod_nonneg (bits_xor_nonneg_in z0 z1 y0 (by omega)), fun _ => tmod_lt (by omega)⟩
/-! spec_l1Open -/
theorem open_tot {s : List Int} (hs : Bytes s) : Tot (spec_l1Open.f s) fun r => r.2 = 0 ∧ Bytes r.1 ∧ r.1.length ≤ 2000 := by
  unfold spec_l1Open.f
  refine Tot.ite (fun h => ?_) (fun h => ?_)
  · rw [if_pos (by omega)]
    exact Tot.here ⟨rfl, hs.take _, by simp only [List.length_take]; omega⟩
  · exact Tot.here ⟨rfl, hs, by dsimp only; omega⟩
/-! spec_l1Power -/
theorem power_l0 (n : Int) : ∀ (d k : Nat) (o i : Int), 0 ≤ i → i ≤ n → n ≤ 40 → (n - i : Int) = d → d < k → o = 2 ^ i.toNat → spec_l1Power.l0 k n o i = some (2 ^ n.toNat) := by
  intro d
  induction d with
  | zero =>
    intro k o i h0 h1 h2 hd hk ho
    obtain ⟨k, rfl⟩ : ∃ m, k = m + 1 := ⟨k - 1, by omega⟩
    simp only [spec_l1Power.l0]
    rw [if_neg (by omega), ho]
    have : i = n := by omega
    rw [this]
  | succ d ih =>
    intro k o i h0 h1 h2 hd hk ho
    obtain ⟨k, rfl⟩ : ∃ m, k = m + 1 := ⟨k - 1, by omega⟩
    simp only [spec_l1Power.l0]
    rw [if_pos (by omega)]
    have hp : (2 : Int) ^ i.toNat ≤ 2 ^ 40 := by
      have := Nat.pow_le_pow_right (n := 2) (by omega) (show i.toNat ≤ 40 by omega)
      exact_mod_cast this
    have hp0 : (0 : Int) < 2 ^ i.toNat := Int.pow_pos (by decide)
    have e : (i + 1).toNat = i.toNat + 1 := by omega
    rw [wrap64_id (x := 2 * o) (by omega) (by omega), wrap64_id (x := i + 1) (by omega) (by omega)]
    refine ih k _ _ (by omega) (by omega) h2 (by omega) (by omega) ?_
    rw [e, Int.pow_succ, ho]; omega
theorem power_eq (k : Nat) (hk : 42 ≤ k) {n : Int} (h0 : 0 ≤ n) (h1 : n ≤ 40) : spec_l1Power.f k n = some (2 ^ n.toNat) := by
  unfold spec_l1Power.f
  exact power_l0 n n.toNat k 1 0 (by omega) h0 h1 (by omega) (by omega) (by simp)
/-! spec_l1Mod -/
theorem mod_eq {a b : Int} (hb : 0 < b) (h : b ≤ 9223372036854775807) : spec_l1Mod.f a b = some (a % b) := by
  unfold spec_l1Mod.f
  rw [if_neg (by omega)]
  have e := Int.emod_emod_of_dvd a (Int.dvd_refl b)
  have h1 : Int.tmod a b < b := Int.tmod_lt_of_pos a hb
  have h2 : -b < Int.tmod a b := Int.lt_tmod_of_pos a hb
  have h3 := Int.mul_tdiv_add_tmod a b
  have h4 : a % b = Int.tmod a b % b := by
    conv => lhs; rw [← h3]
    rw [Int.add_comm, Int.add_mul_emod_self_left]
  by_cases hn : Int.tmod a b < 0
  · rw [if_pos hn, wrap64_id (by omega) (by omega), h4, ← Int.add_emod_right, Int.emod_eq_of_lt (by omega) (by omega)]
  · rw [if_neg hn, h4, Int.emod_eq_of_lt (by omega) (by omega)]
/-! spec_NumWrap -/
/-- The number of 32 bits that differs from one by a multiple. -/
theorem snumwrap_eq (v : Int) : spec_NumWrap.f v = some (wrap32 v) := by
  unfold spec_NumWrap.f
  rw [mod_eq (by omega) (by omega)]
  simp only [Option.bind_some]
  unfold wrap32
  by_cases h : v % 4294967296 > 2147483647
  · rw [if_pos h, wrap64_id (by omega) (by omega)]; congr 1; omega
  · rw [if_neg h]; congr 1; omega
/-! spec_l1Rd_num -/
theorem num_l0 {s : List Int} (hs : Bytes s) : ∀ (d k : Nat) (v i p : Int), 0 ≤ i → i ≤ 4 → (4 - i : Int) = d → d + 2 ≤ k → 0 ≤ p → p + d ≤ 1073741824 →
    Tot (spec_l1Rd_num.l0 k v i s p) fun r => r.2 = p + d ∧ -2147483648 ≤ r.1 ∧ r.1 ≤ 2147483647 := by
  intro d
  induction d with
  | zero =>
    intro k v i p h0 h1 hd hk hp hq
    obtain ⟨k, rfl⟩ : ∃ m, k = m + 1 := ⟨k - 1, by omega⟩
    simp only [spec_l1Rd_num.l0]
    rw [if_neg (by omega), snumwrap_eq]
    simp only [Option.bind_some]
    exact Tot.here ⟨by simp, (wrap32_in v).1, (wrap32_in v).2⟩
  | succ d ih =>
    intro k v i p h0 h1 hd hk hp hq
    obtain ⟨k, rfl⟩ : ∃ m, k = m + 1 := ⟨k - 1, by omega⟩
    simp only [spec_l1Rd_num.l0]
    rw [if_pos (by omega)]
    refine Tot.then (pick_tot k (by omega) hs hp (by omega)) ?_
    rintro ⟨x, q⟩ ⟨hq', -, -⟩
    dsimp only at hq' ⊢
    subst hq'
    rw [wrap64_id (x := i + 1) (by omega) (by omega)]
    refine (ih k _ _ _ (by omega) (by omega) (by omega) (by omega) (by omega) (by omega)).mono ?_
    rintro ⟨y, q⟩ ⟨h1, h2⟩
    exact ⟨by dsimp only at h1 ⊢; omega, h2⟩
theorem num_tot (k : Nat) (hk : 42 ≤ k) {s : List Int} {p : Int} (hs : Bytes s) (h0 : 0 ≤ p) (h1 : p ≤ 1000000000) :
    Tot (spec_l1Rd_num.f k s p) fun r => p < r.2 ∧ r.2 ≤ p + 5 ∧ -2147483648 ≤ r.1 ∧ r.1 ≤ 2147483647 := by
  have go : ∀ {n q : Int}, 0 ≤ q → q ≤ 1000000010 → Tot (spec_l1Rd_pick.f k s q n) fun r => r.2 = q + 1 ∧ 0 ≤ r.1 ∧ (1 ≤ n → r.1 < n) := fun a b => pick_tot k (by omega) hs a (by omega)
  have pw : ∀ {n : Int}, 0 ≤ n → n ≤ 30 → 0 < (2 : Int) ^ n.toNat ∧ (2 : Int) ^ n.toNat ≤ 1073741824 := fun {n} a b => by
    refine ⟨Int.pow_pos (by decide), ?_⟩
    have := Nat.pow_le_pow_right (n := 2) (by omega) (show n.toNat ≤ 30 by omega)
    have h : ((2 ^ n.toNat : Nat) : Int) ≤ ((2 ^ 30 : Nat) : Int) := by exact_mod_cast this
    simpa using h
  unfold spec_l1Rd_num.f
  refine Tot.then (go h0 (by omega)) ?_
  rintro ⟨x, q⟩ ⟨hq, x0, x1⟩
  dsimp only at hq x0 x1 ⊢
  subst hq
  refine Tot.ite (fun _ => ?_) fun _ => Tot.ite (fun _ => ?_) fun _ => Tot.ite (fun _ => ?_) fun _ => Tot.ite (fun _ => ?_) fun _ => Tot.ite (fun _ => ?_) fun _ => ?_
  · refine Tot.then (go (by omega) (by omega)) ?_
    rintro ⟨y, q⟩ ⟨hq, y0, y1⟩
    dsimp only at hq y0 y1 ⊢
    subst hq
    rw [wrap64_id (by omega) (by omega)]
    exact Tot.here ⟨by dsimp only; omega, by dsimp only; omega, by dsimp only; omega, by dsimp only; omega⟩
  · refine Tot.then (go (by omega) (by omega)) ?_
    rintro ⟨y, q⟩ ⟨hq, y0, y1⟩
    dsimp only at hq y0 y1 ⊢
    subst hq
    rw [wrap64_id (by omega) (by omega)]
    exact Tot.here ⟨by dsimp only; omega, by dsimp only; omega, by dsimp only; omega, by dsimp only; omega⟩
  · refine Tot.then (go (by omega) (by omega)) ?_
    rintro ⟨y, q⟩ ⟨hq, y0, y1⟩
    dsimp only at hq y0 y1 ⊢
    subst hq
    rw [wrap64_id (by omega) (by omega)]
    exact Tot.here ⟨by dsimp only; omega, by dsimp only; omega, by dsimp only; omega, by dsimp only; omega⟩
  · refine Tot.then (go (by omega) (by omega)) ?_
    rintro ⟨y, q⟩ ⟨hq, y0, y1⟩
    dsimp only at hq y0 y1 ⊢
    subst hq
    rw [power_eq k hk y0 (by omega)]
    simp only [Option.bind_some]
    have e := pw y0 (by omega)
    generalize (2 : Int) ^ y.toNat = z at *
    refine Tot.then (go (by omega) (by omega)) ?_
    rintro ⟨y', q⟩ ⟨hq, y0', y1'⟩
    dsimp only at hq y0' y1' ⊢
    subst hq
    rw [wrap64_id (x := z + y') (by omega) (by omega), wrap64_id (by omega) (by omega)]
    exact Tot.here ⟨by dsimp only; omega, by dsimp only; omega, by dsimp only; omega, by dsimp only; omega⟩
  · refine Tot.then (go (by omega) (by omega)) ?_
    rintro ⟨y, q⟩ ⟨hq, y0, y1⟩
    dsimp only at hq y0 y1 ⊢
    subst hq
    rw [power_eq k hk y0 (by omega)]
    simp only [Option.bind_some]
    have e := pw y0 (by omega)
    generalize (2 : Int) ^ y.toNat = z at *
    refine Tot.then (go (by omega) (by omega)) ?_
    rintro ⟨y', q⟩ ⟨hq, y0', y1'⟩
    dsimp only at hq y0' y1' ⊢
    subst hq
    rw [wrap64_id (x := -z) (by omega) (by omega), wrap64_id (x := -z + y') (by omega) (by omega), wrap64_id (by omega) (by omega)]
    exact Tot.here ⟨by dsimp only; omega, by dsimp only; omega, by dsimp only; omega, by dsimp only; omega⟩
  · refine (num_l0 hs 4 k 0 0 _ (by omega) (by omega) (by omega) (by omega) (by omega) (by omega)).mono ?_
    rintro ⟨y, q⟩ ⟨h1, h2⟩
    exact ⟨by dsimp only at h1 ⊢; omega, by dsimp only at h1 ⊢; omega, h2⟩
/-! impl_NumOk -/
theorem numOk_eq (v : Int) : impl_NumOk.f v = some (decide (NOk v)) := by
  unfold impl_NumOk.f
  by_cases h : v ≥ -2147483648
  · rw [if_pos h]; exact dcl (by (try unfold NOk); omega)
  · rw [if_neg h]; exact dfl (by (try unfold NOk); omega)
/-! spec_l1In -/
theorem sin_eq (v a b : Int) : spec_l1In.f v a b = some (decide (a ≤ v ∧ v ≤ b)) := by
  unfold spec_l1In.f
  by_cases h : v ≥ a
  · rw [if_pos h]; exact dcl (by (try unfold NOk); omega)
  · rw [if_neg h]; exact dfl (by (try unfold NOk); omega)
/-! spec_NumOk -/
theorem snumOk_eq (v : Int) : spec_NumOk.f v = some (decide (NOk v)) := by
  unfold spec_NumOk.f
  rw [sin_eq]; exact dcl Iff.rfl
/-! laws_at -/
theorem at_tot {l : List Int} (hl : Bytes l) {i : Int} (h0 : 0 ≤ i) (h1 : i ≤ 1000000000) : Tot (laws_at.f l i) fun r => 0 ≤ r ∧ r ≤ 255 := by
  unfold laws_at.f
  refine Tot.ite (fun h => Tot.here (by omega)) fun h => ?_
  have hlen : 0 < (l.length : Int) := by omega
  refine Tot.ite (fun h => ?_) fun h => ?_
  · rw [if_pos h0]; exact Tot.here (hl.byte i)
  · have m1 := tmod_nonneg (b := (l.length : Int)) h0
    have m2 := tmod_lt (a := i) hlen
    have q1 : wrap64 (i * 5) = i * 5 := wrap64_id (by omega) (by omega)
    have q2 : wrap64 (i * 5 + 1) = i * 5 + 1 := wrap64_id (by omega) (by omega)
    have m3 := tmod_nonneg (b := (l.length : Int)) (a := i * 5 + 1) (by omega)
    have m4 := tmod_lt (a := i * 5 + 1) hlen
    rw [if_pos m1, if_pos m2, q1, q2, if_pos m3, if_pos m4]
    exact Tot.here (by omega)
/-! impl_rangeNone -/
theorem rangeNone_eq : impl_rangeNone.f = some (1, 0) := rfl
/-! spec_l8None -/
theorem snone_eq : spec_l8None.f = some (1, 0) := rfl
/-! impl_RangeOk -/
theorem rangeOk_eq (l h : Int) : impl_RangeOk.f l h = some (decide (ROk l h)) := by
  unfold impl_RangeOk.f impl_rangeNone.f ROk
  simp only [Option.bind_some, numOk_eq, Bool.and_eq_true, beq_iff_eq]
  by_cases c : l = 1 ∧ h = 0
  · simp [c]
  · by_cases c1 : NOk l <;> by_cases c2 : NOk h <;> simp [c, c1, c2]
/-! spec_RangeOk -/
theorem srangeOk_eq (l h : Int) : spec_RangeOk.f l h = some (decide (ROk l h)) := by
  unfold spec_RangeOk.f spec_l8None.f ROk
  simp only [Option.bind_some, snumOk_eq, Bool.and_eq_true, beq_iff_eq]
  by_cases c : l = 1 ∧ h = 0
  · simp [c]
  · by_cases c1 : NOk l <;> by_cases c2 : NOk h <;> simp [c, c1, c2]
/-! impl_Range_empty -/
theorem rangeEmpty_eq (l h : Int) : impl_Range_empty.f l h = some (decide (l > h)) := rfl
/-! spec_l8Min -/
theorem smin_eq (a b : Int) : spec_l8Min.f a b = some (min a b) := by
  unfold spec_l8Min.f; split <;> congr 1 <;> omega
/-! spec_l8Max -/
theorem smax_eq (a b : Int) : spec_l8Max.f a b = some (max a b) := by
  unfold spec_l8Max.f; split <;> congr 1 <;> omega
/-! impl_rangeFrom -/
theorem rangeFrom_eq (a b : Int) : impl_rangeFrom.f a b = some (RFrom a b) := by
  unfold impl_rangeFrom.f RFrom
  rw [rangeNone_eq, mx_eq, mn_eq]
  split <;> rfl
/-! spec_l8Cut -/
theorem scut_eq (a b : Int) : spec_l8Cut.f a b = some (RFrom a b) := by
  unfold spec_l8Cut.f RFrom
  rw [smax_eq, smin_eq, snone_eq]
  simp only [Option.bind_some]
  split <;> rfl
/-! impl_RangeHas -/
theorem rangeHas_eq (l h v : Int) : impl_RangeHas.f l h v = some (decide (RHas l h v)) := by
  unfold impl_RangeHas.f RHas
  rw [rangeOk_eq]
  simp only [Option.bind_some]
  by_cases c : ROk l h <;> by_cases c1 : l ≤ v <;> simp [c, c1]
/-! spec_RangeHas -/
theorem srangeHas_eq (l h v : Int) : spec_RangeHas.f l h v = some (decide (RHas l h v)) := by
  unfold spec_RangeHas.f RHas
  rw [srangeOk_eq, sin_eq]
  simp only [Option.bind_some]
  by_cases c : ROk l h <;> simp [c]
/-! impl_RangeIn -/
theorem rangeIn_eq (l h l' h' : Int) : impl_RangeIn.f l h l' h' = some (decide (RIn l h l' h')) := by
  unfold impl_RangeIn.f RIn
  rw [rangeOk_eq, rangeOk_eq, rangeEmpty_eq]
  simp only [Option.bind_some]
  by_cases c : ROk l h <;> by_cases c1 : ROk l' h' <;> by_cases c2 : l > h <;> by_cases c3 : l' ≤ l <;> simp [c, c1, c2, c3]
/-! impl_RangeMeet -/
theorem rangeMeet_eq (k : Nat) (hk : 1 ≤ k) (l h l' h' : Int) : impl_RangeMeet.f k l h l' h' = some (RMeet l h l' h') := by
  obtain ⟨k, rfl⟩ : ∃ m, k = m + 1 := ⟨k - 1, by omega⟩
  unfold impl_RangeMeet.f RMeet
  rw [rangeOk_eq, rangeOk_eq]
  simp only [Option.bind_some, rangeEmpty_eq, mn_eq, mx_eq]
  by_cases c : ROk l h
  case neg => simp [c, impl_RangeMeet.j0, rangeNone_eq]
  by_cases c1 : ROk l' h'
  case neg => simp [c, c1, impl_RangeMeet.j0, rangeNone_eq]
  by_cases c2 : l > h
  · simp [c, c1, c2, impl_RangeMeet.j0, rangeNone_eq]
  by_cases c3 : l' > h'
  · simp [c, c1, c2, c3, impl_RangeMeet.j0, rangeNone_eq]
  simp only [c, c1, c2, c3, decide_true, decide_false, if_true, Bool.not_true, impl_RangeMeet.j0, Bool.false_eq_true, if_false, rangeFrom_eq, Option.bind_some, mn_eq, mx_eq, not_true, or_self]
/-! spec_RangeMeet -/
theorem srangeMeet_eq (k : Nat) (hk : 1 ≤ k) (l h l' h' : Int) : spec_RangeMeet.f k l h l' h' = some (RMeet l h l' h') := by
  obtain ⟨k, rfl⟩ : ∃ m, k = m + 1 := ⟨k - 1, by omega⟩
  unfold spec_RangeMeet.f RMeet
  rw [srangeOk_eq, srangeOk_eq]
  simp only [Option.bind_some, snone_eq, Bool.and_eq_true, beq_iff_eq]
  by_cases c : ROk l h
  case neg => simp [c, spec_RangeMeet.j0, snone_eq]
  by_cases c1 : ROk l' h'
  case neg => simp [c, c1, spec_RangeMeet.j0, snone_eq]
  simp only [c.empty_iff, c1.empty_iff]
  by_cases c2 : l = 1 ∧ h = 0
  · simp [c, c1, c2, spec_RangeMeet.j0, snone_eq]
  by_cases c3 : l' = 1 ∧ h' = 0
  · simp [c, c1, c2, c3, spec_RangeMeet.j0, snone_eq]
  have e : (l' == 1 && h' == 0) = false := by
    rw [Bool.eq_false_iff]; simpa using c3
  simp only [c, c1, c2, c3, e, decide_true, decide_false, if_true, Bool.not_true, spec_RangeMeet.j0, Bool.false_eq_true, if_false, scut_eq, smin_eq, smax_eq, Option.bind_some, not_true, or_self]
/-! laws_wide -/
theorem wide_tot {l : List Int} (hl : Bytes l) {i : Int} (h0 : 0 ≤ i) (h1 : i ≤ 100000000) : Tot (laws_wide.f l i) fun r => 0 ≤ r ∧ r < 4294967296 := by
  unfold laws_wide.f
  rw [wrap64_id (x := i + 1) (by omega) (by omega), wrap64_id (x := i + 2) (by omega) (by omega), wrap64_id (x := i + 3) (by omega) (by omega)]
  refine Tot.then (at_tot hl h0 (by omega)) fun a ha => Tot.then (at_tot hl (by omega) (by omega)) fun b hb => Tot.then (at_tot hl (by omega) (by omega)) fun c hc => Tot.then (at_tot hl (by omega) (by omega)) fun d hd => ?_
  rw [wrap64_id (x := a) (by omega) (by omega), wrap64_id (x := b) (by omega) (by omega), wrap64_id (x := c) (by omega) (by omega), wrap64_id (x := d) (by omega) (by omega)]
  rw [wrap64_id (x := a * 16777216) (by omega) (by omega), wrap64_id (x := b * 65536) (by omega) (by omega), wrap64_id (x := c * 256) (by omega) (by omega)]
  have e : (2 : Int) ^ 32 = 4294967296 := by decide
  have r1 := bits_or_nonneg (x := a * 16777216) (y := b * 65536) (n := 32) (by omega) (by omega) (by omega) (by omega) (by omega)
  have r2 := bits_or_nonneg (y := c * 256) (n := 32) (by omega) r1.1 r1.2 (by omega) (by omega)
  have r3 := bits_or_nonneg (y := d) (n := 32) (by omega) r2.1 r2.2 (by omega) (by omega)
  exact Tot.here ⟨r3.1, by omega⟩
/-! spec_l8Range -/
theorem drawRange_tot (k : Nat) (hk : 42 ≤ k) {s : List Int} {p : Int} (hs : Bytes s) (h0 : 0 ≤ p) (h1 : p ≤ 100000000) :
    Tot (spec_l8Range.f k s p) fun r => p < r.2.2 ∧ r.2.2 ≤ p + 20 ∧ ROk r.1 r.2.1 := by
  have go : ∀ {n q : Int}, 0 ≤ q → q ≤ 100001000 → Tot (spec_l1Rd_pick.f k s q n) fun r => r.2 = q + 1 ∧ 0 ≤ r.1 ∧ (1 ≤ n → r.1 < n) := fun a b => pick_tot k (by omega) hs a (by omega)
  have nm : ∀ {q : Int}, 0 ≤ q → q ≤ 100001000 → Tot (spec_l1Rd_num.f k s q) fun r => q < r.2 ∧ r.2 ≤ q + 5 ∧ -2147483648 ≤ r.1 ∧ r.1 ≤ 2147483647 := fun a b => num_tot k hk hs a (by omega)
  unfold spec_l8Range.f
  refine Tot.then (go h0 (by omega)) ?_
  rintro ⟨x, q⟩ ⟨hq, x0, x1⟩
  dsimp only at hq x0 x1 ⊢
  subst hq
  refine Tot.ite (fun _ => ?_) fun _ => ?_
  · rw [snone_eq]
    exact Tot.here ⟨by dsimp only; omega, by dsimp only; omega, rok_none⟩
  · refine Tot.then (nm (by omega) (by omega)) ?_
    rintro ⟨y, q⟩ ⟨hq, hq', y0, y1⟩
    dsimp only at hq hq' y0 y1 ⊢
    refine Tot.ite (fun _ => ?_) fun _ => Tot.ite (fun _ => ?_) fun _ => Tot.ite (fun _ => ?_) fun _ => ?_
    · exact Tot.here ⟨by dsimp only; omega, by dsimp only; omega, Or.inr ⟨⟨y0, y1⟩, ⟨y0, y1⟩, Int.le_refl _⟩⟩
    · refine Tot.then (go (by omega) (by omega)) ?_
      rintro ⟨z, q'⟩ ⟨hr, z0, z1⟩
      dsimp only at hr z0 z1 ⊢
      rw [scut_eq]
      exact Tot.here ⟨by dsimp only; omega, by dsimp only; omega, RFrom_ok _ _⟩
    · exact Tot.here ⟨by dsimp only; omega, by dsimp only; omega, Or.inr (by unfold NOk; dsimp only; omega)⟩
    · refine Tot.then (nm (by omega) (by omega)) ?_
      rintro ⟨z, q'⟩ ⟨hr, hr', z0, z1⟩
      dsimp only at hr hr' z0 z1 ⊢
      rw [smin_eq, smax_eq]
      simp only [Option.bind_some]
      rw [scut_eq]
      exact Tot.here ⟨by dsimp only; omega, by dsimp only; omega, RFrom_ok _ _⟩
/-! impl_RestOk -/
theorem restOk_eq (m a : Int) : impl_RestOk.f m a = some (decide (SOk m a)) := by
  unfold impl_RestOk.f
  rw [numOk_eq]
  simp only [Option.bind_some]
  by_cases c : m = 0
  · rw [if_pos c]; exact dcl ⟨fun h => Or.inl ⟨c, h⟩, fun h => h.zero c⟩
  · rw [if_neg c]
    have e : SOk m a ↔ (1 ≤ m ∧ m ≤ 65536 ∧ 0 ≤ a ∧ a < m) := by
      unfold SOk; constructor
      · intro h; rcases h with h | h
        · exact absurd h.1 c
        · exact h.2
      · intro h; exact Or.inr ⟨c, h⟩
    by_cases c1 : m ≥ 1
    · rw [if_pos c1]
      by_cases c2 : m ≤ 65536
      · rw [if_pos c2]
        by_cases c3 : a ≥ 0
        · rw [if_pos c3]; exact dcl (by rw [e]; omega)
        · rw [if_neg c3]; exact dfl (by rw [e]; omega)
      · rw [if_neg c2]; exact dfl (by rw [e]; omega)
    · rw [if_neg c1]; exact dfl (by rw [e]; omega)
/-! spec_RestOk -/
theorem srestOk_eq (m a : Int) : spec_RestOk.f m a = some (decide (SOk m a)) := by
  unfold spec_RestOk.f
  rw [snumOk_eq, sin_eq, sin_eq]
  simp only [Option.bind_some]
  by_cases c : m = 0
  · rw [if_pos c]; exact dcl ⟨fun h => Or.inl ⟨c, h⟩, fun h => h.zero c⟩
  · rw [if_neg c]
    have e : SOk m a ↔ (1 ≤ m ∧ m ≤ 65536 ∧ 0 ≤ a ∧ a < m) := by
      unfold SOk; constructor
      · intro h; rcases h with h | h
        · exact absurd h.1 c
        · exact h.2
      · intro h; exact Or.inr ⟨c, h⟩
    by_cases c1 : 1 ≤ m ∧ m ≤ 65536
    · simp only [c1, decide_true, if_true, and_self]
      rw [wrap64_id (by omega) (by omega)]; exact dcl (by rw [e]; omega)
    · simp only [c1, decide_false, Bool.false_eq_true, if_false]; exact dfl (by rw [e]; omega)
/-! spec_l9All -/
theorem srestAll_eq : spec_l9All.f = some (1, 0) := rfl
/-! impl_restMod -/
theorem restMod_eq {n m : Int} (hm : 0 < m) (h : m ≤ 9223372036854775807) : impl_restMod.f n m = some (n % m) := mod_eq hm h
/-! impl_restGcd -/
theorem tmod_gcd (g n : Int) : Int.gcd n (Int.tmod g n) = Int.gcd g n := by
  rw [Int.gcd_eq_natAbs_gcd_natAbs, Int.gcd_eq_natAbs_gcd_natAbs, Int.natAbs_tmod, Nat.gcd_comm g.natAbs, Nat.gcd_comm n.natAbs (g.natAbs % n.natAbs), ← Nat.gcd_rec]
theorem gcd_l1 {xs : List Int} {len i r : Int} (K : Nat) : ∀ (d k : Nat) (g n : Int), n.natAbs ≤ d → K + d + 1 ≤ k →
    (∀ (k' : Nat) (g' : Int), K ≤ k' → g'.natAbs = Int.gcd g n → impl_restGcd.l0 k' g' xs len (wrap64 (i + 1)) = some r) → impl_restGcd.l1 k g n xs len i = some r := by
  intro d
  induction d with
  | zero =>
    intro k g n hn hk h
    obtain ⟨k, rfl⟩ : ∃ m, k = m + 1 := ⟨k - 1, by omega⟩
    have : n = 0 := by omega
    subst this
    simp only [impl_restGcd.l1, if_true]
    exact h k g (by omega) (by simp)
  | succ d ih =>
    intro k g n hn hk h
    obtain ⟨k, rfl⟩ : ∃ m, k = m + 1 := ⟨k - 1, by omega⟩
    simp only [impl_restGcd.l1]
    by_cases c : n = 0
    · subst c
      rw [if_pos rfl]
      exact h k g (by omega) (by simp)
    · rw [if_neg c]
      have : (Int.tmod g n).natAbs < n.natAbs := by rw [Int.natAbs_tmod]; exact Nat.mod_lt _ (by omega)
      refine ih k n (Int.tmod g n) (by omega) (by omega) ?_
      rw [tmod_gcd]; exact fun k' g' => h k' g'
def gcds (g : Nat) (xs : List Int) : Nat := xs.foldl (fun g n => Nat.gcd g n.natAbs) g
theorem gcd_l0 (xs : List Int) (hx : ∀ x ∈ xs, x.natAbs ≤ 9223372036854775807) (hl : xs.length ≤ 1000) : ∀ (d k : Nat) (g i : Int), 0 ≤ i → i ≤ xs.length → ((xs.length : Int) - i = d) → d * 9223372036854775900 + 2 ≤ k → g.natAbs ≤ 9223372036854775807 →
    impl_restGcd.l0 k g xs (xs.length : Int) i = some ((gcds g.natAbs (xs.drop i.toNat) : Nat) : Int) := by
  intro d
  induction d with
  | zero =>
    intro k g i h0 h1 hd hk hg
    obtain ⟨k, rfl⟩ : ∃ m, k = m + 1 := ⟨k - 1, by omega⟩
    simp only [impl_restGcd.l0]
    rw [if_neg (by omega), List.drop_of_length_le (by omega)]
    simp only [gcds, List.foldl_nil]
    by_cases c : g < 0
    · rw [if_pos c, wrap64_id (by omega) (by omega)]; congr 1; omega
    · rw [if_neg c]; congr 1; omega
  | succ d ih =>
    intro k g i h0 h1 hd hk hg
    obtain ⟨k, rfl⟩ : ∃ m, k = m + 1 := ⟨k - 1, by omega⟩
    simp only [impl_restGcd.l0]
    rw [if_pos (by omega), if_pos h0, if_pos (by omega), drop_rd h0 (by omega)]
    have hm : rd xs i ∈ xs := by
      have := drop_rd (xs := xs) h0 (by omega)
      exact List.mem_of_mem_drop (by rw [this]; exact List.mem_cons_self ..)
    have hn := hx _ hm
    generalize rd xs i = n at *
    have e : (i + 1).toNat = i.toNat + 1 := by omega
    refine gcd_l1 (d * 9223372036854775900 + 2) n.natAbs k g n (Nat.le_refl _) (by omega) ?_
    intro k' g' hk' hg'
    have le : g'.natAbs ≤ 9223372036854775807 := by
      rw [hg', Int.gcd_eq_natAbs_gcd_natAbs]
      rcases Nat.eq_zero_or_pos g.natAbs with z | z
      · rw [z, Nat.gcd_zero_left]; exact hn
      · exact Nat.le_trans (Nat.gcd_le_left _ z) hg
    rw [wrap64_id (by omega) (by omega), ih k' g' (i + 1) (by omega) (by omega) (by omega) hk' le, e, hg']
    rfl
theorem restGcd_eq (k : Nat) (xs : List Int) (hk : xs.length * 9223372036854775900 + 2 ≤ k) (hx : ∀ x ∈ xs, x.natAbs ≤ 9223372036854775807) (hl : xs.length ≤ 1000) : impl_restGcd.f k xs = some ((gcds 0 xs : Nat) : Int) := by
  unfold impl_restGcd.f
  rw [gcd_l0 xs hx hl xs.length k 0 0 (by omega) (by omega) (by omega) hk (by decide)]
  simp
theorem restGcd2 (k : Nat) (hk : 100000000000000000000 ≤ k) {a b : Int} (ha : a.natAbs ≤ 9223372036854775807) (hb : b.natAbs ≤ 9223372036854775807) : impl_restGcd.f k [a, b] = some ((Int.gcd a b : Nat) : Int) := by
  rw [restGcd_eq k _ (by simp; omega) (by intro x hx; simp at hx; rcases hx with rfl | rfl <;> assumption) (by simp)]
  simp [gcds, Int.gcd_eq_natAbs_gcd_natAbs]
theorem restGcd3 (k : Nat) (hk : 100000000000000000000 ≤ k) {a b c : Int} (ha : a.natAbs ≤ 9223372036854775807) (hb : b.natAbs ≤ 9223372036854775807) (hc : c.natAbs ≤ 9223372036854775807) :
    impl_restGcd.f k [a, b, c] = some ((Int.gcd (Int.gcd a b : Int) c : Nat) : Int) := by
  rw [restGcd_eq k _ (by simp; omega) (by intro x hx; simp at hx; rcases hx with rfl | rfl | rfl <;> assumption) (by simp)]
  simp [gcds, Int.gcd_eq_natAbs_gcd_natAbs]
/-! impl_RestHas -/
theorem restHas_eq (k : Nat) (hk : 1 ≤ k) (m a v : Int) : impl_RestHas.f k m a v = some (decide (SHas m a v)) := by
  obtain ⟨k, rfl⟩ : ∃ m, k = m + 1 := ⟨k - 1, by omega⟩
  unfold impl_RestHas.f
  rw [restOk_eq, numOk_eq]
  simp only [Option.bind_some]
  by_cases c : SOk m a
  case neg => simp only [c, decide_false, Bool.false_eq_true, if_false, impl_RestHas.j0, if_true]; exact dfl (fun h => c h.1)
  by_cases c1 : NOk v
  case neg => simp only [c, c1, decide_true, decide_false, Bool.not_false, impl_RestHas.j0, if_true]; exact dfl (fun h => c1 h.2.1)
  simp only [c, c1, decide_true, if_true, Bool.not_true, impl_RestHas.j0, Bool.false_eq_true, if_false]
  by_cases c2 : m = 0
  · rw [if_pos c2]
    by_cases c3 : v = a
    · subst c3
      have : SHas m v v := ⟨c, c1, Or.inl ⟨c2, rfl⟩⟩
      simp only [this, decide_true, beq_self_eq_true]
    · have : ¬ SHas m a v := fun h => by rcases h.2.2 with h | h; exact c3 h.2; exact h.1 c2
      simp [c3, this]
  · have p := c.pos c2
    rw [if_neg c2, restMod_eq (by omega) (by omega)]
    simp only [Option.bind_some]
    by_cases c3 : v % m = a
    · have : SHas m a v := ⟨c, c1, Or.inr ⟨c2, c3⟩⟩
      simp only [this, decide_true, c3, beq_self_eq_true]
    · have : ¬ SHas m a v := fun h => by rcases h.2.2 with h | h; exact c2 h.1; exact c3 h.2
      simp [c3, this]
/-! spec_RestHas -/
theorem srestHas_eq (k : Nat) (hk : 1 ≤ k) (m a v : Int) : spec_RestHas.f k m a v = some (decide (SHas m a v)) := by
  obtain ⟨k, rfl⟩ : ∃ m, k = m + 1 := ⟨k - 1, by omega⟩
  unfold spec_RestHas.f
  rw [srestOk_eq, snumOk_eq]
  simp only [Option.bind_some]
  by_cases c : SOk m a
  case neg => simp only [c, decide_false, Bool.false_eq_true, if_false, spec_RestHas.j0, if_true]; exact dfl (fun h => c h.1)
  by_cases c1 : NOk v
  case neg => simp only [c, c1, decide_true, decide_false, Bool.not_false, spec_RestHas.j0, if_true]; exact dfl (fun h => c1 h.2.1)
  simp only [c, c1, decide_true, if_true, Bool.not_true, spec_RestHas.j0, Bool.false_eq_true, if_false]
  by_cases c2 : m = 0
  · rw [if_pos c2]
    by_cases c3 : v = a
    · subst c3
      have : SHas m v v := ⟨c, c1, Or.inl ⟨c2, rfl⟩⟩
      simp only [this, decide_true, beq_self_eq_true]
    · have : ¬ SHas m a v := fun h => by rcases h.2.2 with h | h; exact c3 h.2; exact h.1 c2
      simp [c3, this]
  · have p := c.pos c2
    rw [if_neg c2, mod_eq (by omega) (by omega)]
    simp only [Option.bind_some]
    by_cases c3 : v % m = a
    · have : SHas m a v := ⟨c, c1, Or.inr ⟨c2, c3⟩⟩
      simp only [this, decide_true, c3, beq_self_eq_true]
    · have : ¬ SHas m a v := fun h => by rcases h.2.2 with h | h; exact c2 h.1; exact c3 h.2
      simp [c3, this]
/-! impl_RestIn -/
theorem restIn_eq (k : Nat) (hk : 1 ≤ k) (m a m' a' : Int) : impl_RestIn.f k m a m' a' = some (decide (SIn m a m' a')) := by
  obtain ⟨k, rfl⟩ : ∃ m, k = m + 1 := ⟨k - 1, by omega⟩
  unfold impl_RestIn.f
  rw [restOk_eq, restOk_eq]
  simp only [Option.bind_some]
  by_cases c : SOk m a
  case neg => simp only [c, decide_false, Bool.false_eq_true, if_false, impl_RestIn.j0, if_true]; exact dfl (fun h => c h.1)
  by_cases c1 : SOk m' a'
  case neg => simp only [c, c1, decide_true, decide_false, Bool.not_false, impl_RestIn.j0, if_true]; exact dfl (fun h => c1 h.2.1)
  simp only [c, c1, decide_true, if_true, Bool.not_true, impl_RestIn.j0, Bool.false_eq_true, if_false]
  by_cases c2 : m' = 0
  · rw [if_pos c2]
    have e : SIn m a m' a' ↔ m = m' ∧ a = a' := ⟨fun h => by rcases h.2.2 with h | h; exact h.2; exact absurd c2 h.1, fun h => ⟨c, c1, Or.inl ⟨c2, h⟩⟩⟩
    have : (m == m' && a == a') = decide (SIn m a m' a') := by
      rw [Bool.eq_iff_iff]; simp [e]
    rw [this]
  · have p := c1.pos c2
    have q := c.nok
    rw [if_neg c2, restMod_eq (by omega) (by omega), Int.tmod_eq_emod_of_nonneg (by omega)]
    simp only [Option.bind_some]
    have e : SIn m a m' a' ↔ m % m' = 0 ∧ a % m' = a' := ⟨fun h => by rcases h.2.2 with h | h; exact absurd h.1 c2; exact h.2, fun h => ⟨c, c1, Or.inr ⟨c2, h⟩⟩⟩
    by_cases c3 : m % m' = 0
    · rw [if_pos c3]
      have : (a % m' == a') = decide (SIn m a m' a') := by
        rw [Bool.eq_iff_iff]; simp [e, c3]
      rw [this]
    · rw [if_neg c3]; exact dfl (fun h => c3 (e.mp h).1)
/-! impl_RestMeet -/
theorem meet_l0 {p m a m' a' x : Int} (hm : 1 ≤ m) (hm1 : m ≤ 65536) (hm' : 1 ≤ m') (hm1' : m' ≤ 65536) (hx : Both m a m' a' x) (hp : (Int.lcm m m' : Int) ≤ 65536) : ∀ (d k : Nat) (at' : Int), 0 ≤ at' → at' ≤ x → at' % m = a → (x - at').toNat ≤ d → d < k →
    impl_RestMeet.l0 k p at' m a m' a' = some (p, x, true) := by
  intro d
  induction d with
  | zero =>
    intro k y h0 h1 h2 hd hk
    obtain ⟨k, rfl⟩ : ∃ m, k = m + 1 := ⟨k - 1, by omega⟩
    have : y = x := by omega
    subst this
    simp only [impl_RestMeet.l0]
    rw [restMod_eq (by omega) (by omega), hx.2.2.2]
    simp
  | succ d ih =>
    intro k y h0 h1 h2 hd hk
    obtain ⟨k, rfl⟩ : ∃ m, k = m + 1 := ⟨k - 1, by omega⟩
    simp only [impl_RestMeet.l0]
    rw [restMod_eq (by omega) (by omega)]
    simp only [Option.bind_some]
    have hx1 := hx.2.1
    by_cases c : y % m' = a'
    · rw [if_pos c, both_unique (⟨h0, by omega, h2, c⟩ : Both m a m' a' y) hx]
    · rw [if_neg c, wrap64_id (by omega) (by omega)]
      have ne : y ≠ x := fun e => c (by rw [e]; exact hx.2.2.2)
      have d1 : m ∣ x - y := Int.dvd_of_emod_eq_zero ((Int.emod_eq_emod_iff_emod_sub_eq_zero).mp (hx.2.2.1.trans h2.symm))
      have le := Int.le_of_dvd (by omega) d1
      exact ih k (y + m) (by omega) (by omega) (by rw [Int.add_emod_right]; exact h2) (by omega) (by omega)
theorem lcm_div {m m' : Int} (hm : 1 ≤ m) (hm' : 1 ≤ m') : Int.tdiv m (Int.gcd m m' : Int) * m' = (Int.lcm m m' : Int) := by
  have g := Int.gcd_pos_of_ne_zero_left (a := m) m' (by omega)
  have d : (Int.gcd m m' : Int) ∣ m := Int.gcd_dvd_left _ _
  rw [Int.tdiv_eq_ediv_of_nonneg (by omega)]
  obtain ⟨t, ht⟩ := d
  have e : m / (Int.gcd m m' : Int) = t := by
    have e6 : (Int.gcd m m' : Int) ≠ 0 := by clear ht; omega
    exact Int.ediv_eq_of_eq_mul_right e6 ht
  rw [e, Int.lcm_eq_mul_div]
  have nm : (m.natAbs : Int) = m := by omega
  have nm' : (m'.natAbs : Int) = m' := by omega
  push_cast
  rw [nm, nm']
  have e5 : m * m' = (Int.gcd m m' : Int) * (t * m') := by rw [← Int.mul_assoc, ← ht]
  have e6 : (Int.gcd m m' : Int) ≠ 0 := by omega
  rw [e5, Int.mul_ediv_cancel_left _ e6]
theorem lcm_small {m m' : Int} (hm : 1 ≤ m) (hm1 : m ≤ 65536) (hm' : 1 ≤ m') (hm1' : m' ≤ 65536) : Int.tdiv m (Int.gcd m m' : Int) ≤ 65536 ∧ 0 ≤ Int.tdiv m (Int.gcd m m' : Int) ∧ (Int.lcm m m' : Int) ≤ 4294967296 := by
  have g := Int.gcd_pos_of_ne_zero_left (a := m) m' (by omega)
  have l := Int.lcm_le_natAbs_mul (a := m) (b := m') (by omega) (by omega)
  have : m.natAbs * m'.natAbs ≤ 65536 * 65536 := Nat.mul_le_mul (by omega) (by omega)
  refine ⟨?_, tdiv_nonneg (by omega) (by omega), by omega⟩
  have := tdiv_le (a := m) (b := (Int.gcd m m' : Int)) (by omega) (by omega)
  omega
theorem restMeet_eq (k : Nat) (hk : 200000000000000000000 ≤ k) (m a m' a' : Int) : impl_RestMeet.f k m a m' a' = some (SMeet m a m' a') := by
  obtain ⟨k, rfl⟩ : ∃ m, k = m + 3 := ⟨k - 3, by omega⟩
  unfold impl_RestMeet.f SMeet
  rw [restOk_eq, restOk_eq]
  simp only [Option.bind_some]
  by_cases c : SOk m a
  case neg => simp [c, impl_RestMeet.j0]
  by_cases c1 : SOk m' a'
  case neg => simp [c, c1, impl_RestMeet.j0]
  simp only [c, c1, decide_true, if_true, Bool.not_true, impl_RestMeet.j0, Bool.false_eq_true, if_false, not_true, or_self]
  rw [restHas_eq _ (by omega), restHas_eq _ (by omega)]
  simp only [Option.bind_some, decide_eq_true_eq]
  by_cases c2 : m = 0
  · rw [if_pos c2, if_pos c2]; split <;> rfl
  rw [if_neg c2, if_neg c2]
  by_cases c3 : m' = 0
  · rw [if_pos c3, if_pos c3]; split <;> rfl
  rw [if_neg c3, if_neg c3]
  have p := c.pos c2
  have p' := c1.pos c3
  have g := Int.gcd_pos_of_ne_zero_left (a := m) m' (by omega)
  have gl := Int.gcd_le_left (a := m) m' (by omega)
  rw [restGcd2 _ (by omega) (by omega) (by omega)]
  simp only [Option.bind_some]
  rw [if_neg (by omega), wrap64_id (x := a - a') (by omega) (by omega)]
  have tm : Int.tmod (a - a') (Int.gcd m m' : Int) = 0 ↔ (a - a') % (Int.gcd m m' : Int) = 0 := by
    rw [← Int.dvd_iff_tmod_eq_zero, Int.dvd_iff_emod_eq_zero]
  by_cases c4 : (a - a') % (Int.gcd m m' : Int) = 0
  case neg => rw [if_neg (fun h => c4 (tm.mp h)), if_pos c4]
  rw [if_pos (tm.mpr c4), if_neg (fun h => h c4 : ¬ ¬ (a - a') % (Int.gcd m m' : Int) = 0)]
  have dv : (Int.gcd m m' : Int) ∣ a - a' := Int.dvd_of_emod_eq_zero c4
  obtain ⟨x, hx⟩ := both_exists p.1 p'.1 p.2.2.1 p.2.2.2 p'.2.2.1 p'.2.2.2 dv
  have J : ∀ (M A M' A' : Int), 1 ≤ M → M ≤ 65536 → 1 ≤ M' → M' ≤ 65536 → 0 ≤ A → A < M → (Int.gcd M M' = Int.gcd m m') → (Int.lcm M M' = Int.lcm m m') → Both M A M' A' x →
      impl_RestMeet.j1 (k + 2) (Int.gcd m m' : Int) M A M' A' = some (if (Int.lcm m m' : Int) > 65536 then (M, A, true) else ((Int.lcm m m' : Int), x, true)) := by
    intro M A M' A' h1 h2 h3 h4 h5 h6 hg hl hb
    have ls := lcm_small h1 h2 h3 h4
    have ld := lcm_div h1 h3
    rw [hg] at ls ld
    rw [hl] at ls ld
    simp only [impl_RestMeet.j1]
    rw [if_neg (by omega), wrap64_id (x := Int.tdiv M (Int.gcd m m' : Int)) (by omega) (by omega), ld, wrap64_id (by omega) (by omega)]
    by_cases cl : (Int.lcm m m' : Int) > 65536
    · rw [if_pos cl, if_pos cl]
    · rw [if_neg cl, if_neg cl]
      have e : A % M = A := Int.emod_eq_of_lt h5 h6
      have le : A ≤ x := by
        have := hb.2.2.1
        have d1 := Int.mul_ediv_add_emod x M
        have d2 := Int.ediv_nonneg hb.1 (show 0 ≤ M by omega)
        have d3 : 0 ≤ M * (x / M) := Int.mul_nonneg (by omega) d2
        omega
      have hx1 := hb.2.1
      rw [hl] at hx1
      exact meet_l0 h1 h2 h3 h4 hb (by rw [hl]; omega) (x - A).toNat (k + 1) A h5 le e (by omega) (by omega)
  by_cases c5 : m' > m
  · rw [if_pos c5, J m' a' m a p'.1 p'.2.1 p.1 p.2.1 p'.2.2.1 p'.2.2.2 (Int.gcd_comm _ _) (Int.lcm_comm _ _) (both_swap hx), bothOf_eq hx]
    by_cases cl : (Int.lcm m m' : Int) > 65536
    · rw [if_pos cl, if_pos cl, if_pos c5]
    · rw [if_neg cl, if_neg cl]
  · rw [if_neg c5, J m a m' a' p.1 p.2.1 p'.1 p'.2.1 p.2.2.1 p.2.2.2 rfl rfl hx, bothOf_eq hx]
    by_cases cl : (Int.lcm m m' : Int) > 65536
    · rw [if_pos cl, if_pos cl, if_neg c5]
    · rw [if_neg cl, if_neg cl]
/-! spec_l9Gcd -/
theorem sgcd_l0 : ∀ (d k : Nat) (a b : Int), 0 ≤ a → 0 ≤ b → b.toNat ≤ d → d < k → spec_l9Gcd.l0 k a b = some ((Int.gcd a b : Nat) : Int) := by
  intro d
  induction d with
  | zero =>
    intro k a b h0 h1 hd hk
    obtain ⟨k, rfl⟩ : ∃ m, k = m + 1 := ⟨k - 1, by omega⟩
    have : b = 0 := by omega
    subst this
    simp only [spec_l9Gcd.l0, if_true, Int.gcd_zero]; congr 1; omega
  | succ d ih =>
    intro k a b h0 h1 hd hk
    obtain ⟨k, rfl⟩ : ∃ m, k = m + 1 := ⟨k - 1, by omega⟩
    simp only [spec_l9Gcd.l0]
    by_cases c : b = 0
    · subst c
      rw [if_pos rfl, Int.gcd_zero]; congr 1; omega
    · rw [if_neg c]
      have t0 := tmod_nonneg (b := b) h0
      have t1 := tmod_lt (a := a) (b := b) (by omega)
      rw [ih k b (Int.tmod a b) h1 t0 (by omega) (by omega)]
      congr 2
      rw [Int.gcd_eq_natAbs_gcd_natAbs, Int.gcd_eq_natAbs_gcd_natAbs, Int.natAbs_tmod, Nat.gcd_comm a.natAbs, Nat.gcd_comm b.natAbs (a.natAbs % b.natAbs), ← Nat.gcd_rec]
theorem sgcd_eq (k : Nat) (hk : 100000000000000000000 ≤ k) {a b : Int} (ha : a.natAbs ≤ 9223372036854775807) (hb : b.natAbs ≤ 9223372036854775807) : spec_l9Gcd.f k a b = some ((Int.gcd a b : Nat) : Int) := by
  obtain ⟨k, rfl⟩ : ∃ m, k = m + 2 := ⟨k - 2, by omega⟩
  have L : ∀ x y : Int, 0 ≤ x → 0 ≤ y → y ≤ 9223372036854775807 → spec_l9Gcd.l0 k x y = some ((Int.gcd x y : Nat) : Int) := fun x y h h' h'' => sgcd_l0 y.toNat k x y h h' (Nat.le_refl _) (by omega)
  unfold spec_l9Gcd.f
  simp only [spec_l9Gcd.j0, spec_l9Gcd.j1]
  by_cases c : a < 0
  · rw [if_pos c, wrap64_id (x := -a) (by omega) (by omega)]
    by_cases c1 : b < 0
    · rw [if_pos c1, wrap64_id (by omega) (by omega), L _ _ (by omega) (by omega) (by omega)]; simp
    · rw [if_neg c1, L _ _ (by omega) (by omega) (by omega)]; simp
  · rw [if_neg c]
    by_cases c1 : b < 0
    · rw [if_pos c1, wrap64_id (by omega) (by omega), L _ _ (by omega) (by omega) (by omega)]; simp
    · rw [if_neg c1, L _ _ (by omega) (by omega) (by omega)]
/-! spec_RestMeet -/
theorem smeet_l0 {p m a m' a' x : Int} (hm : 1 ≤ m) (hm1 : m ≤ 65536) (hm' : 1 ≤ m') (hm1' : m' ≤ 65536) (hx : Both m a m' a' x) (hp : (Int.lcm m m' : Int) ≤ 65536) : ∀ (d k : Nat) (at' : Int), 0 ≤ at' → at' ≤ x → at' % m = a → (x - at').toNat ≤ d → d < k →
    spec_RestMeet.l0 k p at' m a m' a' = some (p, x, true) := by
  intro d
  induction d with
  | zero =>
    intro k y h0 h1 h2 hd hk
    obtain ⟨k, rfl⟩ : ∃ m, k = m + 1 := ⟨k - 1, by omega⟩
    have : y = x := by omega
    subst this
    simp only [spec_RestMeet.l0]
    rw [mod_eq (by omega) (by omega), hx.2.2.2]
    simp
  | succ d ih =>
    intro k y h0 h1 h2 hd hk
    obtain ⟨k, rfl⟩ : ∃ m, k = m + 1 := ⟨k - 1, by omega⟩
    simp only [spec_RestMeet.l0]
    rw [mod_eq (by omega) (by omega)]
    simp only [Option.bind_some]
    have hx1 := hx.2.1
    by_cases c : y % m' = a'
    · rw [if_pos c, both_unique (⟨h0, by omega, h2, c⟩ : Both m a m' a' y) hx]
    · rw [if_neg c, wrap64_id (by omega) (by omega)]
      have ne : y ≠ x := fun e => c (by rw [e]; exact hx.2.2.2)
      have d1 : m ∣ x - y := Int.dvd_of_emod_eq_zero ((Int.emod_eq_emod_iff_emod_sub_eq_zero).mp (hx.2.2.1.trans h2.symm))
      have le := Int.le_of_dvd (by omega) d1
      exact ih k (y + m) (by omega) (by omega) (by rw [Int.add_emod_right]; exact h2) (by omega) (by omega)
theorem slcm_div {m m' : Int} (hm : 1 ≤ m) (hm' : 1 ≤ m') : Int.tdiv m (Int.gcd m m' : Int) * m' = (Int.lcm m m' : Int) := by
  have g := Int.gcd_pos_of_ne_zero_left (a := m) m' (by omega)
  have d : (Int.gcd m m' : Int) ∣ m := Int.gcd_dvd_left _ _
  rw [Int.tdiv_eq_ediv_of_nonneg (by omega)]
  obtain ⟨t, ht⟩ := d
  have e : m / (Int.gcd m m' : Int) = t := by
    have e6 : (Int.gcd m m' : Int) ≠ 0 := by clear ht; omega
    exact Int.ediv_eq_of_eq_mul_right e6 ht
  rw [e, Int.lcm_eq_mul_div]
  have nm : (m.natAbs : Int) = m := by omega
  have nm' : (m'.natAbs : Int) = m' := by omega
  push_cast
  rw [nm, nm']
  have e5 : m * m' = (Int.gcd m m' : Int) * (t * m') := by rw [← Int.mul_assoc, ← ht]
  have e6 : (Int.gcd m m' : Int) ≠ 0 := by omega
  rw [e5, Int.mul_ediv_cancel_left _ e6]
theorem srestMeet_eq (k : Nat) (hk : 200000000000000000000 ≤ k) (m a m' a' : Int) : spec_RestMeet.f k m a m' a' = some (SMeet m a m' a') := by
  have main : ∀ (k : Nat), 150000000000000000000 ≤ k → ∀ m a m' a', (m = 0 ∨ m' ≠ 0) → spec_RestMeet.f k m a m' a' = some (SMeet m a m' a') := by
    intro k hk m a m' a' h
    obtain ⟨k, rfl⟩ : ∃ m, k = m + 2 := ⟨k - 2, by omega⟩
    unfold SMeet
    simp only [spec_RestMeet.f]
    rw [srestOk_eq, srestOk_eq]
    simp only [Option.bind_some]
    by_cases c : SOk m a
    case neg => simp [c, spec_RestMeet.j0]
    by_cases c1 : SOk m' a'
    case neg => simp [c, c1, spec_RestMeet.j0]
    simp only [c, c1, decide_true, if_true, Bool.not_true, spec_RestMeet.j0, Bool.false_eq_true, if_false, not_true, or_self]
    rw [srestHas_eq _ (by omega)]
    simp only [Option.bind_some, decide_eq_true_eq]
    by_cases c2 : m = 0
    · rw [if_pos c2, if_pos c2]; split <;> rfl
    rw [if_neg c2, if_neg c2]
    have c3 : ¬ m' = 0 := by rcases h with h | h; exact absurd h c2; exact h
    rw [if_neg c3, if_neg c3]
    have p := c.pos c2
    have p' := c1.pos c3
    have g := Int.gcd_pos_of_ne_zero_left (a := m) m' (by omega)
    have gl := Int.gcd_le_left (a := m) m' (by omega)
    rw [sgcd_eq _ (by omega) (by omega) (by omega)]
    simp only [Option.bind_some]
    rw [wrap64_id (x := a - a') (by omega) (by omega), mod_eq (by omega) (by omega)]
    simp only [Option.bind_some]
    by_cases c4 : (a - a') % (Int.gcd m m' : Int) = 0
    case neg => rw [if_neg c4, if_pos c4]
    rw [if_pos c4, if_neg (fun h => h c4 : ¬ ¬ (a - a') % (Int.gcd m m' : Int) = 0), if_neg (by omega : ¬ (Int.gcd m m' : Int) = 0)]
    obtain ⟨x, hx⟩ := both_exists p.1 p'.1 p.2.2.1 p.2.2.2 p'.2.2.1 p'.2.2.2 (Int.dvd_of_emod_eq_zero c4)
    have l := Int.lcm_le_natAbs_mul (a := m) (b := m') (by omega) (by omega)
    have l' : m.natAbs * m'.natAbs ≤ 65536 * 65536 := Nat.mul_le_mul (by omega) (by omega)
    have td := tdiv_le (a := m) (b := (Int.gcd m m' : Int)) (by omega) (by omega)
    have td0 := tdiv_nonneg (a := m) (b := (Int.gcd m m' : Int)) (by omega) (by omega)
    rw [wrap64_id (x := Int.tdiv m (Int.gcd m m' : Int)) (by omega) (by omega), slcm_div p.1 p'.1, wrap64_id (by omega) (by omega), bothOf_eq hx]
    by_cases cl : (Int.lcm m m' : Int) > 65536
    · rw [if_pos cl, if_pos cl]; split <;> rfl
    · rw [if_neg cl, if_neg cl]
      have e : a % m = a := Int.emod_eq_of_lt p.2.2.1 p.2.2.2
      have le : a ≤ x := by
        have := hx.2.2.1
        have d1 := Int.mul_ediv_add_emod x m
        have d2 := Int.ediv_nonneg hx.1 (show 0 ≤ m by omega)
        have d3 : 0 ≤ m * (x / m) := Int.mul_nonneg (by omega) d2
        omega
      have hx1 := hx.2.1
      exact smeet_l0 p.1 p.2.1 p'.1 p'.2.1 hx (by omega) (x - a).toNat _ a p.2.2.1 le e (by omega) (by omega)
  by_cases h : m = 0 ∨ m' ≠ 0
  · exact main k (by omega) m a m' a' h
  · have h1 : ¬ m = 0 := fun e => h (Or.inl e)
    have h2 : m' = 0 := Decidable.byContradiction fun e => h (Or.inr e)
    obtain ⟨k, rfl⟩ : ∃ m, k = m + 2 := ⟨k - 2, by omega⟩
    have sw := main k (by omega) m' a' m a (Or.inl h2)
    simp only [spec_RestMeet.f]
    rw [srestOk_eq, srestOk_eq]
    simp only [Option.bind_some]
    by_cases c : SOk m a
    case neg => unfold SMeet; simp [c, spec_RestMeet.j0]
    by_cases c1 : SOk m' a'
    case neg => unfold SMeet; simp [c, c1, spec_RestMeet.j0]
    simp only [c, c1, decide_true, if_true, Bool.not_true, spec_RestMeet.j0, Bool.false_eq_true, if_false, not_true, or_self]
    have e1 : SMeet m' a' m a = if SHas m a a' then (m', a', true) else (0, 0, false) := by
      unfold SMeet; rw [if_neg (by simp [c, c1]), if_pos h2]
    have e2 : SMeet m a m' a' = if SHas m a a' then (m', a', true) else (0, 0, false) := by
      unfold SMeet; rw [if_neg (by simp [c, c1]), if_neg h1, if_pos h2]
    rw [if_neg h1, if_pos h2, sw, e1, e2]
    rfl
/-! spec_l9Rest -/
theorem drawRest_tot (k : Nat) (hk : 42 ≤ k) {s : List Int} {p : Int} (hs : Bytes s) (h0 : 0 ≤ p) (h1 : p ≤ 10000000) :
    Tot (spec_l9Rest.f k s p) fun r => p < r.2.2 ∧ r.2.2 ≤ p + 10 ∧ SOk r.1 r.2.1 := by
  have go : ∀ {n q : Int}, 0 ≤ q → q ≤ 10001000 → Tot (spec_l1Rd_pick.f k s q n) fun r => r.2 = q + 1 ∧ 0 ≤ r.1 ∧ (1 ≤ n → r.1 < n) := fun a b => pick_tot k (by omega) hs a (by omega)
  unfold spec_l9Rest.f
  refine Tot.then (go h0 (by omega)) ?_
  rintro ⟨x, q⟩ ⟨hq, x0, x1⟩
  dsimp only at hq x0 x1 ⊢
  subst hq
  refine Tot.ite (fun _ => ?_) fun _ => Tot.ite (fun _ => ?_) fun _ => ?_
  · refine Tot.then (num_tot k hk hs (by omega) (by omega)) ?_
    rintro ⟨y, q⟩ ⟨hq, hq', y0, y1⟩
    dsimp only at hq hq' y0 y1 ⊢
    exact Tot.here ⟨by dsimp only; omega, by dsimp only; omega, Or.inl ⟨rfl, y0, y1⟩⟩
  · rw [srestAll_eq]
    exact Tot.here ⟨by dsimp only; omega, by dsimp only; omega, sok_all⟩
  · refine Tot.then (go (by omega) (by omega)) ?_
    rintro ⟨y, q⟩ ⟨hq, y0, y1⟩
    dsimp only at hq y0 y1 ⊢
    have y2 := y1 (by omega)
    refine Tot.ite (fun _ => ?_) fun _ => ?_
    · simp only [Option.bind_some]
      refine Tot.then (go (by omega) (by omega)) ?_
      rintro ⟨z, q'⟩ ⟨hr, z0, z1⟩
      dsimp only at hr z0 z1 ⊢
      have z2 := z1 (by omega)
      rw [if_pos z0, if_pos (by simp; omega)]
      refine Tot.then (go (by omega) (by omega)) ?_
      rintro ⟨u, q1⟩ ⟨ht, u0, u1⟩
      dsimp only at ht u0 u1 ⊢
      have u2 := u1 (by omega)
      refine Tot.then (go (by omega) (by omega)) ?_
      rintro ⟨v, q2⟩ ⟨hv, v0, v1⟩
      dsimp only at hv v0 v1 ⊢
      have v2 := v1 (by omega)
      rw [wrap64_id (x := u * 256) (by omega) (by omega), wrap64_id (x := u * 256 + v) (by omega) (by omega)]
      have tb : 1 ≤ rd [64, 4096, 65536, 65535, 32768, 60000] z ∧ rd [64, 4096, 65536, 65535, 32768, 60000] z ≤ 65536 := by
        have : z = 0 ∨ z = 1 ∨ z = 2 ∨ z = 3 ∨ z = 4 ∨ z = 5 := by omega
        rcases this with rfl | rfl | rfl | rfl | rfl | rfl <;> decide
      generalize rd [64, 4096, 65536, 65535, 32768, 60000] z = m at *
      rw [if_neg (by omega)]
      exact Tot.here ⟨by dsimp only; omega, by dsimp only; omega, Or.inr ⟨by dsimp only; omega, by dsimp only; omega, by dsimp only; omega, tmod_nonneg (by omega), tmod_lt (by omega)⟩⟩
    · refine Tot.then (go (by omega) (by omega)) ?_
      rintro ⟨u, q1⟩ ⟨ht, u0, u1⟩
      dsimp only at ht u0 u1 ⊢
      have u2 := u1 (by omega)
      refine Tot.then (go (by omega) (by omega)) ?_
      rintro ⟨v, q2⟩ ⟨hv, v0, v1⟩
      dsimp only at hv v0 v1 ⊢
      have v2 := v1 (by omega)
      rw [wrap64_id (x := u * 256) (by omega) (by omega), wrap64_id (x := u * 256 + v) (by omega) (by omega), wrap64_id (x := 1 + y) (by omega) (by omega), if_neg (by omega)]
      exact Tot.here ⟨by dsimp only; omega, by dsimp only; omega, Or.inr ⟨by dsimp only; omega, by dsimp only; omega, by dsimp only; omega, tmod_nonneg (by omega), tmod_lt (by omega)⟩⟩
/-! impl_valNone -/
theorem valNone_eq : impl_valNone.f = some (1, 0, 0, 0) := rfl
/-! impl_valOne -/
theorem valOne_eq (v : Int) : impl_valOne.f v = some (v, v, 0, v) := rfl
/-! spec_l10None -/
theorem svalNone_eq : spec_l10None.f = some (1, 0, 0, 0) := rfl
/-! spec_l10One -/
theorem svalOne_eq (v : Int) : spec_l10One.f v = some (v, v, 0, v) := rfl
/-! impl_ValMake -/
theorem valMake_eq (k : Nat) (hk : 1 ≤ k) (l h m a : Int) : impl_ValMake.f k l h m a = some (VMake l h m a) := by
  obtain ⟨k, rfl⟩ : ∃ m, k = m + 1 := ⟨k - 1, by omega⟩
  unfold impl_ValMake.f
  rw [rangeOk_eq, restOk_eq, rangeEmpty_eq]
  simp only [Option.bind_some]
  by_cases c : ¬ ROk l h ∨ ¬ SOk m a ∨ l > h
  · rw [VMake_none c]
    have N : impl_ValMake.j0 (k + 1) true l h m a = some (1, 0, 0, 0) := by simp only [impl_ValMake.j0, if_true, valNone_eq, Option.bind_some]
    by_cases c1 : ROk l h
    case neg => simp only [c1, decide_false, Bool.false_eq_true, if_false]; exact N
    by_cases c2 : SOk m a
    case neg => simp only [c1, c2, decide_true, decide_false, if_true, Bool.false_eq_true, if_false]; exact N
    have c3 : l > h := by
      rcases c with c | c | c
      · exact absurd c1 c
      · exact absurd c2 c
      · exact c
    simp only [c1, c2, c3, decide_true, if_true]; exact N
  have o : ROk l h := Decidable.byContradiction fun n => c (Or.inl n)
  have s : SOk m a := Decidable.byContradiction fun n => c (Or.inr (Or.inl n))
  have e : ¬ l > h := fun n => c (Or.inr (Or.inr n))
  have on := o.some e
  have sn := s.nok
  unfold NOk at on sn
  unfold VMake
  rw [if_neg c]
  simp only [o, s, e, decide_true, decide_false, if_true, impl_ValMake.j0, Bool.false_eq_true, if_false]
  rw [rangeHas_eq, valNone_eq]
  simp only [Option.bind_some, decide_eq_true_eq, valOne_eq]
  by_cases hm : m = 0
  · rw [if_pos hm, if_pos hm]; split <;> rfl
  rw [if_neg hm, if_neg hm]
  have p := s.pos hm
  rw [wrap64_id (x := a - l) (by omega) (by omega), wrap64_id (x := h - a) (by omega) (by omega), restMod_eq (by omega) (by omega), restMod_eq (by omega) (by omega)]
  simp only [Option.bind_some]
  have e1 := Int.emod_nonneg (a - l) hm
  have e2 := Int.emod_nonneg (h - a) hm
  have e3 := Int.emod_lt_of_pos (a - l) (b := m) (by omega)
  have e4 := Int.emod_lt_of_pos (h - a) (b := m) (by omega)
  rw [wrap64_id (x := l + (a - l) % m) (by omega) (by omega), wrap64_id (x := h - (h - a) % m) (by omega) (by omega)]
  split
  · rfl
  · split <;> rfl
/-! spec_ValMake -/
theorem svalMake_eq (k : Nat) (hk : 1 ≤ k) (l h m a : Int) : spec_ValMake.f k l h m a = some (VMake l h m a) := by
  obtain ⟨k, rfl⟩ : ∃ m, k = m + 1 := ⟨k - 1, by omega⟩
  unfold spec_ValMake.f
  rw [srangeOk_eq, srestOk_eq, snone_eq]
  simp only [Option.bind_some]
  by_cases c : ¬ ROk l h ∨ ¬ SOk m a ∨ l > h
  · rw [VMake_none c]
    have N : spec_ValMake.j0 (k + 1) true l h m a = some (1, 0, 0, 0) := by simp only [spec_ValMake.j0, if_true, svalNone_eq, Option.bind_some]
    by_cases c1 : ROk l h
    case neg => simp only [c1, decide_false, Bool.false_eq_true, if_false]; exact N
    by_cases c2 : SOk m a
    case neg => simp only [c1, c2, decide_true, decide_false, if_true, Bool.false_eq_true, if_false]; exact N
    have c3 : l > h := by
      rcases c with c | c | c
      · exact absurd c1 c
      · exact absurd c2 c
      · exact c
    have c4 := c1.none c3
    have c5 : (l == 1 && h == 0) = true := by simp [c4]
    simp only [c1, c2, c5, decide_true, if_true]; exact N
  have o : ROk l h := Decidable.byContradiction fun n => c (Or.inl n)
  have s : SOk m a := Decidable.byContradiction fun n => c (Or.inr (Or.inl n))
  have e : ¬ l > h := fun n => c (Or.inr (Or.inr n))
  have on := o.some e
  have sn := s.nok
  unfold NOk at on sn
  have c5 : (l == 1 && h == 0) = false := by
    rw [Bool.eq_false_iff]; simp only [ne_eq, Bool.and_eq_true, beq_iff_eq]; omega
  unfold VMake
  rw [if_neg c]
  simp only [o, s, c5, decide_true, decide_false, if_true, spec_ValMake.j0, Bool.false_eq_true, if_false]
  rw [srangeHas_eq, svalNone_eq]
  simp only [Option.bind_some, decide_eq_true_eq, svalOne_eq]
  by_cases hm : m = 0
  · rw [if_pos hm, if_pos hm]; split <;> rfl
  rw [if_neg hm, if_neg hm]
  have p := s.pos hm
  rw [wrap64_id (x := a - l) (by omega) (by omega), wrap64_id (x := h - a) (by omega) (by omega), mod_eq (by omega) (by omega), mod_eq (by omega) (by omega)]
  simp only [Option.bind_some]
  have e1 := Int.emod_nonneg (a - l) hm
  have e2 := Int.emod_nonneg (h - a) hm
  have e3 := Int.emod_lt_of_pos (a - l) (b := m) (by omega)
  have e4 := Int.emod_lt_of_pos (h - a) (b := m) (by omega)
  rw [wrap64_id (x := l + (a - l) % m) (by omega) (by omega), wrap64_id (x := h - (h - a) % m) (by omega) (by omega)]
  split
  · rfl
  · split <;> rfl
/-! impl_ValOk -/
theorem valOk_eq (k : Nat) (hk : 1 ≤ k) (l h m a : Int) : impl_ValOk.f k l h m a = some (decide (VOk l h m a)) := by
  unfold impl_ValOk.f impl_Val_span.f impl_Val_rest.f
  simp only [Option.bind_some]
  rw [valMake_eq k hk]
  simp only [Option.bind_some]
  congr 1
  rw [Bool.eq_iff_iff]
  simp only [Bool.and_eq_true, beq_iff_eq, decide_eq_true_eq]
  unfold VOk
  constructor
  · rintro ⟨a1, a2, a3, a4⟩; rw [Prod.ext_iff, Prod.ext_iff, Prod.ext_iff]; exact ⟨a1.symm, a2.symm, a3.symm, a4.symm⟩
  · intro e; rw [e]; exact ⟨rfl, rfl, rfl, rfl⟩
/-! spec_ValOk -/
theorem svalOk_eq (k : Nat) (hk : 1 ≤ k) (l h m a : Int) : spec_ValOk.f k l h m a = some (decide (VOk l h m a)) := by
  unfold spec_ValOk.f
  rw [svalNone_eq, Option.bind_some]
  show (if (l == 1 && (h == 0 && (m == 0 && (a == 0)))) = true then some true else _) = _
  by_cases z : (l == 1 && (h == 0 && (m == 0 && (a == 0)))) = true
  · rw [if_pos z]
    simp only [Bool.and_eq_true, beq_iff_eq] at z
    obtain ⟨rfl, rfl, rfl, rfl⟩ := z
    rw [decide_eq_true vok_none]
  · rw [if_neg z]
    have no : (¬ ROk l h ∨ ¬ SOk m a ∨ l > h) → ¬ VOk l h m a := fun c q => by
      unfold VOk at q
      rw [VMake_none c, Prod.mk.injEq, Prod.mk.injEq, Prod.mk.injEq] at q
      obtain ⟨rfl, rfl, rfl, rfl⟩ := q
      exact z rfl
    show (spec_RangeOk.f l h).bind _ = _
    rw [srangeOk_eq, Option.bind_some]
    by_cases o : ROk l h
    · rw [decide_eq_true o, if_pos rfl]
      show (spec_RestOk.f m a).bind _ = _
      rw [srestOk_eq, Option.bind_some]
      by_cases s : SOk m a
      · rw [decide_eq_true s, if_pos rfl]
        show (spec_ValMake.f k l h m a).bind _ = _
        rw [svalMake_eq k hk, Option.bind_some]
        congr 1
        rw [Bool.eq_iff_iff]
        simp only [Bool.and_eq_true, beq_iff_eq, decide_eq_true_eq]
        unfold VOk
        constructor
        · rintro ⟨a1, a2, a3, a4⟩; rw [Prod.ext_iff, Prod.ext_iff, Prod.ext_iff]; exact ⟨a1.symm, a2.symm, a3.symm, a4.symm⟩
        · intro e; rw [e]; exact ⟨rfl, rfl, rfl, rfl⟩
      · rw [decide_eq_false s, if_neg (by decide), decide_eq_false (no (.inr (.inl s)))]
    · rw [decide_eq_false o, if_neg (by decide), decide_eq_false (no (.inl o))]
/-! impl_ValHas -/
theorem valHas_eq (k : Nat) (hk : 1 ≤ k) (l h m a v : Int) : impl_ValHas.f k l h m a v = some (decide (VHas l h m a v)) := by
  unfold impl_ValHas.f impl_Val_span.f impl_Val_rest.f
  rw [valOk_eq k hk]
  simp only [Option.bind_some]
  rw [rangeHas_eq, restHas_eq k hk]
  simp only [Option.bind_some]
  unfold VHas
  by_cases c1 : VOk l h m a <;> by_cases c2 : RHas l h v <;> simp [c1, c2]
/-! spec_NumCmp -/
theorem snumCmp_eq (c p q : Int) : spec_NumCmp.f c p q = some (decide (Cmp c p q)) := by
  unfold spec_NumCmp.f
  by_cases c1 : c = 1
  · rw [if_pos c1]; congr 1; rw [Bool.eq_iff_iff]; simp [Cmp, c1]
  rw [if_neg c1]
  by_cases c2 : c = 2
  · rw [if_pos c2]; congr 1; rw [Bool.eq_iff_iff]; simp [Cmp, c2]
  rw [if_neg c2]
  by_cases c3 : c = 3
  · rw [if_pos c3]; exact dcl (by unfold Cmp; omega)
  rw [if_neg c3]
  by_cases c4 : c = 4
  · rw [if_pos c4]; exact dcl (by unfold Cmp; omega)
  rw [if_neg c4]
  by_cases c5 : c = 5
  · rw [if_pos c5]; exact dcl (by unfold Cmp; omega)
  rw [if_neg c5]
  by_cases c6 : c = 6
  · rw [if_pos c6]; exact dcl (by unfold Cmp; omega)
  rw [if_neg c6]; exact dfl (by unfold Cmp; omega)
/-! impl_rangeWithout -/
theorem rangeWithout_eq (k : Nat) (hk : 1 ≤ k) {l h : Int} (l' h' : Int) (hl : NOk l) (hh : NOk h) : impl_rangeWithout.f k l h l' h' = some (RWithout l h l' h') := by
  obtain ⟨k, rfl⟩ : ∃ m, k = m + 1 := ⟨k - 1, by omega⟩
  unfold NOk at hl hh
  unfold impl_rangeWithout.f impl_Range_single.f RWithout
  simp only [Option.bind_some, beq_iff_eq]
  by_cases c : l' = h'
  · rw [if_pos c]
    simp only [impl_rangeWithout.j0, beq_iff_eq]
    by_cases c1 : l' = l
    · rw [if_pos c1, if_pos (⟨c, c1⟩ : l' = h' ∧ l' = l), wrap64_id (by omega) (by omega), rangeFrom_eq]; rfl
    · rw [if_neg c1, if_neg (fun x => c1 x.2 : ¬ (l' = h' ∧ l' = l))]
      unfold impl_Range_single.f
      simp only [Option.bind_some, beq_iff_eq]
      rw [if_pos c]
      by_cases c2 : l' = h
      · rw [if_pos c2, if_pos (⟨c, c2⟩ : l' = h' ∧ l' = h), wrap64_id (by omega) (by omega), rangeFrom_eq]; rfl
      · rw [if_neg c2, if_neg (fun x => c2 x.2 : ¬ (l' = h' ∧ l' = h))]
  · rw [if_neg c, if_neg (fun x => c x.1 : ¬ (l' = h' ∧ l' = l)), if_neg (fun x => c x.1 : ¬ (l' = h' ∧ l' = h))]
    simp only [impl_rangeWithout.j0, Bool.false_eq_true, if_false]
    unfold impl_Range_single.f
    simp only [Option.bind_some, beq_iff_eq]
    rw [if_neg c]
/-! impl_RangeCmp -/
theorem rcmp_j2 (k : Nat) (x y : Int × Int) : impl_RangeCmp.j2 (k + 2) x.1 x.2 y.1 y.2 = some (RNorm x y) := by
  simp only [impl_RangeCmp.j2, rangeEmpty_eq, Option.bind_some, decide_eq_true_eq]
  unfold RNorm
  by_cases c : x.1 > x.2
  · rw [if_pos c, if_pos (Or.inl c)]
    simp only [impl_RangeCmp.j3, if_true, rangeNone_eq, Option.bind_some]
  · rw [if_neg c]
    by_cases d : y.1 > y.2
    · rw [if_pos (Or.inr d)]
      simp only [d, decide_true, impl_RangeCmp.j3, if_true, rangeNone_eq, Option.bind_some]
    · rw [if_neg (by intro z; rcases z with z | z; exact c z; exact d z)]
      simp only [d, decide_false, impl_RangeCmp.j3, Bool.false_eq_true, if_false]
theorem rangeCmp_low (k : Nat) (hk : 6 ≤ k) {c : Int} (hc : c = 1 ∨ c = 2 ∨ c = 3 ∨ c = 4) (l h l' h' : Int) : impl_RangeCmp.f k c l h l' h' = some (RCmp c l h l' h') := by
  obtain ⟨k, rfl⟩ : ∃ m, k = m + 4 := ⟨k - 4, by omega⟩
  simp only [impl_RangeCmp.f]
  rw [rangeOk_eq, rangeOk_eq, rangeEmpty_eq, rangeEmpty_eq]
  simp only [Option.bind_some]
  have N : impl_RangeCmp.j0 (k + 3) c true l h l' h' = some (1, 0, 1, 0) := by simp only [impl_RangeCmp.j0, if_true, rangeNone_eq, Option.bind_some]
  by_cases z1 : ROk l h
  case neg => rw [RCmp_none (Or.inl z1)]; simp only [z1, decide_false, Bool.false_eq_true, if_false]; exact N
  by_cases z2 : ROk l' h'
  case neg => rw [RCmp_none (Or.inr (Or.inl z2))]; simp only [z1, z2, decide_true, decide_false, if_true, Bool.false_eq_true, if_false]; exact N
  by_cases z3 : l > h
  · rw [RCmp_none (Or.inr (Or.inr (Or.inl z3)))]; simp only [z1, z2, z3, decide_true, if_true]; exact N
  by_cases z4 : l' > h'
  · rw [RCmp_none (Or.inr (Or.inr (Or.inr z4)))]; simp only [z1, z2, z3, z4, decide_true, decide_false, Bool.false_eq_true, if_false, if_true]; exact N
  have x := z1.some z3
  have y := z2.some z4
  have x' := x
  have y' := y
  unfold NOk at x' y'
  rw [RCmp_low z1 z2 z3 z4 hc]
  simp only [z1, z2, z3, z4, decide_true, decide_false, Bool.false_eq_true, if_false, if_true, impl_RangeCmp.j0]
  unfold RCmp0
  by_cases c1 : c = 1
  · rw [if_pos c1, if_pos c1, rangeMeet_eq _ (by omega)]
    simp only [Option.bind_some]
    exact rcmp_j2 _ _ _
  rw [if_neg c1, if_neg c1]
  by_cases c2 : c = 2
  · rw [if_pos c2, if_pos c2, rangeWithout_eq _ (by omega) _ _ x.1 x.2.1, rangeWithout_eq _ (by omega) _ _ y.1 y.2.1]
    simp only [Option.bind_some]
    exact rcmp_j2 _ _ _
  rw [if_neg c2, if_neg c2]
  by_cases c3 : c = 3
  · rw [if_pos c3, if_pos c3, wrap64_id (x := h' - 1) (by omega) (by omega), wrap64_id (x := l + 1) (by omega) (by omega), mn_eq, mx_eq, rangeFrom_eq, rangeFrom_eq]
    simp only [Option.bind_some]
    exact rcmp_j2 _ _ _
  have c4 : c = 4 := by omega
  rw [if_neg c3, if_neg c3, if_pos c4, mn_eq, mx_eq, rangeFrom_eq, rangeFrom_eq]
  simp only [Option.bind_some]
  exact rcmp_j2 _ _ _
theorem cmpTurn_56 (k : Nat) (hk : 1 ≤ k) {c : Int} (hc : c = 5 ∨ c = 6) : impl_CmpTurn.f k c = some (c - 2) := by
  obtain ⟨k, rfl⟩ : ∃ m, k = m + 1 := ⟨k - 1, by omega⟩
  unfold impl_CmpTurn.f
  rcases hc with rfl | rfl <;> simp [impl_CmpTurn.j0]
theorem rangeCmp_eq (k : Nat) (hk : 20 ≤ k) (c l h l' h' : Int) : impl_RangeCmp.f k c l h l' h' = some (RCmp c l h l' h') := by
  by_cases hc : c = 1 ∨ c = 2 ∨ c = 3 ∨ c = 4
  · exact rangeCmp_low k (by omega) hc l h l' h'
  obtain ⟨k, rfl⟩ : ∃ m, k = m + 5 := ⟨k - 5, by omega⟩
  simp only [impl_RangeCmp.f]
  rw [rangeOk_eq, rangeOk_eq, rangeEmpty_eq, rangeEmpty_eq]
  simp only [Option.bind_some]
  have N : impl_RangeCmp.j0 (k + 4) c true l h l' h' = some (1, 0, 1, 0) := by simp only [impl_RangeCmp.j0, if_true, rangeNone_eq, Option.bind_some]
  by_cases z1 : ROk l h
  case neg => rw [RCmp_none (Or.inl z1)]; simp only [z1, decide_false, Bool.false_eq_true, if_false]; exact N
  by_cases z2 : ROk l' h'
  case neg => rw [RCmp_none (Or.inr (Or.inl z2))]; simp only [z1, z2, decide_true, decide_false, if_true, Bool.false_eq_true, if_false]; exact N
  by_cases z3 : l > h
  · rw [RCmp_none (Or.inr (Or.inr (Or.inl z3)))]; simp only [z1, z2, z3, decide_true, if_true]; exact N
  by_cases z4 : l' > h'
  · rw [RCmp_none (Or.inr (Or.inr (Or.inr z4)))]; simp only [z1, z2, z3, z4, decide_true, decide_false, Bool.false_eq_true, if_false, if_true]; exact N
  simp only [z1, z2, z3, z4, decide_true, decide_false, Bool.false_eq_true, if_false, if_true, impl_RangeCmp.j0]
  rw [if_neg (by omega : ¬ c = 1), if_neg (by omega : ¬ c = 2), if_neg (by omega : ¬ c = 3), if_neg (by omega : ¬ c = 4)]
  have swap : ∀ d : Int, d = 3 ∨ d = 4 → RCmp d l' h' l h = RNorm (RCmp0 d l' h' l h).1 (RCmp0 d l' h' l h).2 := by
    intro d hd
    exact RCmp_low z2 z1 z4 z3 (by omega)
  by_cases c5 : c = 5
  · subst c5
    rw [RCmp_5 z1 z2 z3 z4, if_pos rfl]
    simp only [impl_RangeCmp.j1, beq_self_eq_true, if_true]
    rw [cmpTurn_56 _ (by omega) (Or.inl rfl)]
    simp only [Option.bind_some]
    rw [rangeCmp_low _ (by omega) (by omega), swap _ (by omega)]
    simp only [Option.bind_some]
    have e := rcmp_j2 (k + 1) ((RNorm (RCmp0 3 l' h' l h).1 (RCmp0 3 l' h' l h).2).2.2.1, (RNorm (RCmp0 3 l' h' l h).1 (RCmp0 3 l' h' l h).2).2.2.2) ((RNorm (RCmp0 3 l' h' l h).1 (RCmp0 3 l' h' l h).2).1, (RNorm (RCmp0 3 l' h' l h).1 (RCmp0 3 l' h' l h).2).2.1)
    rw [RNorm_swap] at e
    exact e
  rw [if_neg c5]
  by_cases c6 : c = 6
  · subst c6
    rw [RCmp_6 z1 z2 z3 z4]
    simp only [impl_RangeCmp.j1, beq_self_eq_true, if_true]
    rw [cmpTurn_56 _ (by omega) (Or.inr rfl)]
    simp only [Option.bind_some]
    rw [rangeCmp_low _ (by omega) (by omega), swap _ (by omega)]
    simp only [Option.bind_some]
    have e := rcmp_j2 (k + 1) ((RNorm (RCmp0 4 l' h' l h).1 (RCmp0 4 l' h' l h).2).2.2.1, (RNorm (RCmp0 4 l' h' l h).1 (RCmp0 4 l' h' l h).2).2.2.2) ((RNorm (RCmp0 4 l' h' l h).1 (RCmp0 4 l' h' l h).2).1, (RNorm (RCmp0 4 l' h' l h).1 (RCmp0 4 l' h' l h).2).2.1)
    rw [RNorm_swap] at e
    exact e
  rw [RCmp_out hc c5 c6]
  have e6 : (c == 6) = false := by simpa using c6
  rw [e6]
  simp only [impl_RangeCmp.j1, Bool.false_eq_true, if_false, rangeNone_eq, Option.bind_some]
/-! spec_l8Ne -/
theorem sne_eq {l h : Int} (l' h' : Int) (hl : NOk l) (hh : NOk h) : spec_l8Ne.f l h l' h' = some (RWithout l h l' h') := by
  unfold NOk at hl hh
  unfold spec_l8Ne.f RWithout
  by_cases c : l' = h'
  · rw [if_pos c]
    by_cases c1 : l = l'
    · rw [if_pos c1, if_pos (⟨c, c1.symm⟩ : l' = h' ∧ l' = l), wrap64_id (by omega) (by omega), scut_eq]; rfl
    · rw [if_neg c1, if_neg (fun x => c1 x.2.symm : ¬ (l' = h' ∧ l' = l))]
      by_cases c2 : h = l'
      · rw [if_pos c2, if_pos (⟨c, c2.symm⟩ : l' = h' ∧ l' = h), wrap64_id (by omega) (by omega), scut_eq]; rfl
      · rw [if_neg c2, if_neg (fun x => c2 x.2.symm : ¬ (l' = h' ∧ l' = h))]
  · rw [if_neg c, if_neg (fun x => c x.1 : ¬ (l' = h' ∧ l' = l)), if_neg (fun x => c x.1 : ¬ (l' = h' ∧ l' = h))]
/-! spec_RangeCmp -/
theorem srcmp_j6 (k : Nat) (x y : Int × Int) (o : ROk x.1 x.2) (o' : ROk y.1 y.2) : spec_RangeCmp.j6 (k + 2) x.1 x.2 y.1 y.2 = some (RNorm x y) := by
  simp only [spec_RangeCmp.j6, snone_eq, Option.bind_some, Bool.and_eq_true, beq_iff_eq]
  unfold RNorm
  by_cases c : x.1 = 1 ∧ x.2 = 0
  · rw [if_pos c, if_pos (Or.inl (o.empty_iff.mpr c))]
    simp only [spec_RangeCmp.j7, if_true, snone_eq, Option.bind_some]
  · rw [if_neg c]
    have c' : ¬ x.1 > x.2 := fun e => c (o.empty_iff.mp e)
    by_cases d : y.1 = 1 ∧ y.2 = 0
    · rw [if_pos (Or.inr (o'.empty_iff.mpr d))]
      have e : (y.1 == 1 && y.2 == 0) = true := by simp [d]
      simp only [e, spec_RangeCmp.j7, if_true, snone_eq, Option.bind_some]
    · have d' : ¬ y.1 > y.2 := fun e => d (o'.empty_iff.mp e)
      rw [if_neg (by intro z; rcases z with z | z; exact c' z; exact d' z)]
      have e : (y.1 == 1 && y.2 == 0) = false := by rw [Bool.eq_false_iff]; simpa using d
      simp only [e, spec_RangeCmp.j7, Bool.false_eq_true, if_false]
theorem srcmp_j4 (k : Nat) {c : Int} (hc : c = 1 ∨ c = 2 ∨ c = 3 ∨ c = 4) (l h l' h' : Int) (x y : Int × Int) (o : ROk x.1 x.2) (o' : ROk y.1 y.2) : spec_RangeCmp.j4 (k + 4) c l h l' h' x.1 x.2 y.1 y.2 = some (RNorm x y) := by
  have e6 : (c == 6) = false := by rw [Bool.eq_false_iff]; simp; omega
  simp only [spec_RangeCmp.j4]
  rw [if_neg (by omega), e6]
  simp only [spec_RangeCmp.j5, Bool.false_eq_true, if_false]
  exact srcmp_j6 k x y o o'
theorem srangeCmp_low (k : Nat) (hk : 12 ≤ k) {c : Int} (hc : c = 1 ∨ c = 2 ∨ c = 3 ∨ c = 4) (l h l' h' : Int) : spec_RangeCmp.f k c l h l' h' = some (RCmp c l h l' h') := by
  obtain ⟨k, rfl⟩ : ∃ m, k = m + 9 := ⟨k - 9, by omega⟩
  simp only [spec_RangeCmp.f]
  rw [srangeOk_eq, srangeOk_eq, snone_eq]
  simp only [Option.bind_some, Bool.and_eq_true, beq_iff_eq]
  have N : spec_RangeCmp.j0 (k + 8) c true l h l' h' 1 0 1 0 = some (1, 0, 1, 0) := by simp only [spec_RangeCmp.j0, if_true]
  by_cases z1 : ROk l h
  case neg => rw [RCmp_none (Or.inl z1)]; simp only [z1, decide_false, Bool.false_eq_true, if_false]; exact N
  by_cases z2 : ROk l' h'
  case neg => rw [RCmp_none (Or.inr (Or.inl z2))]; simp only [z1, z2, decide_true, decide_false, if_true, Bool.false_eq_true, if_false]; exact N
  by_cases y3 : l = 1 ∧ h = 0
  · have z3 : l > h := z1.empty_iff.mpr y3
    rw [RCmp_none (Or.inr (Or.inr (Or.inl z3)))]; simp only [z1, z2, decide_true, if_true]; rw [if_pos y3]; exact N
  have z3 : ¬ l > h := fun e => y3 (z1.empty_iff.mp e)
  by_cases y4 : l' = 1 ∧ h' = 0
  · have z4 : l' > h' := z2.empty_iff.mpr y4
    have e : (l' == 1 && h' == 0) = true := by simp [y4]
    rw [RCmp_none (Or.inr (Or.inr (Or.inr z4)))]; simp only [z1, z2, decide_true, if_true]; rw [if_neg y3, e]; exact N
  have z4 : ¬ l' > h' := fun e => y4 (z2.empty_iff.mp e)
  have e : (l' == 1 && h' == 0) = false := by rw [Bool.eq_false_iff]; simpa using y4
  have x := z1.some z3
  have y := z2.some z4
  have x' := x
  have y' := y
  unfold NOk at x' y'
  rw [RCmp_low z1 z2 z3 z4 hc]
  simp only [z1, z2, decide_true, if_true]
  rw [if_neg y3, e]
  simp only [spec_RangeCmp.j0, Bool.false_eq_true, if_false]
  have ok := RCmp0_ok (c := c) z1 z2
  unfold RCmp0 at ok ⊢
  by_cases c1 : c = 1
  · simp only [if_pos c1] at ok ⊢
    rw [srangeMeet_eq _ (by omega)]
    simp only [Option.bind_some, spec_RangeCmp.j1]
    rw [if_neg (by omega)]
    simp only [spec_RangeCmp.j2]
    rw [if_neg (by omega)]
    simp only [spec_RangeCmp.j3]
    rw [if_neg (by omega)]
    exact srcmp_j4 _ hc _ _ _ _ _ _ ok.1 ok.2
  simp only [if_neg c1] at ok ⊢
  simp only [spec_RangeCmp.j1]
  by_cases c2 : c = 2
  · simp only [if_pos c2] at ok ⊢
    rw [sne_eq _ _ x.1 x.2.1, sne_eq _ _ y.1 y.2.1]
    simp only [Option.bind_some, spec_RangeCmp.j2]
    rw [if_neg (by omega)]
    simp only [spec_RangeCmp.j3]
    rw [if_neg (by omega)]
    exact srcmp_j4 _ hc _ _ _ _ _ _ ok.1 ok.2
  simp only [if_neg c2] at ok ⊢
  simp only [spec_RangeCmp.j2]
  by_cases c3 : c = 3
  · simp only [if_pos c3] at ok ⊢
    rw [wrap64_id (x := h' - 1) (by omega) (by omega), wrap64_id (x := l + 1) (by omega) (by omega), smin_eq, smax_eq]
    simp only [Option.bind_some]
    rw [scut_eq, scut_eq]
    simp only [Option.bind_some, spec_RangeCmp.j3]
    rw [if_neg (by omega)]
    exact srcmp_j4 _ hc _ _ _ _ _ _ ok.1 ok.2
  simp only [if_neg c3] at ok ⊢
  simp only [spec_RangeCmp.j3]
  rw [if_pos (by omega), smin_eq, smax_eq]
  simp only [Option.bind_some]
  rw [scut_eq, scut_eq]
  simp only [Option.bind_some]
  exact srcmp_j4 _ hc _ _ _ _ _ _ ok.1 ok.2
theorem srangeCmp_eq (k : Nat) (hk : 30 ≤ k) (c l h l' h' : Int) : spec_RangeCmp.f k c l h l' h' = some (RCmp c l h l' h') := by
  by_cases hc : c = 1 ∨ c = 2 ∨ c = 3 ∨ c = 4
  · exact srangeCmp_low k (by omega) hc l h l' h'
  obtain ⟨k, rfl⟩ : ∃ m, k = m + 9 := ⟨k - 9, by omega⟩
  simp only [spec_RangeCmp.f]
  rw [srangeOk_eq, srangeOk_eq, snone_eq]
  simp only [Option.bind_some, Bool.and_eq_true, beq_iff_eq]
  have N : spec_RangeCmp.j0 (k + 8) c true l h l' h' 1 0 1 0 = some (1, 0, 1, 0) := by simp only [spec_RangeCmp.j0, if_true]
  by_cases z1 : ROk l h
  case neg => rw [RCmp_none (Or.inl z1)]; simp only [z1, decide_false, Bool.false_eq_true, if_false]; exact N
  by_cases z2 : ROk l' h'
  case neg => rw [RCmp_none (Or.inr (Or.inl z2))]; simp only [z1, z2, decide_true, decide_false, if_true, Bool.false_eq_true, if_false]; exact N
  by_cases y3 : l = 1 ∧ h = 0
  · have z3 : l > h := z1.empty_iff.mpr y3
    rw [RCmp_none (Or.inr (Or.inr (Or.inl z3)))]; simp only [z1, z2, decide_true, if_true]; rw [if_pos y3]; exact N
  have z3 : ¬ l > h := fun e => y3 (z1.empty_iff.mp e)
  by_cases y4 : l' = 1 ∧ h' = 0
  · have z4 : l' > h' := z2.empty_iff.mpr y4
    have e : (l' == 1 && h' == 0) = true := by simp [y4]
    rw [RCmp_none (Or.inr (Or.inr (Or.inr z4)))]; simp only [z1, z2, decide_true, if_true]; rw [if_neg y3, e]; exact N
  have z4 : ¬ l' > h' := fun e => y4 (z2.empty_iff.mp e)
  have e : (l' == 1 && h' == 0) = false := by rw [Bool.eq_false_iff]; simpa using y4
  simp only [z1, z2, decide_true, if_true]
  rw [if_neg y3, e]
  simp only [spec_RangeCmp.j0, Bool.false_eq_true, if_false]
  rw [if_neg (by omega : ¬ c = 1)]
  simp only [spec_RangeCmp.j1]
  rw [if_neg (by omega : ¬ c = 2)]
  simp only [spec_RangeCmp.j2]
  rw [if_neg (by omega : ¬ c = 3)]
  simp only [spec_RangeCmp.j3]
  rw [if_neg (by omega : ¬ c = 4)]
  simp only [spec_RangeCmp.j4]
  have swap : ∀ d : Int, d = 3 ∨ d = 4 → RCmp d l' h' l h = RNorm (RCmp0 d l' h' l h).1 (RCmp0 d l' h' l h).2 := by
    intro d hd
    exact RCmp_low z2 z1 z4 z3 (by omega)
  have T : ∀ d : Int, d = 3 ∨ d = 4 → spec_RangeCmp.j6 (k + 2) (RCmp d l' h' l h).2.2.1 (RCmp d l' h' l h).2.2.2 (RCmp d l' h' l h).1 (RCmp d l' h' l h).2.1 = some (RNorm (RCmp0 d l' h' l h).2 (RCmp0 d l' h' l h).1) := by
    intro d hd
    have ok := RCmp_ok d l' h' l h
    have t := srcmp_j6 k ((RCmp d l' h' l h).2.2.1, (RCmp d l' h' l h).2.2.2) ((RCmp d l' h' l h).1, (RCmp d l' h' l h).2.1) ok.2 ok.1
    rw [swap d hd, RNorm_swap] at t
    rw [swap d hd]
    exact t
  by_cases c5 : c = 5
  · subst c5
    rw [RCmp_5 z1 z2 z3 z4, if_pos rfl]
    simp only [spec_RangeCmp.j5, if_true]
    have ct : spec_CmpTurn.f 5 = some 3 := by simp [spec_CmpTurn.f]
    rw [ct]
    simp only [Option.bind_some]
    rw [srangeCmp_low _ (by omega) (by omega)]
    simp only [Option.bind_some]
    exact T 3 (by omega)
  rw [if_neg c5]
  by_cases c6 : c = 6
  · subst c6
    rw [RCmp_6 z1 z2 z3 z4]
    simp only [spec_RangeCmp.j5, beq_self_eq_true, if_true]
    have ct : spec_CmpTurn.f 6 = some 4 := by simp [spec_CmpTurn.f]
    rw [ct]
    simp only [Option.bind_some]
    rw [srangeCmp_low _ (by omega) (by omega)]
    simp only [Option.bind_some]
    exact T 4 (by omega)
  rw [RCmp_out hc c5 c6]
  have e6 : (c == 6) = false := by simpa using c6
  rw [e6]
  simp only [spec_RangeCmp.j5, Bool.false_eq_true, if_false]
  have := srcmp_j6 (k + 1) (1, 0) (1, 0) rok_none rok_none
  exact this
/-! impl_Val_none -/
theorem valNone_q (a b c d : Int) : impl_Val_none.f a b c d = some (a == 1 && (b == 0 && (c == 0 && (d == 0)))) := rfl
/-! impl_ValIn impl_Val_none -/
/-- What is within. -/
def VIn (a b c d a' b' c' d' : Int) : Prop := VOk a b c d ∧ VOk a' b' c' d' ∧ (VN a b c d ∨ (¬ VN a' b' c' d' ∧ RIn a b a' b' ∧ SIn c d c' d'))
theorem valIn_tot {k : Nat} (hk : 10 ≤ k) (a b c d a' b' c' d' : Int) : Tot (impl_ValIn.f k a b c d a' b' c' d') fun r => r = true ↔ VIn a b c d a' b' c' d' := by
  obtain ⟨k, rfl⟩ : ∃ j, k = j + 1 := ⟨k - 1, by omega⟩
  have no : ¬ VIn a b c d a' b' c' d' → Tot (impl_ValIn.j0 (k + 1) true a b c d a' b' c' d') fun r => r = true ↔ VIn a b c d a' b' c' d' := fun h => by
    rw [impl_ValIn.j0, if_pos rfl]; exact Tot.here ⟨fun f => (nomatch f), fun q => absurd q h⟩
  unfold impl_ValIn.f
  rw [valOk_eq (k + 1) (by omega), Option.bind_some]
  by_cases o : VOk a b c d
  · rw [decide_eq_true o, if_pos rfl, valOk_eq (k + 1) (by omega), Option.bind_some]
    by_cases o' : VOk a' b' c' d'
    · rw [decide_eq_true o', impl_ValIn.j0, if_neg (by decide), valNone_q, Option.bind_some]
      refine Tot.ite (fun z => Tot.here ⟨fun _ => ⟨o, o', .inl ((vn_iff _ _ _ _).mp z)⟩, fun _ => rfl⟩) (fun z => ?_)
      have nz : ¬ VN a b c d := fun q => z ((vn_iff _ _ _ _).mpr q)
      rw [valNone_q, Option.bind_some]
      refine Tot.ite (fun y => Tot.here ⟨fun f => (nomatch f), fun q => q.2.2.elim (fun q => absurd q nz) (fun q => absurd ((vn_iff _ _ _ _).mp y) q.1)⟩) (fun y => ?_)
      have ny : ¬ VN a' b' c' d' := fun q => y ((vn_iff _ _ _ _).mpr q)
      show Tot ((impl_RangeIn.f a b a' b').bind _) _
      rw [rangeIn_eq, Option.bind_some]
      refine Tot.ite (fun x => ?_) (fun x => Tot.here ⟨fun f => (nomatch f), fun q => q.2.2.elim (fun q => absurd q nz) (fun q => absurd (decide_eq_true q.2.1) x)⟩)
      show Tot ((impl_RestIn.f k c d c' d').bind _) _
      rw [restIn_eq k (by omega), Option.bind_some]
      exact Tot.here (by rw [decide_eq_true_iff]; exact ⟨fun q => ⟨o, o', .inr ⟨ny, of_decide_eq_true x, q⟩⟩, fun q => q.2.2.elim (fun q => absurd q nz) (fun q => q.2.2)⟩)
    · rw [decide_eq_false o']; exact no fun q => o' q.2.1
  · rw [decide_eq_false o, if_neg (by decide)]; exact no fun q => o q.1
/-! spec_ValHas -/
theorem svalHas_tot {k : Nat} (hk : 10 ≤ k) (l h m a v : Int) : Tot (spec_ValHas.f k l h m a v) fun r => r = true ↔ VHas l h m a v := by
  unfold spec_ValHas.f
  rw [svalOk_eq k (by omega), Option.bind_some]
  by_cases o : VOk l h m a
  · rw [decide_eq_true o, if_pos rfl, svalNone_eq, Option.bind_some]
    have nn : (!(l == 1) || (!(h == 0) || (!(m == 0) || (!(a == 0))))) = true ↔ ¬ VN l h m a := by
      rw [← vn_iff]
      cases (l == 1) <;> cases (h == 0) <;> cases (m == 0) <;> cases (a == 0) <;> simp
    refine Tot.ite (fun y => ?_) (fun y => Tot.here ⟨fun f => (nomatch f), fun q => absurd (nn.mpr (fun z => by
      obtain ⟨rfl, rfl, rfl, rfl⟩ := z
      exact vhas_none v q)) y⟩)
    show Tot ((spec_RangeHas.f l h v).bind _) _
    rw [srangeHas_eq, Option.bind_some]
    refine Tot.ite (fun x => ?_) (fun x => Tot.here ⟨fun f => (nomatch f), fun q => absurd (decide_eq_true q.2.1) x⟩)
    show Tot ((spec_RestHas.f k m a v).bind _) _
    rw [srestHas_eq k (by omega), Option.bind_some]
    exact Tot.here (by rw [decide_eq_true_iff]; exact ⟨fun q => ⟨o, of_decide_eq_true x, q⟩, fun q => q.2.2⟩)
  · rw [decide_eq_false o, if_neg (by decide)]
    exact Tot.here ⟨fun f => (nomatch f), fun q => absurd q.1 o⟩
/-! impl_ValIn -/
instance (a b c d : Int) : Decidable (VN a b c d) := inferInstanceAs (Decidable (_ ∧ _))
theorem vn_b (a b c d : Int) : (a == 1 && (b == 0 && (c == 0 && (d == 0)))) = decide (VN a b c d) := by
  rw [Bool.eq_iff_iff, decide_eq_true_iff]; exact vn_iff a b c d
theorem vok_parts {a b c d : Int} (o : VOk a b c d) (n : ¬ VN a b c d) : ROk a b ∧ ¬ a > b ∧ SOk c d := by
  have h : ¬ (¬ ROk a b ∨ ¬ SOk c d ∨ a > b) := fun q => by
    unfold VOk at o
    rw [VMake_none q, Prod.mk.injEq, Prod.mk.injEq, Prod.mk.injEq] at o
    exact n ⟨o.1.symm, o.2.1.symm, o.2.2.1.symm, o.2.2.2.symm⟩
  exact ⟨Decidable.byContradiction fun q => h (.inl q), fun q => h (.inr (.inr q)), Decidable.byContradiction fun q => h (.inr (.inl q))⟩
theorem vin_refl {a b c d : Int} (o : VOk a b c d) : VIn a b c d a b c d := by
  refine ⟨o, o, ?_⟩
  by_cases n : VN a b c d
  · exact .inl n
  · obtain ⟨r, e, s⟩ := vok_parts o n
    exact .inr ⟨n, RIn.refl r, SIn.of_dvd s s (Int.dvd_refl _) ⟨0, by omega⟩⟩
theorem VIn.has {a b c d a' b' c' d' u : Int} (k : VIn a b c d a' b' c' d') (x : VHas a b c d u) : VHas a' b' c' d' u := by
  obtain ⟨o, o', k⟩ := k
  rcases k with k | ⟨_, r, s⟩
  · obtain ⟨rfl, rfl, rfl, rfl⟩ := k; exact absurd x (vhas_none u)
  · exact ⟨o', r.has x.2.1, s.has x.2.2⟩
theorem RIn.trans {a b c d e f : Int} (x : RIn a b c d) (y : RIn c d e f) : RIn a b e f := by
  obtain ⟨o, o1, x⟩ := x
  obtain ⟨o2, o3, y⟩ := y
  exact ⟨o, o3, by omega⟩
theorem vin_make {a b c d L H M Q : Int} (o : VOk a b c d) (n : ¬ VN a b c d) (r : RIn a b L H) (s : SIn c d M Q) :
    VIn a b c d (VMake L H M Q).1 (VMake L H M Q).2.1 (VMake L H M Q).2.2.1 (VMake L H M Q).2.2.2 := by
  obtain ⟨oa, e, oc⟩ := vok_parts o n
  have v : VMake a b c d = (a, b, c, d) := o
  have en := VMake_ends (l := a) (h := b) (m := c) (a := d) (by rw [v]; show a ≤ b; omega)
  rw [v] at en
  dsimp only at en
  obtain ⟨ha, hb⟩ := en
  have hA : RHas L H a ∧ SHas M Q a := ⟨r.has ha.1, s.has ha.2⟩
  have hB : RHas L H b ∧ SHas M Q b := ⟨r.has hb.1, s.has hb.2⟩
  refine ⟨o, VMake_ok _ _ _ _, .inr ?_⟩
  rcases VMake_cases L H M Q with ⟨e1, k⟩ | ⟨x, e1, nx, k⟩ | ⟨x, y, e1, hm, lt, lx, hy, nx, ny, sq, ex, ey, k⟩
  · exact absurd hA (k a)
  · rw [e1]
    have xa := (k a).mp hA
    have xb := (k b).mp hB
    have cd : c = 0 ∧ d = x := by
      rcases VMake_cases a b c d with ⟨e2, -⟩ | ⟨z, e2, -, -⟩ | ⟨z, y, e2, -, lt, -⟩
      · rw [v, Prod.mk.injEq, Prod.mk.injEq, Prod.mk.injEq] at e2
        exact absurd e2 n
      · rw [v, Prod.mk.injEq, Prod.mk.injEq, Prod.mk.injEq] at e2
        exact ⟨e2.2.2.1, by omega⟩
      · rw [v, Prod.mk.injEq, Prod.mk.injEq, Prod.mk.injEq] at e2
        omega
    obtain ⟨rfl, rfl⟩ := cd
    subst xa
    subst xb
    dsimp only
    exact ⟨fun q => by unfold VN at q; omega, RIn.refl oa, SIn.of_dvd oc oc (Int.dvd_refl _) ⟨0, by omega⟩⟩
  · rw [e1]
    have ka := (k a).mp hA
    have kb := (k b).mp hB
    exact ⟨fun q => by have h1 : x = 1 := q.1; have h2 : y = 0 := q.2.1; omega, ⟨oa, .inr ⟨nx, ny, by dsimp only; omega⟩, .inr ⟨ka.1, kb.2.1⟩⟩, s⟩
theorem make_in {L H M Q : Int} (n : ¬ VN (VMake L H M Q).1 (VMake L H M Q).2.1 (VMake L H M Q).2.2.1 (VMake L H M Q).2.2.2) :
    RIn (VMake L H M Q).1 (VMake L H M Q).2.1 L H ∧ SIn (VMake L H M Q).2.2.1 (VMake L H M Q).2.2.2 M Q := by
  rcases VMake_cases L H M Q with ⟨e1, k⟩ | ⟨x, e1, nx, k⟩ | ⟨x, y, e1, hm, lt, lx, hy, nx, ny, sq, ex, ey, k⟩
  · rw [e1] at n; exact absurd ⟨rfl, rfl, rfl, rfl⟩ n
  · rw [e1]
    have h := (k x).mpr rfl
    exact ⟨⟨.inr ⟨nx, nx, Int.le_refl _⟩, h.1.1, .inr ⟨h.1.2.1, h.1.2.2⟩⟩, SIn.of_dvd (.inl ⟨rfl, nx⟩) h.2.1 (Int.dvd_zero _) h.2.dvd⟩
  · rw [e1]
    have h := (k x).mpr ⟨Int.le_refl _, by omega, sq, nx, .inr ⟨hm, ex⟩⟩
    exact ⟨⟨.inr ⟨nx, ny, by dsimp only; omega⟩, h.1.1, .inr ⟨lx, hy⟩⟩, SIn.of_dvd sq sq (Int.dvd_refl _) ⟨0, by dsimp only; omega⟩⟩
/-! impl_ValMeet spec_ValMeet impl_ValIn -/
noncomputable def VMeet (a b c d a' b' c' d' : Int) : Int × Int × Int × Int :=
  if ¬ VOk a b c d ∨ ¬ VOk a' b' c' d' ∨ VN a b c d ∨ VN a' b' c' d' then (1, 0, 0, 0)
  else if (SMeet c d c' d').2.2 = true then VMake (RMeet a b a' b').1 (RMeet a b a' b').2 (SMeet c d c' d').1 (SMeet c d c' d').2.1 else (1, 0, 0, 0)
theorem vmeet_has {a b c d a' b' c' d' u : Int} (x : VHas a b c d u) (y : VHas a' b' c' d' u) : VHas (VMeet a b c d a' b' c' d').1 (VMeet a b c d a' b' c' d').2.1 (VMeet a b c d a' b' c' d').2.2.1 (VMeet a b c d a' b' c' d').2.2.2 u := by
  have z : ∀ {a b c d : Int}, VHas a b c d u → ¬ VN a b c d := fun x q => by
    obtain ⟨rfl, rfl, rfl, rfl⟩ := q; exact vhas_none u x
  unfold VMeet
  rw [if_neg (by simp [x.1, y.1, z x, z y])]
  by_cases s : (SMeet c d c' d').2.2 = true
  · rw [if_pos s]
    exact (VMake_has _ _ _ _ _).mpr ⟨(RMeet_has _ _ _ _ _).mpr ⟨x.2.1, y.2.1⟩, (SMeet_some s).2 u x.2.2 y.2.2⟩
  · exact absurd ⟨x.2.2, y.2.2⟩ (SMeet_none x.2.2.1 y.2.2.1 (by simpa using s) u)
theorem valMeet_eq (k : Nat) (hk : 200000000000000000001 ≤ k) (a b c d a' b' c' d' : Int) : impl_ValMeet.f k a b c d a' b' c' d' = some (VMeet a b c d a' b' c' d') := by
  obtain ⟨k, rfl⟩ : ∃ m, k = m + 1 := ⟨k - 1, by omega⟩
  have N : ¬ VOk a b c d ∨ ¬ VOk a' b' c' d' ∨ VN a b c d ∨ VN a' b' c' d' → impl_ValMeet.j0 (k + 1) true a b c d a' b' c' d' = some (VMeet a b c d a' b' c' d') := fun h => by
    rw [impl_ValMeet.j0, if_pos rfl, valNone_eq]
    unfold VMeet; rw [if_pos h]; rfl
  unfold impl_ValMeet.f
  rw [valOk_eq _ (by omega), Option.bind_some]
  by_cases o : VOk a b c d
  case neg => rw [decide_eq_false o, if_neg (by decide)]; exact N (.inl o)
  rw [decide_eq_true o, if_pos rfl, valOk_eq _ (by omega), Option.bind_some]
  by_cases o' : VOk a' b' c' d'
  case neg => rw [decide_eq_false o', if_neg (by decide)]; exact N (.inr (.inl o'))
  rw [decide_eq_true o', if_pos rfl, valNone_q, Option.bind_some, vn_b]
  by_cases z : VN a b c d
  · rw [decide_eq_true z, if_pos rfl]; exact N (.inr (.inr (.inl z)))
  rw [decide_eq_false z, if_neg (by decide), valNone_q, Option.bind_some, vn_b]
  by_cases z' : VN a' b' c' d'
  · rw [decide_eq_true z']; exact N (.inr (.inr (.inr z')))
  rw [decide_eq_false z', impl_ValMeet.j0, if_neg (by decide)]
  have e0 : ¬ (¬ VOk a b c d ∨ ¬ VOk a' b' c' d' ∨ VN a b c d ∨ VN a' b' c' d') := by simp [o, o', z, z']
  unfold VMeet
  rw [if_neg e0]
  show (impl_RestMeet.f k c d c' d').bind _ = _
  rw [restMeet_eq _ (by omega), Option.bind_some]
  by_cases s : (SMeet c d c' d').2.2 = true
  · rw [if_pos s, if_pos s]
    show (impl_RangeMeet.f k a b a' b').bind _ = _
    rw [rangeMeet_eq _ (by omega), Option.bind_some, valMake_eq _ (by omega)]
    rfl
  · rw [if_neg s, if_neg s, valNone_eq]; rfl
theorem svalMeet_eq (k : Nat) (hk : 200000000000000000001 ≤ k) (a b c d a' b' c' d' : Int) : spec_ValMeet.f k a b c d a' b' c' d' = some (VMeet a b c d a' b' c' d') := by
  obtain ⟨k, rfl⟩ : ∃ m, k = m + 1 := ⟨k - 1, by omega⟩
  have N : ¬ VOk a b c d ∨ ¬ VOk a' b' c' d' ∨ VN a b c d ∨ VN a' b' c' d' → spec_ValMeet.j0 (k + 1) true a b c d a' b' c' d' = some (VMeet a b c d a' b' c' d') := fun h => by
    rw [spec_ValMeet.j0, if_pos rfl, svalNone_eq]
    unfold VMeet; rw [if_pos h]; rfl
  unfold spec_ValMeet.f
  rw [svalOk_eq _ (by omega), Option.bind_some]
  by_cases o : VOk a b c d
  case neg => rw [decide_eq_false o, if_neg (by decide)]; exact N (.inl o)
  rw [decide_eq_true o, if_pos rfl, svalOk_eq _ (by omega), Option.bind_some]
  by_cases o' : VOk a' b' c' d'
  case neg => rw [decide_eq_false o', if_neg (by decide)]; exact N (.inr (.inl o'))
  rw [decide_eq_true o', if_pos rfl, svalNone_eq, Option.bind_some]
  dsimp only
  rw [vn_b]
  by_cases z : VN a b c d
  · rw [decide_eq_true z, if_pos rfl]; exact N (.inr (.inr (.inl z)))
  rw [decide_eq_false z, if_neg (by decide), Option.bind_some]
  dsimp only
  rw [vn_b]
  by_cases z' : VN a' b' c' d'
  · rw [decide_eq_true z']; exact N (.inr (.inr (.inr z')))
  rw [decide_eq_false z', spec_ValMeet.j0, if_neg (by decide)]
  have e0 : ¬ (¬ VOk a b c d ∨ ¬ VOk a' b' c' d' ∨ VN a b c d ∨ VN a' b' c' d') := by simp [o, o', z, z']
  unfold VMeet
  rw [if_neg e0]
  show (spec_RestMeet.f k c d c' d').bind _ = _
  rw [srestMeet_eq _ (by omega), Option.bind_some]
  by_cases s : (SMeet c d c' d').2.2 = true
  · rw [if_pos s, if_pos s]
    show (spec_RangeMeet.f k a b a' b').bind _ = _
    rw [srangeMeet_eq _ (by omega), Option.bind_some, svalMake_eq _ (by omega)]
    rfl
  · rw [if_neg s, if_neg s, svalNone_eq]; rfl
/-! laws_ofVal impl_ValIn -/
theorem ofVal_tot (k : Nat) (hk : 10 ≤ k) {x : List Int} (hx : Bytes x) (a b c d : Int) {i : Int} (h0 : 0 ≤ i) (h1 : i ≤ 1000) : Tot (laws_ofVal.f k a b c d x i) fun _ => True := by
  obtain ⟨k, rfl⟩ : ∃ m, k = m + 1 := ⟨k - 1, by omega⟩
  have J : Tot (laws_ofVal.j0 (k + 1) x i true a b c d) fun _ => True := by
    simp only [laws_ofVal.j0, if_true]
    exact Tot.then (at_tot hx h0 (by omega)) fun _ _ => Tot.here trivial
  unfold laws_ofVal.f
  rw [svalOk_eq _ (by omega), Option.bind_some]
  by_cases o : VOk a b c d
  case neg => rw [decide_eq_false o, if_neg (by decide)]; exact J
  rw [decide_eq_true o, if_pos rfl]
  by_cases e : a > b
  · rw [decide_eq_true e]; exact J
  rw [decide_eq_false e]
  simp only [laws_ofVal.j0, Bool.false_eq_true, if_false]
  have n : ¬ VN a b c d := fun q => by have := q.1; have := q.2.1; omega
  obtain ⟨ra, -, s⟩ := vok_parts o n
  have on := ra.some e
  unfold NOk at on
  refine Tot.ite (fun _ => Tot.here trivial) fun hc => ?_
  have p := s.pos hc
  rw [wrap64_id (x := i + 5) (by omega) (by omega)]
  refine Tot.then (at_tot hx (by omega) (by omega)) fun q hq => Tot.ite (fun _ => Tot.here trivial) fun _ => Tot.ite (fun _ => Tot.here trivial) fun _ => ?_
  refine Tot.then (wide_tot hx h0 (by omega)) fun v hv => ?_
  rw [wrap64_id (x := b - a) (by omega) (by omega)]
  have t0 : 0 ≤ Int.tdiv (b - a) c := Int.tdiv_nonneg (by omega) (by omega)
  have t1 : Int.tdiv (b - a) c ≤ b - a := Int.tdiv_le_self _ (by omega)
  rw [wrap64_id (x := Int.tdiv (b - a) c) (by omega) (by omega), wrap64_id (x := Int.tdiv (b - a) c + 1) (by omega) (by omega), if_neg (by omega)]
  exact Tot.here trivial
/-! spec_l10Val -/
theorem drawVal_tot (k : Nat) (hk : 50 ≤ k) {s : List Int} {p : Int} (hs : Bytes s) (h0 : 0 ≤ p) (h1 : p ≤ 1000000) : Tot (spec_l10Val.f k s p) fun r => p < r.2.2.2.2 ∧ r.2.2.2.2 ≤ p + 40 := by
  unfold spec_l10Val.f
  refine Tot.then (drawRange_tot k (by omega) hs h0 (by omega)) ?_
  rintro ⟨a, b, q⟩ ⟨hq, hq', -⟩
  dsimp only at hq hq' ⊢
  refine Tot.then (pick_tot k (by omega) hs (by omega) (by omega)) ?_
  rintro ⟨x, q1⟩ ⟨hr, -, -⟩
  dsimp only at hr ⊢
  refine Tot.ite (fun _ => ?_) fun _ => ?_
  · rw [srestAll_eq, Option.bind_some, svalMake_eq _ (by omega), Option.bind_some]
    exact Tot.here ⟨by dsimp only; omega, by dsimp only; omega⟩
  · refine Tot.then (drawRest_tot k (by omega) hs (by omega) (by omega)) ?_
    rintro ⟨m, c, q2⟩ ⟨ht, ht', -⟩
    dsimp only at ht ht' ⊢
    rw [svalMake_eq _ (by omega), Option.bind_some]
    exact Tot.here ⟨by dsimp only; omega, by dsimp only; omega⟩
/-! spec_l10Wild spec_l10Val -/
theorem drawWildV_tot (k : Nat) (hk : 60 ≤ k) {s : List Int} {p : Int} (hs : Bytes s) (h0 : 0 ≤ p) (h1 : p ≤ 100000) : Tot (spec_l10Wild.f k s p) fun r => p < r.2.2.2.2 ∧ r.2.2.2.2 ≤ p + 60 := by
  obtain ⟨k, rfl⟩ : ∃ m, k = m + 1 := ⟨k - 1, by omega⟩
  have J : ∀ (x q v0 v1 v2 v3 : Int), 0 ≤ q → q ≤ 200000 → Tot (spec_l10Wild.j0 (k + 1) x s q v0 v1 v2 v3) fun r => q ≤ r.2.2.2.2 ∧ r.2.2.2.2 ≤ q + 2 := by
    intro x q v0 v1 v2 v3 g0 g1
    simp only [spec_l10Wild.j0]
    refine Tot.ite (fun _ => ?_) fun _ => Tot.ite (fun _ => ?_) fun _ => Tot.here ⟨by dsimp only; omega, by dsimp only; omega⟩
    · refine Tot.then (pick_tot k (by omega) hs g0 (by omega)) ?_
      rintro ⟨y, q1⟩ ⟨hr, -, -⟩
      dsimp only at hr ⊢
      refine Tot.ite (fun _ => ?_) fun _ => Tot.here ⟨by dsimp only; omega, by dsimp only; omega⟩
      refine Tot.then (pick_tot k (by omega) hs (by omega) (by omega)) ?_
      rintro ⟨y', q2⟩ ⟨hr', -, -⟩
      dsimp only at hr' ⊢
      exact Tot.here ⟨by dsimp only; omega, by dsimp only; omega⟩
    · refine Tot.then (pick_tot k (by omega) hs g0 (by omega)) ?_
      rintro ⟨y, q1⟩ ⟨hr, -, -⟩
      dsimp only at hr ⊢
      exact Tot.here ⟨by dsimp only; omega, by dsimp only; omega⟩
  unfold spec_l10Wild.f
  refine Tot.then (drawVal_tot (k + 1) (by omega) hs h0 (by omega)) ?_
  rintro ⟨a, b, c, d, q⟩ ⟨hq, hq'⟩
  dsimp only at hq hq' ⊢
  refine Tot.then (pick_tot (k + 1) (by omega) hs (by omega) (by omega)) ?_
  rintro ⟨x, q1⟩ ⟨hr, -, -⟩
  dsimp only at hr ⊢
  refine Tot.ite (fun _ => ?_) fun _ => (J _ _ _ _ _ _ (by omega) (by omega)).mono fun r h => ⟨by omega, by omega⟩
  refine Tot.then (num_tot (k + 1) (by omega) hs (by omega) (by omega)) ?_
  rintro ⟨y, q2⟩ ⟨hy, hy', -, -⟩
  dsimp only at hy hy' ⊢
  exact (J _ _ _ _ _ _ (by omega) (by omega)).mono fun r h => ⟨by omega, by omega⟩
/-! spec_l10Two spec_l10Wild -/
theorem drawTwoV_tot (k : Nat) (hk : 100 ≤ k) {s : List Int} {p : Int} (hs : Bytes s) (h0 : 0 ≤ p) (h1 : p ≤ 10000) : Tot (spec_l10Two.f k s p) fun r => p < r.2.2.2.2.2.2.2.2 ∧ r.2.2.2.2.2.2.2.2 ≤ p + 200 := by
  obtain ⟨k, rfl⟩ : ∃ m, k = m + 3 := ⟨k - 3, by omega⟩
  have J2 : ∀ (t : Bool) (q v0 v1 v2 v3 u0 u1 u2 u3 : Int), 0 ≤ q → q ≤ 20000 → Tot (spec_l10Two.j2 (k + 1) t s q v0 v1 v2 v3 u0 u1 u2 u3) fun r => q ≤ r.2.2.2.2.2.2.2.2 ∧ r.2.2.2.2.2.2.2.2 ≤ q + 2 := by
    intro t q v0 v1 v2 v3 u0 u1 u2 u3 g0 g1
    simp only [spec_l10Two.j2]
    refine Tot.ite (fun _ => ?_) fun _ => Tot.here ⟨by dsimp only; omega, by dsimp only; omega⟩
    refine Tot.then (pick_tot k (by omega) hs g0 (by omega)) ?_
    rintro ⟨y, q1⟩ ⟨hr, -, -⟩
    dsimp only at hr ⊢
    refine Tot.then (pick_tot k (by omega) hs (by omega) (by omega)) ?_
    rintro ⟨y', q2⟩ ⟨hr', -, -⟩
    dsimp only at hr' ⊢
    rw [scut_eq, Option.bind_some]
    show Tot ((spec_ValMake.f k _ _ _ _).bind _) _
    rw [svalMake_eq _ (by omega), Option.bind_some]
    exact Tot.here ⟨by dsimp only; omega, by dsimp only; omega⟩
  have J1 : ∀ (q v0 v1 v2 v3 u0 u1 u2 u3 : Int), 0 ≤ q → q ≤ 15000 → Tot (spec_l10Two.j1 (k + 2) s q v0 v1 v2 v3 u0 u1 u2 u3) fun r => q ≤ r.2.2.2.2.2.2.2.2 ∧ r.2.2.2.2.2.2.2.2 ≤ q + 3 := by
    intro q v0 v1 v2 v3 u0 u1 u2 u3 g0 g1
    simp only [spec_l10Two.j1]
    refine Tot.then (pick_tot (k + 1) (by omega) hs g0 (by omega)) ?_
    rintro ⟨y, q1⟩ ⟨hr, -, -⟩
    dsimp only at hr ⊢
    have go : ∀ t, Tot (spec_l10Two.j2 (k + 1) t s q1 v0 v1 v2 v3 u0 u1 u2 u3) fun r => q ≤ r.2.2.2.2.2.2.2.2 ∧ r.2.2.2.2.2.2.2.2 ≤ q + 3 := fun t => (J2 t q1 v0 v1 v2 v3 u0 u1 u2 u3 (by omega) (by omega)).mono fun r h => ⟨by omega, by omega⟩
    refine Tot.ite (fun _ => ?_) fun _ => go _
    rw [svalOk_eq _ (by omega), Option.bind_some]
    refine Tot.ite (fun _ => ?_) fun _ => go _
    rw [svalNone_eq, Option.bind_some]
    exact go _
  have J0 : ∀ (t : Bool) (q v0 v1 v2 v3 u0 u1 u2 u3 : Int), 0 ≤ q → q ≤ 12000 → Tot (spec_l10Two.j0 (k + 3) t s q v0 v1 v2 v3 u0 u1 u2 u3) fun r => q ≤ r.2.2.2.2.2.2.2.2 ∧ r.2.2.2.2.2.2.2.2 ≤ q + 20 := by
    intro t q v0 v1 v2 v3 u0 u1 u2 u3 g0 g1
    simp only [spec_l10Two.j0]
    refine Tot.ite (fun _ => ?_) fun _ => (J1 _ _ _ _ _ _ _ _ _ (by omega) (by omega)).mono fun r h => ⟨by omega, by omega⟩
    refine Tot.then (pick_tot (k + 2) (by omega) hs g0 (by omega)) ?_
    rintro ⟨y, q1⟩ ⟨hr, -, -⟩
    dsimp only at hr ⊢
    refine Tot.then (pick_tot (k + 2) (by omega) hs (by omega) (by omega)) ?_
    rintro ⟨y', q2⟩ ⟨hr', -, -⟩
    dsimp only at hr' ⊢
    rw [scut_eq, Option.bind_some]
    refine Tot.then (drawRest_tot (k + 2) (by omega) hs (by omega) (by omega)) ?_
    rintro ⟨m, c, q3⟩ ⟨ht, ht', -⟩
    dsimp only at ht ht' ⊢
    rw [svalMake_eq _ (by omega), Option.bind_some]
    exact (J1 _ _ _ _ _ _ _ _ _ (by omega) (by omega)).mono fun r h => ⟨by omega, by omega⟩
  unfold spec_l10Two.f
  refine Tot.then (drawWildV_tot (k + 3) (by omega) hs h0 (by omega)) ?_
  rintro ⟨a, b, c, d, q⟩ ⟨hq, hq'⟩
  dsimp only at hq hq' ⊢
  refine Tot.then (drawWildV_tot (k + 3) (by omega) hs (by omega) (by omega)) ?_
  rintro ⟨a', b', c', d', q1⟩ ⟨hr, hr'⟩
  dsimp only at hr hr' ⊢
  refine Tot.then (pick_tot (k + 3) (by omega) hs (by omega) (by omega)) ?_
  rintro ⟨y, q2⟩ ⟨ht, -, -⟩
  dsimp only at ht ⊢
  have go : ∀ t, Tot (spec_l10Two.j0 (k + 3) t s q2 a b c d a' b' c' d') fun r => p < r.2.2.2.2.2.2.2.2 ∧ r.2.2.2.2.2.2.2.2 ≤ p + 200 := fun t => (J0 t q2 a b c d a' b' c' d' (by omega) (by omega)).mono fun r h => ⟨by omega, by omega⟩
  refine Tot.ite (fun _ => ?_) fun _ => go _
  rw [svalOk_eq _ (by omega), Option.bind_some]
  refine Tot.ite (fun _ => ?_) fun _ => go _
  rw [svalNone_eq, Option.bind_some]
  exact go _
/-! impl_ValCmp spec_ValCmp impl_ValMeet spec_ValMeet impl_ValIn -/
def VNorm (X Y : Int × Int × Int × Int) : Int × Int × Int × Int × Int × Int × Int × Int :=
  if VN X.1 X.2.1 X.2.2.1 X.2.2.2 ∨ VN Y.1 Y.2.1 Y.2.2.1 Y.2.2.2 then (1, 0, 0, 0, 1, 0, 0, 0) else (X.1, X.2.1, X.2.2.1, X.2.2.2, Y.1, Y.2.1, Y.2.2.1, Y.2.2.2)
noncomputable def VBoth (X Y : Int × Int × Int × Int) : Int × Int × Int × Int := VMeet X.1 X.2.1 X.2.2.1 X.2.2.2 Y.1 Y.2.1 Y.2.2.1 Y.2.2.2
noncomputable def VCmp (c a b m n a' b' m' n' : Int) : Int × Int × Int × Int × Int × Int × Int × Int :=
  if ¬ VOk a b m n ∨ ¬ VOk a' b' m' n' ∨ VN a b m n ∨ VN a' b' m' n' then (1, 0, 0, 0, 1, 0, 0, 0)
  else if c = 1 then VNorm (VBoth (VMake (RCmp c a b a' b').1 (RCmp c a b a' b').2.1 m n) (VMake (RCmp c a b a' b').2.2.1 (RCmp c a b a' b').2.2.2 m' n')) (VBoth (VMake (RCmp c a b a' b').1 (RCmp c a b a' b').2.1 m n) (VMake (RCmp c a b a' b').2.2.1 (RCmp c a b a' b').2.2.2 m' n'))
  else VNorm (VMake (RCmp c a b a' b').1 (RCmp c a b a' b').2.1 m n) (VMake (RCmp c a b a' b').2.2.1 (RCmp c a b a' b').2.2.2 m' n')
/-- A val and what is asked of it, in one. -/
def VO (X : Int × Int × Int × Int) : Prop := VOk X.1 X.2.1 X.2.2.1 X.2.2.2
def VE (X : Int × Int × Int × Int) : Prop := VN X.1 X.2.1 X.2.2.1 X.2.2.2
theorem VMeet_ok (a b m n a' b' m' n' : Int) : VO (VMeet a b m n a' b' m' n') := by
  unfold VMeet
  by_cases c : ¬ VOk a b m n ∨ ¬ VOk a' b' m' n' ∨ VN a b m n ∨ VN a' b' m' n'
  · rw [if_pos c]; exact vok_none
  rw [if_neg c]
  by_cases s : (SMeet m n m' n').2.2 = true
  · rw [if_pos s]; exact VMake_ok _ _ _ _
  · rw [if_neg s]; exact vok_none
theorem VMeet_in {a b m n a' b' m' n' : Int} (e : ¬ VE (VMeet a b m n a' b' m' n')) : RIn (VMeet a b m n a' b' m' n').1 (VMeet a b m n a' b' m' n').2.1 a b ∧ RIn (VMeet a b m n a' b' m' n').1 (VMeet a b m n a' b' m' n').2.1 a' b' := by
  unfold VMeet at e ⊢
  by_cases c : ¬ VOk a b m n ∨ ¬ VOk a' b' m' n' ∨ VN a b m n ∨ VN a' b' m' n'
  · rw [if_pos c] at e; exact absurd ⟨rfl, rfl, rfl, rfl⟩ e
  rw [if_neg c] at e ⊢
  have o : VOk a b m n := Decidable.byContradiction fun r => c (.inl r)
  have o' : VOk a' b' m' n' := Decidable.byContradiction fun r => c (.inr (.inl r))
  have z : ¬ VN a b m n := fun r => c (.inr (.inr (.inl r)))
  have z' : ¬ VN a' b' m' n' := fun r => c (.inr (.inr (.inr r)))
  by_cases s : (SMeet m n m' n').2.2 = true
  · rw [if_pos s] at e ⊢
    have i := (make_in e).1
    exact ⟨RIn.trans i (RIn_meet_left (vok_parts o z).1 (vok_parts o' z').1), RIn.trans i (RIn_meet_right (vok_parts o z).1 (vok_parts o' z').1)⟩
  · rw [if_neg s] at e; exact absurd ⟨rfl, rfl, rfl, rfl⟩ e
theorem norm_spec {X Y : Int × Int × Int × Int} {a b a' b' : Int} (oX : VO X) (oY : VO Y) (iX : ¬ VE X → RIn X.1 X.2.1 a b) (iY : ¬ VE Y → RIn Y.1 Y.2.1 a' b') :
    VO ((VNorm X Y).1, (VNorm X Y).2.1, (VNorm X Y).2.2.1, (VNorm X Y).2.2.2.1) ∧ VO (VNorm X Y).2.2.2.2 ∧ ((VNorm X Y).1 ≤ (VNorm X Y).2.1 → a ≤ (VNorm X Y).1 ∧ (VNorm X Y).2.1 ≤ b ∧ a' ≤ (VNorm X Y).2.2.2.2.1 ∧ (VNorm X Y).2.2.2.2.2.1 ≤ b') := by
  unfold VNorm
  by_cases c : VN X.1 X.2.1 X.2.2.1 X.2.2.2 ∨ VN Y.1 Y.2.1 Y.2.2.1 Y.2.2.2
  · rw [if_pos c]; exact ⟨vok_none, vok_none, fun h => absurd h (by decide)⟩
  rw [if_neg c]
  have eX : ¬ VE X := fun r => c (.inl r)
  have eY : ¬ VE Y := fun r => c (.inr r)
  refine ⟨oX, oY, fun h => ?_⟩
  have pY := (vok_parts oY eY).2.1
  have rX := (iX eX).2.2
  have rY := (iY eY).2.2
  dsimp only at h ⊢
  omega
theorem norm_has {X Y : Int × Int × Int × Int} {u v : Int} (x : VHas X.1 X.2.1 X.2.2.1 X.2.2.2 u) (y : VHas Y.1 Y.2.1 Y.2.2.1 Y.2.2.2 v) :
    VHas (VNorm X Y).1 (VNorm X Y).2.1 (VNorm X Y).2.2.1 (VNorm X Y).2.2.2.1 u ∧ VHas (VNorm X Y).2.2.2.2.1 (VNorm X Y).2.2.2.2.2.1 (VNorm X Y).2.2.2.2.2.2.1 (VNorm X Y).2.2.2.2.2.2.2 v := by
  have z : ∀ {a b c d u : Int}, VHas a b c d u → ¬ VN a b c d := fun x q => by
    obtain ⟨rfl, rfl, rfl, rfl⟩ := q; exact vhas_none _ x
  unfold VNorm
  rw [if_neg (fun q => q.elim (z x) (z y))]
  exact ⟨x, y⟩
theorem norm_in {X Y : Int × Int × Int × Int} {a b m n a' b' m' n' : Int} (oX : VO X) (oY : VO Y) (oA : VOk a b m n) (oB : VOk a' b' m' n') (zA : ¬ VN a b m n) (zB : ¬ VN a' b' m' n')
    (iX : ¬ VE X → RIn X.1 X.2.1 a b ∧ SIn X.2.2.1 X.2.2.2 m n) (iY : ¬ VE Y → RIn Y.1 Y.2.1 a' b' ∧ SIn Y.2.2.1 Y.2.2.2 m' n') :
    VIn (VNorm X Y).1 (VNorm X Y).2.1 (VNorm X Y).2.2.1 (VNorm X Y).2.2.2.1 a b m n ∧ VIn (VNorm X Y).2.2.2.2.1 (VNorm X Y).2.2.2.2.2.1 (VNorm X Y).2.2.2.2.2.2.1 (VNorm X Y).2.2.2.2.2.2.2 a' b' m' n' := by
  unfold VNorm
  by_cases c : VN X.1 X.2.1 X.2.2.1 X.2.2.2 ∨ VN Y.1 Y.2.1 Y.2.2.1 Y.2.2.2
  · rw [if_pos c]; exact ⟨⟨vok_none, oA, .inl ⟨rfl, rfl, rfl, rfl⟩⟩, ⟨vok_none, oB, .inl ⟨rfl, rfl, rfl, rfl⟩⟩⟩
  rw [if_neg c]
  exact ⟨⟨oX, oA, .inr ⟨zA, iX fun r => c (.inl r)⟩⟩, ⟨oY, oB, .inr ⟨zB, iY fun r => c (.inr r)⟩⟩⟩
theorem VCmp_spec {c a b m n a' b' m' n' : Int} :
    (VOk (VCmp c a b m n a' b' m' n').1 (VCmp c a b m n a' b' m' n').2.1 (VCmp c a b m n a' b' m' n').2.2.1 (VCmp c a b m n a' b' m' n').2.2.2.1 ∧ VOk (VCmp c a b m n a' b' m' n').2.2.2.2.1 (VCmp c a b m n a' b' m' n').2.2.2.2.2.1 (VCmp c a b m n a' b' m' n').2.2.2.2.2.2.1 (VCmp c a b m n a' b' m' n').2.2.2.2.2.2.2) ∧
    ((VCmp c a b m n a' b' m' n').1 ≤ (VCmp c a b m n a' b' m' n').2.1 → a ≤ (VCmp c a b m n a' b' m' n').1 ∧ (VCmp c a b m n a' b' m' n').2.1 ≤ b ∧ a' ≤ (VCmp c a b m n a' b' m' n').2.2.2.2.1 ∧ (VCmp c a b m n a' b' m' n').2.2.2.2.2.1 ≤ b') ∧
    (c ≠ 1 → VOk a b m n → VOk a' b' m' n' → VIn (VCmp c a b m n a' b' m' n').1 (VCmp c a b m n a' b' m' n').2.1 (VCmp c a b m n a' b' m' n').2.2.1 (VCmp c a b m n a' b' m' n').2.2.2.1 a b m n ∧
      VIn (VCmp c a b m n a' b' m' n').2.2.2.2.1 (VCmp c a b m n a' b' m' n').2.2.2.2.2.1 (VCmp c a b m n a' b' m' n').2.2.2.2.2.2.1 (VCmp c a b m n a' b' m' n').2.2.2.2.2.2.2 a' b' m' n') ∧
    ∀ u v, VHas a b m n u → VHas a' b' m' n' v → Cmp c u v → VHas (VCmp c a b m n a' b' m' n').1 (VCmp c a b m n a' b' m' n').2.1 (VCmp c a b m n a' b' m' n').2.2.1 (VCmp c a b m n a' b' m' n').2.2.2.1 u ∧
      VHas (VCmp c a b m n a' b' m' n').2.2.2.2.1 (VCmp c a b m n a' b' m' n').2.2.2.2.2.1 (VCmp c a b m n a' b' m' n').2.2.2.2.2.2.1 (VCmp c a b m n a' b' m' n').2.2.2.2.2.2.2 v := by
  unfold VCmp
  by_cases q : ¬ VOk a b m n ∨ ¬ VOk a' b' m' n' ∨ VN a b m n ∨ VN a' b' m' n'
  · rw [if_pos q]
    refine ⟨⟨vok_none, vok_none⟩, fun h => absurd h (by decide), fun _ oA oB => ⟨⟨vok_none, oA, .inl ⟨rfl, rfl, rfl, rfl⟩⟩, ⟨vok_none, oB, .inl ⟨rfl, rfl, rfl, rfl⟩⟩⟩, fun u v x y _ => ?_⟩
    have z : ∀ {a b c d u : Int}, VHas a b c d u → ¬ VN a b c d := fun x q => by
      obtain ⟨rfl, rfl, rfl, rfl⟩ := q; exact vhas_none _ x
    rcases q with q | q | q | q
    · exact absurd x.1 q
    · exact absurd y.1 q
    · exact absurd q (z x)
    · exact absurd q (z y)
  have o : VOk a b m n := Decidable.byContradiction fun r => q (.inl r)
  have o' : VOk a' b' m' n' := Decidable.byContradiction fun r => q (.inr (.inl r))
  have z : ¬ VN a b m n := fun r => q (.inr (.inr (.inl r)))
  have z' : ¬ VN a' b' m' n' := fun r => q (.inr (.inr (.inr r)))
  have p := vok_parts o z
  have p' := vok_parts o' z'
  have r := RCmp_in (c := c) p.1 p'.1
  rw [if_neg q]
  have iX : ¬ VE (VMake (RCmp c a b a' b').1 (RCmp c a b a' b').2.1 m n) → RIn (VMake (RCmp c a b a' b').1 (RCmp c a b a' b').2.1 m n).1 (VMake (RCmp c a b a' b').1 (RCmp c a b a' b').2.1 m n).2.1 a b ∧ SIn (VMake (RCmp c a b a' b').1 (RCmp c a b a' b').2.1 m n).2.2.1 (VMake (RCmp c a b a' b').1 (RCmp c a b a' b').2.1 m n).2.2.2 m n :=
    fun e => ⟨RIn.trans (make_in e).1 r.1, (make_in e).2⟩
  have iY : ¬ VE (VMake (RCmp c a b a' b').2.2.1 (RCmp c a b a' b').2.2.2 m' n') → RIn (VMake (RCmp c a b a' b').2.2.1 (RCmp c a b a' b').2.2.2 m' n').1 (VMake (RCmp c a b a' b').2.2.1 (RCmp c a b a' b').2.2.2 m' n').2.1 a' b' ∧ SIn (VMake (RCmp c a b a' b').2.2.1 (RCmp c a b a' b').2.2.2 m' n').2.2.1 (VMake (RCmp c a b a' b').2.2.1 (RCmp c a b a' b').2.2.2 m' n').2.2.2 m' n' :=
    fun e => ⟨RIn.trans (make_in e).1 r.2.1, (make_in e).2⟩
  have hX : ∀ u v, VHas a b m n u → VHas a' b' m' n' v → Cmp c u v → VHas (VMake (RCmp c a b a' b').1 (RCmp c a b a' b').2.1 m n).1 (VMake (RCmp c a b a' b').1 (RCmp c a b a' b').2.1 m n).2.1 (VMake (RCmp c a b a' b').1 (RCmp c a b a' b').2.1 m n).2.2.1 (VMake (RCmp c a b a' b').1 (RCmp c a b a' b').2.1 m n).2.2.2 u ∧
      VHas (VMake (RCmp c a b a' b').2.2.1 (RCmp c a b a' b').2.2.2 m' n').1 (VMake (RCmp c a b a' b').2.2.1 (RCmp c a b a' b').2.2.2 m' n').2.1 (VMake (RCmp c a b a' b').2.2.1 (RCmp c a b a' b').2.2.2 m' n').2.2.1 (VMake (RCmp c a b a' b').2.2.1 (RCmp c a b a' b').2.2.2 m' n').2.2.2 v := fun u v x y h => by
    have k := RCmp_has x.2.1 y.2.1 h
    exact ⟨(VMake_has _ _ _ _ _).mpr ⟨k.1, x.2.2⟩, (VMake_has _ _ _ _ _).mpr ⟨k.2, y.2.2⟩⟩
  have oX : VO (VMake (RCmp c a b a' b').1 (RCmp c a b a' b').2.1 m n) := VMake_ok _ _ _ _
  have oY : VO (VMake (RCmp c a b a' b').2.2.1 (RCmp c a b a' b').2.2.2 m' n') := VMake_ok _ _ _ _
  generalize VMake (RCmp c a b a' b').1 (RCmp c a b a' b').2.1 m n = X at iX hX oX ⊢
  generalize VMake (RCmp c a b a' b').2.2.1 (RCmp c a b a' b').2.2.2 m' n' = Y at iY hX oY ⊢
  by_cases c1 : c = 1
  · rw [if_pos c1]
    have oZ : VO (VBoth X Y) := VMeet_ok _ _ _ _ _ _ _ _
    have notX : ¬ VE (VBoth X Y) → ¬ VE X ∧ ¬ VE Y := fun e => by
      constructor
      · intro f
        refine e ?_
        unfold VBoth VMeet
        rw [if_pos (.inr (.inr (.inl f)))]
        exact ⟨rfl, rfl, rfl, rfl⟩
      · intro f
        refine e ?_
        unfold VBoth VMeet
        rw [if_pos (.inr (.inr (.inr f)))]
        exact ⟨rfl, rfl, rfl, rfl⟩
    have s := norm_spec (a := a) (b := b) (a' := a') (b' := b') oZ oZ (fun e => RIn.trans (VMeet_in e).1 (iX (notX e).1).1) (fun e => RIn.trans (VMeet_in e).2 (iY (notX e).2).1)
    refine ⟨⟨s.1, s.2.1⟩, s.2.2, fun n => absurd c1 n, fun u v x y h => ?_⟩
    have k := hX u v x y h
    have uv : u = v := by
      rcases h with h | h | h | h | h | h <;> omega
    subst uv
    have g : VHas (VBoth X Y).1 (VBoth X Y).2.1 (VBoth X Y).2.2.1 (VBoth X Y).2.2.2 u := vmeet_has k.1 k.2
    exact norm_has g g
  · rw [if_neg c1]
    have s := norm_spec oX oY (fun e => (iX e).1) (fun e => (iY e).1)
    refine ⟨⟨s.1, s.2.1⟩, s.2.2, fun _ _ _ => norm_in oX oY o o' z z' iX iY, fun u v x y h => ?_⟩
    have k := hX u v x y h
    exact norm_has k.1 k.2
theorem vcmp_j1 (k : Nat) (a b m n a' b' m' n' : Int) : impl_ValCmp.j1 (k + 2) a b m n a' b' m' n' = some (VNorm (a, b, m, n) (a', b', m', n')) := by
  have N : VN a b m n ∨ VN a' b' m' n' → impl_ValCmp.j2 (k + 1) true a b m n a' b' m' n' = some (VNorm (a, b, m, n) (a', b', m', n')) := fun h => by
    rw [impl_ValCmp.j2, if_pos rfl, valNone_eq]
    unfold VNorm; rw [if_pos h]; rfl
  rw [impl_ValCmp.j1, valNone_q, Option.bind_some, vn_b]
  by_cases z : VN a b m n
  · rw [decide_eq_true z, if_pos rfl]; exact N (.inl z)
  rw [decide_eq_false z, if_neg (by decide), valNone_q, Option.bind_some, vn_b]
  by_cases z' : VN a' b' m' n'
  · rw [decide_eq_true z']; exact N (.inr z')
  rw [decide_eq_false z', impl_ValCmp.j2, if_neg (by decide)]
  unfold VNorm
  rw [if_neg (fun q => q.elim z z')]
theorem svcmp_j1 (k : Nat) (a b m n a' b' m' n' : Int) : spec_ValCmp.j1 (k + 2) a b m n a' b' m' n' = some (VNorm (a, b, m, n) (a', b', m', n')) := by
  have N : VN a b m n ∨ VN a' b' m' n' → spec_ValCmp.j2 (k + 1) true a b m n a' b' m' n' = some (VNorm (a, b, m, n) (a', b', m', n')) := fun h => by
    rw [spec_ValCmp.j2, if_pos rfl, svalNone_eq]
    unfold VNorm; rw [if_pos h]; rfl
  rw [spec_ValCmp.j1, svalNone_eq, Option.bind_some]
  dsimp only
  rw [vn_b]
  by_cases z : VN a b m n
  · rw [decide_eq_true z, if_pos rfl]; exact N (.inl z)
  rw [decide_eq_false z, if_neg (by decide), Option.bind_some]
  dsimp only
  rw [vn_b]
  by_cases z' : VN a' b' m' n'
  · rw [decide_eq_true z']; exact N (.inr z')
  rw [decide_eq_false z', spec_ValCmp.j2, if_neg (by decide)]
  unfold VNorm
  rw [if_neg (fun q => q.elim z z')]
theorem valCmp_eq (k : Nat) (hk : 200000000000000000005 ≤ k) (c a b m n a' b' m' n' : Int) : impl_ValCmp.f k c a b m n a' b' m' n' = some (VCmp c a b m n a' b' m' n') := by
  obtain ⟨k, rfl⟩ : ∃ j, k = j + 3 := ⟨k - 3, by omega⟩
  have N : ¬ VOk a b m n ∨ ¬ VOk a' b' m' n' ∨ VN a b m n ∨ VN a' b' m' n' → impl_ValCmp.j0 (k + 3) c true a b m n a' b' m' n' = some (VCmp c a b m n a' b' m' n') := fun h => by
    rw [impl_ValCmp.j0, if_pos rfl, valNone_eq]
    unfold VCmp; rw [if_pos h]; rfl
  unfold impl_ValCmp.f
  rw [valOk_eq _ (by omega), Option.bind_some]
  by_cases o : VOk a b m n
  case neg => rw [decide_eq_false o, if_neg (by decide)]; exact N (.inl o)
  rw [decide_eq_true o, if_pos rfl, valOk_eq _ (by omega), Option.bind_some]
  by_cases o' : VOk a' b' m' n'
  case neg => rw [decide_eq_false o', if_neg (by decide)]; exact N (.inr (.inl o'))
  rw [decide_eq_true o', if_pos rfl, valNone_q, Option.bind_some, vn_b]
  by_cases z : VN a b m n
  · rw [decide_eq_true z, if_pos rfl]; exact N (.inr (.inr (.inl z)))
  rw [decide_eq_false z, if_neg (by decide), valNone_q, Option.bind_some, vn_b]
  by_cases z' : VN a' b' m' n'
  · rw [decide_eq_true z']; exact N (.inr (.inr (.inr z')))
  rw [decide_eq_false z', impl_ValCmp.j0, if_neg (by decide)]
  have e0 : ¬ (¬ VOk a b m n ∨ ¬ VOk a' b' m' n' ∨ VN a b m n ∨ VN a' b' m' n') := by simp [o, o', z, z']
  unfold VCmp
  rw [if_neg e0]
  show (impl_RangeCmp.f (k + 2) c a b a' b').bind _ = _
  rw [rangeCmp_eq _ (by omega), Option.bind_some]
  show (impl_ValMake.f (k + 2) (RCmp c a b a' b').1 (RCmp c a b a' b').2.1 m n).bind _ = _
  rw [valMake_eq _ (by omega), Option.bind_some]
  show (impl_ValMake.f (k + 2) (RCmp c a b a' b').2.2.1 (RCmp c a b a' b').2.2.2 m' n').bind _ = _
  rw [valMake_eq _ (by omega), Option.bind_some]
  by_cases c1 : c = 1
  · rw [if_pos c1, if_pos c1, valMeet_eq _ (by omega), Option.bind_some, vcmp_j1]; rfl
  · rw [if_neg c1, if_neg c1, vcmp_j1]
theorem svalCmp_eq (k : Nat) (hk : 200000000000000000005 ≤ k) (c a b m n a' b' m' n' : Int) : spec_ValCmp.f k c a b m n a' b' m' n' = some (VCmp c a b m n a' b' m' n') := by
  obtain ⟨k, rfl⟩ : ∃ j, k = j + 3 := ⟨k - 3, by omega⟩
  have N : ¬ VOk a b m n ∨ ¬ VOk a' b' m' n' ∨ VN a b m n ∨ VN a' b' m' n' → spec_ValCmp.j0 (k + 3) c true a b m n a' b' m' n' = some (VCmp c a b m n a' b' m' n') := fun h => by
    rw [spec_ValCmp.j0, if_pos rfl, svalNone_eq]
    unfold VCmp; rw [if_pos h]; rfl
  unfold spec_ValCmp.f
  rw [svalOk_eq _ (by omega), Option.bind_some]
  by_cases o : VOk a b m n
  case neg => rw [decide_eq_false o, if_neg (by decide)]; exact N (.inl o)
  rw [decide_eq_true o, if_pos rfl, svalOk_eq _ (by omega), Option.bind_some]
  by_cases o' : VOk a' b' m' n'
  case neg => rw [decide_eq_false o', if_neg (by decide)]; exact N (.inr (.inl o'))
  rw [decide_eq_true o', if_pos rfl, svalNone_eq, Option.bind_some]
  dsimp only
  rw [vn_b]
  by_cases z : VN a b m n
  · rw [decide_eq_true z, if_pos rfl]; exact N (.inr (.inr (.inl z)))
  rw [decide_eq_false z, if_neg (by decide), Option.bind_some]
  dsimp only
  rw [vn_b]
  by_cases z' : VN a' b' m' n'
  · rw [decide_eq_true z']; exact N (.inr (.inr (.inr z')))
  rw [decide_eq_false z', spec_ValCmp.j0, if_neg (by decide)]
  have e0 : ¬ (¬ VOk a b m n ∨ ¬ VOk a' b' m' n' ∨ VN a b m n ∨ VN a' b' m' n') := by simp [o, o', z, z']
  unfold VCmp
  rw [if_neg e0]
  show (spec_RangeCmp.f (k + 2) c a b a' b').bind _ = _
  rw [srangeCmp_eq _ (by omega), Option.bind_some]
  show (spec_ValMake.f (k + 2) (RCmp c a b a' b').1 (RCmp c a b a' b').2.1 m n).bind _ = _
  rw [svalMake_eq _ (by omega), Option.bind_some]
  show (spec_ValMake.f (k + 2) (RCmp c a b a' b').2.2.1 (RCmp c a b a' b').2.2.2 m' n').bind _ = _
  rw [svalMake_eq _ (by omega), Option.bind_some]
  by_cases c1 : c = 1
  · rw [if_pos c1, if_pos c1, svalMeet_eq _ (by omega), Option.bind_some, svcmp_j1]; rfl
  · rw [if_neg c1, if_neg c1, svcmp_j1]
/-! spec_DrawValCmp spec_l10Two -/
theorem drawValCmp_tot (k : Nat) (hk : 100 ≤ k) {l : List Int} (hl : Bytes l) : Tot (spec_DrawValCmp.f k l) fun _ => True := by
  unfold spec_DrawValCmp.f
  refine Tot.then (open_tot hl) ?_
  rintro ⟨s, p⟩ ⟨hp, hs, -⟩
  dsimp only at hp hs ⊢
  refine Tot.then (pick_tot k (by omega) hs (by omega) (by omega)) ?_
  rintro ⟨x, q⟩ ⟨hq, -, -⟩
  dsimp only at hq ⊢
  refine Tot.then (drawTwoV_tot k hk hs (by omega) (by omega)) ?_
  rintro ⟨a, b, c, d, a', b', c', d', q1⟩ -
  exact Tot.here trivial
end Go.Proofs.Ytkekcenlleebeaa.LFnValCmp
