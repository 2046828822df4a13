/- What the small functions that the statement reaches tell, each by a plain law. Conditions: those in each law. -/
import Derived.Test.YtkekcenlleebeaaDFnRangeCmp
import Derived.Test.YtkekcenlleebeaaBase
import Derived.Test.YtkekcenlleebeaaBits
import Derived.Test.YtkekcenlleebeaaRangeMath
import Derived.Test.YtkekcenlleebeaaRangeCmpMath
namespace Go.Proofs.Ytkekcenlleebeaa.LFnRangeCmp
open Go.RowKit Go.Proofs.Ytkekcenlleebeaa.PFnRangeCmp Go.Proofs.Ytkekcenlleebeaa.Base Go.Proofs.YtkekcenlleebeaaW.PrintWords Go.Proofs.YtkekcenlleebeaaW.PrintLast Go.Proofs.YtkekcenlleebeaaW.PrintMore
set_option linter.unusedVariables false
set_option linter.unusedSimpArgs false

/-! spec_l1Rd_pick -/
theorem pick_tot (k : Nat) (hk : 1 ≤ k) {s : List Int} {p n : Int} (hs : Bytes s) (h0 : 0 ≤ p) (h1 : p ≤ 1073741824) :
    Tot (spec_l1Rd_pick.f k s p n) fun r => r.2 = p + 1 ∧ 0 ≤ r.1 ∧ (1 ≤ n → r.1 < n) := by
  obtain ⟨k, rfl⟩ : ∃ m, k = m + 1 := ⟨k - 1, by omega⟩
  have e1 : wrap64 (p + 1) = p + 1 := wrap64_id (by omega) (by omega)
  have e2 : wrap64 (p + 1 - 1) = p := by rw [wrap64_id (by omega) (by omega)]; omega
  unfold spec_l1Rd_pick.f
  rw [e1]
  refine Tot.ite (fun hn => ?_) (fun hn => ?_)
  · simp only [spec_l1Rd_pick.j0, if_true]
    exact Tot.here ⟨rfl, Int.le_refl _, fun h => by omega⟩
  · simp only [spec_l1Rd_pick.j0, e2]
    refine Tot.ite (fun h => Tot.here ⟨rfl, Int.le_refl _, fun _ => by dsimp only; omega⟩) fun h => ?_
    have hne : (s.length : Int) ≠ 0 := by simpa using h
    have hlen : 0 < (s.length : Int) := by omega
    refine Tot.ite (fun hp => ?_) fun hp => ?_
    · rw [if_pos h0, if_neg (by omega)]
      have b := hs.byte p
      rw [wrap64_id (by omega) (by omega)]
      exact Tot.here ⟨rfl, tmod_nonneg b.1, fun _ => tmod_lt (by omega)⟩
    · have m1 := tmod_nonneg (b := (s.length : Int)) h0
      have m2 := tmod_lt (a := p) hlen
      have q1 : wrap64 (p * 7) = p * 7 := wrap64_id (by omega) (by omega)
      have q2 : wrap64 (p * 7 + 3) = p * 7 + 3 := wrap64_id (by omega) (by omega)
      have m3 := tmod_nonneg (b := (s.length : Int)) (a := p * 7 + 3) (by omega)
      have m4 := tmod_lt (a := p * 7 + 3) hlen
      rw [if_neg hne, if_pos m1, if_pos m2, q1, q2, if_pos m3, if_pos m4, if_neg (by omega)]
      have b1 := hs.byte (Int.tmod p s.length)
      have b2 := hs.byte (Int.tmod (p * 7 + 3) s.length)
      generalize rd s (Int.tmod p s.length) = x1 at *
      generalize rd s (Int.tmod (p * 7 + 3) s.length) = x2 at *
      have d1 := tdiv_nonneg h0 (Int.le_of_lt hlen)
      have d2 := tdiv_le h0 hlen
      generalize Int.tdiv p s.length = d at *
      rw [wrap64_id (x := x1) (by omega) (by omega), wrap64_id (x := x2) (by omega) (by omega), wrap64_id (x := d) (by omega) (by omega)]
      rw [wrap64_id (x := x1 * 131) (by omega) (by omega), wrap64_id (x := x2 * 1117) (by omega) (by omega), wrap64_id (x := p * 29) (by omega) (by omega), wrap64_id (x := d * 53) (by omega) (by omega)]
      rw [wrap64_id (x := x1 * 131 + x2 * 1117) (by omega) (by omega)]
      rw [wrap64_id (x := x1 * 131 + x2 * 1117 + p * 29) (by omega) (by omega)]
      rw [wrap64_id (x := x1 * 131 + x2 * 1117 + p * 29 + d * 53) (by omega) (by omega)]
      have z0 : 0 ≤ x1 * 131 + x2 * 1117 + p * 29 + d * 53 := by omega
      have z1 : x1 * 131 + x2 * 1117 + p * 29 + d * 53 < 9223372036854775808 := by omega
      generalize x1 * 131 + x2 * 1117 + p * 29 + d * 53 = z at *
      have y0 := tdiv_nonneg (b := 64) z0 (by omega)
      have y1 := tdiv_le (b := 64) z0 (by omega)
      rw [wrap64_id (x := Int.tdiv z 64) (by omega) (by omega)]
      exact Tot.here ⟨rfl, tmod_nonneg (bits_xor_nonneg_in z0 z1 y0 (by omega)), fun _ => tmod_lt (by omega)⟩
/-! spec_l1Open -/
theorem open_tot {s : List Int} (hs : Bytes s) : Tot (spec_l1Open.f s) fun r => r.2 = 0 ∧ Bytes r.1 ∧ r.1.length ≤ 2000 := by
  unfold spec_l1Open.f
  refine Tot.ite (fun h => ?_) (fun h => ?_)
  · rw [if_pos (by omega)]
    exact Tot.here ⟨rfl, hs.take _, by simp only [List.length_take]; omega⟩
  · exact Tot.here ⟨rfl, hs, by dsimp only; omega⟩
/-! spec_l1Power -/
theorem power_l0 (n : Int) : ∀ (d k : Nat) (o i : Int), 0 ≤ i → i ≤ n → n ≤ 40 → (n - i : Int) = d → d < k → o = 2 ^ i.toNat → spec_l1Power.l0 k n o i = some (2 ^ n.toNat) := by
  intro d
  induction d with
  | zero =>
    intro k o i h0 h1 h2 hd hk ho
    obtain ⟨k, rfl⟩ : ∃ m, k = m + 1 := ⟨k - 1, by omega⟩
    simp only [spec_l1Power.l0]
    rw [if_neg (by omega), ho]
    have : i = n := by omega
    rw [this]
  | succ d ih =>
    intro k o i h0 h1 h2 hd hk ho
    obtain ⟨k, rfl⟩ : ∃ m, k = m + 1 := ⟨k - 1, by omega⟩
    simp only [spec_l1Power.l0]
    rw [if_pos (by omega)]
    have hp : (2 : Int) ^ i.toNat ≤ 2 ^ 40 := by
      have := Nat.pow_le_pow_right (n := 2) (by omega) (show i.toNat ≤ 40 by omega)
      exact_mod_cast this
    have hp0 : (0 : Int) < 2 ^ i.toNat := Int.pow_pos (by decide)
    have e : (i + 1).toNat = i.toNat + 1 := by omega
    rw [wrap64_id (x := 2 * o) (by omega) (by omega), wrap64_id (x := i + 1) (by omega) (by omega)]
    refine ih k _ _ (by omega) (by omega) h2 (by omega) (by omega) ?_
    rw [e, Int.pow_succ, ho]; omega
theorem power_eq (k : Nat) (hk : 42 ≤ k) {n : Int} (h0 : 0 ≤ n) (h1 : n ≤ 40) : spec_l1Power.f k n = some (2 ^ n.toNat) := by
  unfold spec_l1Power.f
  exact power_l0 n n.toNat k 1 0 (by omega) h0 h1 (by omega) (by omega) (by simp)
/-! spec_l1Mod -/
theorem mod_eq {a b : Int} (hb : 0 < b) (h : b ≤ 9223372036854775807) : spec_l1Mod.f a b = some (a % b) := by
  unfold spec_l1Mod.f
  rw [if_neg (by omega)]
  have e := Int.emod_emod_of_dvd a (Int.dvd_refl b)
  have h1 : Int.tmod a b < b := Int.tmod_lt_of_pos a hb
  have h2 : -b < Int.tmod a b := Int.lt_tmod_of_pos a hb
  have h3 := Int.mul_tdiv_add_tmod a b
  have h4 : a % b = Int.tmod a b % b := by
    conv => lhs; rw [← h3]
    rw [Int.add_comm, Int.add_mul_emod_self_left]
  by_cases hn : Int.tmod a b < 0
  · rw [if_pos hn, wrap64_id (by omega) (by omega), h4, ← Int.add_emod_right, Int.emod_eq_of_lt (by omega) (by omega)]
  · rw [if_neg hn, h4, Int.emod_eq_of_lt (by omega) (by omega)]
/-! spec_NumWrap -/
/-- The number of 32 bits that differs from one by a multiple. -/
theorem snumwrap_eq (v : Int) : spec_NumWrap.f v = some (wrap32 v) := by
  unfold spec_NumWrap.f
  rw [mod_eq (by omega) (by omega)]
  simp only [Option.bind_some]
  unfold wrap32
  by_cases h : v % 4294967296 > 2147483647
  · rw [if_pos h, wrap64_id (by omega) (by omega)]; congr 1; omega
  · rw [if_neg h]; congr 1; omega
/-! spec_l1Rd_num -/
theorem num_l0 {s : List Int} (hs : Bytes s) : ∀ (d k : Nat) (v i p : Int), 0 ≤ i → i ≤ 4 → (4 - i : Int) = d → d + 2 ≤ k → 0 ≤ p → p + d ≤ 1073741824 →
    Tot (spec_l1Rd_num.l0 k v i s p) fun r => r.2 = p + d ∧ -2147483648 ≤ r.1 ∧ r.1 ≤ 2147483647 := by
  intro d
  induction d with
  | zero =>
    intro k v i p h0 h1 hd hk hp hq
    obtain ⟨k, rfl⟩ : ∃ m, k = m + 1 := ⟨k - 1, by omega⟩
    simp only [spec_l1Rd_num.l0]
    rw [if_neg (by omega), snumwrap_eq]
    simp only [Option.bind_some]
    exact Tot.here ⟨by simp, (wrap32_in v).1, (wrap32_in v).2⟩
  | succ d ih =>
    intro k v i p h0 h1 hd hk hp hq
    obtain ⟨k, rfl⟩ : ∃ m, k = m + 1 := ⟨k - 1, by omega⟩
    simp only [spec_l1Rd_num.l0]
    rw [if_pos (by omega)]
    refine Tot.then (pick_tot k (by omega) hs hp (by omega)) ?_
    rintro ⟨x, q⟩ ⟨hq', -, -⟩
    dsimp only at hq' ⊢
    subst hq'
    rw [wrap64_id (x := i + 1) (by omega) (by omega)]
    refine (ih k _ _ _ (by omega) (by omega) (by omega) (by omega) (by omega) (by omega)).mono ?_
    rintro ⟨y, q⟩ ⟨h1, h2⟩
    exact ⟨by dsimp only at h1 ⊢; omega, h2⟩
theorem num_tot (k : Nat) (hk : 42 ≤ k) {s : List Int} {p : Int} (hs : Bytes s) (h0 : 0 ≤ p) (h1 : p ≤ 1000000000) :
    Tot (spec_l1Rd_num.f k s p) fun r => p < r.2 ∧ r.2 ≤ p + 5 ∧ -2147483648 ≤ r.1 ∧ r.1 ≤ 2147483647 := by
  have go : ∀ {n q : Int}, 0 ≤ q → q ≤ 1000000010 → Tot (spec_l1Rd_pick.f k s q n) fun r => r.2 = q + 1 ∧ 0 ≤ r.1 ∧ (1 ≤ n → r.1 < n) := fun a b => pick_tot k (by omega) hs a (by omega)
  have pw : ∀ {n : Int}, 0 ≤ n → n ≤ 30 → 0 < (2 : Int) ^ n.toNat ∧ (2 : Int) ^ n.toNat ≤ 1073741824 := fun {n} a b => by
    refine ⟨Int.pow_pos (by decide), ?_⟩
    have := Nat.pow_le_pow_right (n := 2) (by omega) (show n.toNat ≤ 30 by omega)
    have h : ((2 ^ n.toNat : Nat) : Int) ≤ ((2 ^ 30 : Nat) : Int) := by exact_mod_cast this
    simpa using h
  unfold spec_l1Rd_num.f
  refine Tot.then (go h0 (by omega)) ?_
  rintro ⟨x, q⟩ ⟨hq, x0, x1⟩
  dsimp only at hq x0 x1 ⊢
  subst hq
  refine Tot.ite (fun _ => ?_) fun _ => Tot.ite (fun _ => ?_) fun _ => Tot.ite (fun _ => ?_) fun _ => Tot.ite (fun _ => ?_) fun _ => Tot.ite (fun _ => ?_) fun _ => ?_
  · refine Tot.then (go (by omega) (by omega)) ?_
    rintro ⟨y, q⟩ ⟨hq, y0, y1⟩
    dsimp only at hq y0 y1 ⊢
    subst hq
    rw [wrap64_id (by omega) (by omega)]
    exact Tot.here ⟨by dsimp only; omega, by dsimp only; omega, by dsimp only; omega, by dsimp only; omega⟩
  · refine Tot.then (go (by omega) (by omega)) ?_
    rintro ⟨y, q⟩ ⟨hq, y0, y1⟩
    dsimp only at hq y0 y1 ⊢
    subst hq
    rw [wrap64_id (by omega) (by omega)]
    exact Tot.here ⟨by dsimp only; omega, by dsimp only; omega, by dsimp only; omega, by dsimp only; omega⟩
  · refine Tot.then (go (by omega) (by omega)) ?_
    rintro ⟨y, q⟩ ⟨hq, y0, y1⟩
    dsimp only at hq y0 y1 ⊢
    subst hq
    rw [wrap64_id (by omega) (by omega)]
    exact Tot.here ⟨by dsimp only; omega, by dsimp only; omega, by dsimp only; omega, by dsimp only; omega⟩
  · refine Tot.then (go (by omega) (by omega)) ?_
    rintro ⟨y, q⟩ ⟨hq, y0, y1⟩
    dsimp only at hq y0 y1 ⊢
    subst hq
    rw [power_eq k hk y0 (by omega)]
    simp only [Option.bind_some]
    have e := pw y0 (by omega)
    generalize (2 : Int) ^ y.toNat = z at *
    refine Tot.then (go (by omega) (by omega)) ?_
    rintro ⟨y', q⟩ ⟨hq, y0', y1'⟩
    dsimp only at hq y0' y1' ⊢
    subst hq
    rw [wrap64_id (x := z + y') (by omega) (by omega), wrap64_id (by omega) (by omega)]
    exact Tot.here ⟨by dsimp only; omega, by dsimp only; omega, by dsimp only; omega, by dsimp only; omega⟩
  · refine Tot.then (go (by omega) (by omega)) ?_
    rintro ⟨y, q⟩ ⟨hq, y0, y1⟩
    dsimp only at hq y0 y1 ⊢
    subst hq
    rw [power_eq k hk y0 (by omega)]
    simp only [Option.bind_some]
    have e := pw y0 (by omega)
    generalize (2 : Int) ^ y.toNat = z at *
    refine Tot.then (go (by omega) (by omega)) ?_
    rintro ⟨y', q⟩ ⟨hq, y0', y1'⟩
    dsimp only at hq y0' y1' ⊢
    subst hq
    rw [wrap64_id (x := -z) (by omega) (by omega), wrap64_id (x := -z + y') (by omega) (by omega), wrap64_id (by omega) (by omega)]
    exact Tot.here ⟨by dsimp only; omega, by dsimp only; omega, by dsimp only; omega, by dsimp only; omega⟩
  · refine (num_l0 hs 4 k 0 0 _ (by omega) (by omega) (by omega) (by omega) (by omega) (by omega)).mono ?_
    rintro ⟨y, q⟩ ⟨h1, h2⟩
    exact ⟨by dsimp only at h1 ⊢; omega, by dsimp only at h1 ⊢; omega, h2⟩
/-! spec_l1Rd_wild -/
theorem wild_tot (k : Nat) (hk : 42 ≤ k) {s : List Int} {p : Int} (hs : Bytes s) (h0 : 0 ≤ p) (h1 : p ≤ 999999999) :
    Tot (spec_l1Rd_wild.f k s p) fun r => p < r.2 ∧ r.2 ≤ p + 6 ∧ -9223372036854775808 ≤ r.1 ∧ r.1 ≤ 9223372036854775807 := by
  have go : ∀ {n q : Int}, 0 ≤ q → q ≤ 1000000010 → Tot (spec_l1Rd_pick.f k s q n) fun r => r.2 = q + 1 ∧ 0 ≤ r.1 ∧ (1 ≤ n → r.1 < n) := fun a b => pick_tot k (by omega) hs a (by omega)
  unfold spec_l1Rd_wild.f
  refine Tot.then (go h0 (by omega)) ?_
  rintro ⟨x, q⟩ ⟨hq, x0, x1⟩
  dsimp only at hq x0 x1 ⊢
  subst hq
  refine Tot.ite (fun _ => ?_) fun _ => Tot.ite (fun _ => ?_) fun _ => Tot.ite (fun _ => ?_) fun _ => Tot.ite (fun _ => ?_) fun _ => ?_
  iterate 4
    · refine Tot.then (go (by omega) (by omega)) ?_
      rintro ⟨y, q⟩ ⟨hq, y0, y1⟩
      dsimp only at hq y0 y1 ⊢
      subst hq
      exact Tot.here ⟨by dsimp only; omega, by dsimp only; omega, (wrap64_in _).1, (wrap64_in _).2⟩
  · refine Tot.then (num_tot k hk hs (by omega) (by omega)) ?_
    rintro ⟨y, q⟩ ⟨hq, hq', y0, y1⟩
    dsimp only at hq hq' y0 y1 ⊢
    exact Tot.here ⟨by dsimp only; omega, by dsimp only; omega, by dsimp only; omega, by dsimp only; omega⟩
/-! impl_NumOk -/
theorem numOk_eq (v : Int) : impl_NumOk.f v = some (decide (NOk v)) := by
  unfold impl_NumOk.f
  by_cases h : v ≥ -2147483648
  · rw [if_pos h]; exact dcl (by (try unfold NOk); omega)
  · rw [if_neg h]; exact dfl (by (try unfold NOk); omega)
/-! spec_l1In -/
theorem sin_eq (v a b : Int) : spec_l1In.f v a b = some (decide (a ≤ v ∧ v ≤ b)) := by
  unfold spec_l1In.f
  by_cases h : v ≥ a
  · rw [if_pos h]; exact dcl (by (try unfold NOk); omega)
  · rw [if_neg h]; exact dfl (by (try unfold NOk); omega)
/-! spec_NumOk -/
theorem snumOk_eq (v : Int) : spec_NumOk.f v = some (decide (NOk v)) := by
  unfold spec_NumOk.f
  rw [sin_eq]; exact dcl Iff.rfl
/-! laws_at -/
theorem at_tot {l : List Int} (hl : Bytes l) {i : Int} (h0 : 0 ≤ i) (h1 : i ≤ 1000000000) : Tot (laws_at.f l i) fun r => 0 ≤ r ∧ r ≤ 255 := by
  unfold laws_at.f
  refine Tot.ite (fun h => Tot.here (by omega)) fun h => ?_
  have hlen : 0 < (l.length : Int) := by omega
  refine Tot.ite (fun h => ?_) fun h => ?_
  · rw [if_pos h0]; exact Tot.here (hl.byte i)
  · have m1 := tmod_nonneg (b := (l.length : Int)) h0
    have m2 := tmod_lt (a := i) hlen
    have q1 : wrap64 (i * 5) = i * 5 := wrap64_id (by omega) (by omega)
    have q2 : wrap64 (i * 5 + 1) = i * 5 + 1 := wrap64_id (by omega) (by omega)
    have m3 := tmod_nonneg (b := (l.length : Int)) (a := i * 5 + 1) (by omega)
    have m4 := tmod_lt (a := i * 5 + 1) hlen
    rw [if_pos m1, if_pos m2, q1, q2, if_pos m3, if_pos m4]
    exact Tot.here (by omega)
/-! impl_rangeNone -/
theorem rangeNone_eq : impl_rangeNone.f = some (1, 0) := rfl
/-! spec_l8None -/
theorem snone_eq : spec_l8None.f = some (1, 0) := rfl
/-! impl_RangeOk -/
theorem rangeOk_eq (l h : Int) : impl_RangeOk.f l h = some (decide (ROk l h)) := by
  unfold impl_RangeOk.f impl_rangeNone.f ROk
  simp only [Option.bind_some, numOk_eq, Bool.and_eq_true, beq_iff_eq]
  by_cases c : l = 1 ∧ h = 0
  · simp [c]
  · by_cases c1 : NOk l <;> by_cases c2 : NOk h <;> simp [c, c1, c2]
/-! spec_RangeOk -/
theorem srangeOk_eq (l h : Int) : spec_RangeOk.f l h = some (decide (ROk l h)) := by
  unfold spec_RangeOk.f spec_l8None.f ROk
  simp only [Option.bind_some, snumOk_eq, Bool.and_eq_true, beq_iff_eq]
  by_cases c : l = 1 ∧ h = 0
  · simp [c]
  · by_cases c1 : NOk l <;> by_cases c2 : NOk h <;> simp [c, c1, c2]
/-! impl_Range_empty -/
theorem rangeEmpty_eq (l h : Int) : impl_Range_empty.f l h = some (decide (l > h)) := rfl
/-! spec_l8Min -/
theorem smin_eq (a b : Int) : spec_l8Min.f a b = some (min a b) := by
  unfold spec_l8Min.f; split <;> congr 1 <;> omega
/-! spec_l8Max -/
theorem smax_eq (a b : Int) : spec_l8Max.f a b = some (max a b) := by
  unfold spec_l8Max.f; split <;> congr 1 <;> omega
/-! impl_rangeFrom -/
theorem rangeFrom_eq (a b : Int) : impl_rangeFrom.f a b = some (RFrom a b) := by
  unfold impl_rangeFrom.f RFrom
  rw [rangeNone_eq, mx_eq, mn_eq]
  split <;> rfl
/-! spec_l8Cut -/
theorem scut_eq (a b : Int) : spec_l8Cut.f a b = some (RFrom a b) := by
  unfold spec_l8Cut.f RFrom
  rw [smax_eq, smin_eq, snone_eq]
  simp only [Option.bind_some]
  split <;> rfl
/-! impl_RangeHas -/
theorem rangeHas_eq (l h v : Int) : impl_RangeHas.f l h v = some (decide (RHas l h v)) := by
  unfold impl_RangeHas.f RHas
  rw [rangeOk_eq]
  simp only [Option.bind_some]
  by_cases c : ROk l h <;> by_cases c1 : l ≤ v <;> simp [c, c1]
/-! impl_RangeIn -/
theorem rangeIn_eq (l h l' h' : Int) : impl_RangeIn.f l h l' h' = some (decide (RIn l h l' h')) := by
  unfold impl_RangeIn.f RIn
  rw [rangeOk_eq, rangeOk_eq, rangeEmpty_eq]
  simp only [Option.bind_some]
  by_cases c : ROk l h <;> by_cases c1 : ROk l' h' <;> by_cases c2 : l > h <;> by_cases c3 : l' ≤ l <;> simp [c, c1, c2, c3]
/-! impl_RangeMeet -/
theorem rangeMeet_eq (k : Nat) (hk : 1 ≤ k) (l h l' h' : Int) : impl_RangeMeet.f k l h l' h' = some (RMeet l h l' h') := by
  obtain ⟨k, rfl⟩ : ∃ m, k = m + 1 := ⟨k - 1, by omega⟩
  unfold impl_RangeMeet.f RMeet
  rw [rangeOk_eq, rangeOk_eq]
  simp only [Option.bind_some, rangeEmpty_eq, mn_eq, mx_eq]
  by_cases c : ROk l h
  case neg => simp [c, impl_RangeMeet.j0, rangeNone_eq]
  by_cases c1 : ROk l' h'
  case neg => simp [c, c1, impl_RangeMeet.j0, rangeNone_eq]
  by_cases c2 : l > h
  · simp [c, c1, c2, impl_RangeMeet.j0, rangeNone_eq]
  by_cases c3 : l' > h'
  · simp [c, c1, c2, c3, impl_RangeMeet.j0, rangeNone_eq]
  simp only [c, c1, c2, c3, decide_true, decide_false, if_true, Bool.not_true, impl_RangeMeet.j0, Bool.false_eq_true, if_false, rangeFrom_eq, Option.bind_some, mn_eq, mx_eq, not_true, or_self]
/-! spec_RangeMeet -/
theorem srangeMeet_eq (k : Nat) (hk : 1 ≤ k) (l h l' h' : Int) : spec_RangeMeet.f k l h l' h' = some (RMeet l h l' h') := by
  obtain ⟨k, rfl⟩ : ∃ m, k = m + 1 := ⟨k - 1, by omega⟩
  unfold spec_RangeMeet.f RMeet
  rw [srangeOk_eq, srangeOk_eq]
  simp only [Option.bind_some, snone_eq, Bool.and_eq_true, beq_iff_eq]
  by_cases c : ROk l h
  case neg => simp [c, spec_RangeMeet.j0, snone_eq]
  by_cases c1 : ROk l' h'
  case neg => simp [c, c1, spec_RangeMeet.j0, snone_eq]
  simp only [c.empty_iff, c1.empty_iff]
  by_cases c2 : l = 1 ∧ h = 0
  · simp [c, c1, c2, spec_RangeMeet.j0, snone_eq]
  by_cases c3 : l' = 1 ∧ h' = 0
  · simp [c, c1, c2, c3, spec_RangeMeet.j0, snone_eq]
  have e : (l' == 1 && h' == 0) = false := by
    rw [Bool.eq_false_iff]; simpa using c3
  simp only [c, c1, c2, c3, e, decide_true, decide_false, if_true, Bool.not_true, spec_RangeMeet.j0, Bool.false_eq_true, if_false, scut_eq, smin_eq, smax_eq, Option.bind_some, not_true, or_self]
/-! laws_wide -/
theorem wide_tot {l : List Int} (hl : Bytes l) {i : Int} (h0 : 0 ≤ i) (h1 : i ≤ 100000000) : Tot (laws_wide.f l i) fun r => 0 ≤ r ∧ r < 4294967296 := by
  unfold laws_wide.f
  rw [wrap64_id (x := i + 1) (by omega) (by omega), wrap64_id (x := i + 2) (by omega) (by omega), wrap64_id (x := i + 3) (by omega) (by omega)]
  refine Tot.then (at_tot hl h0 (by omega)) fun a ha => Tot.then (at_tot hl (by omega) (by omega)) fun b hb => Tot.then (at_tot hl (by omega) (by omega)) fun c hc => Tot.then (at_tot hl (by omega) (by omega)) fun d hd => ?_
  rw [wrap64_id (x := a) (by omega) (by omega), wrap64_id (x := b) (by omega) (by omega), wrap64_id (x := c) (by omega) (by omega), wrap64_id (x := d) (by omega) (by omega)]
  rw [wrap64_id (x := a * 16777216) (by omega) (by omega), wrap64_id (x := b * 65536) (by omega) (by omega), wrap64_id (x := c * 256) (by omega) (by omega)]
  have e : (2 : Int) ^ 32 = 4294967296 := by decide
  have r1 := bits_or_nonneg (x := a * 16777216) (y := b * 65536) (n := 32) (by omega) (by omega) (by omega) (by omega) (by omega)
  have r2 := bits_or_nonneg (y := c * 256) (n := 32) (by omega) r1.1 r1.2 (by omega) (by omega)
  have r3 := bits_or_nonneg (y := d) (n := 32) (by omega) r2.1 r2.2 (by omega) (by omega)
  exact Tot.here ⟨r3.1, by omega⟩
/-! laws_within -/
/-- A drawn number of a range lies in it. -/
theorem within_tot (k : Nat) (hk : 1 ≤ k) {x : List Int} (hx : Bytes x) (l h : Int) {i : Int} (h0 : 0 ≤ i) (h1 : i ≤ 1000000) :
    Tot (laws_within.f k l h x i) fun r => -9223372036854775808 ≤ r ∧ r ≤ 9223372036854775807 ∧ (ROk l h → ¬ l > h → l ≤ r ∧ r ≤ h) := by
  obtain ⟨k, rfl⟩ : ∃ m, k = m + 1 := ⟨k - 1, by omega⟩
  have J : Tot (laws_within.j0 (k + 1) x i true l h) fun r => -9223372036854775808 ≤ r ∧ r ≤ 9223372036854775807 := by
    simp only [laws_within.j0, if_true]
    exact Tot.then (at_tot hx h0 (by omega)) fun a ha => Tot.here (wrap64_in _)
  unfold laws_within.f
  refine Tot.ite (fun c => J.mono fun r hr => ⟨hr.1, hr.2, fun _ n => absurd c n⟩) fun c => ?_
  rw [srangeOk_eq]
  simp only [Option.bind_some]
  by_cases o : ROk l h
  case neg =>
    simp only [o, decide_false, Bool.not_false]
    exact J.mono fun r hr => ⟨hr.1, hr.2, fun n => n.elim⟩
  have b := o.some c
  unfold NOk at b
  simp only [o, decide_true, Bool.not_true, laws_within.j0, Bool.false_eq_true, if_false]
  rw [wrap64_id (x := i + 5) (by omega) (by omega), wrap64_id (x := h - l) (by omega) (by omega), wrap64_id (x := h - l + 1) (by omega) (by omega)]
  have fin : ∀ r : Int, l ≤ r → r ≤ h → (-9223372036854775808 ≤ r ∧ r ≤ 9223372036854775807 ∧ (ROk l h → ¬ l > h → l ≤ r ∧ r ≤ h)) := fun r a b => ⟨by omega, by omega, fun _ _ => ⟨a, b⟩⟩
  refine Tot.then (at_tot hx (by omega) (by omega)) fun a ha => Tot.ite (fun _ => ?_) fun _ => Tot.ite (fun _ => ?_) fun _ => ?_
  · refine Tot.then (at_tot hx h0 (by omega)) fun a ha => ?_
    rw [if_neg (by omega), wrap64_id (x := a) (by omega) (by omega)]
    have t0 := tmod_nonneg (b := h - l + 1) (tmod_nonneg (a := a) (b := 3) (by omega))
    have t1 := tmod_lt (a := Int.tmod a 3) (b := h - l + 1) (by omega)
    rw [wrap64_id (x := l + Int.tmod (Int.tmod a 3) (h - l + 1)) (by omega) (by omega)]
    exact Tot.here ⟨by omega, by omega, fun _ _ => ⟨by omega, by omega⟩⟩
  · refine Tot.then (at_tot hx h0 (by omega)) fun a ha => ?_
    rw [if_neg (by omega), wrap64_id (x := a) (by omega) (by omega)]
    have t0 := tmod_nonneg (b := h - l + 1) (tmod_nonneg (a := a) (b := 3) (by omega))
    have t1 := tmod_lt (a := Int.tmod a 3) (b := h - l + 1) (by omega)
    rw [wrap64_id (x := h - Int.tmod (Int.tmod a 3) (h - l + 1)) (by omega) (by omega)]
    exact Tot.here ⟨by omega, by omega, fun _ _ => ⟨by omega, by omega⟩⟩
  · refine Tot.then (wide_tot hx h0 (by omega)) fun a ha => ?_
    rw [if_neg (by omega)]
    have t0 := tmod_nonneg (b := h - l + 1) ha.1
    have t1 := tmod_lt (a := a) (b := h - l + 1) (by omega)
    rw [wrap64_id (x := l + Int.tmod a (h - l + 1)) (by omega) (by omega)]
    exact Tot.here ⟨by omega, by omega, fun _ _ => ⟨by omega, by omega⟩⟩
/-! spec_l8Range -/
theorem drawRange_tot (k : Nat) (hk : 42 ≤ k) {s : List Int} {p : Int} (hs : Bytes s) (h0 : 0 ≤ p) (h1 : p ≤ 100000000) :
    Tot (spec_l8Range.f k s p) fun r => p < r.2.2 ∧ r.2.2 ≤ p + 20 ∧ ROk r.1 r.2.1 := by
  have go : ∀ {n q : Int}, 0 ≤ q → q ≤ 100001000 → Tot (spec_l1Rd_pick.f k s q n) fun r => r.2 = q + 1 ∧ 0 ≤ r.1 ∧ (1 ≤ n → r.1 < n) := fun a b => pick_tot k (by omega) hs a (by omega)
  have nm : ∀ {q : Int}, 0 ≤ q → q ≤ 100001000 → Tot (spec_l1Rd_num.f k s q) fun r => q < r.2 ∧ r.2 ≤ q + 5 ∧ -2147483648 ≤ r.1 ∧ r.1 ≤ 2147483647 := fun a b => num_tot k hk hs a (by omega)
  unfold spec_l8Range.f
  refine Tot.then (go h0 (by omega)) ?_
  rintro ⟨x, q⟩ ⟨hq, x0, x1⟩
  dsimp only at hq x0 x1 ⊢
  subst hq
  refine Tot.ite (fun _ => ?_) fun _ => ?_
  · rw [snone_eq]
    exact Tot.here ⟨by dsimp only; omega, by dsimp only; omega, rok_none⟩
  · refine Tot.then (nm (by omega) (by omega)) ?_
    rintro ⟨y, q⟩ ⟨hq, hq', y0, y1⟩
    dsimp only at hq hq' y0 y1 ⊢
    refine Tot.ite (fun _ => ?_) fun _ => Tot.ite (fun _ => ?_) fun _ => Tot.ite (fun _ => ?_) fun _ => ?_
    · exact Tot.here ⟨by dsimp only; omega, by dsimp only; omega, Or.inr ⟨⟨y0, y1⟩, ⟨y0, y1⟩, Int.le_refl _⟩⟩
    · refine Tot.then (go (by omega) (by omega)) ?_
      rintro ⟨z, q'⟩ ⟨hr, z0, z1⟩
      dsimp only at hr z0 z1 ⊢
      rw [scut_eq]
      exact Tot.here ⟨by dsimp only; omega, by dsimp only; omega, RFrom_ok _ _⟩
    · exact Tot.here ⟨by dsimp only; omega, by dsimp only; omega, Or.inr (by unfold NOk; dsimp only; omega)⟩
    · refine Tot.then (nm (by omega) (by omega)) ?_
      rintro ⟨z, q'⟩ ⟨hr, hr', z0, z1⟩
      dsimp only at hr hr' z0 z1 ⊢
      rw [smin_eq, smax_eq]
      simp only [Option.bind_some]
      rw [scut_eq]
      exact Tot.here ⟨by dsimp only; omega, by dsimp only; omega, RFrom_ok _ _⟩
/-! spec_l8Wild -/
theorem drawWild_tot (k : Nat) (hk : 42 ≤ k) {s : List Int} {p : Int} (hs : Bytes s) (h0 : 0 ≤ p) (h1 : p ≤ 10000000) :
    Tot (spec_l8Wild.f k s p) fun r => p < r.2.2 ∧ r.2.2 ≤ p + 30 := by
  unfold spec_l8Wild.f
  refine Tot.then (pick_tot k (by omega) hs h0 (by omega)) ?_
  rintro ⟨x, q⟩ ⟨hq, x0, x1⟩
  dsimp only at hq x0 x1 ⊢
  subst hq
  refine Tot.ite (fun _ => ?_) fun _ => ?_
  · refine Tot.then (wild_tot k hk hs (by omega) (by omega)) ?_
    rintro ⟨y, q⟩ ⟨hq, hq', -, -⟩
    dsimp only at hq hq' ⊢
    refine Tot.then (wild_tot k hk hs (by omega) (by omega)) ?_
    rintro ⟨z, q'⟩ ⟨hr, hr', -, -⟩
    dsimp only at hr hr' ⊢
    exact Tot.here ⟨by dsimp only; omega, by dsimp only; omega⟩
  · refine Tot.then (drawRange_tot k hk hs (by omega) (by omega)) ?_
    rintro ⟨y, z, q⟩ ⟨hq, hq', -⟩
    dsimp only at hq hq' ⊢
    exact Tot.here ⟨by dsimp only; omega, by dsimp only; omega⟩
/-! spec_l8Two -/
theorem drawTwo_tot (k : Nat) (hk : 43 ≤ k) {s : List Int} {p : Int} (hs : Bytes s) (h0 : 0 ≤ p) (h1 : p ≤ 1000000) :
    Tot (spec_l8Two.f k s p) fun r => p < r.2.2.2.2 ∧ r.2.2.2.2 ≤ p + 70 := by
  obtain ⟨k, rfl⟩ : ∃ m, k = m + 1 := ⟨k - 1, by omega⟩
  have J : ∀ (b : Bool) (q a1 a2 a3 a4 : Int), 0 ≤ q → q ≤ 1000100 → Tot (spec_l8Two.j0 (k + 1) b s q a1 a2 a3 a4) fun r => q ≤ r.2.2.2.2 ∧ r.2.2.2.2 ≤ q + 2 := by
    intro b q a1 a2 a3 a4 g0 g1
    simp only [spec_l8Two.j0]
    refine Tot.ite (fun _ => ?_) fun _ => Tot.here ⟨by dsimp only; omega, by dsimp only; omega⟩
    refine Tot.then (pick_tot k (by omega) hs g0 (by omega)) ?_
    rintro ⟨x, q1⟩ ⟨hq, -, -⟩
    dsimp only at hq ⊢
    refine Tot.then (pick_tot k (by omega) hs (by omega) (by omega)) ?_
    rintro ⟨y, q2⟩ ⟨hr, -, -⟩
    dsimp only at hr ⊢
    rw [scut_eq]
    exact Tot.here ⟨by dsimp only; omega, by dsimp only; omega⟩
  unfold spec_l8Two.f
  refine Tot.then (drawWild_tot _ (by omega) hs h0 (by omega)) ?_
  rintro ⟨a, b, q⟩ ⟨hq, hq'⟩
  dsimp only at hq hq' ⊢
  refine Tot.then (drawWild_tot _ (by omega) hs (by omega) (by omega)) ?_
  rintro ⟨c, d, q1⟩ ⟨hr, hr'⟩
  dsimp only at hr hr' ⊢
  refine Tot.then (pick_tot _ (by omega) hs (by omega) (by omega)) ?_
  rintro ⟨x, q2⟩ ⟨ht, -, -⟩
  dsimp only at ht ⊢
  have fin : ∀ r : Int × Int × Int × Int × Int, q2 ≤ r.2.2.2.2 ∧ r.2.2.2.2 ≤ q2 + 2 → p < r.2.2.2.2 ∧ r.2.2.2.2 ≤ p + 70 := fun r h => by omega
  refine Tot.ite (fun _ => ?_) fun _ => (J _ _ _ _ _ _ (by omega) (by omega)).mono fin
  rw [srangeOk_eq]
  simp only [Option.bind_some]
  refine Tot.ite (fun _ => ?_) fun _ => (J _ _ _ _ _ _ (by omega) (by omega)).mono fin
  rw [snone_eq]
  simp only [Option.bind_some]
  exact (J _ _ _ _ _ _ (by omega) (by omega)).mono fin
/-! impl_NumCmp -/
theorem numCmp_eq (c p q : Int) : impl_NumCmp.f c p q = some (decide (Cmp c p q)) := by
  unfold impl_NumCmp.f
  by_cases c1 : c = 1
  · rw [if_pos c1]; congr 1; rw [Bool.eq_iff_iff]; simp [Cmp, c1]
  rw [if_neg c1]
  by_cases c2 : c = 2
  · rw [if_pos c2]; congr 1; rw [Bool.eq_iff_iff]; simp [Cmp, c2]
  rw [if_neg c2]
  by_cases c3 : c = 3
  · rw [if_pos c3]; exact dcl (by unfold Cmp; omega)
  rw [if_neg c3]
  by_cases c4 : c = 4
  · rw [if_pos c4]; exact dcl (by unfold Cmp; omega)
  rw [if_neg c4]
  by_cases c5 : c = 5
  · rw [if_pos c5]; exact dcl (by unfold Cmp; omega)
  rw [if_neg c5]
  by_cases c6 : c = 6
  · rw [if_pos c6]; exact dcl (by unfold Cmp; omega)
  rw [if_neg c6]; exact dfl (by unfold Cmp; omega)
/-! impl_rangeWithout -/
theorem rangeWithout_eq (k : Nat) (hk : 1 ≤ k) {l h : Int} (l' h' : Int) (hl : NOk l) (hh : NOk h) : impl_rangeWithout.f k l h l' h' = some (RWithout l h l' h') := by
  obtain ⟨k, rfl⟩ : ∃ m, k = m + 1 := ⟨k - 1, by omega⟩
  unfold NOk at hl hh
  unfold impl_rangeWithout.f impl_Range_single.f RWithout
  simp only [Option.bind_some, beq_iff_eq]
  by_cases c : l' = h'
  · rw [if_pos c]
    simp only [impl_rangeWithout.j0, beq_iff_eq]
    by_cases c1 : l' = l
    · rw [if_pos c1, if_pos (⟨c, c1⟩ : l' = h' ∧ l' = l), wrap64_id (by omega) (by omega), rangeFrom_eq]; rfl
    · rw [if_neg c1, if_neg (fun x => c1 x.2 : ¬ (l' = h' ∧ l' = l))]
      unfold impl_Range_single.f
      simp only [Option.bind_some, beq_iff_eq]
      rw [if_pos c]
      by_cases c2 : l' = h
      · rw [if_pos c2, if_pos (⟨c, c2⟩ : l' = h' ∧ l' = h), wrap64_id (by omega) (by omega), rangeFrom_eq]; rfl
      · rw [if_neg c2, if_neg (fun x => c2 x.2 : ¬ (l' = h' ∧ l' = h))]
  · rw [if_neg c, if_neg (fun x => c x.1 : ¬ (l' = h' ∧ l' = l)), if_neg (fun x => c x.1 : ¬ (l' = h' ∧ l' = h))]
    simp only [impl_rangeWithout.j0, Bool.false_eq_true, if_false]
    unfold impl_Range_single.f
    simp only [Option.bind_some, beq_iff_eq]
    rw [if_neg c]
/-! impl_RangeCmp -/
theorem rcmp_j2 (k : Nat) (x y : Int × Int) : impl_RangeCmp.j2 (k + 2) x.1 x.2 y.1 y.2 = some (RNorm x y) := by
  simp only [impl_RangeCmp.j2, rangeEmpty_eq, Option.bind_some, decide_eq_true_eq]
  unfold RNorm
  by_cases c : x.1 > x.2
  · rw [if_pos c, if_pos (Or.inl c)]
    simp only [impl_RangeCmp.j3, if_true, rangeNone_eq, Option.bind_some]
  · rw [if_neg c]
    by_cases d : y.1 > y.2
    · rw [if_pos (Or.inr d)]
      simp only [d, decide_true, impl_RangeCmp.j3, if_true, rangeNone_eq, Option.bind_some]
    · rw [if_neg (by intro z; rcases z with z | z; exact c z; exact d z)]
      simp only [d, decide_false, impl_RangeCmp.j3, Bool.false_eq_true, if_false]
theorem rangeCmp_low (k : Nat) (hk : 6 ≤ k) {c : Int} (hc : c = 1 ∨ c = 2 ∨ c = 3 ∨ c = 4) (l h l' h' : Int) : impl_RangeCmp.f k c l h l' h' = some (RCmp c l h l' h') := by
  obtain ⟨k, rfl⟩ : ∃ m, k = m + 4 := ⟨k - 4, by omega⟩
  simp only [impl_RangeCmp.f]
  rw [rangeOk_eq, rangeOk_eq, rangeEmpty_eq, rangeEmpty_eq]
  simp only [Option.bind_some]
  have N : impl_RangeCmp.j0 (k + 3) c true l h l' h' = some (1, 0, 1, 0) := by simp only [impl_RangeCmp.j0, if_true, rangeNone_eq, Option.bind_some]
  by_cases z1 : ROk l h
  case neg => rw [RCmp_none (Or.inl z1)]; simp only [z1, decide_false, Bool.false_eq_true, if_false]; exact N
  by_cases z2 : ROk l' h'
  case neg => rw [RCmp_none (Or.inr (Or.inl z2))]; simp only [z1, z2, decide_true, decide_false, if_true, Bool.false_eq_true, if_false]; exact N
  by_cases z3 : l > h
  · rw [RCmp_none (Or.inr (Or.inr (Or.inl z3)))]; simp only [z1, z2, z3, decide_true, if_true]; exact N
  by_cases z4 : l' > h'
  · rw [RCmp_none (Or.inr (Or.inr (Or.inr z4)))]; simp only [z1, z2, z3, z4, decide_true, decide_false, Bool.false_eq_true, if_false, if_true]; exact N
  have x := z1.some z3
  have y := z2.some z4
  have x' := x
  have y' := y
  unfold NOk at x' y'
  rw [RCmp_low z1 z2 z3 z4 hc]
  simp only [z1, z2, z3, z4, decide_true, decide_false, Bool.false_eq_true, if_false, if_true, impl_RangeCmp.j0]
  unfold RCmp0
  by_cases c1 : c = 1
  · rw [if_pos c1, if_pos c1, rangeMeet_eq _ (by omega)]
    simp only [Option.bind_some]
    exact rcmp_j2 _ _ _
  rw [if_neg c1, if_neg c1]
  by_cases c2 : c = 2
  · rw [if_pos c2, if_pos c2, rangeWithout_eq _ (by omega) _ _ x.1 x.2.1, rangeWithout_eq _ (by omega) _ _ y.1 y.2.1]
    simp only [Option.bind_some]
    exact rcmp_j2 _ _ _
  rw [if_neg c2, if_neg c2]
  by_cases c3 : c = 3
  · rw [if_pos c3, if_pos c3, wrap64_id (x := h' - 1) (by omega) (by omega), wrap64_id (x := l + 1) (by omega) (by omega), mn_eq, mx_eq, rangeFrom_eq, rangeFrom_eq]
    simp only [Option.bind_some]
    exact rcmp_j2 _ _ _
  have c4 : c = 4 := by omega
  rw [if_neg c3, if_neg c3, if_pos c4, mn_eq, mx_eq, rangeFrom_eq, rangeFrom_eq]
  simp only [Option.bind_some]
  exact rcmp_j2 _ _ _
theorem cmpTurn_56 (k : Nat) (hk : 1 ≤ k) {c : Int} (hc : c = 5 ∨ c = 6) : impl_CmpTurn.f k c = some (c - 2) := by
  obtain ⟨k, rfl⟩ : ∃ m, k = m + 1 := ⟨k - 1, by omega⟩
  unfold impl_CmpTurn.f
  rcases hc with rfl | rfl <;> simp [impl_CmpTurn.j0]
theorem rangeCmp_eq (k : Nat) (hk : 20 ≤ k) (c l h l' h' : Int) : impl_RangeCmp.f k c l h l' h' = some (RCmp c l h l' h') := by
  by_cases hc : c = 1 ∨ c = 2 ∨ c = 3 ∨ c = 4
  · exact rangeCmp_low k (by omega) hc l h l' h'
  obtain ⟨k, rfl⟩ : ∃ m, k = m + 5 := ⟨k - 5, by omega⟩
  simp only [impl_RangeCmp.f]
  rw [rangeOk_eq, rangeOk_eq, rangeEmpty_eq, rangeEmpty_eq]
  simp only [Option.bind_some]
  have N : impl_RangeCmp.j0 (k + 4) c true l h l' h' = some (1, 0, 1, 0) := by simp only [impl_RangeCmp.j0, if_true, rangeNone_eq, Option.bind_some]
  by_cases z1 : ROk l h
  case neg => rw [RCmp_none (Or.inl z1)]; simp only [z1, decide_false, Bool.false_eq_true, if_false]; exact N
  by_cases z2 : ROk l' h'
  case neg => rw [RCmp_none (Or.inr (Or.inl z2))]; simp only [z1, z2, decide_true, decide_false, if_true, Bool.false_eq_true, if_false]; exact N
  by_cases z3 : l > h
  · rw [RCmp_none (Or.inr (Or.inr (Or.inl z3)))]; simp only [z1, z2, z3, decide_true, if_true]; exact N
  by_cases z4 : l' > h'
  · rw [RCmp_none (Or.inr (Or.inr (Or.inr z4)))]; simp only [z1, z2, z3, z4, decide_true, decide_false, Bool.false_eq_true, if_false, if_true]; exact N
  simp only [z1, z2, z3, z4, decide_true, decide_false, Bool.false_eq_true, if_false, if_true, impl_RangeCmp.j0]
  rw [if_neg (by omega : ¬ c = 1), if_neg (by omega : ¬ c = 2), if_neg (by omega : ¬ c = 3), if_neg (by omega : ¬ c = 4)]
  have swap : ∀ d : Int, d = 3 ∨ d = 4 → RCmp d l' h' l h = RNorm (RCmp0 d l' h' l h).1 (RCmp0 d l' h' l h).2 := by
    intro d hd
    exact RCmp_low z2 z1 z4 z3 (by omega)
  by_cases c5 : c = 5
  · subst c5
    rw [RCmp_5 z1 z2 z3 z4, if_pos rfl]
    simp only [impl_RangeCmp.j1, beq_self_eq_true, if_true]
    rw [cmpTurn_56 _ (by omega) (Or.inl rfl)]
    simp only [Option.bind_some]
    rw [rangeCmp_low _ (by omega) (by omega), swap _ (by omega)]
    simp only [Option.bind_some]
    have e := rcmp_j2 (k + 1) ((RNorm (RCmp0 3 l' h' l h).1 (RCmp0 3 l' h' l h).2).2.2.1, (RNorm (RCmp0 3 l' h' l h).1 (RCmp0 3 l' h' l h).2).2.2.2) ((RNorm (RCmp0 3 l' h' l h).1 (RCmp0 3 l' h' l h).2).1, (RNorm (RCmp0 3 l' h' l h).1 (RCmp0 3 l' h' l h).2).2.1)
    rw [RNorm_swap] at e
    exact e
  rw [if_neg c5]
  by_cases c6 : c = 6
  · subst c6
    rw [RCmp_6 z1 z2 z3 z4]
    simp only [impl_RangeCmp.j1, beq_self_eq_true, if_true]
    rw [cmpTurn_56 _ (by omega) (Or.inr rfl)]
    simp only [Option.bind_some]
    rw [rangeCmp_low _ (by omega) (by omega), swap _ (by omega)]
    simp only [Option.bind_some]
    have e := rcmp_j2 (k + 1) ((RNorm (RCmp0 4 l' h' l h).1 (RCmp0 4 l' h' l h).2).2.2.1, (RNorm (RCmp0 4 l' h' l h).1 (RCmp0 4 l' h' l h).2).2.2.2) ((RNorm (RCmp0 4 l' h' l h).1 (RCmp0 4 l' h' l h).2).1, (RNorm (RCmp0 4 l' h' l h).1 (RCmp0 4 l' h' l h).2).2.1)
    rw [RNorm_swap] at e
    exact e
  rw [RCmp_out hc c5 c6]
  have e6 : (c == 6) = false := by simpa using c6
  rw [e6]
  simp only [impl_RangeCmp.j1, Bool.false_eq_true, if_false, rangeNone_eq, Option.bind_some]
/-! spec_l8Ne -/
theorem sne_eq {l h : Int} (l' h' : Int) (hl : NOk l) (hh : NOk h) : spec_l8Ne.f l h l' h' = some (RWithout l h l' h') := by
  unfold NOk at hl hh
  unfold spec_l8Ne.f RWithout
  by_cases c : l' = h'
  · rw [if_pos c]
    by_cases c1 : l = l'
    · rw [if_pos c1, if_pos (⟨c, c1.symm⟩ : l' = h' ∧ l' = l), wrap64_id (by omega) (by omega), scut_eq]; rfl
    · rw [if_neg c1, if_neg (fun x => c1 x.2.symm : ¬ (l' = h' ∧ l' = l))]
      by_cases c2 : h = l'
      · rw [if_pos c2, if_pos (⟨c, c2.symm⟩ : l' = h' ∧ l' = h), wrap64_id (by omega) (by omega), scut_eq]; rfl
      · rw [if_neg c2, if_neg (fun x => c2 x.2.symm : ¬ (l' = h' ∧ l' = h))]
  · rw [if_neg c, if_neg (fun x => c x.1 : ¬ (l' = h' ∧ l' = l)), if_neg (fun x => c x.1 : ¬ (l' = h' ∧ l' = h))]
/-! spec_RangeCmp -/
theorem srcmp_j6 (k : Nat) (x y : Int × Int) (o : ROk x.1 x.2) (o' : ROk y.1 y.2) : spec_RangeCmp.j6 (k + 2) x.1 x.2 y.1 y.2 = some (RNorm x y) := by
  simp only [spec_RangeCmp.j6, snone_eq, Option.bind_some, Bool.and_eq_true, beq_iff_eq]
  unfold RNorm
  by_cases c : x.1 = 1 ∧ x.2 = 0
  · rw [if_pos c, if_pos (Or.inl (o.empty_iff.mpr c))]
    simp only [spec_RangeCmp.j7, if_true, snone_eq, Option.bind_some]
  · rw [if_neg c]
    have c' : ¬ x.1 > x.2 := fun e => c (o.empty_iff.mp e)
    by_cases d : y.1 = 1 ∧ y.2 = 0
    · rw [if_pos (Or.inr (o'.empty_iff.mpr d))]
      have e : (y.1 == 1 && y.2 == 0) = true := by simp [d]
      simp only [e, spec_RangeCmp.j7, if_true, snone_eq, Option.bind_some]
    · have d' : ¬ y.1 > y.2 := fun e => d (o'.empty_iff.mp e)
      rw [if_neg (by intro z; rcases z with z | z; exact c' z; exact d' z)]
      have e : (y.1 == 1 && y.2 == 0) = false := by rw [Bool.eq_false_iff]; simpa using d
      simp only [e, spec_RangeCmp.j7, Bool.false_eq_true, if_false]
theorem srcmp_j4 (k : Nat) {c : Int} (hc : c = 1 ∨ c = 2 ∨ c = 3 ∨ c = 4) (l h l' h' : Int) (x y : Int × Int) (o : ROk x.1 x.2) (o' : ROk y.1 y.2) : spec_RangeCmp.j4 (k + 4) c l h l' h' x.1 x.2 y.1 y.2 = some (RNorm x y) := by
  have e6 : (c == 6) = false := by rw [Bool.eq_false_iff]; simp; omega
  simp only [spec_RangeCmp.j4]
  rw [if_neg (by omega), e6]
  simp only [spec_RangeCmp.j5, Bool.false_eq_true, if_false]
  exact srcmp_j6 k x y o o'
theorem srangeCmp_low (k : Nat) (hk : 12 ≤ k) {c : Int} (hc : c = 1 ∨ c = 2 ∨ c = 3 ∨ c = 4) (l h l' h' : Int) : spec_RangeCmp.f k c l h l' h' = some (RCmp c l h l' h') := by
  obtain ⟨k, rfl⟩ : ∃ m, k = m + 9 := ⟨k - 9, by omega⟩
  simp only [spec_RangeCmp.f]
  rw [srangeOk_eq, srangeOk_eq, snone_eq]
  simp only [Option.bind_some, Bool.and_eq_true, beq_iff_eq]
  have N : spec_RangeCmp.j0 (k + 8) c true l h l' h' 1 0 1 0 = some (1, 0, 1, 0) := by simp only [spec_RangeCmp.j0, if_true]
  by_cases z1 : ROk l h
  case neg => rw [RCmp_none (Or.inl z1)]; simp only [z1, decide_false, Bool.false_eq_true, if_false]; exact N
  by_cases z2 : ROk l' h'
  case neg => rw [RCmp_none (Or.inr (Or.inl z2))]; simp only [z1, z2, decide_true, decide_false, if_true, Bool.false_eq_true, if_false]; exact N
  by_cases y3 : l = 1 ∧ h = 0
  · have z3 : l > h := z1.empty_iff.mpr y3
    rw [RCmp_none (Or.inr (Or.inr (Or.inl z3)))]; simp only [z1, z2, decide_true, if_true]; rw [if_pos y3]; exact N
  have z3 : ¬ l > h := fun e => y3 (z1.empty_iff.mp e)
  by_cases y4 : l' = 1 ∧ h' = 0
  · have z4 : l' > h' := z2.empty_iff.mpr y4
    have e : (l' == 1 && h' == 0) = true := by simp [y4]
    rw [RCmp_none (Or.inr (Or.inr (Or.inr z4)))]; simp only [z1, z2, decide_true, if_true]; rw [if_neg y3, e]; exact N
  have z4 : ¬ l' > h' := fun e => y4 (z2.empty_iff.mp e)
  have e : (l' == 1 && h' == 0) = false := by rw [Bool.eq_false_iff]; simpa using y4
  have x := z1.some z3
  have y := z2.some z4
  have x' := x
  have y' := y
  unfold NOk at x' y'
  rw [RCmp_low z1 z2 z3 z4 hc]
  simp only [z1, z2, decide_true, if_true]
  rw [if_neg y3, e]
  simp only [spec_RangeCmp.j0, Bool.false_eq_true, if_false]
  have ok := RCmp0_ok (c := c) z1 z2
  unfold RCmp0 at ok ⊢
  by_cases c1 : c = 1
  · simp only [if_pos c1] at ok ⊢
    rw [srangeMeet_eq _ (by omega)]
    simp only [Option.bind_some, spec_RangeCmp.j1]
    rw [if_neg (by omega)]
    simp only [spec_RangeCmp.j2]
    rw [if_neg (by omega)]
    simp only [spec_RangeCmp.j3]
    rw [if_neg (by omega)]
    exact srcmp_j4 _ hc _ _ _ _ _ _ ok.1 ok.2
  simp only [if_neg c1] at ok ⊢
  simp only [spec_RangeCmp.j1]
  by_cases c2 : c = 2
  · simp only [if_pos c2] at ok ⊢
    rw [sne_eq _ _ x.1 x.2.1, sne_eq _ _ y.1 y.2.1]
    simp only [Option.bind_some, spec_RangeCmp.j2]
    rw [if_neg (by omega)]
    simp only [spec_RangeCmp.j3]
    rw [if_neg (by omega)]
    exact srcmp_j4 _ hc _ _ _ _ _ _ ok.1 ok.2
  simp only [if_neg c2] at ok ⊢
  simp only [spec_RangeCmp.j2]
  by_cases c3 : c = 3
  · simp only [if_pos c3] at ok ⊢
    rw [wrap64_id (x := h' - 1) (by omega) (by omega), wrap64_id (x := l + 1) (by omega) (by omega), smin_eq, smax_eq]
    simp only [Option.bind_some]
    rw [scut_eq, scut_eq]
    simp only [Option.bind_some, spec_RangeCmp.j3]
    rw [if_neg (by omega)]
    exact srcmp_j4 _ hc _ _ _ _ _ _ ok.1 ok.2
  simp only [if_neg c3] at ok ⊢
  simp only [spec_RangeCmp.j3]
  rw [if_pos (by omega), smin_eq, smax_eq]
  simp only [Option.bind_some]
  rw [scut_eq, scut_eq]
  simp only [Option.bind_some]
  exact srcmp_j4 _ hc _ _ _ _ _ _ ok.1 ok.2
theorem srangeCmp_eq (k : Nat) (hk : 30 ≤ k) (c l h l' h' : Int) : spec_RangeCmp.f k c l h l' h' = some (RCmp c l h l' h') := by
  by_cases hc : c = 1 ∨ c = 2 ∨ c = 3 ∨ c = 4
  · exact srangeCmp_low k (by omega) hc l h l' h'
  obtain ⟨k, rfl⟩ : ∃ m, k = m + 9 := ⟨k - 9, by omega⟩
  simp only [spec_RangeCmp.f]
  rw [srangeOk_eq, srangeOk_eq, snone_eq]
  simp only [Option.bind_some, Bool.and_eq_true, beq_iff_eq]
  have N : spec_RangeCmp.j0 (k + 8) c true l h l' h' 1 0 1 0 = some (1, 0, 1, 0) := by simp only [spec_RangeCmp.j0, if_true]
  by_cases z1 : ROk l h
  case neg => rw [RCmp_none (Or.inl z1)]; simp only [z1, decide_false, Bool.false_eq_true, if_false]; exact N
  by_cases z2 : ROk l' h'
  case neg => rw [RCmp_none (Or.inr (Or.inl z2))]; simp only [z1, z2, decide_true, decide_false, if_true, Bool.false_eq_true, if_false]; exact N
  by_cases y3 : l = 1 ∧ h = 0
  · have z3 : l > h := z1.empty_iff.mpr y3
    rw [RCmp_none (Or.inr (Or.inr (Or.inl z3)))]; simp only [z1, z2, decide_true, if_true]; rw [if_pos y3]; exact N
  have z3 : ¬ l > h := fun e => y3 (z1.empty_iff.mp e)
  by_cases y4 : l' = 1 ∧ h' = 0
  · have z4 : l' > h' := z2.empty_iff.mpr y4
    have e : (l' == 1 && h' == 0) = true := by simp [y4]
    rw [RCmp_none (Or.inr (Or.inr (Or.inr z4)))]; simp only [z1, z2, decide_true, if_true]; rw [if_neg y3, e]; exact N
  have z4 : ¬ l' > h' := fun e => y4 (z2.empty_iff.mp e)
  have e : (l' == 1 && h' == 0) = false := by rw [Bool.eq_false_iff]; simpa using y4
  simp only [z1, z2, decide_true, if_true]
  rw [if_neg y3, e]
  simp only [spec_RangeCmp.j0, Bool.false_eq_true, if_false]
  rw [if_neg (by omega : ¬ c = 1)]
  simp only [spec_RangeCmp.j1]
  rw [if_neg (by omega : ¬ c = 2)]
  simp only [spec_RangeCmp.j2]
  rw [if_neg (by omega : ¬ c = 3)]
  simp only [spec_RangeCmp.j3]
  rw [if_neg (by omega : ¬ c = 4)]
  simp only [spec_RangeCmp.j4]
  have swap : ∀ d : Int, d = 3 ∨ d = 4 → RCmp d l' h' l h = RNorm (RCmp0 d l' h' l h).1 (RCmp0 d l' h' l h).2 := by
    intro d hd
    exact RCmp_low z2 z1 z4 z3 (by omega)
  have T : ∀ d : Int, d = 3 ∨ d = 4 → spec_RangeCmp.j6 (k + 2) (RCmp d l' h' l h).2.2.1 (RCmp d l' h' l h).2.2.2 (RCmp d l' h' l h).1 (RCmp d l' h' l h).2.1 = some (RNorm (RCmp0 d l' h' l h).2 (RCmp0 d l' h' l h).1) := by
    intro d hd
    have ok := RCmp_ok d l' h' l h
    have t := srcmp_j6 k ((RCmp d l' h' l h).2.2.1, (RCmp d l' h' l h).2.2.2) ((RCmp d l' h' l h).1, (RCmp d l' h' l h).2.1) ok.2 ok.1
    rw [swap d hd, RNorm_swap] at t
    rw [swap d hd]
    exact t
  by_cases c5 : c = 5
  · subst c5
    rw [RCmp_5 z1 z2 z3 z4, if_pos rfl]
    simp only [spec_RangeCmp.j5, if_true]
    have ct : spec_CmpTurn.f 5 = some 3 := by simp [spec_CmpTurn.f]
    rw [ct]
    simp only [Option.bind_some]
    rw [srangeCmp_low _ (by omega) (by omega)]
    simp only [Option.bind_some]
    exact T 3 (by omega)
  rw [if_neg c5]
  by_cases c6 : c = 6
  · subst c6
    rw [RCmp_6 z1 z2 z3 z4]
    simp only [spec_RangeCmp.j5, beq_self_eq_true, if_true]
    have ct : spec_CmpTurn.f 6 = some 4 := by simp [spec_CmpTurn.f]
    rw [ct]
    simp only [Option.bind_some]
    rw [srangeCmp_low _ (by omega) (by omega)]
    simp only [Option.bind_some]
    exact T 4 (by omega)
  rw [RCmp_out hc c5 c6]
  have e6 : (c == 6) = false := by simpa using c6
  rw [e6]
  simp only [spec_RangeCmp.j5, Bool.false_eq_true, if_false]
  have := srcmp_j6 (k + 1) (1, 0) (1, 0) rok_none rok_none
  exact this
/-! spec_DrawRangeCmp -/
theorem drawRangeCmp_tot (k : Nat) (hk : 60 ≤ k) {l : List Int} (hl : Bytes l) : Tot (spec_DrawRangeCmp.f k l) fun _ => True := by
  unfold spec_DrawRangeCmp.f
  refine Tot.then (open_tot hl) ?_
  rintro ⟨s, p⟩ ⟨hp, hs, -⟩
  dsimp only at hp hs ⊢
  refine Tot.then (pick_tot _ (by omega) hs (by omega) (by omega)) ?_
  rintro ⟨x, q⟩ ⟨hq, -, -⟩
  dsimp only at hq ⊢
  refine Tot.then (pick_tot _ (by omega) hs (by omega) (by omega)) ?_
  rintro ⟨y, q1⟩ ⟨hr, -, -⟩
  dsimp only at hr ⊢
  refine Tot.ite (fun _ => ?_) fun _ => ?_
  · refine Tot.then (pick_tot _ (by omega) hs (by omega) (by omega)) ?_
    rintro ⟨z, q2⟩ ⟨ht, -, -⟩
    dsimp only at ht ⊢
    exact Tot.then (drawTwo_tot _ (by omega) hs (by omega) (by omega)) fun _ _ => Tot.here trivial
  · exact Tot.then (drawTwo_tot _ (by omega) hs (by omega) (by omega)) fun _ _ => Tot.here trivial
end Go.Proofs.Ytkekcenlleebeaa.LFnRangeCmp
