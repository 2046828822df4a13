/- What the small functions that the statement reaches tell, each by a plain law. Conditions: those in each law. -/
import Derived.Test.YtkekcenlleebeaaDFnValMake
import Derived.Test.YtkekcenlleebeaaBase
import Derived.Test.YtkekcenlleebeaaNumMath
import Derived.Test.YtkekcenlleebeaaBits
import Derived.Test.YtkekcenlleebeaaRangeMath
import Derived.Test.YtkekcenlleebeaaRestMath
import Derived.Test.YtkekcenlleebeaaValMath
namespace Go.Proofs.Ytkekcenlleebeaa.LFnValMake
open Go.RowKit Go.Proofs.Ytkekcenlleebeaa.PFnValMake Go.Proofs.Ytkekcenlleebeaa.Base Go.Proofs.YtkekcenlleebeaaW.PrintWords Go.Proofs.YtkekcenlleebeaaW.PrintLast Go.Proofs.YtkekcenlleebeaaW.PrintMore
set_option linter.unusedVariables false
set_option linter.unusedSimpArgs false

/-! spec_l1Rd_pick -/
theorem pick_tot (k : Nat) (hk : 1 ≤ k) {s : List Int} {p n : Int} (hs : Bytes s) (h0 : 0 ≤ p) (h1 : p ≤ 1073741824) :
    Tot (spec_l1Rd_pick.f k s p n) fun r => r.2 = p + 1 ∧ 0 ≤ r.1 ∧ (1 ≤ n → r.1 < n) := by
  obtain ⟨k, rfl⟩ : ∃ m, k = m + 1 := ⟨k - 1, by omega⟩
  have e1 : wrap64 (p + 1) = p + 1 := wrap64_id (by omega) (by omega)
  have e2 : wrap64 (p + 1 - 1) = p := by rw [wrap64_id (by omega) (by omega)]; omega
  unfold spec_l1Rd_pick.f
  rw [e1]
  refine Tot.ite (fun hn => ?_) (fun hn => ?_)
  · simp only [spec_l1Rd_pick.j0, if_true]
    exact Tot.here ⟨rfl, Int.le_refl _, fun h => by omega⟩
  · simp only [spec_l1Rd_pick.j0, e2]
    refine Tot.ite (fun h => Tot.here ⟨rfl, Int.le_refl _, fun _ => by dsimp only; omega⟩) fun h => ?_
    have hne : (s.length : Int) ≠ 0 := by simpa using h
    have hlen : 0 < (s.length : Int) := by omega
    refine Tot.ite (fun hp => ?_) fun hp => ?_
    · rw [if_pos h0, if_neg (by omega)]
      have b := hs.byte p
      rw [wrap64_id (by omega) (by omega)]
      exact Tot.here ⟨rfl, tmod_nonneg b.1, fun _ => tmod_lt (by omega)⟩
    · have m1 := tmod_nonneg (b := (s.length : Int)) h0
      have m2 := tmod_lt (a := p) hlen
      have q1 : wrap64 (p * 7) = p * 7 := wrap64_id (by omega) (by omega)
      have q2 : wrap64 (p * 7 + 3) = p * 7 + 3 := wrap64_id (by omega) (by omega)
      have m3 := tmod_nonneg (b := (s.length : Int)) (a := p * 7 + 3) (by omega)
      have m4 := tmod_lt (a := p * 7 + 3) hlen
      rw [if_neg hne, if_pos m1, if_pos m2, q1, q2, if_pos m3, if_pos m4, if_neg (by omega)]
      have b1 := hs.byte (Int.tmod p s.length)
      have b2 := hs.byte (Int.tmod (p * 7 + 3) s.length)
      generalize rd s (Int.tmod p s.length) = x1 at *
      generalize rd s (Int.tmod (p * 7 + 3) s.length) = x2 at *
      have d1 := tdiv_nonneg h0 (Int.le_of_lt hlen)
      have d2 := tdiv_le h0 hlen
      generalize Int.tdiv p s.length = d at *
      rw [wrap64_id (x := x1) (by omega) (by omega), wrap64_id (x := x2) (by omega) (by omega), wrap64_id (x := d) (by omega) (by omega)]
      rw [wrap64_id (x := x1 * 131) (by omega) (by omega), wrap64_id (x := x2 * 1117) (by omega) (by omega), wrap64_id (x := p * 29) (by omega) (by omega), wrap64_id (x := d * 53) (by omega) (by omega)]
      rw [wrap64_id (x := x1 * 131 + x2 * 1117) (by omega) (by omega)]
      rw [wrap64_id (x := x1 * 131 + x2 * 1117 + p * 29) (by omega) (by omega)]
      rw [wrap64_id (x := x1 * 131 + x2 * 1117 + p * 29 + d * 53) (by omega) (by omega)]
      have z0 : 0 ≤ x1 * 131 + x2 * 1117 + p * 29 + d * 53 := by omega
      have z1 : x1 * 131 + x2 * 1117 + p * 29 + d * 53 < 9223372036854775808 := by omega
      generalize x1 * 131 + x2 * 1117 + p * 29 + d * 53 = z at *
      have y0 := tdiv_nonneg (b := 64) z0 (by omega)
      have y1 := tdiv_le (b := 64) z0 (by omega)
      rw [wrap64_id (x := Int.tdiv z 64) (by omega) (by omega)]
      exact Tot.here ⟨rfl, tmod_nonneg (bits_xor_nonneg_in z0 z1 y0 (by omega)), fun _ => tmod_lt (by omega)⟩
/-! spec_l1Open -/
theorem open_tot {s : List Int} (hs : Bytes s) : Tot (spec_l1Open.f s) fun r => r.2 = 0 ∧ Bytes r.1 ∧ r.1.length ≤ 2000 := by
  unfold spec_l1Open.f
  refine Tot.ite (fun h => ?_) (fun h => ?_)
  · rw [if_pos (by omega)]
    exact Tot.here ⟨rfl, hs.take _, by simp only [List.length_take]; omega⟩
  · exact Tot.here ⟨rfl, hs, by dsimp only; omega⟩
/-! spec_l1Power -/
theorem power_l0 (n : Int) : ∀ (d k : Nat) (o i : Int), 0 ≤ i → i ≤ n → n ≤ 40 → (n - i : Int) = d → d < k → o = 2 ^ i.toNat → spec_l1Power.l0 k n o i = some (2 ^ n.toNat) := by
  intro d
  induction d with
  | zero =>
    intro k o i h0 h1 h2 hd hk ho
    obtain ⟨k, rfl⟩ : ∃ m, k = m + 1 := ⟨k - 1, by omega⟩
    simp only [spec_l1Power.l0]
    rw [if_neg (by omega), ho]
    have : i = n := by omega
    rw [this]
  | succ d ih =>
    intro k o i h0 h1 h2 hd hk ho
    obtain ⟨k, rfl⟩ : ∃ m, k = m + 1 := ⟨k - 1, by omega⟩
    simp only [spec_l1Power.l0]
    rw [if_pos (by omega)]
    have hp : (2 : Int) ^ i.toNat ≤ 2 ^ 40 := by
      have := Nat.pow_le_pow_right (n := 2) (by omega) (show i.toNat ≤ 40 by omega)
      exact_mod_cast this
    have hp0 : (0 : Int) < 2 ^ i.toNat := Int.pow_pos (by decide)
    have e : (i + 1).toNat = i.toNat + 1 := by omega
    rw [wrap64_id (x := 2 * o) (by omega) (by omega), wrap64_id (x := i + 1) (by omega) (by omega)]
    refine ih k _ _ (by omega) (by omega) h2 (by omega) (by omega) ?_
    rw [e, Int.pow_succ, ho]; omega
theorem power_eq (k : Nat) (hk : 42 ≤ k) {n : Int} (h0 : 0 ≤ n) (h1 : n ≤ 40) : spec_l1Power.f k n = some (2 ^ n.toNat) := by
  unfold spec_l1Power.f
  exact power_l0 n n.toNat k 1 0 (by omega) h0 h1 (by omega) (by omega) (by simp)
/-! spec_l1Mod -/
theorem mod_eq {a b : Int} (hb : 0 < b) (h : b ≤ 9223372036854775807) : spec_l1Mod.f a b = some (a % b) := by
  unfold spec_l1Mod.f
  rw [if_neg (by omega)]
  have e := Int.emod_emod_of_dvd a (Int.dvd_refl b)
  have h1 : Int.tmod a b < b := Int.tmod_lt_of_pos a hb
  have h2 : -b < Int.tmod a b := Int.lt_tmod_of_pos a hb
  have h3 := Int.mul_tdiv_add_tmod a b
  have h4 : a % b = Int.tmod a b % b := by
    conv => lhs; rw [← h3]
    rw [Int.add_comm, Int.add_mul_emod_self_left]
  by_cases hn : Int.tmod a b < 0
  · rw [if_pos hn, wrap64_id (by omega) (by omega), h4, ← Int.add_emod_right, Int.emod_eq_of_lt (by omega) (by omega)]
  · rw [if_neg hn, h4, Int.emod_eq_of_lt (by omega) (by omega)]
/-! spec_NumWrap -/
/-- The number of 32 bits that differs from one by a multiple. -/
theorem snumwrap_eq (v : Int) : spec_NumWrap.f v = some (wrap32 v) := by
  unfold spec_NumWrap.f
  rw [mod_eq (by omega) (by omega)]
  simp only [Option.bind_some]
  unfold wrap32
  by_cases h : v % 4294967296 > 2147483647
  · rw [if_pos h, wrap64_id (by omega) (by omega)]; congr 1; omega
  · rw [if_neg h]; congr 1; omega
/-! spec_l1Rd_num -/
theorem num_l0 {s : List Int} (hs : Bytes s) : ∀ (d k : Nat) (v i p : Int), 0 ≤ i → i ≤ 4 → (4 - i : Int) = d → d + 2 ≤ k → 0 ≤ p → p + d ≤ 1073741824 →
    Tot (spec_l1Rd_num.l0 k v i s p) fun r => r.2 = p + d ∧ -2147483648 ≤ r.1 ∧ r.1 ≤ 2147483647 := by
  intro d
  induction d with
  | zero =>
    intro k v i p h0 h1 hd hk hp hq
    obtain ⟨k, rfl⟩ : ∃ m, k = m + 1 := ⟨k - 1, by omega⟩
    simp only [spec_l1Rd_num.l0]
    rw [if_neg (by omega), snumwrap_eq]
    simp only [Option.bind_some]
    exact Tot.here ⟨by simp, (wrap32_in v).1, (wrap32_in v).2⟩
  | succ d ih =>
    intro k v i p h0 h1 hd hk hp hq
    obtain ⟨k, rfl⟩ : ∃ m, k = m + 1 := ⟨k - 1, by omega⟩
    simp only [spec_l1Rd_num.l0]
    rw [if_pos (by omega)]
    refine Tot.then (pick_tot k (by omega) hs hp (by omega)) ?_
    rintro ⟨x, q⟩ ⟨hq', -, -⟩
    dsimp only at hq' ⊢
    subst hq'
    rw [wrap64_id (x := i + 1) (by omega) (by omega)]
    refine (ih k _ _ _ (by omega) (by omega) (by omega) (by omega) (by omega) (by omega)).mono ?_
    rintro ⟨y, q⟩ ⟨h1, h2⟩
    exact ⟨by dsimp only at h1 ⊢; omega, h2⟩
theorem num_tot (k : Nat) (hk : 42 ≤ k) {s : List Int} {p : Int} (hs : Bytes s) (h0 : 0 ≤ p) (h1 : p ≤ 1000000000) :
    Tot (spec_l1Rd_num.f k s p) fun r => p < r.2 ∧ r.2 ≤ p + 5 ∧ -2147483648 ≤ r.1 ∧ r.1 ≤ 2147483647 := by
  have go : ∀ {n q : Int}, 0 ≤ q → q ≤ 1000000010 → Tot (spec_l1Rd_pick.f k s q n) fun r => r.2 = q + 1 ∧ 0 ≤ r.1 ∧ (1 ≤ n → r.1 < n) := fun a b => pick_tot k (by omega) hs a (by omega)
  have pw : ∀ {n : Int}, 0 ≤ n → n ≤ 30 → 0 < (2 : Int) ^ n.toNat ∧ (2 : Int) ^ n.toNat ≤ 1073741824 := fun {n} a b => by
    refine ⟨Int.pow_pos (by decide), ?_⟩
    have := Nat.pow_le_pow_right (n := 2) (by omega) (show n.toNat ≤ 30 by omega)
    have h : ((2 ^ n.toNat : Nat) : Int) ≤ ((2 ^ 30 : Nat) : Int) := by exact_mod_cast this
    simpa using h
  unfold spec_l1Rd_num.f
  refine Tot.then (go h0 (by omega)) ?_
  rintro ⟨x, q⟩ ⟨hq, x0, x1⟩
  dsimp only at hq x0 x1 ⊢
  subst hq
  refine Tot.ite (fun _ => ?_) fun _ => Tot.ite (fun _ => ?_) fun _ => Tot.ite (fun _ => ?_) fun _ => Tot.ite (fun _ => ?_) fun _ => Tot.ite (fun _ => ?_) fun _ => ?_
  · refine Tot.then (go (by omega) (by omega)) ?_
    rintro ⟨y, q⟩ ⟨hq, y0, y1⟩
    dsimp only at hq y0 y1 ⊢
    subst hq
    rw [wrap64_id (by omega) (by omega)]
    exact Tot.here ⟨by dsimp only; omega, by dsimp only; omega, by dsimp only; omega, by dsimp only; omega⟩
  · refine Tot.then (go (by omega) (by omega)) ?_
    rintro ⟨y, q⟩ ⟨hq, y0, y1⟩
    dsimp only at hq y0 y1 ⊢
    subst hq
    rw [wrap64_id (by omega) (by omega)]
    exact Tot.here ⟨by dsimp only; omega, by dsimp only; omega, by dsimp only; omega, by dsimp only; omega⟩
  · refine Tot.then (go (by omega) (by omega)) ?_
    rintro ⟨y, q⟩ ⟨hq, y0, y1⟩
    dsimp only at hq y0 y1 ⊢
    subst hq
    rw [wrap64_id (by omega) (by omega)]
    exact Tot.here ⟨by dsimp only; omega, by dsimp only; omega, by dsimp only; omega, by dsimp only; omega⟩
  · refine Tot.then (go (by omega) (by omega)) ?_
    rintro ⟨y, q⟩ ⟨hq, y0, y1⟩
    dsimp only at hq y0 y1 ⊢
    subst hq
    rw [power_eq k hk y0 (by omega)]
    simp only [Option.bind_some]
    have e := pw y0 (by omega)
    generalize (2 : Int) ^ y.toNat = z at *
    refine Tot.then (go (by omega) (by omega)) ?_
    rintro ⟨y', q⟩ ⟨hq, y0', y1'⟩
    dsimp only at hq y0' y1' ⊢
    subst hq
    rw [wrap64_id (x := z + y') (by omega) (by omega), wrap64_id (by omega) (by omega)]
    exact Tot.here ⟨by dsimp only; omega, by dsimp only; omega, by dsimp only; omega, by dsimp only; omega⟩
  · refine Tot.then (go (by omega) (by omega)) ?_
    rintro ⟨y, q⟩ ⟨hq, y0, y1⟩
    dsimp only at hq y0 y1 ⊢
    subst hq
    rw [power_eq k hk y0 (by omega)]
    simp only [Option.bind_some]
    have e := pw y0 (by omega)
    generalize (2 : Int) ^ y.toNat = z at *
    refine Tot.then (go (by omega) (by omega)) ?_
    rintro ⟨y', q⟩ ⟨hq, y0', y1'⟩
    dsimp only at hq y0' y1' ⊢
    subst hq
    rw [wrap64_id (x := -z) (by omega) (by omega), wrap64_id (x := -z + y') (by omega) (by omega), wrap64_id (by omega) (by omega)]
    exact Tot.here ⟨by dsimp only; omega, by dsimp only; omega, by dsimp only; omega, by dsimp only; omega⟩
  · refine (num_l0 hs 4 k 0 0 _ (by omega) (by omega) (by omega) (by omega) (by omega) (by omega)).mono ?_
    rintro ⟨y, q⟩ ⟨h1, h2⟩
    exact ⟨by dsimp only at h1 ⊢; omega, by dsimp only at h1 ⊢; omega, h2⟩
/-! spec_l1Rd_wild -/
theorem wild_tot (k : Nat) (hk : 42 ≤ k) {s : List Int} {p : Int} (hs : Bytes s) (h0 : 0 ≤ p) (h1 : p ≤ 999999999) :
    Tot (spec_l1Rd_wild.f k s p) fun r => p < r.2 ∧ r.2 ≤ p + 6 ∧ -9223372036854775808 ≤ r.1 ∧ r.1 ≤ 9223372036854775807 := by
  have go : ∀ {n q : Int}, 0 ≤ q → q ≤ 1000000010 → Tot (spec_l1Rd_pick.f k s q n) fun r => r.2 = q + 1 ∧ 0 ≤ r.1 ∧ (1 ≤ n → r.1 < n) := fun a b => pick_tot k (by omega) hs a (by omega)
  unfold spec_l1Rd_wild.f
  refine Tot.then (go h0 (by omega)) ?_
  rintro ⟨x, q⟩ ⟨hq, x0, x1⟩
  dsimp only at hq x0 x1 ⊢
  subst hq
  refine Tot.ite (fun _ => ?_) fun _ => Tot.ite (fun _ => ?_) fun _ => Tot.ite (fun _ => ?_) fun _ => Tot.ite (fun _ => ?_) fun _ => ?_
  iterate 4
    · refine Tot.then (go (by omega) (by omega)) ?_
      rintro ⟨y, q⟩ ⟨hq, y0, y1⟩
      dsimp only at hq y0 y1 ⊢
      subst hq
      exact Tot.here ⟨by dsimp only; omega, by dsimp only; omega, (wrap64_in _).1, (wrap64_in _).2⟩
  · refine Tot.then (num_tot k hk hs (by omega) (by omega)) ?_
    rintro ⟨y, q⟩ ⟨hq, hq', y0, y1⟩
    dsimp only at hq hq' y0 y1 ⊢
    exact Tot.here ⟨by dsimp only; omega, by dsimp only; omega, by dsimp only; omega, by dsimp only; omega⟩
/-! impl_NumOk -/
theorem numOk_eq (v : Int) : impl_NumOk.f v = some (decide (NOk v)) := by
  unfold impl_NumOk.f
  by_cases h : v ≥ -2147483648
  · rw [if_pos h]; exact dcl (by (try unfold NOk); omega)
  · rw [if_neg h]; exact dfl (by (try unfold NOk); omega)
/-! spec_l1In -/
theorem sin_eq (v a b : Int) : spec_l1In.f v a b = some (decide (a ≤ v ∧ v ≤ b)) := by
  unfold spec_l1In.f
  by_cases h : v ≥ a
  · rw [if_pos h]; exact dcl (by (try unfold NOk); omega)
  · rw [if_neg h]; exact dfl (by (try unfold NOk); omega)
/-! spec_NumOk -/
theorem snumOk_eq (v : Int) : spec_NumOk.f v = some (decide (NOk v)) := by
  unfold spec_NumOk.f
  rw [sin_eq]; exact dcl Iff.rfl
/-! laws_at -/
theorem at_tot {l : List Int} (hl : Bytes l) {i : Int} (h0 : 0 ≤ i) (h1 : i ≤ 1000000000) : Tot (laws_at.f l i) fun r => 0 ≤ r ∧ r ≤ 255 := by
  unfold laws_at.f
  refine Tot.ite (fun h => Tot.here (by omega)) fun h => ?_
  have hlen : 0 < (l.length : Int) := by omega
  refine Tot.ite (fun h => ?_) fun h => ?_
  · rw [if_pos h0]; exact Tot.here (hl.byte i)
  · have m1 := tmod_nonneg (b := (l.length : Int)) h0
    have m2 := tmod_lt (a := i) hlen
    have q1 : wrap64 (i * 5) = i * 5 := wrap64_id (by omega) (by omega)
    have q2 : wrap64 (i * 5 + 1) = i * 5 + 1 := wrap64_id (by omega) (by omega)
    have m3 := tmod_nonneg (b := (l.length : Int)) (a := i * 5 + 1) (by omega)
    have m4 := tmod_lt (a := i * 5 + 1) hlen
    rw [if_pos m1, if_pos m2, q1, q2, if_pos m3, if_pos m4]
    exact Tot.here (by omega)
/-! impl_rangeNone -/
theorem rangeNone_eq : impl_rangeNone.f = some (1, 0) := rfl
/-! spec_l8None -/
theorem snone_eq : spec_l8None.f = some (1, 0) := rfl
/-! impl_RangeOk -/
theorem rangeOk_eq (l h : Int) : impl_RangeOk.f l h = some (decide (ROk l h)) := by
  unfold impl_RangeOk.f impl_rangeNone.f ROk
  simp only [Option.bind_some, numOk_eq, Bool.and_eq_true, beq_iff_eq]
  by_cases c : l = 1 ∧ h = 0
  · simp [c]
  · by_cases c1 : NOk l <;> by_cases c2 : NOk h <;> simp [c, c1, c2]
/-! spec_RangeOk -/
theorem srangeOk_eq (l h : Int) : spec_RangeOk.f l h = some (decide (ROk l h)) := by
  unfold spec_RangeOk.f spec_l8None.f ROk
  simp only [Option.bind_some, snumOk_eq, Bool.and_eq_true, beq_iff_eq]
  by_cases c : l = 1 ∧ h = 0
  · simp [c]
  · by_cases c1 : NOk l <;> by_cases c2 : NOk h <;> simp [c, c1, c2]
/-! impl_Range_empty -/
theorem rangeEmpty_eq (l h : Int) : impl_Range_empty.f l h = some (decide (l > h)) := rfl
/-! spec_l8Min -/
theorem smin_eq (a b : Int) : spec_l8Min.f a b = some (min a b) := by
  unfold spec_l8Min.f; split <;> congr 1 <;> omega
/-! spec_l8Max -/
theorem smax_eq (a b : Int) : spec_l8Max.f a b = some (max a b) := by
  unfold spec_l8Max.f; split <;> congr 1 <;> omega
/-! spec_l8Cut -/
theorem scut_eq (a b : Int) : spec_l8Cut.f a b = some (RFrom a b) := by
  unfold spec_l8Cut.f RFrom
  rw [smax_eq, smin_eq, snone_eq]
  simp only [Option.bind_some]
  split <;> rfl
/-! impl_RangeHas -/
theorem rangeHas_eq (l h v : Int) : impl_RangeHas.f l h v = some (decide (RHas l h v)) := by
  unfold impl_RangeHas.f RHas
  rw [rangeOk_eq]
  simp only [Option.bind_some]
  by_cases c : ROk l h <;> by_cases c1 : l ≤ v <;> simp [c, c1]
/-! spec_RangeHas -/
theorem srangeHas_eq (l h v : Int) : spec_RangeHas.f l h v = some (decide (RHas l h v)) := by
  unfold spec_RangeHas.f RHas
  rw [srangeOk_eq, sin_eq]
  simp only [Option.bind_some]
  by_cases c : ROk l h <;> simp [c]
/-! laws_wide -/
theorem wide_tot {l : List Int} (hl : Bytes l) {i : Int} (h0 : 0 ≤ i) (h1 : i ≤ 100000000) : Tot (laws_wide.f l i) fun r => 0 ≤ r ∧ r < 4294967296 := by
  unfold laws_wide.f
  rw [wrap64_id (x := i + 1) (by omega) (by omega), wrap64_id (x := i + 2) (by omega) (by omega), wrap64_id (x := i + 3) (by omega) (by omega)]
  refine Tot.then (at_tot hl h0 (by omega)) fun a ha => Tot.then (at_tot hl (by omega) (by omega)) fun b hb => Tot.then (at_tot hl (by omega) (by omega)) fun c hc => Tot.then (at_tot hl (by omega) (by omega)) fun d hd => ?_
  rw [wrap64_id (x := a) (by omega) (by omega), wrap64_id (x := b) (by omega) (by omega), wrap64_id (x := c) (by omega) (by omega), wrap64_id (x := d) (by omega) (by omega)]
  rw [wrap64_id (x := a * 16777216) (by omega) (by omega), wrap64_id (x := b * 65536) (by omega) (by omega), wrap64_id (x := c * 256) (by omega) (by omega)]
  have e : (2 : Int) ^ 32 = 4294967296 := by decide
  have r1 := bits_or_nonneg (x := a * 16777216) (y := b * 65536) (n := 32) (by omega) (by omega) (by omega) (by omega) (by omega)
  have r2 := bits_or_nonneg (y := c * 256) (n := 32) (by omega) r1.1 r1.2 (by omega) (by omega)
  have r3 := bits_or_nonneg (y := d) (n := 32) (by omega) r2.1 r2.2 (by omega) (by omega)
  exact Tot.here ⟨r3.1, by omega⟩
/-! laws_within -/
/-- A drawn number of a range lies in it. -/
theorem within_tot (k : Nat) (hk : 1 ≤ k) {x : List Int} (hx : Bytes x) (l h : Int) {i : Int} (h0 : 0 ≤ i) (h1 : i ≤ 1000000) :
    Tot (laws_within.f k l h x i) fun r => -9223372036854775808 ≤ r ∧ r ≤ 9223372036854775807 ∧ (ROk l h → ¬ l > h → l ≤ r ∧ r ≤ h) := by
  obtain ⟨k, rfl⟩ : ∃ m, k = m + 1 := ⟨k - 1, by omega⟩
  have J : Tot (laws_within.j0 (k + 1) x i true l h) fun r => -9223372036854775808 ≤ r ∧ r ≤ 9223372036854775807 := by
    simp only [laws_within.j0, if_true]
    exact Tot.then (at_tot hx h0 (by omega)) fun a ha => Tot.here (wrap64_in _)
  unfold laws_within.f
  refine Tot.ite (fun c => J.mono fun r hr => ⟨hr.1, hr.2, fun _ n => absurd c n⟩) fun c => ?_
  rw [srangeOk_eq]
  simp only [Option.bind_some]
  by_cases o : ROk l h
  case neg =>
    simp only [o, decide_false, Bool.not_false]
    exact J.mono fun r hr => ⟨hr.1, hr.2, fun n => n.elim⟩
  have b := o.some c
  unfold NOk at b
  simp only [o, decide_true, Bool.not_true, laws_within.j0, Bool.false_eq_true, if_false]
  rw [wrap64_id (x := i + 5) (by omega) (by omega), wrap64_id (x := h - l) (by omega) (by omega), wrap64_id (x := h - l + 1) (by omega) (by omega)]
  have fin : ∀ r : Int, l ≤ r → r ≤ h → (-9223372036854775808 ≤ r ∧ r ≤ 9223372036854775807 ∧ (ROk l h → ¬ l > h → l ≤ r ∧ r ≤ h)) := fun r a b => ⟨by omega, by omega, fun _ _ => ⟨a, b⟩⟩
  refine Tot.then (at_tot hx (by omega) (by omega)) fun a ha => Tot.ite (fun _ => ?_) fun _ => Tot.ite (fun _ => ?_) fun _ => ?_
  · refine Tot.then (at_tot hx h0 (by omega)) fun a ha => ?_
    rw [if_neg (by omega), wrap64_id (x := a) (by omega) (by omega)]
    have t0 := tmod_nonneg (b := h - l + 1) (tmod_nonneg (a := a) (b := 3) (by omega))
    have t1 := tmod_lt (a := Int.tmod a 3) (b := h - l + 1) (by omega)
    rw [wrap64_id (x := l + Int.tmod (Int.tmod a 3) (h - l + 1)) (by omega) (by omega)]
    exact Tot.here ⟨by omega, by omega, fun _ _ => ⟨by omega, by omega⟩⟩
  · refine Tot.then (at_tot hx h0 (by omega)) fun a ha => ?_
    rw [if_neg (by omega), wrap64_id (x := a) (by omega) (by omega)]
    have t0 := tmod_nonneg (b := h - l + 1) (tmod_nonneg (a := a) (b := 3) (by omega))
    have t1 := tmod_lt (a := Int.tmod a 3) (b := h - l + 1) (by omega)
    rw [wrap64_id (x := h - Int.tmod (Int.tmod a 3) (h - l + 1)) (by omega) (by omega)]
    exact Tot.here ⟨by omega, by omega, fun _ _ => ⟨by omega, by omega⟩⟩
  · refine Tot.then (wide_tot hx h0 (by omega)) fun a ha => ?_
    rw [if_neg (by omega)]
    have t0 := tmod_nonneg (b := h - l + 1) ha.1
    have t1 := tmod_lt (a := a) (b := h - l + 1) (by omega)
    rw [wrap64_id (x := l + Int.tmod a (h - l + 1)) (by omega) (by omega)]
    exact Tot.here ⟨by omega, by omega, fun _ _ => ⟨by omega, by omega⟩⟩
/-! spec_l8Range -/
theorem drawRange_tot (k : Nat) (hk : 42 ≤ k) {s : List Int} {p : Int} (hs : Bytes s) (h0 : 0 ≤ p) (h1 : p ≤ 100000000) :
    Tot (spec_l8Range.f k s p) fun r => p < r.2.2 ∧ r.2.2 ≤ p + 20 ∧ ROk r.1 r.2.1 := by
  have go : ∀ {n q : Int}, 0 ≤ q → q ≤ 100001000 → Tot (spec_l1Rd_pick.f k s q n) fun r => r.2 = q + 1 ∧ 0 ≤ r.1 ∧ (1 ≤ n → r.1 < n) := fun a b => pick_tot k (by omega) hs a (by omega)
  have nm : ∀ {q : Int}, 0 ≤ q → q ≤ 100001000 → Tot (spec_l1Rd_num.f k s q) fun r => q < r.2 ∧ r.2 ≤ q + 5 ∧ -2147483648 ≤ r.1 ∧ r.1 ≤ 2147483647 := fun a b => num_tot k hk hs a (by omega)
  unfold spec_l8Range.f
  refine Tot.then (go h0 (by omega)) ?_
  rintro ⟨x, q⟩ ⟨hq, x0, x1⟩
  dsimp only at hq x0 x1 ⊢
  subst hq
  refine Tot.ite (fun _ => ?_) fun _ => ?_
  · rw [snone_eq]
    exact Tot.here ⟨by dsimp only; omega, by dsimp only; omega, rok_none⟩
  · refine Tot.then (nm (by omega) (by omega)) ?_
    rintro ⟨y, q⟩ ⟨hq, hq', y0, y1⟩
    dsimp only at hq hq' y0 y1 ⊢
    refine Tot.ite (fun _ => ?_) fun _ => Tot.ite (fun _ => ?_) fun _ => Tot.ite (fun _ => ?_) fun _ => ?_
    · exact Tot.here ⟨by dsimp only; omega, by dsimp only; omega, Or.inr ⟨⟨y0, y1⟩, ⟨y0, y1⟩, Int.le_refl _⟩⟩
    · refine Tot.then (go (by omega) (by omega)) ?_
      rintro ⟨z, q'⟩ ⟨hr, z0, z1⟩
      dsimp only at hr z0 z1 ⊢
      rw [scut_eq]
      exact Tot.here ⟨by dsimp only; omega, by dsimp only; omega, RFrom_ok _ _⟩
    · exact Tot.here ⟨by dsimp only; omega, by dsimp only; omega, Or.inr (by unfold NOk; dsimp only; omega)⟩
    · refine Tot.then (nm (by omega) (by omega)) ?_
      rintro ⟨z, q'⟩ ⟨hr, hr', z0, z1⟩
      dsimp only at hr hr' z0 z1 ⊢
      rw [smin_eq, smax_eq]
      simp only [Option.bind_some]
      rw [scut_eq]
      exact Tot.here ⟨by dsimp only; omega, by dsimp only; omega, RFrom_ok _ _⟩
/-! spec_l8Wild -/
theorem drawWild_tot (k : Nat) (hk : 42 ≤ k) {s : List Int} {p : Int} (hs : Bytes s) (h0 : 0 ≤ p) (h1 : p ≤ 10000000) :
    Tot (spec_l8Wild.f k s p) fun r => p < r.2.2 ∧ r.2.2 ≤ p + 30 := by
  unfold spec_l8Wild.f
  refine Tot.then (pick_tot k (by omega) hs h0 (by omega)) ?_
  rintro ⟨x, q⟩ ⟨hq, x0, x1⟩
  dsimp only at hq x0 x1 ⊢
  subst hq
  refine Tot.ite (fun _ => ?_) fun _ => ?_
  · refine Tot.then (wild_tot k hk hs (by omega) (by omega)) ?_
    rintro ⟨y, q⟩ ⟨hq, hq', -, -⟩
    dsimp only at hq hq' ⊢
    refine Tot.then (wild_tot k hk hs (by omega) (by omega)) ?_
    rintro ⟨z, q'⟩ ⟨hr, hr', -, -⟩
    dsimp only at hr hr' ⊢
    exact Tot.here ⟨by dsimp only; omega, by dsimp only; omega⟩
  · refine Tot.then (drawRange_tot k hk hs (by omega) (by omega)) ?_
    rintro ⟨y, z, q⟩ ⟨hq, hq', -⟩
    dsimp only at hq hq' ⊢
    exact Tot.here ⟨by dsimp only; omega, by dsimp only; omega⟩
/-! impl_RestOk -/
theorem restOk_eq (m a : Int) : impl_RestOk.f m a = some (decide (SOk m a)) := by
  unfold impl_RestOk.f
  rw [numOk_eq]
  simp only [Option.bind_some]
  by_cases c : m = 0
  · rw [if_pos c]; exact dcl ⟨fun h => Or.inl ⟨c, h⟩, fun h => h.zero c⟩
  · rw [if_neg c]
    have e : SOk m a ↔ (1 ≤ m ∧ m ≤ 65536 ∧ 0 ≤ a ∧ a < m) := by
      unfold SOk; constructor
      · intro h; rcases h with h | h
        · exact absurd h.1 c
        · exact h.2
      · intro h; exact Or.inr ⟨c, h⟩
    by_cases c1 : m ≥ 1
    · rw [if_pos c1]
      by_cases c2 : m ≤ 65536
      · rw [if_pos c2]
        by_cases c3 : a ≥ 0
        · rw [if_pos c3]; exact dcl (by rw [e]; omega)
        · rw [if_neg c3]; exact dfl (by rw [e]; omega)
      · rw [if_neg c2]; exact dfl (by rw [e]; omega)
    · rw [if_neg c1]; exact dfl (by rw [e]; omega)
/-! spec_RestOk -/
theorem srestOk_eq (m a : Int) : spec_RestOk.f m a = some (decide (SOk m a)) := by
  unfold spec_RestOk.f
  rw [snumOk_eq, sin_eq, sin_eq]
  simp only [Option.bind_some]
  by_cases c : m = 0
  · rw [if_pos c]; exact dcl ⟨fun h => Or.inl ⟨c, h⟩, fun h => h.zero c⟩
  · rw [if_neg c]
    have e : SOk m a ↔ (1 ≤ m ∧ m ≤ 65536 ∧ 0 ≤ a ∧ a < m) := by
      unfold SOk; constructor
      · intro h; rcases h with h | h
        · exact absurd h.1 c
        · exact h.2
      · intro h; exact Or.inr ⟨c, h⟩
    by_cases c1 : 1 ≤ m ∧ m ≤ 65536
    · simp only [c1, decide_true, if_true, and_self]
      rw [wrap64_id (by omega) (by omega)]; exact dcl (by rw [e]; omega)
    · simp only [c1, decide_false, Bool.false_eq_true, if_false]; exact dfl (by rw [e]; omega)
/-! spec_l9All -/
theorem srestAll_eq : spec_l9All.f = some (1, 0) := rfl
/-! impl_restMod -/
theorem restMod_eq {n m : Int} (hm : 0 < m) (h : m ≤ 9223372036854775807) : impl_restMod.f n m = some (n % m) := mod_eq hm h
/-! impl_RestHas -/
theorem restHas_eq (k : Nat) (hk : 1 ≤ k) (m a v : Int) : impl_RestHas.f k m a v = some (decide (SHas m a v)) := by
  obtain ⟨k, rfl⟩ : ∃ m, k = m + 1 := ⟨k - 1, by omega⟩
  unfold impl_RestHas.f
  rw [restOk_eq, numOk_eq]
  simp only [Option.bind_some]
  by_cases c : SOk m a
  case neg => simp only [c, decide_false, Bool.false_eq_true, if_false, impl_RestHas.j0, if_true]; exact dfl (fun h => c h.1)
  by_cases c1 : NOk v
  case neg => simp only [c, c1, decide_true, decide_false, Bool.not_false, impl_RestHas.j0, if_true]; exact dfl (fun h => c1 h.2.1)
  simp only [c, c1, decide_true, if_true, Bool.not_true, impl_RestHas.j0, Bool.false_eq_true, if_false]
  by_cases c2 : m = 0
  · rw [if_pos c2]
    by_cases c3 : v = a
    · subst c3
      have : SHas m v v := ⟨c, c1, Or.inl ⟨c2, rfl⟩⟩
      simp only [this, decide_true, beq_self_eq_true]
    · have : ¬ SHas m a v := fun h => by rcases h.2.2 with h | h; exact c3 h.2; exact h.1 c2
      simp [c3, this]
  · have p := c.pos c2
    rw [if_neg c2, restMod_eq (by omega) (by omega)]
    simp only [Option.bind_some]
    by_cases c3 : v % m = a
    · have : SHas m a v := ⟨c, c1, Or.inr ⟨c2, c3⟩⟩
      simp only [this, decide_true, c3, beq_self_eq_true]
    · have : ¬ SHas m a v := fun h => by rcases h.2.2 with h | h; exact c2 h.1; exact c3 h.2
      simp [c3, this]
/-! spec_RestHas -/
theorem srestHas_eq (k : Nat) (hk : 1 ≤ k) (m a v : Int) : spec_RestHas.f k m a v = some (decide (SHas m a v)) := by
  obtain ⟨k, rfl⟩ : ∃ m, k = m + 1 := ⟨k - 1, by omega⟩
  unfold spec_RestHas.f
  rw [srestOk_eq, snumOk_eq]
  simp only [Option.bind_some]
  by_cases c : SOk m a
  case neg => simp only [c, decide_false, Bool.false_eq_true, if_false, spec_RestHas.j0, if_true]; exact dfl (fun h => c h.1)
  by_cases c1 : NOk v
  case neg => simp only [c, c1, decide_true, decide_false, Bool.not_false, spec_RestHas.j0, if_true]; exact dfl (fun h => c1 h.2.1)
  simp only [c, c1, decide_true, if_true, Bool.not_true, spec_RestHas.j0, Bool.false_eq_true, if_false]
  by_cases c2 : m = 0
  · rw [if_pos c2]
    by_cases c3 : v = a
    · subst c3
      have : SHas m v v := ⟨c, c1, Or.inl ⟨c2, rfl⟩⟩
      simp only [this, decide_true, beq_self_eq_true]
    · have : ¬ SHas m a v := fun h => by rcases h.2.2 with h | h; exact c3 h.2; exact h.1 c2
      simp [c3, this]
  · have p := c.pos c2
    rw [if_neg c2, mod_eq (by omega) (by omega)]
    simp only [Option.bind_some]
    by_cases c3 : v % m = a
    · have : SHas m a v := ⟨c, c1, Or.inr ⟨c2, c3⟩⟩
      simp only [this, decide_true, c3, beq_self_eq_true]
    · have : ¬ SHas m a v := fun h => by rcases h.2.2 with h | h; exact c2 h.1; exact c3 h.2
      simp [c3, this]
/-! spec_l9Rest -/
theorem drawRest_tot (k : Nat) (hk : 42 ≤ k) {s : List Int} {p : Int} (hs : Bytes s) (h0 : 0 ≤ p) (h1 : p ≤ 10000000) :
    Tot (spec_l9Rest.f k s p) fun r => p < r.2.2 ∧ r.2.2 ≤ p + 10 ∧ SOk r.1 r.2.1 := by
  have go : ∀ {n q : Int}, 0 ≤ q → q ≤ 10001000 → Tot (spec_l1Rd_pick.f k s q n) fun r => r.2 = q + 1 ∧ 0 ≤ r.1 ∧ (1 ≤ n → r.1 < n) := fun a b => pick_tot k (by omega) hs a (by omega)
  unfold spec_l9Rest.f
  refine Tot.then (go h0 (by omega)) ?_
  rintro ⟨x, q⟩ ⟨hq, x0, x1⟩
  dsimp only at hq x0 x1 ⊢
  subst hq
  refine Tot.ite (fun _ => ?_) fun _ => Tot.ite (fun _ => ?_) fun _ => ?_
  · refine Tot.then (num_tot k hk hs (by omega) (by omega)) ?_
    rintro ⟨y, q⟩ ⟨hq, hq', y0, y1⟩
    dsimp only at hq hq' y0 y1 ⊢
    exact Tot.here ⟨by dsimp only; omega, by dsimp only; omega, Or.inl ⟨rfl, y0, y1⟩⟩
  · rw [srestAll_eq]
    exact Tot.here ⟨by dsimp only; omega, by dsimp only; omega, sok_all⟩
  · refine Tot.then (go (by omega) (by omega)) ?_
    rintro ⟨y, q⟩ ⟨hq, y0, y1⟩
    dsimp only at hq y0 y1 ⊢
    have y2 := y1 (by omega)
    refine Tot.ite (fun _ => ?_) fun _ => ?_
    · simp only [Option.bind_some]
      refine Tot.then (go (by omega) (by omega)) ?_
      rintro ⟨z, q'⟩ ⟨hr, z0, z1⟩
      dsimp only at hr z0 z1 ⊢
      have z2 := z1 (by omega)
      rw [if_pos z0, if_pos (by simp; omega)]
      refine Tot.then (go (by omega) (by omega)) ?_
      rintro ⟨u, q1⟩ ⟨ht, u0, u1⟩
      dsimp only at ht u0 u1 ⊢
      have u2 := u1 (by omega)
      refine Tot.then (go (by omega) (by omega)) ?_
      rintro ⟨v, q2⟩ ⟨hv, v0, v1⟩
      dsimp only at hv v0 v1 ⊢
      have v2 := v1 (by omega)
      rw [wrap64_id (x := u * 256) (by omega) (by omega), wrap64_id (x := u * 256 + v) (by omega) (by omega)]
      have tb : 1 ≤ rd [64, 4096, 65536, 65535, 32768, 60000] z ∧ rd [64, 4096, 65536, 65535, 32768, 60000] z ≤ 65536 := by
        have : z = 0 ∨ z = 1 ∨ z = 2 ∨ z = 3 ∨ z = 4 ∨ z = 5 := by omega
        rcases this with rfl | rfl | rfl | rfl | rfl | rfl <;> decide
      generalize rd [64, 4096, 65536, 65535, 32768, 60000] z = m at *
      rw [if_neg (by omega)]
      exact Tot.here ⟨by dsimp only; omega, by dsimp only; omega, Or.inr ⟨by dsimp only; omega, by dsimp only; omega, by dsimp only; omega, tmod_nonneg (by omega), tmod_lt (by omega)⟩⟩
    · refine Tot.then (go (by omega) (by omega)) ?_
      rintro ⟨u, q1⟩ ⟨ht, u0, u1⟩
      dsimp only at ht u0 u1 ⊢
      have u2 := u1 (by omega)
      refine Tot.then (go (by omega) (by omega)) ?_
      rintro ⟨v, q2⟩ ⟨hv, v0, v1⟩
      dsimp only at hv v0 v1 ⊢
      have v2 := v1 (by omega)
      rw [wrap64_id (x := u * 256) (by omega) (by omega), wrap64_id (x := u * 256 + v) (by omega) (by omega), wrap64_id (x := 1 + y) (by omega) (by omega), if_neg (by omega)]
      exact Tot.here ⟨by dsimp only; omega, by dsimp only; omega, Or.inr ⟨by dsimp only; omega, by dsimp only; omega, by dsimp only; omega, tmod_nonneg (by omega), tmod_lt (by omega)⟩⟩
/-! spec_l9Wild -/
theorem drawRestWild_tot (k : Nat) (hk : 42 ≤ k) {s : List Int} {p : Int} (hs : Bytes s) (h0 : 0 ≤ p) (h1 : p ≤ 1000000) :
    Tot (spec_l9Wild.f k s p) fun r => p < r.2.2 ∧ r.2.2 ≤ p + 20 := by
  unfold spec_l9Wild.f
  refine Tot.then (pick_tot k (by omega) hs h0 (by omega)) ?_
  rintro ⟨x, q⟩ ⟨hq, x0, x1⟩
  dsimp only at hq x0 x1 ⊢
  refine Tot.ite (fun _ => ?_) fun _ => ?_
  · simp only [Option.bind_some]
    refine Tot.then (pick_tot k (by omega) hs (by omega) (by omega)) ?_
    rintro ⟨z, q'⟩ ⟨hr, z0, z1⟩
    dsimp only at hr z0 z1 ⊢
    have z2 := z1 (by omega)
    rw [if_pos z0, if_pos (by simp; omega)]
    refine Tot.then (wild_tot k hk hs (by omega) (by omega)) ?_
    rintro ⟨y, q1⟩ ⟨ht, ht', -, -⟩
    dsimp only at ht ht' ⊢
    exact Tot.here ⟨by dsimp only; omega, by dsimp only; omega⟩
  · refine Tot.then (drawRest_tot k hk hs (by omega) (by omega)) ?_
    rintro ⟨y, z, q1⟩ ⟨ht, ht', -⟩
    dsimp only at ht ht' ⊢
    exact Tot.here ⟨by dsimp only; omega, by dsimp only; omega⟩
/-! laws_ofRest -/
theorem ofRest_tot (k : Nat) (hk : 1 ≤ k) {x : List Int} (hx : Bytes x) (m a : Int) {i : Int} (h0 : 0 ≤ i) (h1 : i ≤ 1000000) : Tot (laws_ofRest.f k m a x i) fun _ => True := by
  obtain ⟨k, rfl⟩ : ∃ m, k = m + 1 := ⟨k - 1, by omega⟩
  unfold laws_ofRest.f
  rw [srestOk_eq]
  simp only [Option.bind_some, decide_eq_true_eq]
  refine Tot.ite (fun o => ?_) fun o => ?_
  · simp only [laws_ofRest.j0, beq_iff_eq]
    refine Tot.ite (fun _ => Tot.here trivial) fun hm => ?_
    rw [wrap64_id (x := i + 3) (by omega) (by omega)]
    refine Tot.then (at_tot hx h0 (by omega)) fun a ha => Tot.then (at_tot hx (by omega) (by omega)) fun b hb => Tot.ite (fun _ => ?_) fun _ => ?_
    · refine Tot.then (wide_tot hx h0 (by omega)) fun c hc => ?_
      rw [if_neg hm, snumwrap_eq]
      exact Tot.here trivial
    · rw [snumwrap_eq]
      exact Tot.here trivial
  · simp only [laws_ofRest.j0, if_true]
    exact Tot.here trivial
/-! impl_valNone -/
theorem valNone_eq : impl_valNone.f = some (1, 0, 0, 0) := rfl
/-! impl_valOne -/
theorem valOne_eq (v : Int) : impl_valOne.f v = some (v, v, 0, v) := rfl
/-! spec_l10None -/
theorem svalNone_eq : spec_l10None.f = some (1, 0, 0, 0) := rfl
/-! spec_l10One -/
theorem svalOne_eq (v : Int) : spec_l10One.f v = some (v, v, 0, v) := rfl
/-! impl_ValMake -/
theorem valMake_eq (k : Nat) (hk : 1 ≤ k) (l h m a : Int) : impl_ValMake.f k l h m a = some (VMake l h m a) := by
  obtain ⟨k, rfl⟩ : ∃ m, k = m + 1 := ⟨k - 1, by omega⟩
  unfold impl_ValMake.f
  rw [rangeOk_eq, restOk_eq, rangeEmpty_eq]
  simp only [Option.bind_some]
  by_cases c : ¬ ROk l h ∨ ¬ SOk m a ∨ l > h
  · rw [VMake_none c]
    have N : impl_ValMake.j0 (k + 1) true l h m a = some (1, 0, 0, 0) := by simp only [impl_ValMake.j0, if_true, valNone_eq, Option.bind_some]
    by_cases c1 : ROk l h
    case neg => simp only [c1, decide_false, Bool.false_eq_true, if_false]; exact N
    by_cases c2 : SOk m a
    case neg => simp only [c1, c2, decide_true, decide_false, if_true, Bool.false_eq_true, if_false]; exact N
    have c3 : l > h := by
      rcases c with c | c | c
      · exact absurd c1 c
      · exact absurd c2 c
      · exact c
    simp only [c1, c2, c3, decide_true, if_true]; exact N
  have o : ROk l h := Decidable.byContradiction fun n => c (Or.inl n)
  have s : SOk m a := Decidable.byContradiction fun n => c (Or.inr (Or.inl n))
  have e : ¬ l > h := fun n => c (Or.inr (Or.inr n))
  have on := o.some e
  have sn := s.nok
  unfold NOk at on sn
  unfold VMake
  rw [if_neg c]
  simp only [o, s, e, decide_true, decide_false, if_true, impl_ValMake.j0, Bool.false_eq_true, if_false]
  rw [rangeHas_eq, valNone_eq]
  simp only [Option.bind_some, decide_eq_true_eq, valOne_eq]
  by_cases hm : m = 0
  · rw [if_pos hm, if_pos hm]; split <;> rfl
  rw [if_neg hm, if_neg hm]
  have p := s.pos hm
  rw [wrap64_id (x := a - l) (by omega) (by omega), wrap64_id (x := h - a) (by omega) (by omega), restMod_eq (by omega) (by omega), restMod_eq (by omega) (by omega)]
  simp only [Option.bind_some]
  have e1 := Int.emod_nonneg (a - l) hm
  have e2 := Int.emod_nonneg (h - a) hm
  have e3 := Int.emod_lt_of_pos (a - l) (b := m) (by omega)
  have e4 := Int.emod_lt_of_pos (h - a) (b := m) (by omega)
  rw [wrap64_id (x := l + (a - l) % m) (by omega) (by omega), wrap64_id (x := h - (h - a) % m) (by omega) (by omega)]
  split
  · rfl
  · split <;> rfl
/-! spec_ValMake -/
theorem svalMake_eq (k : Nat) (hk : 1 ≤ k) (l h m a : Int) : spec_ValMake.f k l h m a = some (VMake l h m a) := by
  obtain ⟨k, rfl⟩ : ∃ m, k = m + 1 := ⟨k - 1, by omega⟩
  unfold spec_ValMake.f
  rw [srangeOk_eq, srestOk_eq, snone_eq]
  simp only [Option.bind_some]
  by_cases c : ¬ ROk l h ∨ ¬ SOk m a ∨ l > h
  · rw [VMake_none c]
    have N : spec_ValMake.j0 (k + 1) true l h m a = some (1, 0, 0, 0) := by simp only [spec_ValMake.j0, if_true, svalNone_eq, Option.bind_some]
    by_cases c1 : ROk l h
    case neg => simp only [c1, decide_false, Bool.false_eq_true, if_false]; exact N
    by_cases c2 : SOk m a
    case neg => simp only [c1, c2, decide_true, decide_false, if_true, Bool.false_eq_true, if_false]; exact N
    have c3 : l > h := by
      rcases c with c | c | c
      · exact absurd c1 c
      · exact absurd c2 c
      · exact c
    have c4 := c1.none c3
    have c5 : (l == 1 && h == 0) = true := by simp [c4]
    simp only [c1, c2, c5, decide_true, if_true]; exact N
  have o : ROk l h := Decidable.byContradiction fun n => c (Or.inl n)
  have s : SOk m a := Decidable.byContradiction fun n => c (Or.inr (Or.inl n))
  have e : ¬ l > h := fun n => c (Or.inr (Or.inr n))
  have on := o.some e
  have sn := s.nok
  unfold NOk at on sn
  have c5 : (l == 1 && h == 0) = false := by
    rw [Bool.eq_false_iff]; simp only [ne_eq, Bool.and_eq_true, beq_iff_eq]; omega
  unfold VMake
  rw [if_neg c]
  simp only [o, s, c5, decide_true, decide_false, if_true, spec_ValMake.j0, Bool.false_eq_true, if_false]
  rw [srangeHas_eq, svalNone_eq]
  simp only [Option.bind_some, decide_eq_true_eq, svalOne_eq]
  by_cases hm : m = 0
  · rw [if_pos hm, if_pos hm]; split <;> rfl
  rw [if_neg hm, if_neg hm]
  have p := s.pos hm
  rw [wrap64_id (x := a - l) (by omega) (by omega), wrap64_id (x := h - a) (by omega) (by omega), mod_eq (by omega) (by omega), mod_eq (by omega) (by omega)]
  simp only [Option.bind_some]
  have e1 := Int.emod_nonneg (a - l) hm
  have e2 := Int.emod_nonneg (h - a) hm
  have e3 := Int.emod_lt_of_pos (a - l) (b := m) (by omega)
  have e4 := Int.emod_lt_of_pos (h - a) (b := m) (by omega)
  rw [wrap64_id (x := l + (a - l) % m) (by omega) (by omega), wrap64_id (x := h - (h - a) % m) (by omega) (by omega)]
  split
  · rfl
  · split <;> rfl
/-! impl_ValOk -/
theorem valOk_eq (k : Nat) (hk : 1 ≤ k) (l h m a : Int) : impl_ValOk.f k l h m a = some (decide (VOk l h m a)) := by
  unfold impl_ValOk.f impl_Val_span.f impl_Val_rest.f
  simp only [Option.bind_some]
  rw [valMake_eq k hk]
  simp only [Option.bind_some]
  congr 1
  rw [Bool.eq_iff_iff]
  simp only [Bool.and_eq_true, beq_iff_eq, decide_eq_true_eq]
  unfold VOk
  constructor
  · rintro ⟨a1, a2, a3, a4⟩; rw [Prod.ext_iff, Prod.ext_iff, Prod.ext_iff]; exact ⟨a1.symm, a2.symm, a3.symm, a4.symm⟩
  · intro e; rw [e]; exact ⟨rfl, rfl, rfl, rfl⟩
/-! impl_ValHas -/
theorem valHas_eq (k : Nat) (hk : 1 ≤ k) (l h m a v : Int) : impl_ValHas.f k l h m a v = some (decide (VHas l h m a v)) := by
  unfold impl_ValHas.f impl_Val_span.f impl_Val_rest.f
  rw [valOk_eq k hk]
  simp only [Option.bind_some]
  rw [rangeHas_eq, restHas_eq k hk]
  simp only [Option.bind_some]
  unfold VHas
  by_cases c1 : VOk l h m a <;> by_cases c2 : RHas l h v <;> simp [c1, c2]
/-! spec_DrawValMake -/
theorem drawValMake_tot (k : Nat) (hk : 200000000000000000000 ≤ k) {l : List Int} (hl : Bytes l) : Tot (spec_DrawValMake.f k l) fun _ => True := by
  unfold spec_DrawValMake.f
  refine Tot.then (open_tot hl) ?_
  rintro ⟨s, p⟩ ⟨hp, hs, -⟩
  dsimp only at hp hs ⊢
  refine Tot.then (drawWild_tot k (by omega) hs (by omega) (by omega)) ?_
  rintro ⟨a, b, q⟩ ⟨hq, hq'⟩
  dsimp only at hq hq' ⊢
  refine Tot.then (drawRestWild_tot k (by omega) hs (by omega) (by omega)) ?_
  rintro ⟨c, d, q1⟩ -
  exact Tot.here trivial
end Go.Proofs.Ytkekcenlleebeaa.LFnValMake
