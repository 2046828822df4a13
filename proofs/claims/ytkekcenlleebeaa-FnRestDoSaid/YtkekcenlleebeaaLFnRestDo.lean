/- What the small functions that the statement reaches tell, each by a plain law. Conditions: those in each law. -/
import Derived.Test.YtkekcenlleebeaaDFnRestDo
import Derived.Test.YtkekcenlleebeaaBase
import Derived.Test.YtkekcenlleebeaaBits
import Derived.Test.YtkekcenlleebeaaRangeMath
import Derived.Test.YtkekcenlleebeaaRestMath
import Derived.Test.YtkekcenlleebeaaRestDoMath
namespace Go.Proofs.Ytkekcenlleebeaa.LFnRestDo
open Go.RowKit Go.Proofs.Ytkekcenlleebeaa.PFnRestDo Go.Proofs.Ytkekcenlleebeaa.Base Go.Proofs.YtkekcenlleebeaaW.PrintWords Go.Proofs.YtkekcenlleebeaaW.PrintLast Go.Proofs.YtkekcenlleebeaaW.PrintMore
set_option linter.unusedVariables false
set_option linter.unusedSimpArgs false

/-! spec_l1Rd_pick -/
theorem pick_tot (k : Nat) (hk : 1 ≤ k) {s : List Int} {p n : Int} (hs : Bytes s) (h0 : 0 ≤ p) (h1 : p ≤ 1073741824) :
    Tot (spec_l1Rd_pick.f k s p n) fun r => r.2 = p + 1 ∧ 0 ≤ r.1 ∧ (1 ≤ n → r.1 < n) := by
  obtain ⟨k, rfl⟩ : ∃ m, k = m + 1 := ⟨k - 1, by omega⟩
  have e1 : wrap64 (p + 1) = p + 1 := wrap64_id (by omega) (by omega)
  have e2 : wrap64 (p + 1 - 1) = p := by rw [wrap64_id (by omega) (by omega)]; omega
  unfold spec_l1Rd_pick.f
  rw [e1]
  refine Tot.ite (fun hn => ?_) (fun hn => ?_)
  · simp only [spec_l1Rd_pick.j0, if_true]
    exact Tot.here ⟨rfl, Int.le_refl _, fun h => by omega⟩
  · simp only [spec_l1Rd_pick.j0, e2]
    refine Tot.ite (fun h => Tot.here ⟨rfl, Int.le_refl _, fun _ => by dsimp only; omega⟩) fun h => ?_
    have hne : (s.length : Int) ≠ 0 := by simpa using h
    have hlen : 0 < (s.length : Int) := by omega
    refine Tot.ite (fun hp => ?_) fun hp => ?_
    · rw [if_pos h0, if_neg (by omega)]
      have b := hs.byte p
      rw [wrap64_id (by omega) (by omega)]
      exact Tot.here ⟨rfl, tmod_nonneg b.1, fun _ => tmod_lt (by omega)⟩
    · have m1 := tmod_nonneg (b := (s.length : Int)) h0
      have m2 := tmod_lt (a := p) hlen
      have q1 : wrap64 (p * 7) = p * 7 := wrap64_id (by omega) (by omega)
      have q2 : wrap64 (p * 7 + 3) = p * 7 + 3 := wrap64_id (by omega) (by omega)
      have m3 := tmod_nonneg (b := (s.length : Int)) (a := p * 7 + 3) (by omega)
      have m4 := tmod_lt (a := p * 7 + 3) hlen
      rw [if_neg hne, if_pos m1, if_pos m2, q1, q2, if_pos m3, if_pos m4, if_neg (by omega)]
      have b1 := hs.byte (Int.tmod p s.length)
      have b2 := hs.byte (Int.tmod (p * 7 + 3) s.length)
      generalize rd s (Int.tmod p s.length) = x1 at *
      generalize rd s (Int.tmod (p * 7 + 3) s.length) = x2 at *
      have d1 := tdiv_nonneg h0 (Int.le_of_lt hlen)
      have d2 := tdiv_le h0 hlen
      generalize Int.tdiv p s.length = d at *
      rw [wrap64_id (x := x1) (by omega) (by omega), wrap64_id (x := x2) (by omega) (by omega), wrap64_id (x := d) (by omega) (by omega)]
      rw [wrap64_id (x := x1 * 131) (by omega) (by omega), wrap64_id (x := x2 * 1117) (by omega) (by omega), wrap64_id (x := p * 29) (by omega) (by omega), wrap64_id (x := d * 53) (by omega) (by omega)]
      rw [wrap64_id (x := x1 * 131 + x2 * 1117) (by omega) (by omega)]
      rw [wrap64_id (x := x1 * 131 + x2 * 1117 + p * 29) (by omega) (by omega)]
      rw [wrap64_id (x := x1 * 131 + x2 * 1117 + p * 29 + d * 53) (by omega) (by omega)]
      have z0 : 0 ≤ x1 * 131 + x2 * 1117 + p * 29 + d * 53 := by omega
      have z1 : x1 * 131 + x2 * 1117 + p * 29 + d * 53 < 9223372036854775808 := by omega
      generalize x1 * 131 + x2 * 1117 + p * 29 + d * 53 = z at *
      have y0 := tdiv_nonneg (b := 64) z0 (by omega)
      have y1 := tdiv_le (b := 64) z0 (by omega)
      rw [wrap64_id (x := Int.tdiv z 64) (by omega) (by omega)]
      exact Tot.here ⟨rfl, tmod_nonneg (bits_xor_nonneg_in z0 z1 y0 (by omega)), fun _ => tmod_lt (by omega)⟩
/-! spec_l1Open -/
theorem open_tot {s : List Int} (hs : Bytes s) : Tot (spec_l1Open.f s) fun r => r.2 = 0 ∧ Bytes r.1 ∧ r.1.length ≤ 2000 := by
  unfold spec_l1Open.f
  refine Tot.ite (fun h => ?_) (fun h => ?_)
  · rw [if_pos (by omega)]
    exact Tot.here ⟨rfl, hs.take _, by simp only [List.length_take]; omega⟩
  · exact Tot.here ⟨rfl, hs, by dsimp only; omega⟩
/-! spec_l1Power -/
theorem power_l0 (n : Int) : ∀ (d k : Nat) (o i : Int), 0 ≤ i → i ≤ n → n ≤ 40 → (n - i : Int) = d → d < k → o = 2 ^ i.toNat → spec_l1Power.l0 k n o i = some (2 ^ n.toNat) := by
  intro d
  induction d with
  | zero =>
    intro k o i h0 h1 h2 hd hk ho
    obtain ⟨k, rfl⟩ : ∃ m, k = m + 1 := ⟨k - 1, by omega⟩
    simp only [spec_l1Power.l0]
    rw [if_neg (by omega), ho]
    have : i = n := by omega
    rw [this]
  | succ d ih =>
    intro k o i h0 h1 h2 hd hk ho
    obtain ⟨k, rfl⟩ : ∃ m, k = m + 1 := ⟨k - 1, by omega⟩
    simp only [spec_l1Power.l0]
    rw [if_pos (by omega)]
    have hp : (2 : Int) ^ i.toNat ≤ 2 ^ 40 := by
      have := Nat.pow_le_pow_right (n := 2) (by omega) (show i.toNat ≤ 40 by omega)
      exact_mod_cast this
    have hp0 : (0 : Int) < 2 ^ i.toNat := Int.pow_pos (by decide)
    have e : (i + 1).toNat = i.toNat + 1 := by omega
    rw [wrap64_id (x := 2 * o) (by omega) (by omega), wrap64_id (x := i + 1) (by omega) (by omega)]
    refine ih k _ _ (by omega) (by omega) h2 (by omega) (by omega) ?_
    rw [e, Int.pow_succ, ho]; omega
theorem power_eq (k : Nat) (hk : 42 ≤ k) {n : Int} (h0 : 0 ≤ n) (h1 : n ≤ 40) : spec_l1Power.f k n = some (2 ^ n.toNat) := by
  unfold spec_l1Power.f
  exact power_l0 n n.toNat k 1 0 (by omega) h0 h1 (by omega) (by omega) (by simp)
/-! spec_l1Mod -/
theorem mod_eq {a b : Int} (hb : 0 < b) (h : b ≤ 9223372036854775807) : spec_l1Mod.f a b = some (a % b) := by
  unfold spec_l1Mod.f
  rw [if_neg (by omega)]
  have e := Int.emod_emod_of_dvd a (Int.dvd_refl b)
  have h1 : Int.tmod a b < b := Int.tmod_lt_of_pos a hb
  have h2 : -b < Int.tmod a b := Int.lt_tmod_of_pos a hb
  have h3 := Int.mul_tdiv_add_tmod a b
  have h4 : a % b = Int.tmod a b % b := by
    conv => lhs; rw [← h3]
    rw [Int.add_comm, Int.add_mul_emod_self_left]
  by_cases hn : Int.tmod a b < 0
  · rw [if_pos hn, wrap64_id (by omega) (by omega), h4, ← Int.add_emod_right, Int.emod_eq_of_lt (by omega) (by omega)]
  · rw [if_neg hn, h4, Int.emod_eq_of_lt (by omega) (by omega)]
/-! spec_NumWrap -/
/-- The number of 32 bits that differs from one by a multiple. -/
theorem snumwrap_eq (v : Int) : spec_NumWrap.f v = some (wrap32 v) := by
  unfold spec_NumWrap.f
  rw [mod_eq (by omega) (by omega)]
  simp only [Option.bind_some]
  unfold wrap32
  by_cases h : v % 4294967296 > 2147483647
  · rw [if_pos h, wrap64_id (by omega) (by omega)]; congr 1; omega
  · rw [if_neg h]; congr 1; omega
/-! spec_l1Rd_num -/
theorem num_l0 {s : List Int} (hs : Bytes s) : ∀ (d k : Nat) (v i p : Int), 0 ≤ i → i ≤ 4 → (4 - i : Int) = d → d + 2 ≤ k → 0 ≤ p → p + d ≤ 1073741824 →
    Tot (spec_l1Rd_num.l0 k v i s p) fun r => r.2 = p + d ∧ -2147483648 ≤ r.1 ∧ r.1 ≤ 2147483647 := by
  intro d
  induction d with
  | zero =>
    intro k v i p h0 h1 hd hk hp hq
    obtain ⟨k, rfl⟩ : ∃ m, k = m + 1 := ⟨k - 1, by omega⟩
    simp only [spec_l1Rd_num.l0]
    rw [if_neg (by omega), snumwrap_eq]
    simp only [Option.bind_some]
    exact Tot.here ⟨by simp, (wrap32_in v).1, (wrap32_in v).2⟩
  | succ d ih =>
    intro k v i p h0 h1 hd hk hp hq
    obtain ⟨k, rfl⟩ : ∃ m, k = m + 1 := ⟨k - 1, by omega⟩
    simp only [spec_l1Rd_num.l0]
    rw [if_pos (by omega)]
    refine Tot.then (pick_tot k (by omega) hs hp (by omega)) ?_
    rintro ⟨x, q⟩ ⟨hq', -, -⟩
    dsimp only at hq' ⊢
    subst hq'
    rw [wrap64_id (x := i + 1) (by omega) (by omega)]
    refine (ih k _ _ _ (by omega) (by omega) (by omega) (by omega) (by omega) (by omega)).mono ?_
    rintro ⟨y, q⟩ ⟨h1, h2⟩
    exact ⟨by dsimp only at h1 ⊢; omega, h2⟩
theorem num_tot (k : Nat) (hk : 42 ≤ k) {s : List Int} {p : Int} (hs : Bytes s) (h0 : 0 ≤ p) (h1 : p ≤ 1000000000) :
    Tot (spec_l1Rd_num.f k s p) fun r => p < r.2 ∧ r.2 ≤ p + 5 ∧ -2147483648 ≤ r.1 ∧ r.1 ≤ 2147483647 := by
  have go : ∀ {n q : Int}, 0 ≤ q → q ≤ 1000000010 → Tot (spec_l1Rd_pick.f k s q n) fun r => r.2 = q + 1 ∧ 0 ≤ r.1 ∧ (1 ≤ n → r.1 < n) := fun a b => pick_tot k (by omega) hs a (by omega)
  have pw : ∀ {n : Int}, 0 ≤ n → n ≤ 30 → 0 < (2 : Int) ^ n.toNat ∧ (2 : Int) ^ n.toNat ≤ 1073741824 := fun {n} a b => by
    refine ⟨Int.pow_pos (by decide), ?_⟩
    have := Nat.pow_le_pow_right (n := 2) (by omega) (show n.toNat ≤ 30 by omega)
    have h : ((2 ^ n.toNat : Nat) : Int) ≤ ((2 ^ 30 : Nat) : Int) := by exact_mod_cast this
    simpa using h
  unfold spec_l1Rd_num.f
  refine Tot.then (go h0 (by omega)) ?_
  rintro ⟨x, q⟩ ⟨hq, x0, x1⟩
  dsimp only at hq x0 x1 ⊢
  subst hq
  refine Tot.ite (fun _ => ?_) fun _ => Tot.ite (fun _ => ?_) fun _ => Tot.ite (fun _ => ?_) fun _ => Tot.ite (fun _ => ?_) fun _ => Tot.ite (fun _ => ?_) fun _ => ?_
  · refine Tot.then (go (by omega) (by omega)) ?_
    rintro ⟨y, q⟩ ⟨hq, y0, y1⟩
    dsimp only at hq y0 y1 ⊢
    subst hq
    rw [wrap64_id (by omega) (by omega)]
    exact Tot.here ⟨by dsimp only; omega, by dsimp only; omega, by dsimp only; omega, by dsimp only; omega⟩
  · refine Tot.then (go (by omega) (by omega)) ?_
    rintro ⟨y, q⟩ ⟨hq, y0, y1⟩
    dsimp only at hq y0 y1 ⊢
    subst hq
    rw [wrap64_id (by omega) (by omega)]
    exact Tot.here ⟨by dsimp only; omega, by dsimp only; omega, by dsimp only; omega, by dsimp only; omega⟩
  · refine Tot.then (go (by omega) (by omega)) ?_
    rintro ⟨y, q⟩ ⟨hq, y0, y1⟩
    dsimp only at hq y0 y1 ⊢
    subst hq
    rw [wrap64_id (by omega) (by omega)]
    exact Tot.here ⟨by dsimp only; omega, by dsimp only; omega, by dsimp only; omega, by dsimp only; omega⟩
  · refine Tot.then (go (by omega) (by omega)) ?_
    rintro ⟨y, q⟩ ⟨hq, y0, y1⟩
    dsimp only at hq y0 y1 ⊢
    subst hq
    rw [power_eq k hk y0 (by omega)]
    simp only [Option.bind_some]
    have e := pw y0 (by omega)
    generalize (2 : Int) ^ y.toNat = z at *
    refine Tot.then (go (by omega) (by omega)) ?_
    rintro ⟨y', q⟩ ⟨hq, y0', y1'⟩
    dsimp only at hq y0' y1' ⊢
    subst hq
    rw [wrap64_id (x := z + y') (by omega) (by omega), wrap64_id (by omega) (by omega)]
    exact Tot.here ⟨by dsimp only; omega, by dsimp only; omega, by dsimp only; omega, by dsimp only; omega⟩
  · refine Tot.then (go (by omega) (by omega)) ?_
    rintro ⟨y, q⟩ ⟨hq, y0, y1⟩
    dsimp only at hq y0 y1 ⊢
    subst hq
    rw [power_eq k hk y0 (by omega)]
    simp only [Option.bind_some]
    have e := pw y0 (by omega)
    generalize (2 : Int) ^ y.toNat = z at *
    refine Tot.then (go (by omega) (by omega)) ?_
    rintro ⟨y', q⟩ ⟨hq, y0', y1'⟩
    dsimp only at hq y0' y1' ⊢
    subst hq
    rw [wrap64_id (x := -z) (by omega) (by omega), wrap64_id (x := -z + y') (by omega) (by omega), wrap64_id (by omega) (by omega)]
    exact Tot.here ⟨by dsimp only; omega, by dsimp only; omega, by dsimp only; omega, by dsimp only; omega⟩
  · refine (num_l0 hs 4 k 0 0 _ (by omega) (by omega) (by omega) (by omega) (by omega) (by omega)).mono ?_
    rintro ⟨y, q⟩ ⟨h1, h2⟩
    exact ⟨by dsimp only at h1 ⊢; omega, by dsimp only at h1 ⊢; omega, h2⟩
/-! spec_l1Rd_wild -/
theorem wild_tot (k : Nat) (hk : 42 ≤ k) {s : List Int} {p : Int} (hs : Bytes s) (h0 : 0 ≤ p) (h1 : p ≤ 999999999) :
    Tot (spec_l1Rd_wild.f k s p) fun r => p < r.2 ∧ r.2 ≤ p + 6 ∧ -9223372036854775808 ≤ r.1 ∧ r.1 ≤ 9223372036854775807 := by
  have go : ∀ {n q : Int}, 0 ≤ q → q ≤ 1000000010 → Tot (spec_l1Rd_pick.f k s q n) fun r => r.2 = q + 1 ∧ 0 ≤ r.1 ∧ (1 ≤ n → r.1 < n) := fun a b => pick_tot k (by omega) hs a (by omega)
  unfold spec_l1Rd_wild.f
  refine Tot.then (go h0 (by omega)) ?_
  rintro ⟨x, q⟩ ⟨hq, x0, x1⟩
  dsimp only at hq x0 x1 ⊢
  subst hq
  refine Tot.ite (fun _ => ?_) fun _ => Tot.ite (fun _ => ?_) fun _ => Tot.ite (fun _ => ?_) fun _ => Tot.ite (fun _ => ?_) fun _ => ?_
  iterate 4
    · refine Tot.then (go (by omega) (by omega)) ?_
      rintro ⟨y, q⟩ ⟨hq, y0, y1⟩
      dsimp only at hq y0 y1 ⊢
      subst hq
      exact Tot.here ⟨by dsimp only; omega, by dsimp only; omega, (wrap64_in _).1, (wrap64_in _).2⟩
  · refine Tot.then (num_tot k hk hs (by omega) (by omega)) ?_
    rintro ⟨y, q⟩ ⟨hq, hq', y0, y1⟩
    dsimp only at hq hq' y0 y1 ⊢
    exact Tot.here ⟨by dsimp only; omega, by dsimp only; omega, by dsimp only; omega, by dsimp only; omega⟩
/-! impl_numOp -/
theorem numOp_eq (op : Int) : impl_numOp.f op = some (decide (1 ≤ op ∧ op ≤ 13)) := by
  unfold impl_numOp.f
  by_cases h : op ≥ 1
  · rw [if_pos h]; exact dcl (by (try unfold NOk); omega)
  · rw [if_neg h]; exact dfl (by (try unfold NOk); omega)
/-! impl_NumOk -/
theorem numOk_eq (v : Int) : impl_NumOk.f v = some (decide (NOk v)) := by
  unfold impl_NumOk.f
  by_cases h : v ≥ -2147483648
  · rw [if_pos h]; exact dcl (by (try unfold NOk); omega)
  · rw [if_neg h]; exact dfl (by (try unfold NOk); omega)
/-! impl_NumWrap -/
theorem numWrap_eq (v : Int) : impl_NumWrap.f v = some (wrap32 v) := by
  unfold impl_NumWrap.f
  have := wrap32_in v
  rw [wrap64_id (by omega) (by omega)]
/-! impl_numExact -/
theorem numExact_eq (k : Nat) (hk : 4 ≤ k) (op : Int) {a b : Int} (ha : NOk a) (hb : NOk b) (h1 : op = 4 ∨ op = 5 → b ≠ 0) (h2 : op = 9 ∨ op = 10 → 0 ≤ b ∧ b ≤ 31) :
    impl_numExact.f k op a b = some (Exact op a b) := by
  obtain ⟨k, rfl⟩ : ∃ m, k = m + 4 := ⟨k - 4, by omega⟩
  have m := mul_in32 ha hb
  have d := tdiv_in b (a := a) (A := 2147483648) (by have := ha.1; omega) (by have := ha.2; omega)
  have ha' := ha
  unfold NOk at ha hb
  unfold Exact impl_numExact.f
  by_cases c1 : op = 1
  · subst c1; simp [impl_numExact.j0, wrap64_id (x := a + b) (by omega) (by omega)]
  by_cases c11 : op = 11
  · subst c11; simp [impl_numExact.j0, wrap64_id (x := a + b) (by omega) (by omega)]
  by_cases c2 : op = 2
  · subst c2; simp [impl_numExact.j0, impl_numExact.j1, wrap64_id (x := a - b) (by omega) (by omega)]
  by_cases c12 : op = 12
  · subst c12; simp [impl_numExact.j0, impl_numExact.j1, wrap64_id (x := a - b) (by omega) (by omega)]
  by_cases c3 : op = 3
  · subst c3; simp [impl_numExact.j0, impl_numExact.j1, impl_numExact.j2, wrap64_id (x := a * b) (by omega) (by omega)]
  by_cases c13 : op = 13
  · subst c13; simp [impl_numExact.j0, impl_numExact.j1, impl_numExact.j2, wrap64_id (x := a * b) (by omega) (by omega)]
  by_cases c4 : op = 4
  · subst c4; simp [impl_numExact.j0, impl_numExact.j1, impl_numExact.j2, h1 (Or.inl rfl), wrap64_id (x := Int.tdiv a b) (by omega) (by omega)]
  by_cases c5 : op = 5
  · subst c5; simp [impl_numExact.j0, impl_numExact.j1, impl_numExact.j2, h1 (Or.inr rfl)]
  by_cases c9 : op = 9
  · subst c9
    have := h2 (Or.inl rfl)
    have u : IntKind.u64.wrap b = b := wrapu64_id (by omega) (by omega)
    simp [impl_numExact.j0, impl_numExact.j1, impl_numExact.j2, u, this.1, shl_eq ha' this.1 this.2]
  by_cases c10 : op = 10
  · subst c10
    have := h2 (Or.inr rfl)
    have u : IntKind.u64.wrap b = b := wrapu64_id (by omega) (by omega)
    simp [impl_numExact.j0, impl_numExact.j1, impl_numExact.j2, u, this.1, shr_eq this.1 this.2]
  simp [impl_numExact.j0, impl_numExact.j1, impl_numExact.j2, c1, c2, c3, c4, c5, c9, c10, c11, c12, c13]
  (repeat' split) <;> simp_all
/-! impl_NumDo -/
theorem numDo_eq (k : Nat) (hk : 9 ≤ k) (op a b : Int) : impl_NumDo.f k op a b = some (NumDo op a b) := by
  obtain ⟨k, rfl⟩ : ∃ m, k = m + 9 := ⟨k - 9, by omega⟩
  unfold impl_NumDo.f NumDo
  rw [numOp_eq, numOk_eq, numOk_eq]
  simp only [Option.bind_some]
  by_cases c0 : 1 ≤ op ∧ op ≤ 13
  case neg => simp [impl_NumDo.j0, c0]
  by_cases ca : NOk a
  case neg => simp [impl_NumDo.j0, c0, ca]
  by_cases cb : NOk b
  case neg => simp [impl_NumDo.j0, c0, ca, cb]
  have ex : ∀ m, 4 ≤ m → ¬ ((op = 4 ∨ op = 5) ∧ b = 0) → ¬ ((op = 9 ∨ op = 10) ∧ (b < 0 ∨ b > 31)) → impl_NumDo.j3 (m + 1) op a b = if 11 ≤ op then impl_NumDo.j4 m (Exact op a b) true else impl_NumDo.j4 m (Exact op a b) false := by
    intro m hm g1 g2
    simp only [impl_NumDo.j3]
    rw [numExact_eq m hm op ca cb (fun h e => g1 ⟨h, e⟩) (fun h => by
      have := fun e => g2 ⟨h, e⟩
      omega)]
    simp only [Option.bind_some]
    by_cases c11 : op = 11
    · subst c11; simp
    by_cases c12 : op = 12
    · subst c12; simp
    by_cases c13 : op = 13
    · subst c13; simp
    rw [if_neg c11, if_neg c12, if_neg (by omega)]
    have e : (op == 13) = false := by simpa using c13
    rw [e]
  have j4t : ∀ m v, impl_NumDo.j4 (m + 1) v true = some (wrap32 v, 0) := by
    intro m v; simp [impl_NumDo.j4, numWrap_eq]
  have j4f : ∀ m v, impl_NumDo.j4 (m + 1) v false = if NOk v then some (v, 0) else some (0, 1) := by
    intro m v; simp only [impl_NumDo.j4, numOk_eq]; simp
  have tail : ∀ m, 5 ≤ m → ¬ ((op = 4 ∨ op = 5) ∧ b = 0) → ¬ ((op = 9 ∨ op = 10) ∧ (b < 0 ∨ b > 31)) → impl_NumDo.j3 (m + 1) op a b = some (if 11 ≤ op then (wrap32 (Exact op a b), 0) else if NOk (Exact op a b) then (Exact op a b, 0) else (0, 1)) := by
    intro m hm g1 g2
    rw [ex m (by omega) g1 g2]
    obtain ⟨m, rfl⟩ : ∃ q, m = q + 1 := ⟨m - 1, by omega⟩
    rw [j4t, j4f]
    (repeat' split) <;> rfl
  simp only [c0, ca, cb, decide_true, if_true, not_true, or_self, if_false, Bool.not_true, and_self]
  simp only [impl_NumDo.j0, Bool.false_eq_true, if_false]
  by_cases c4 : op = 4
  · subst c4
    simp only [if_true, impl_NumDo.j1, beq_self_eq_true]
    by_cases cz : b = 0
    · simp [cz]
    · rw [if_neg cz, tail _ (by omega) (by simp [cz]) (by simp)]
      simp [cz]
  by_cases c5 : op = 5
  · subst c5
    simp only [if_true, impl_NumDo.j1, beq_self_eq_true, if_neg c4]
    by_cases cz : b = 0
    · simp [cz]
    · rw [if_neg cz, tail _ (by omega) (by simp [cz]) (by simp)]
      simp [cz]
  have e5 : (op == 5) = false := by simpa using c5
  rw [if_neg c4, e5]
  simp only [impl_NumDo.j1, Bool.false_eq_true, if_false, c4, c5, false_or, false_and]
  have t2 : ∀ m, 6 ≤ m → (op = 9 ∨ op = 10) → impl_NumDo.j2 (m + 1) op a b true = some (if (b < 0 ∨ b > 31) then (0, 3) else if 11 ≤ op then (wrap32 (Exact op a b), 0) else if NOk (Exact op a b) then (Exact op a b, 0) else (0, 1)) := by
    intro m hm ho
    obtain ⟨m, rfl⟩ : ∃ q, m = q + 1 := ⟨m - 1, by omega⟩
    simp only [impl_NumDo.j2, if_true]
    by_cases cz : b < 0
    · simp [cz]
    · rw [if_neg cz]
      by_cases cy : b > 31
      · simp [cy]
      · rw [if_neg cy, tail _ (by omega) (by omega) (by omega)]
        simp [cz, cy]
  by_cases c9 : op = 9
  · have := t2 (k + 6) (by omega) (Or.inl c9)
    subst c9
    simp only [if_true, beq_self_eq_true]
    rw [this]; simp
  by_cases c10 : op = 10
  · have := t2 (k + 6) (by omega) (Or.inr c10)
    subst c10
    simp only [if_neg c9, beq_self_eq_true]
    rw [this]; simp
  have e10 : (op == 10) = false := by simpa using c10
  rw [if_neg c9, e10]
  simp only [impl_NumDo.j2, Bool.false_eq_true, if_false]
  rw [tail _ (by omega) (by omega) (by omega)]
  simp [c9, c10]
/-! spec_l1In -/
theorem sin_eq (v a b : Int) : spec_l1In.f v a b = some (decide (a ≤ v ∧ v ≤ b)) := by
  unfold spec_l1In.f
  by_cases h : v ≥ a
  · rw [if_pos h]; exact dcl (by (try unfold NOk); omega)
  · rw [if_neg h]; exact dfl (by (try unfold NOk); omega)
/-! spec_NumOk -/
theorem snumOk_eq (v : Int) : spec_NumOk.f v = some (decide (NOk v)) := by
  unfold spec_NumOk.f
  rw [sin_eq]; exact dcl Iff.rfl
/-! spec_l1Floor -/
theorem floor_eq {a b : Int} (ha : NOk a) (hb : 0 < b) (h : b ≤ 4294967296) : spec_l1Floor.f a b = some (a / b) := by
  unfold spec_l1Floor.f
  rw [mod_eq hb (by omega)]
  simp only [Option.bind_some]
  have h0 := Int.emod_nonneg a (b := b) (by omega)
  have h1 := Int.emod_lt_of_pos a hb
  have h2 := Int.mul_ediv_add_emod a b
  unfold NOk at ha
  have h3 : a - a % b = b * (a / b) := by omega
  have h4 : Int.tdiv (a - a % b) b = a / b := by rw [h3, Int.mul_tdiv_cancel_left _ (by omega)]
  have h5 : -2147483648 ≤ a / b ∧ a / b ≤ 2147483647 := by
    have e1 := Int.le_ediv_iff_mul_le (a := -2147483648) (b := a) hb
    have e2 := Int.ediv_le_iff_le_mul (x := a) (y := 2147483647) hb
    constructor
    · rw [e1]; omega
    · by_cases hp : 0 ≤ a
      · have := Int.ediv_le_self b hp; omega
      · have : a / b < 0 := Int.ediv_neg_of_neg_of_pos (by omega) hb
        omega
  rw [if_neg (by omega), wrap64_id (x := a - a % b) (by omega) (by omega), h4, wrap64_id (by omega) (by omega)]
/-! laws_at -/
theorem at_tot {l : List Int} (hl : Bytes l) {i : Int} (h0 : 0 ≤ i) (h1 : i ≤ 1000000000) : Tot (laws_at.f l i) fun r => 0 ≤ r ∧ r ≤ 255 := by
  unfold laws_at.f
  refine Tot.ite (fun h => Tot.here (by omega)) fun h => ?_
  have hlen : 0 < (l.length : Int) := by omega
  refine Tot.ite (fun h => ?_) fun h => ?_
  · rw [if_pos h0]; exact Tot.here (hl.byte i)
  · have m1 := tmod_nonneg (b := (l.length : Int)) h0
    have m2 := tmod_lt (a := i) hlen
    have q1 : wrap64 (i * 5) = i * 5 := wrap64_id (by omega) (by omega)
    have q2 : wrap64 (i * 5 + 1) = i * 5 + 1 := wrap64_id (by omega) (by omega)
    have m3 := tmod_nonneg (b := (l.length : Int)) (a := i * 5 + 1) (by omega)
    have m4 := tmod_lt (a := i * 5 + 1) hlen
    rw [if_pos m1, if_pos m2, q1, q2, if_pos m3, if_pos m4]
    exact Tot.here (by omega)
/-! spec_l1Bits -/
theorem sbits_l0 {op a b : Int} (ho : op = 6 ∨ op = 7 ∨ op = 8) : ∀ (d k : Nat) (acc : Int) (i : Int), 0 ≤ i → i ≤ 32 → (32 - i : Int) = d → d + 2 ≤ k → acc = ((bitOp op (low a) (low b) % 2 ^ i.toNat : Nat) : Int) →
    spec_l1Bits.l0 k op a b acc i = some (wrap32 ((bitOp op (low a) (low b) : Nat) : Int)) := by
  intro d
  induction d with
  | zero =>
    intro k acc i h0 h1 hd hk ha
    obtain ⟨k, rfl⟩ : ∃ m, k = m + 1 := ⟨k - 1, by omega⟩
    simp only [spec_l1Bits.l0]
    have hi : i.toNat = 32 := by omega
    rw [if_neg (by omega), snumwrap_eq, ha, hi, Nat.mod_eq_of_lt (bitOp_lt op (low_lt a) (low_lt b))]
    rfl
  | succ d ih =>
    intro k acc i h0 h1 hd hk ha
    obtain ⟨k, rfl⟩ : ∃ m, k = m + 1 := ⟨k - 1, by omega⟩
    have la := low_lt a
    have lb := low_lt b
    have ea : a % 4294967296 = (low a : Int) := by unfold low; omega
    have eb : b % 4294967296 = (low b : Int) := by unfold low; omega
    have u : IntKind.u64.wrap i = i := wrapu64_id (by omega) (by omega)
    have sh : ∀ n : Nat, n < 2 ^ 32 → shr .i64 (n : Int) i = ((n / 2 ^ i.toNat : Nat) : Int) := by
      intro n hn
      rw [shr_eq h0 (by omega)]
      push_cast; rfl
    have tm : ∀ n : Nat, Int.tmod ((n : Nat) : Int) 2 = ((n % 2 : Nat) : Int) := by
      intro n
      rw [Int.tmod_eq_emod_of_nonneg (by omega)]; push_cast; rfl
    have pa : low a / 2 ^ i.toNat % 2 < 2 := Nat.mod_lt _ (by omega)
    have pb : low b / 2 ^ i.toNat % 2 < 2 := Nat.mod_lt _ (by omega)
    have key := bitOp_bit op (low a) (low b) i.toNat
    have sm := bitOp_small (op := op) pa pb
    have nx := mod_succ (bitOp op (low a) (low b)) i.toNat
    rw [key] at nx
    have hlt : bitOp op (low a) (low b) % 2 ^ i.toNat < 2 ^ 32 := Nat.lt_of_le_of_lt (Nat.mod_le _ _) (bitOp_lt op la lb)
    have ei : (i + 1).toNat = i.toNat + 1 := by omega
    have pw : (2 : Int) ^ i.toNat ≤ 2147483648 := by
      have := pow_le' (n := i.toNat) (m := 31) (by omega)
      have e : (2 : Int) ^ 31 = 2147483648 := by decide
      omega
    have pw0 := pow_pos' i.toNat
    have step : ∀ x : Int, x = (bitOp op (low a / 2 ^ i.toNat % 2) (low b / 2 ^ i.toNat % 2) : Int) → 
        spec_l1Bits.l0 k op a b (wrap64 (acc + shl .i64 x i)) (wrap64 (i + 1)) = some (wrap32 ((bitOp op (low a) (low b) : Nat) : Int)) := by
      intro x hx
      have hb : bitOp op (low a / 2 ^ i.toNat % 2) (low b / 2 ^ i.toNat % 2) = 0 ∨ bitOp op (low a / 2 ^ i.toNat % 2) (low b / 2 ^ i.toNat % 2) = 1 := by
        have := Nat.mod_lt (bitOp op (low a) (low b) / 2 ^ i.toNat) (show 0 < 2 by omega)
        omega
      have xk : NOk x := by unfold NOk; omega
      have e2 : x * 2 ^ i.toNat = 0 ∨ x * 2 ^ i.toNat = 2 ^ i.toNat := by
        rcases hb with h | h <;> rw [h] at hx <;> simp at hx <;> subst hx <;> simp
      rw [shl_eq xk h0 (by omega), wrap64_id (x := acc + x * 2 ^ i.toNat) (by omega) (by omega), wrap64_id (x := i + 1) (by omega) (by omega)]
      refine ih k _ _ (by omega) (by omega) (by omega) (by omega) ?_
      rw [ei, nx, ha, hx]
      push_cast; rfl
    simp only [spec_l1Bits.l0]
    rw [if_pos (by omega), mod_eq (by omega) (by omega), mod_eq (by omega) (by omega)]
    simp only [Option.bind_some]
    rw [u, if_pos h0, ea, eb, sh _ la, sh _ lb, tm, tm]
    generalize low a / 2 ^ i.toNat % 2 = p at *
    generalize low b / 2 ^ i.toNat % 2 = q at *
    have p2 : p = 0 ∨ p = 1 := by omega
    have q2 : q = 0 ∨ q = 1 := by omega
    have small : ∀ x : Int, -8 ≤ x → x ≤ 8 → wrap64 x = x := fun x h h' => wrap64_id (by omega) (by omega)
    have pq : ((p : Int) * q = 0 ∨ (p : Int) * q = 1) := by rcases p2 with rfl | rfl <;> rcases q2 with rfl | rfl <;> simp
    rcases ho with rfl | rfl | rfl
    · rw [if_neg (by omega), if_neg (by omega)]
      refine step _ ?_
      rw [sm, if_neg (by omega), if_neg (by omega), small _ (by omega) (by omega)]
    · rw [if_pos rfl, if_neg (by omega)]
      refine step _ ?_
      rw [sm, if_neg (by omega), if_pos rfl, small ((p : Int) + q) (by omega) (by omega), small ((p : Int) * q) (by omega) (by omega), small _ (by omega) (by omega)]
    · rw [if_neg (by omega), if_pos rfl]
      refine step _ ?_
      rw [sm, if_pos rfl, small _ (by omega) (by omega), Int.tmod_eq_emod_of_nonneg (by omega)]
theorem sbits_eq (k : Nat) (hk : 40 ≤ k) {op a b : Int} (ho : op = 6 ∨ op = 7 ∨ op = 8) (ha : NOk a) (hb : NOk b) : spec_l1Bits.f k op a b = some (Exact op a b) := by
  unfold spec_l1Bits.f
  rw [sbits_l0 ho 32 k 0 0 (by omega) (by omega) (by omega) (by omega) (by simp [Nat.mod_one])]
  congr 1
  rcases ho with rfl | rfl | rfl
  · simp [Exact, bitOp, bits_and32 ha hb]
  · simp [Exact, bitOp, bits_or32 ha hb]
  · simp [Exact, bitOp, bits_xor32 ha hb]
/-! spec_l1Exact -/
theorem sexact_eq (k : Nat) (hk : 50 ≤ k) {op a b : Int} (h0 : 1 ≤ op) (h13 : op ≤ 13) (ha : NOk a) (hb : NOk b) (h1 : op = 4 ∨ op = 5 → b ≠ 0) (h2 : op = 9 ∨ op = 10 → 0 ≤ b ∧ b ≤ 31) :
    spec_l1Exact.f k op a b = some (Exact op a b) := by
  obtain ⟨k, rfl⟩ : ∃ m, k = m + 4 := ⟨k - 4, by omega⟩
  have m := mul_in32 ha hb
  have d := tdiv_in b (a := a) (A := 2147483648) (by have := ha.1; omega) (by have := ha.2; omega)
  have ha' := ha
  have hb' := hb
  unfold NOk at ha hb
  unfold spec_l1Exact.f
  by_cases c1 : op = 1
  · subst c1; simp [Exact, spec_l1Exact.j0, wrap64_id (x := a + b) (by omega) (by omega)]
  by_cases c11 : op = 11
  · subst c11; simp [Exact, spec_l1Exact.j0, wrap64_id (x := a + b) (by omega) (by omega)]
  by_cases c2 : op = 2
  · subst c2; simp [Exact, spec_l1Exact.j0, spec_l1Exact.j1, wrap64_id (x := a - b) (by omega) (by omega)]
  by_cases c12 : op = 12
  · subst c12; simp [Exact, spec_l1Exact.j0, spec_l1Exact.j1, wrap64_id (x := a - b) (by omega) (by omega)]
  by_cases c3 : op = 3
  · subst c3; simp [Exact, spec_l1Exact.j0, spec_l1Exact.j1, spec_l1Exact.j2, wrap64_id (x := a * b) (by omega) (by omega)]
  by_cases c13 : op = 13
  · subst c13; simp [Exact, spec_l1Exact.j0, spec_l1Exact.j1, spec_l1Exact.j2, wrap64_id (x := a * b) (by omega) (by omega)]
  by_cases c4 : op = 4
  · subst c4; simp [Exact, spec_l1Exact.j0, spec_l1Exact.j1, spec_l1Exact.j2, h1 (Or.inl rfl), wrap64_id (x := Int.tdiv a b) (by omega) (by omega)]
  by_cases c5 : op = 5
  · subst c5; simp [Exact, spec_l1Exact.j0, spec_l1Exact.j1, spec_l1Exact.j2, h1 (Or.inr rfl)]
  have j2 : ∀ m, 45 ≤ m → spec_l1Exact.f (m + 3) op a b = spec_l1Exact.j2 (m + 1) op a b false := by
    intro m hm
    have n11 : (op == 11) = false := by simpa using c11
    have n12 : (op == 12) = false := by simpa using c12
    have n13 : (op == 13) = false := by simpa using c13
    unfold spec_l1Exact.f
    rw [if_neg c1, n11]
    simp only [spec_l1Exact.j0, Bool.false_eq_true, if_false, if_neg c2, n12]
    simp only [spec_l1Exact.j1, Bool.false_eq_true, if_false, if_neg c3, n13]
  have e := j2 (k + 1) (by omega)
  unfold spec_l1Exact.f at e
  rw [e]
  simp only [spec_l1Exact.j2, Bool.false_eq_true, if_false, if_neg c4, if_neg c5]
  by_cases c9 : op = 9
  · have := h2 (Or.inl c9)
    have s := shl_in ha' this.1 this.2
    rw [if_pos c9, power_eq _ (by omega) this.1 (by omega)]
    simp only [Option.bind_some]
    rw [wrap64_id (by omega) (by omega)]
    subst c9; simp [Exact]
  by_cases c10 : op = 10
  · have := h2 (Or.inr c10)
    have p := pow_le' (n := b.toNat) (m := 31) (by omega)
    have q := pow_pos' b.toNat
    have e : (2 : Int) ^ 31 = 2147483648 := by decide
    rw [if_neg c9, if_pos c10, power_eq _ (by omega) this.1 (by omega)]
    simp only [Option.bind_some]
    rw [floor_eq ha' q (by omega)]
    subst c10; simp [Exact]
  rw [if_neg c9, if_neg c10, sbits_eq _ (by omega) (by omega) ha' hb']
  rfl
/-! spec_NumDo -/
theorem exact_bits_ok {op a b : Int} (h : op = 6 ∨ op = 7 ∨ op = 8) (ha : NOk a) (hb : NOk b) : NOk (Exact op a b) := by
  rcases h with rfl | rfl | rfl
  · simp only [Exact]; simp [bits_and32 ha hb]; exact wrap32_in _
  · simp only [Exact]; simp [bits_or32 ha hb]; exact wrap32_in _
  · simp only [Exact]; simp [bits_xor32 ha hb]; exact wrap32_in _
theorem snumDo_eq (k : Nat) (hk : 60 ≤ k) (op a b : Int) : spec_NumDo.f k op a b = some (NumDo op a b) := by
  obtain ⟨k, rfl⟩ : ∃ m, k = m + 4 := ⟨k - 4, by omega⟩
  unfold spec_NumDo.f NumDo
  rw [sin_eq, snumOk_eq, snumOk_eq]
  simp only [Option.bind_some]
  by_cases c0 : 1 ≤ op ∧ op ≤ 13
  case neg => simp [spec_NumDo.j0, c0]
  by_cases ca : NOk a
  case neg => simp [spec_NumDo.j0, c0, ca]
  by_cases cb : NOk b
  case neg => simp [spec_NumDo.j0, c0, ca, cb]
  have tail : ∀ m, 55 ≤ m → ¬ ((op = 4 ∨ op = 5) ∧ b = 0) → ¬ ((op = 9 ∨ op = 10) ∧ (b < 0 ∨ b > 31)) → spec_NumDo.j2 (m + 1) op a b false = some (if 11 ≤ op then (wrap32 (Exact op a b), 0) else if NOk (Exact op a b) then (Exact op a b, 0) else (0, 1)) := by
    intro m hm g1 g2
    simp only [spec_NumDo.j2, Bool.false_eq_true, if_false]
    rw [sexact_eq m (by omega) c0.1 c0.2 ca cb (fun h e => g1 ⟨h, e⟩) (fun h => by
      have := fun e => g2 ⟨h, e⟩
      omega)]
    simp only [Option.bind_some]
    rw [snumwrap_eq, snumOk_eq]
    simp only [Option.bind_some]
    by_cases h11 : op ≥ 11
    · have h11' : 11 ≤ op := h11
      simp only [h11, h11', if_true]
    · have h11' : ¬ 11 ≤ op := h11
      simp only [h11, h11', if_false]
      by_cases hn : NOk (Exact op a b) <;> simp [hn]
  simp only [c0, ca, cb, decide_true, if_true, not_true, or_self, if_false, Bool.not_true, and_self]
  simp only [spec_NumDo.j0, Bool.false_eq_true, if_false]
  by_cases c4 : op = 4
  · subst c4
    simp only [if_true, spec_NumDo.j1]
    by_cases cz : b = 0
    · simp [cz]
    · have ez : (b == 0) = false := by simpa using cz
      rw [ez]
      simp only [Bool.false_eq_true, if_false]
      rw [if_neg (by omega), if_neg (by omega), tail _ (by omega) (by simp [cz]) (by simp)]
      simp [cz]
  by_cases c5 : op = 5
  · subst c5
    simp only [if_true, spec_NumDo.j1, if_neg c4]
    by_cases cz : b = 0
    · simp [cz]
    · have ez : (b == 0) = false := by simpa using cz
      rw [ez]
      simp only [Bool.false_eq_true, if_false]
      rw [if_neg (by omega), if_neg (by omega), tail _ (by omega) (by simp [cz]) (by simp)]
      simp [cz]
  rw [if_neg c4, if_neg c5]
  simp only [spec_NumDo.j1, Bool.false_eq_true, if_false, c4, c5, false_or, false_and]
  rw [sin_eq]
  simp only [Option.bind_some]
  by_cases c9 : op = 9
  · rw [if_pos c9]
    by_cases hr : 0 ≤ b ∧ b ≤ 31
    · simp only [hr, decide_true, Bool.not_true, and_self]
      rw [tail _ (by omega) (by omega) (by omega), if_neg (by omega : ¬ ((op = 9 ∨ op = 10) ∧ (b < 0 ∨ b > 31)))]
    · simp only [hr, decide_false, Bool.not_false, spec_NumDo.j2, if_true]
      rw [if_pos (by omega)]
  by_cases c10 : op = 10
  · rw [if_neg c9, if_pos c10]
    by_cases hr : 0 ≤ b ∧ b ≤ 31
    · simp only [hr, decide_true, Bool.not_true, and_self]
      rw [tail _ (by omega) (by omega) (by omega), if_neg (by omega : ¬ ((op = 9 ∨ op = 10) ∧ (b < 0 ∨ b > 31)))]
    · simp only [hr, decide_false, Bool.not_false, spec_NumDo.j2, if_true]
      rw [if_pos (by omega)]
  rw [if_neg c9, if_neg c10, tail _ (by omega) (by omega) (by omega), if_neg (by omega : ¬ ((op = 9 ∨ op = 10) ∧ (b < 0 ∨ b > 31)))]
/-! laws_wide -/
theorem wide_tot {l : List Int} (hl : Bytes l) {i : Int} (h0 : 0 ≤ i) (h1 : i ≤ 100000000) : Tot (laws_wide.f l i) fun r => 0 ≤ r ∧ r < 4294967296 := by
  unfold laws_wide.f
  rw [wrap64_id (x := i + 1) (by omega) (by omega), wrap64_id (x := i + 2) (by omega) (by omega), wrap64_id (x := i + 3) (by omega) (by omega)]
  refine Tot.then (at_tot hl h0 (by omega)) fun a ha => Tot.then (at_tot hl (by omega) (by omega)) fun b hb => Tot.then (at_tot hl (by omega) (by omega)) fun c hc => Tot.then (at_tot hl (by omega) (by omega)) fun d hd => ?_
  rw [wrap64_id (x := a) (by omega) (by omega), wrap64_id (x := b) (by omega) (by omega), wrap64_id (x := c) (by omega) (by omega), wrap64_id (x := d) (by omega) (by omega)]
  rw [wrap64_id (x := a * 16777216) (by omega) (by omega), wrap64_id (x := b * 65536) (by omega) (by omega), wrap64_id (x := c * 256) (by omega) (by omega)]
  have e : (2 : Int) ^ 32 = 4294967296 := by decide
  have r1 := bits_or_nonneg (x := a * 16777216) (y := b * 65536) (n := 32) (by omega) (by omega) (by omega) (by omega) (by omega)
  have r2 := bits_or_nonneg (y := c * 256) (n := 32) (by omega) r1.1 r1.2 (by omega) (by omega)
  have r3 := bits_or_nonneg (y := d) (n := 32) (by omega) r2.1 r2.2 (by omega) (by omega)
  exact Tot.here ⟨r3.1, by omega⟩
/-! impl_RestOk -/
theorem restOk_eq (m a : Int) : impl_RestOk.f m a = some (decide (SOk m a)) := by
  unfold impl_RestOk.f
  rw [numOk_eq]
  simp only [Option.bind_some]
  by_cases c : m = 0
  · rw [if_pos c]; exact dcl ⟨fun h => Or.inl ⟨c, h⟩, fun h => h.zero c⟩
  · rw [if_neg c]
    have e : SOk m a ↔ (1 ≤ m ∧ m ≤ 65536 ∧ 0 ≤ a ∧ a < m) := by
      unfold SOk; constructor
      · intro h; rcases h with h | h
        · exact absurd h.1 c
        · exact h.2
      · intro h; exact Or.inr ⟨c, h⟩
    by_cases c1 : m ≥ 1
    · rw [if_pos c1]
      by_cases c2 : m ≤ 65536
      · rw [if_pos c2]
        by_cases c3 : a ≥ 0
        · rw [if_pos c3]; exact dcl (by rw [e]; omega)
        · rw [if_neg c3]; exact dfl (by rw [e]; omega)
      · rw [if_neg c2]; exact dfl (by rw [e]; omega)
    · rw [if_neg c1]; exact dfl (by rw [e]; omega)
/-! spec_RestOk -/
theorem srestOk_eq (m a : Int) : spec_RestOk.f m a = some (decide (SOk m a)) := by
  unfold spec_RestOk.f
  rw [snumOk_eq, sin_eq, sin_eq]
  simp only [Option.bind_some]
  by_cases c : m = 0
  · rw [if_pos c]; exact dcl ⟨fun h => Or.inl ⟨c, h⟩, fun h => h.zero c⟩
  · rw [if_neg c]
    have e : SOk m a ↔ (1 ≤ m ∧ m ≤ 65536 ∧ 0 ≤ a ∧ a < m) := by
      unfold SOk; constructor
      · intro h; rcases h with h | h
        · exact absurd h.1 c
        · exact h.2
      · intro h; exact Or.inr ⟨c, h⟩
    by_cases c1 : 1 ≤ m ∧ m ≤ 65536
    · simp only [c1, decide_true, if_true, and_self]
      rw [wrap64_id (by omega) (by omega)]; exact dcl (by rw [e]; omega)
    · simp only [c1, decide_false, Bool.false_eq_true, if_false]; exact dfl (by rw [e]; omega)
/-! impl_restAll -/
theorem restAll_eq : impl_restAll.f = some (1, 0) := rfl
/-! spec_l9All -/
theorem srestAll_eq : spec_l9All.f = some (1, 0) := rfl
/-! impl_restMod -/
theorem restMod_eq {n m : Int} (hm : 0 < m) (h : m ≤ 9223372036854775807) : impl_restMod.f n m = some (n % m) := mod_eq hm h
/-! impl_restGcd -/
theorem tmod_gcd (g n : Int) : Int.gcd n (Int.tmod g n) = Int.gcd g n := by
  rw [Int.gcd_eq_natAbs_gcd_natAbs, Int.gcd_eq_natAbs_gcd_natAbs, Int.natAbs_tmod, Nat.gcd_comm g.natAbs, Nat.gcd_comm n.natAbs (g.natAbs % n.natAbs), ← Nat.gcd_rec]
theorem gcd_l1 {xs : List Int} {len i r : Int} (K : Nat) : ∀ (d k : Nat) (g n : Int), n.natAbs ≤ d → K + d + 1 ≤ k →
    (∀ (k' : Nat) (g' : Int), K ≤ k' → g'.natAbs = Int.gcd g n → impl_restGcd.l0 k' g' xs len (wrap64 (i + 1)) = some r) → impl_restGcd.l1 k g n xs len i = some r := by
  intro d
  induction d with
  | zero =>
    intro k g n hn hk h
    obtain ⟨k, rfl⟩ : ∃ m, k = m + 1 := ⟨k - 1, by omega⟩
    have : n = 0 := by omega
    subst this
    simp only [impl_restGcd.l1, if_true]
    exact h k g (by omega) (by simp)
  | succ d ih =>
    intro k g n hn hk h
    obtain ⟨k, rfl⟩ : ∃ m, k = m + 1 := ⟨k - 1, by omega⟩
    simp only [impl_restGcd.l1]
    by_cases c : n = 0
    · subst c
      rw [if_pos rfl]
      exact h k g (by omega) (by simp)
    · rw [if_neg c]
      have : (Int.tmod g n).natAbs < n.natAbs := by rw [Int.natAbs_tmod]; exact Nat.mod_lt _ (by omega)
      refine ih k n (Int.tmod g n) (by omega) (by omega) ?_
      rw [tmod_gcd]; exact fun k' g' => h k' g'
def gcds (g : Nat) (xs : List Int) : Nat := xs.foldl (fun g n => Nat.gcd g n.natAbs) g
theorem gcd_l0 (xs : List Int) (hx : ∀ x ∈ xs, x.natAbs ≤ 9223372036854775807) (hl : xs.length ≤ 1000) : ∀ (d k : Nat) (g i : Int), 0 ≤ i → i ≤ xs.length → ((xs.length : Int) - i = d) → d * 9223372036854775900 + 2 ≤ k → g.natAbs ≤ 9223372036854775807 →
    impl_restGcd.l0 k g xs (xs.length : Int) i = some ((gcds g.natAbs (xs.drop i.toNat) : Nat) : Int) := by
  intro d
  induction d with
  | zero =>
    intro k g i h0 h1 hd hk hg
    obtain ⟨k, rfl⟩ : ∃ m, k = m + 1 := ⟨k - 1, by omega⟩
    simp only [impl_restGcd.l0]
    rw [if_neg (by omega), List.drop_of_length_le (by omega)]
    simp only [gcds, List.foldl_nil]
    by_cases c : g < 0
    · rw [if_pos c, wrap64_id (by omega) (by omega)]; congr 1; omega
    · rw [if_neg c]; congr 1; omega
  | succ d ih =>
    intro k g i h0 h1 hd hk hg
    obtain ⟨k, rfl⟩ : ∃ m, k = m + 1 := ⟨k - 1, by omega⟩
    simp only [impl_restGcd.l0]
    rw [if_pos (by omega), if_pos h0, if_pos (by omega), drop_rd h0 (by omega)]
    have hm : rd xs i ∈ xs := by
      have := drop_rd (xs := xs) h0 (by omega)
      exact List.mem_of_mem_drop (by rw [this]; exact List.mem_cons_self ..)
    have hn := hx _ hm
    generalize rd xs i = n at *
    have e : (i + 1).toNat = i.toNat + 1 := by omega
    refine gcd_l1 (d * 9223372036854775900 + 2) n.natAbs k g n (Nat.le_refl _) (by omega) ?_
    intro k' g' hk' hg'
    have le : g'.natAbs ≤ 9223372036854775807 := by
      rw [hg', Int.gcd_eq_natAbs_gcd_natAbs]
      rcases Nat.eq_zero_or_pos g.natAbs with z | z
      · rw [z, Nat.gcd_zero_left]; exact hn
      · exact Nat.le_trans (Nat.gcd_le_left _ z) hg
    rw [wrap64_id (by omega) (by omega), ih k' g' (i + 1) (by omega) (by omega) (by omega) hk' le, e, hg']
    rfl
theorem restGcd_eq (k : Nat) (xs : List Int) (hk : xs.length * 9223372036854775900 + 2 ≤ k) (hx : ∀ x ∈ xs, x.natAbs ≤ 9223372036854775807) (hl : xs.length ≤ 1000) : impl_restGcd.f k xs = some ((gcds 0 xs : Nat) : Int) := by
  unfold impl_restGcd.f
  rw [gcd_l0 xs hx hl xs.length k 0 0 (by omega) (by omega) (by omega) hk (by decide)]
  simp
theorem restGcd2 (k : Nat) (hk : 100000000000000000000 ≤ k) {a b : Int} (ha : a.natAbs ≤ 9223372036854775807) (hb : b.natAbs ≤ 9223372036854775807) : impl_restGcd.f k [a, b] = some ((Int.gcd a b : Nat) : Int) := by
  rw [restGcd_eq k _ (by simp; omega) (by intro x hx; simp at hx; rcases hx with rfl | rfl <;> assumption) (by simp)]
  simp [gcds, Int.gcd_eq_natAbs_gcd_natAbs]
theorem restGcd3 (k : Nat) (hk : 100000000000000000000 ≤ k) {a b c : Int} (ha : a.natAbs ≤ 9223372036854775807) (hb : b.natAbs ≤ 9223372036854775807) (hc : c.natAbs ≤ 9223372036854775807) :
    impl_restGcd.f k [a, b, c] = some ((Int.gcd (Int.gcd a b : Int) c : Nat) : Int) := by
  rw [restGcd_eq k _ (by simp; omega) (by intro x hx; simp at hx; rcases hx with rfl | rfl | rfl <;> assumption) (by simp)]
  simp [gcds, Int.gcd_eq_natAbs_gcd_natAbs]
/-! impl_restOf -/
theorem restOf_eq (k : Nat) (hk : 100000000000000000000 ≤ k) (n : Int) {m : Int} (h0 : 0 ≤ m) (h1 : m ≤ 9223372036854775807) : impl_restOf.f k n m = some (SOf n m) := by
  unfold impl_restOf.f SOf SCut
  by_cases c : m > 65536
  · have g := gcd_le_65536 c
    simp only [if_pos c]
    rw [restGcd2 k hk (by omega) (by omega)]
    simp only [Option.bind_some]
    rw [if_neg (by omega), if_neg (by omega), restMod_eq (by omega) (by omega)]
    rfl
  · simp only [if_neg c]
    by_cases c0 : m = 0
    · rw [if_pos c0, if_pos c0]
    · rw [if_neg c0, if_neg c0, restMod_eq (by omega) (by omega)]
      rfl
/-! impl_RestHas -/
theorem restHas_eq (k : Nat) (hk : 1 ≤ k) (m a v : Int) : impl_RestHas.f k m a v = some (decide (SHas m a v)) := by
  obtain ⟨k, rfl⟩ : ∃ m, k = m + 1 := ⟨k - 1, by omega⟩
  unfold impl_RestHas.f
  rw [restOk_eq, numOk_eq]
  simp only [Option.bind_some]
  by_cases c : SOk m a
  case neg => simp only [c, decide_false, Bool.false_eq_true, if_false, impl_RestHas.j0, if_true]; exact dfl (fun h => c h.1)
  by_cases c1 : NOk v
  case neg => simp only [c, c1, decide_true, decide_false, Bool.not_false, impl_RestHas.j0, if_true]; exact dfl (fun h => c1 h.2.1)
  simp only [c, c1, decide_true, if_true, Bool.not_true, impl_RestHas.j0, Bool.false_eq_true, if_false]
  by_cases c2 : m = 0
  · rw [if_pos c2]
    by_cases c3 : v = a
    · subst c3
      have : SHas m v v := ⟨c, c1, Or.inl ⟨c2, rfl⟩⟩
      simp only [this, decide_true, beq_self_eq_true]
    · have : ¬ SHas m a v := fun h => by rcases h.2.2 with h | h; exact c3 h.2; exact h.1 c2
      simp [c3, this]
  · have p := c.pos c2
    rw [if_neg c2, restMod_eq (by omega) (by omega)]
    simp only [Option.bind_some]
    by_cases c3 : v % m = a
    · have : SHas m a v := ⟨c, c1, Or.inr ⟨c2, c3⟩⟩
      simp only [this, decide_true, c3, beq_self_eq_true]
    · have : ¬ SHas m a v := fun h => by rcases h.2.2 with h | h; exact c2 h.1; exact c3 h.2
      simp [c3, this]
/-! spec_RestHas -/
theorem srestHas_eq (k : Nat) (hk : 1 ≤ k) (m a v : Int) : spec_RestHas.f k m a v = some (decide (SHas m a v)) := by
  obtain ⟨k, rfl⟩ : ∃ m, k = m + 1 := ⟨k - 1, by omega⟩
  unfold spec_RestHas.f
  rw [srestOk_eq, snumOk_eq]
  simp only [Option.bind_some]
  by_cases c : SOk m a
  case neg => simp only [c, decide_false, Bool.false_eq_true, if_false, spec_RestHas.j0, if_true]; exact dfl (fun h => c h.1)
  by_cases c1 : NOk v
  case neg => simp only [c, c1, decide_true, decide_false, Bool.not_false, spec_RestHas.j0, if_true]; exact dfl (fun h => c1 h.2.1)
  simp only [c, c1, decide_true, if_true, Bool.not_true, spec_RestHas.j0, Bool.false_eq_true, if_false]
  by_cases c2 : m = 0
  · rw [if_pos c2]
    by_cases c3 : v = a
    · subst c3
      have : SHas m v v := ⟨c, c1, Or.inl ⟨c2, rfl⟩⟩
      simp only [this, decide_true, beq_self_eq_true]
    · have : ¬ SHas m a v := fun h => by rcases h.2.2 with h | h; exact c3 h.2; exact h.1 c2
      simp [c3, this]
  · have p := c.pos c2
    rw [if_neg c2, mod_eq (by omega) (by omega)]
    simp only [Option.bind_some]
    by_cases c3 : v % m = a
    · have : SHas m a v := ⟨c, c1, Or.inr ⟨c2, c3⟩⟩
      simp only [this, decide_true, c3, beq_self_eq_true]
    · have : ¬ SHas m a v := fun h => by rcases h.2.2 with h | h; exact c2 h.1; exact c3 h.2
      simp [c3, this]
/-! spec_l9Gcd -/
theorem sgcd_l0 : ∀ (d k : Nat) (a b : Int), 0 ≤ a → 0 ≤ b → b.toNat ≤ d → d < k → spec_l9Gcd.l0 k a b = some ((Int.gcd a b : Nat) : Int) := by
  intro d
  induction d with
  | zero =>
    intro k a b h0 h1 hd hk
    obtain ⟨k, rfl⟩ : ∃ m, k = m + 1 := ⟨k - 1, by omega⟩
    have : b = 0 := by omega
    subst this
    simp only [spec_l9Gcd.l0, if_true, Int.gcd_zero]; congr 1; omega
  | succ d ih =>
    intro k a b h0 h1 hd hk
    obtain ⟨k, rfl⟩ : ∃ m, k = m + 1 := ⟨k - 1, by omega⟩
    simp only [spec_l9Gcd.l0]
    by_cases c : b = 0
    · subst c
      rw [if_pos rfl, Int.gcd_zero]; congr 1; omega
    · rw [if_neg c]
      have t0 := tmod_nonneg (b := b) h0
      have t1 := tmod_lt (a := a) (b := b) (by omega)
      rw [ih k b (Int.tmod a b) h1 t0 (by omega) (by omega)]
      congr 2
      rw [Int.gcd_eq_natAbs_gcd_natAbs, Int.gcd_eq_natAbs_gcd_natAbs, Int.natAbs_tmod, Nat.gcd_comm a.natAbs, Nat.gcd_comm b.natAbs (a.natAbs % b.natAbs), ← Nat.gcd_rec]
theorem sgcd_eq (k : Nat) (hk : 100000000000000000000 ≤ k) {a b : Int} (ha : a.natAbs ≤ 9223372036854775807) (hb : b.natAbs ≤ 9223372036854775807) : spec_l9Gcd.f k a b = some ((Int.gcd a b : Nat) : Int) := by
  obtain ⟨k, rfl⟩ : ∃ m, k = m + 2 := ⟨k - 2, by omega⟩
  have L : ∀ x y : Int, 0 ≤ x → 0 ≤ y → y ≤ 9223372036854775807 → spec_l9Gcd.l0 k x y = some ((Int.gcd x y : Nat) : Int) := fun x y h h' h'' => sgcd_l0 y.toNat k x y h h' (Nat.le_refl _) (by omega)
  unfold spec_l9Gcd.f
  simp only [spec_l9Gcd.j0, spec_l9Gcd.j1]
  by_cases c : a < 0
  · rw [if_pos c, wrap64_id (x := -a) (by omega) (by omega)]
    by_cases c1 : b < 0
    · rw [if_pos c1, wrap64_id (by omega) (by omega), L _ _ (by omega) (by omega) (by omega)]; simp
    · rw [if_neg c1, L _ _ (by omega) (by omega) (by omega)]; simp
  · rw [if_neg c]
    by_cases c1 : b < 0
    · rw [if_pos c1, wrap64_id (by omega) (by omega), L _ _ (by omega) (by omega) (by omega)]; simp
    · rw [if_neg c1, L _ _ (by omega) (by omega) (by omega)]
/-! spec_l9Make -/
theorem smake_eq (k : Nat) (hk : 100000000000000000000 ≤ k) (n : Int) {m : Int} (h0 : 0 ≤ m) (h1 : m ≤ 9223372036854775807) : spec_l9Make.f k m n = some (SOf n m) := by
  unfold spec_l9Make.f SOf SCut
  by_cases c : m > 65536
  · have g := gcd_le_65536 c
    simp only [if_pos c]
    rw [sgcd_eq k hk (by omega) (by omega)]
    simp only [Option.bind_some]
    rw [if_neg (by omega), if_neg (by omega), mod_eq (by omega) (by omega)]
    rfl
  · simp only [if_neg c]
    by_cases c0 : m = 0
    · rw [if_pos c0, if_pos c0]
    · rw [if_neg c0, if_neg c0, mod_eq (by omega) (by omega)]
      rfl
/-! spec_l9Rest -/
theorem drawRest_tot (k : Nat) (hk : 42 ≤ k) {s : List Int} {p : Int} (hs : Bytes s) (h0 : 0 ≤ p) (h1 : p ≤ 10000000) :
    Tot (spec_l9Rest.f k s p) fun r => p < r.2.2 ∧ r.2.2 ≤ p + 10 ∧ SOk r.1 r.2.1 := by
  have go : ∀ {n q : Int}, 0 ≤ q → q ≤ 10001000 → Tot (spec_l1Rd_pick.f k s q n) fun r => r.2 = q + 1 ∧ 0 ≤ r.1 ∧ (1 ≤ n → r.1 < n) := fun a b => pick_tot k (by omega) hs a (by omega)
  unfold spec_l9Rest.f
  refine Tot.then (go h0 (by omega)) ?_
  rintro ⟨x, q⟩ ⟨hq, x0, x1⟩
  dsimp only at hq x0 x1 ⊢
  subst hq
  refine Tot.ite (fun _ => ?_) fun _ => Tot.ite (fun _ => ?_) fun _ => ?_
  · refine Tot.then (num_tot k hk hs (by omega) (by omega)) ?_
    rintro ⟨y, q⟩ ⟨hq, hq', y0, y1⟩
    dsimp only at hq hq' y0 y1 ⊢
    exact Tot.here ⟨by dsimp only; omega, by dsimp only; omega, Or.inl ⟨rfl, y0, y1⟩⟩
  · rw [srestAll_eq]
    exact Tot.here ⟨by dsimp only; omega, by dsimp only; omega, sok_all⟩
  · refine Tot.then (go (by omega) (by omega)) ?_
    rintro ⟨y, q⟩ ⟨hq, y0, y1⟩
    dsimp only at hq y0 y1 ⊢
    have y2 := y1 (by omega)
    refine Tot.ite (fun _ => ?_) fun _ => ?_
    · simp only [Option.bind_some]
      refine Tot.then (go (by omega) (by omega)) ?_
      rintro ⟨z, q'⟩ ⟨hr, z0, z1⟩
      dsimp only at hr z0 z1 ⊢
      have z2 := z1 (by omega)
      rw [if_pos z0, if_pos (by simp; omega)]
      refine Tot.then (go (by omega) (by omega)) ?_
      rintro ⟨u, q1⟩ ⟨ht, u0, u1⟩
      dsimp only at ht u0 u1 ⊢
      have u2 := u1 (by omega)
      refine Tot.then (go (by omega) (by omega)) ?_
      rintro ⟨v, q2⟩ ⟨hv, v0, v1⟩
      dsimp only at hv v0 v1 ⊢
      have v2 := v1 (by omega)
      rw [wrap64_id (x := u * 256) (by omega) (by omega), wrap64_id (x := u * 256 + v) (by omega) (by omega)]
      have tb : 1 ≤ rd [64, 4096, 65536, 65535, 32768, 60000] z ∧ rd [64, 4096, 65536, 65535, 32768, 60000] z ≤ 65536 := by
        have : z = 0 ∨ z = 1 ∨ z = 2 ∨ z = 3 ∨ z = 4 ∨ z = 5 := by omega
        rcases this with rfl | rfl | rfl | rfl | rfl | rfl <;> decide
      generalize rd [64, 4096, 65536, 65535, 32768, 60000] z = m at *
      rw [if_neg (by omega)]
      exact Tot.here ⟨by dsimp only; omega, by dsimp only; omega, Or.inr ⟨by dsimp only; omega, by dsimp only; omega, by dsimp only; omega, tmod_nonneg (by omega), tmod_lt (by omega)⟩⟩
    · refine Tot.then (go (by omega) (by omega)) ?_
      rintro ⟨u, q1⟩ ⟨ht, u0, u1⟩
      dsimp only at ht u0 u1 ⊢
      have u2 := u1 (by omega)
      refine Tot.then (go (by omega) (by omega)) ?_
      rintro ⟨v, q2⟩ ⟨hv, v0, v1⟩
      dsimp only at hv v0 v1 ⊢
      have v2 := v1 (by omega)
      rw [wrap64_id (x := u * 256) (by omega) (by omega), wrap64_id (x := u * 256 + v) (by omega) (by omega), wrap64_id (x := 1 + y) (by omega) (by omega), if_neg (by omega)]
      exact Tot.here ⟨by dsimp only; omega, by dsimp only; omega, Or.inr ⟨by dsimp only; omega, by dsimp only; omega, by dsimp only; omega, tmod_nonneg (by omega), tmod_lt (by omega)⟩⟩
/-! spec_l9Wild -/
theorem drawRestWild_tot (k : Nat) (hk : 42 ≤ k) {s : List Int} {p : Int} (hs : Bytes s) (h0 : 0 ≤ p) (h1 : p ≤ 1000000) :
    Tot (spec_l9Wild.f k s p) fun r => p < r.2.2 ∧ r.2.2 ≤ p + 20 := by
  unfold spec_l9Wild.f
  refine Tot.then (pick_tot k (by omega) hs h0 (by omega)) ?_
  rintro ⟨x, q⟩ ⟨hq, x0, x1⟩
  dsimp only at hq x0 x1 ⊢
  refine Tot.ite (fun _ => ?_) fun _ => ?_
  · simp only [Option.bind_some]
    refine Tot.then (pick_tot k (by omega) hs (by omega) (by omega)) ?_
    rintro ⟨z, q'⟩ ⟨hr, z0, z1⟩
    dsimp only at hr z0 z1 ⊢
    have z2 := z1 (by omega)
    rw [if_pos z0, if_pos (by simp; omega)]
    refine Tot.then (wild_tot k hk hs (by omega) (by omega)) ?_
    rintro ⟨y, q1⟩ ⟨ht, ht', -, -⟩
    dsimp only at ht ht' ⊢
    exact Tot.here ⟨by dsimp only; omega, by dsimp only; omega⟩
  · refine Tot.then (drawRest_tot k hk hs (by omega) (by omega)) ?_
    rintro ⟨y, z, q1⟩ ⟨ht, ht', -⟩
    dsimp only at ht ht' ⊢
    exact Tot.here ⟨by dsimp only; omega, by dsimp only; omega⟩
/-! laws_ofRest -/
theorem ofRest_tot (k : Nat) (hk : 1 ≤ k) {x : List Int} (hx : Bytes x) (m a : Int) {i : Int} (h0 : 0 ≤ i) (h1 : i ≤ 1000000) : Tot (laws_ofRest.f k m a x i) fun _ => True := by
  obtain ⟨k, rfl⟩ : ∃ m, k = m + 1 := ⟨k - 1, by omega⟩
  unfold laws_ofRest.f
  rw [srestOk_eq]
  simp only [Option.bind_some, decide_eq_true_eq]
  refine Tot.ite (fun o => ?_) fun o => ?_
  · simp only [laws_ofRest.j0, beq_iff_eq]
    refine Tot.ite (fun _ => Tot.here trivial) fun hm => ?_
    rw [wrap64_id (x := i + 3) (by omega) (by omega)]
    refine Tot.then (at_tot hx h0 (by omega)) fun a ha => Tot.then (at_tot hx (by omega) (by omega)) fun b hb => Tot.ite (fun _ => ?_) fun _ => ?_
    · refine Tot.then (wide_tot hx h0 (by omega)) fun c hc => ?_
      rw [if_neg hm, snumwrap_eq]
      exact Tot.here trivial
    · rw [snumwrap_eq]
      exact Tot.here trivial
  · simp only [laws_ofRest.j0, if_true]
    exact Tot.here trivial
/-! impl_RestDo -/
theorem restDo_eq (k : Nat) (hk : 300000000000000000000 ≤ k) (op m a m' a' : Int) : impl_RestDo.f k op m a m' a' = some (SDo op m a m' a') := by
  obtain ⟨k, rfl⟩ : ∃ m, k = m + 7 := ⟨k - 7, by omega⟩
  unfold impl_RestDo.f
  rw [numOp_eq, restOk_eq, restOk_eq]
  simp only [Option.bind_some]
  have N : impl_RestDo.j0 (k + 7) op true m a m' a' = some (1, 0) := by simp only [impl_RestDo.j0, if_true, restAll_eq, Option.bind_some]
  by_cases c : ¬ (1 ≤ op ∧ op ≤ 13) ∨ ¬ SOk m a ∨ ¬ SOk m' a'
  · have e : SDo op m a m' a' = (1, 0) := by unfold SDo; rw [if_pos c]
    rw [e]
    by_cases c1 : 1 ≤ op ∧ op ≤ 13
    case neg => simp only [c1, decide_false, Bool.false_eq_true, if_false]; exact N
    by_cases c2 : SOk m a
    case neg => simp only [c1, c2, and_self, decide_true, decide_false, if_true, Bool.false_eq_true, if_false]; exact N
    have c3 : ¬ SOk m' a' := by
      rcases c with c | c | c
      · exact absurd c1 c
      · exact absurd c2 c
      · exact c
    simp only [c1, c2, c3, and_self, decide_true, decide_false, if_true, Bool.not_false]; exact N
  have c1 : 1 ≤ op ∧ op ≤ 13 := Decidable.byContradiction fun n => c (Or.inl n)
  have o : SOk m a := Decidable.byContradiction fun n => c (Or.inr (Or.inl n))
  have o' : SOk m' a' := Decidable.byContradiction fun n => c (Or.inr (Or.inr n))
  have q := o.nok
  have q' := o'.nok
  have q0 := q.1
  have q0' := q'.1
  unfold NOk at q q'
  unfold SDo
  rw [if_neg c]
  simp only [c1, o, o', and_self, decide_true, if_true, Bool.not_true, impl_RestDo.j0, Bool.false_eq_true, if_false]
  by_cases z : m = 0 ∧ m' = 0
  · rw [if_pos z, if_pos z.1]
    have e : (m' == 0) = true := by simp [z.2]
    rw [e]
    simp only [impl_RestDo.j1, if_true]
    rw [numDo_eq _ (by omega), restAll_eq]
    simp only [Option.bind_some]
    split <;> rfl
  rw [if_neg z]
  have J1 : (if m = 0 then impl_RestDo.j1 (k + 6) op (m' == 0) m a m' a' else impl_RestDo.j1 (k + 6) op false m a m' a') = impl_RestDo.j2 (k + 5) op (SWrap op) m a m' a' := by
    have e : (if m = 0 then impl_RestDo.j1 (k + 6) op (m' == 0) m a m' a' else impl_RestDo.j1 (k + 6) op false m a m' a') = impl_RestDo.j1 (k + 6) op false m a m' a' := by
      by_cases hm : m = 0
      · have hm' : (m' == 0) = false := by rw [Bool.eq_false_iff]; simp; exact fun e => z ⟨hm, e⟩
        rw [if_pos hm, hm']
      · rw [if_neg hm]
    rw [e]
    simp only [impl_RestDo.j1, Bool.false_eq_true, if_false]
    unfold SWrap
    by_cases h11 : op = 11
    · rw [if_pos h11, if_pos (by omega)]
    rw [if_neg h11]
    by_cases h12 : op = 12
    · rw [if_pos h12, if_pos (by omega)]
    rw [if_neg h12]
    by_cases h13 : op = 13
    · rw [if_pos h13, if_pos (by omega)]
    rw [if_neg h13, if_neg (by omega)]
  rw [J1]
  have sw : 0 ≤ SWrap op ∧ SWrap op ≤ 4294967296 := by unfold SWrap; split <;> omega
  have gb : ∀ x y : Int, x.natAbs ≤ 4611686018427387904 → y.natAbs ≤ 4611686018427387904 → (Int.gcd x y : Int) ≤ 4611686018427387904 := by
    intro x y hx hy
    by_cases h : x = 0
    · rw [h, Int.zero_gcd]; omega
    · have := Int.gcd_le_natAbs_left (a := x) y h; omega
  have g1 := gb m m' (by omega) (by omega)
  have J2 : impl_RestDo.j2 (k + 5) op (SWrap op) m a m' a' = impl_RestDo.j3 (k + 4) (SWrap op) op (decide (op = 1 ∨ op = 11)) m a m' a' := by
    simp only [impl_RestDo.j2]
    by_cases h : op = 1
    · rw [if_pos h]; simp [h]
    · rw [if_neg h]; congr 1; rw [Bool.eq_iff_iff]; simp [h]
  rw [J2]
  simp only [impl_RestDo.j3, decide_eq_true_eq]
  by_cases o1 : op = 1 ∨ op = 11
  · rw [if_pos o1, if_pos o1, restGcd3 _ (by omega) (by omega) (by omega) (by omega)]
    simp only [Option.bind_some]
    rw [wrap64_id (by omega) (by omega), restOf_eq _ (by omega) _ (by omega) (by have := gb (Int.gcd m m' : Int) (SWrap op) (by omega) (by omega); omega)]
    rfl
  rw [if_neg o1, if_neg o1]
  have J4 : (if op = 2 then impl_RestDo.j4 (k + 3) (SWrap op) op (op == 2) m a m' a' else impl_RestDo.j4 (k + 3) (SWrap op) op (op == 12) m a m' a') = impl_RestDo.j4 (k + 3) (SWrap op) op (decide (op = 2 ∨ op = 12)) m a m' a' := by
    by_cases h : op = 2
    · rw [if_pos h]; simp [h]
    · rw [if_neg h]; congr 1; rw [Bool.eq_iff_iff]; simp [h]
  rw [J4]
  simp only [impl_RestDo.j4, decide_eq_true_eq]
  by_cases o2 : op = 2 ∨ op = 12
  · rw [if_pos o2, if_pos o2, restGcd3 _ (by omega) (by omega) (by omega) (by omega)]
    simp only [Option.bind_some]
    rw [wrap64_id (by omega) (by omega), restOf_eq _ (by omega) _ (by omega) (by have := gb (Int.gcd m m' : Int) (SWrap op) (by omega) (by omega); omega)]
    rfl
  rw [if_neg o2, if_neg o2]
  have J5 : (if op = 3 then impl_RestDo.j5 (k + 2) (SWrap op) op (op == 3) m a m' a' else impl_RestDo.j5 (k + 2) (SWrap op) op (op == 13) m a m' a') = impl_RestDo.j5 (k + 2) (SWrap op) op (decide (op = 3 ∨ op = 13)) m a m' a' := by
    by_cases h : op = 3
    · rw [if_pos h]; simp [h]
    · rw [if_neg h]; congr 1; rw [Bool.eq_iff_iff]; simp [h]
  rw [J5]
  simp only [impl_RestDo.j5, decide_eq_true_eq]
  by_cases o3 : op = 3 ∨ op = 13
  · rw [if_pos o3, if_pos o3]
    have m1 := mul_in (a := m) (b := m') (A := 65536) (B := 65536) (by omega) (by omega) (by omega) (by omega)
    have m2 := mul_in (a := m) (b := a') (A := 65536) (B := 2147483648) (by omega) (by omega) (by omega) (by omega)
    have m3 := mul_in (a := m') (b := a) (A := 65536) (B := 2147483648) (by omega) (by omega) (by omega) (by omega)
    have m4 := mul_in32 q0 q0'
    rw [wrap64_id (x := m * m') (by omega) (by omega), wrap64_id (x := m * a') (by omega) (by omega), wrap64_id (x := m' * a) (by omega) (by omega), restGcd3 _ (by omega) (by omega) (by omega) (by omega)]
    simp only [Option.bind_some]
    have g2 := gb (m * m') (m * a') (by omega) (by omega)
    have g3 := gb (Int.gcd (m * m') (m * a') : Int) (m' * a) (by omega) (by omega)
    by_cases y : (Int.gcd (Int.gcd (m * m') (m * a') : Int) (m' * a) : Int) = 0
    · rw [if_pos y, if_pos y]
    · rw [if_neg y, if_neg y, restGcd2 _ (by omega) (by omega) (by omega)]
      simp only [Option.bind_some]
      have g4 := gb (Int.gcd (Int.gcd (m * m') (m * a') : Int) (m' * a) : Int) (SWrap op) (by omega) (by omega)
      rw [wrap64_id (by omega) (by omega), restOf_eq _ (by omega) _ (by omega) (by omega)]
      rfl
  rw [if_neg o3, if_neg o3, restAll_eq]
  simp only [Option.bind_some]
  have J6f : impl_RestDo.j6 (k + 1) false m a m' a' = some (1, 0) := by simp only [impl_RestDo.j6, Bool.false_eq_true, if_false, restAll_eq, Option.bind_some]
  by_cases h9 : op = 9
  · rw [if_pos h9, if_neg (show ¬ (op = 5 ∧ (Int.gcd (Int.gcd m m' : Int) a' : Int) ≠ 0) from fun h => by omega)]
    by_cases hm : m' = 0
    · rw [if_pos hm]
      by_cases h0 : a' ≥ 0
      · rw [if_pos h0]
        by_cases h31 : a' ≤ 31
        · rw [if_pos ⟨h9, hm, h0, h31⟩]
          have u : IntKind.u64.wrap a' = a' := wrapu64_id (by omega) (by omega)
          have s1 : shl .i64 1 a' = 2 ^ a'.toNat := by rw [shl_eq (by unfold NOk; omega) h0 h31]; simp
          have p := pow_le' (n := a'.toNat) (m := 31) (by omega)
          have p0 := pow_pos' a'.toNat
          have e31 : (2 : Int) ^ 31 = 2147483648 := by decide
          have b1 := shl_in q0 h0 h31
          have b2 := shl_in (a := m) (by unfold NOk; omega) h0 h31
          have b3 := Int.mul_nonneg q.2.1 (show 0 ≤ (2 : Int) ^ a'.toNat by omega)
          simp only [h31, decide_true, impl_RestDo.j6, if_true]
          rw [u, if_pos h0, s1, wrap64_id (x := a * 2 ^ a'.toNat) (by omega) (by omega), wrap64_id (x := m * 2 ^ a'.toNat) (by omega) (by omega), restOf_eq _ (by omega) _ b3 (by omega)]
          rfl
        · rw [if_neg (fun h => h31 h.2.2.2)]
          simp only [h31, decide_false]; exact J6f
      · rw [if_neg h0, if_neg (fun h => h0 h.2.2.1)]; exact J6f
    · rw [if_neg hm, if_neg (fun h => hm h.2.1)]; exact J6f
  rw [if_neg h9, if_neg (show ¬ (op = 9 ∧ m' = 0 ∧ 0 ≤ a' ∧ a' ≤ 31) from fun h => h9 h.1)]
  by_cases h5 : op = 5
  · rw [if_pos h5, restGcd3 _ (by omega) (by omega) (by omega) (by omega)]
    simp only [Option.bind_some]
    by_cases y : (Int.gcd (Int.gcd m m' : Int) a' : Int) = 0
    · rw [if_pos y, if_neg (fun h => h.2 y)]
    · rw [if_neg y, if_pos ⟨h5, y⟩, restOf_eq _ (by omega) _ (by omega) (by have := gb (Int.gcd m m' : Int) a' (by omega) (by omega); omega)]
      rfl
  · rw [if_neg h5, if_neg (fun h => h5 h.1)]
/-! spec_l9Wraps -/
theorem swraps_eq (op : Int) : spec_l9Wraps.f op = some (SWrap op) := by
  unfold spec_l9Wraps.f SWrap; split <;> rfl
/-! spec_RestDo -/
theorem srestDo_eq (k : Nat) (hk : 300000000000000000000 ≤ k) (op m a m' a' : Int) : spec_RestDo.f k op m a m' a' = some (SDo op m a m' a') := by
  obtain ⟨k, rfl⟩ : ∃ m, k = m + 7 := ⟨k - 7, by omega⟩
  unfold spec_RestDo.f
  rw [sin_eq, srestOk_eq, srestOk_eq]
  simp only [Option.bind_some]
  have N : spec_RestDo.j0 (k + 7) op true m a m' a' = some (1, 0) := by simp only [spec_RestDo.j0, if_true, srestAll_eq, Option.bind_some]
  by_cases c : ¬ (1 ≤ op ∧ op ≤ 13) ∨ ¬ SOk m a ∨ ¬ SOk m' a'
  · have e : SDo op m a m' a' = (1, 0) := by unfold SDo; rw [if_pos c]
    rw [e]
    by_cases c1 : 1 ≤ op ∧ op ≤ 13
    case neg => simp only [c1, decide_false, Bool.false_eq_true, if_false]; exact N
    by_cases c2 : SOk m a
    case neg => simp only [c1, c2, and_self, decide_true, decide_false, if_true, Bool.false_eq_true, if_false]; exact N
    have c3 : ¬ SOk m' a' := by
      rcases c with c | c | c
      · exact absurd c1 c
      · exact absurd c2 c
      · exact c
    simp only [c1, c2, c3, and_self, decide_true, decide_false, if_true, Bool.not_false]; exact N
  have c1 : 1 ≤ op ∧ op ≤ 13 := Decidable.byContradiction fun n => c (Or.inl n)
  have o : SOk m a := Decidable.byContradiction fun n => c (Or.inr (Or.inl n))
  have o' : SOk m' a' := Decidable.byContradiction fun n => c (Or.inr (Or.inr n))
  have q := o.nok
  have q' := o'.nok
  have q0 := q.1
  have q0' := q'.1
  unfold NOk at q q'
  unfold SDo
  rw [if_neg c]
  simp only [c1, o, o', and_self, decide_true, if_true, Bool.not_true, spec_RestDo.j0, Bool.false_eq_true, if_false]
  by_cases z : m = 0 ∧ m' = 0
  · rw [if_pos z, if_pos z.1]
    have e : (m' == 0) = true := by simp [z.2]
    rw [e]
    simp only [spec_RestDo.j1, if_true]
    rw [snumDo_eq _ (by omega), srestAll_eq]
    simp only [Option.bind_some]
    split <;> rfl
  rw [if_neg z]
  have J1 : (if m = 0 then spec_RestDo.j1 (k + 6) op (m' == 0) m a m' a' else spec_RestDo.j1 (k + 6) op false m a m' a') = spec_RestDo.j2 (k + 5) op (SWrap op) (decide (op = 1 ∨ op = 11)) m a m' a' := by
    have e : (if m = 0 then spec_RestDo.j1 (k + 6) op (m' == 0) m a m' a' else spec_RestDo.j1 (k + 6) op false m a m' a') = spec_RestDo.j1 (k + 6) op false m a m' a' := by
      by_cases hm : m = 0
      · have hm' : (m' == 0) = false := by rw [Bool.eq_false_iff]; simp; exact fun e => z ⟨hm, e⟩
        rw [if_pos hm, hm']
      · rw [if_neg hm]
    rw [e]
    simp only [spec_RestDo.j1, Bool.false_eq_true, if_false, swraps_eq, Option.bind_some]
    by_cases h : op = 1
    · rw [if_pos h]; simp [h]
    · rw [if_neg h]; congr 1; rw [Bool.eq_iff_iff]; simp [h]
  rw [J1]
  have sw : 0 ≤ SWrap op ∧ SWrap op ≤ 4294967296 := by unfold SWrap; split <;> omega
  have gb : ∀ x y : Int, x.natAbs ≤ 4611686018427387904 → y.natAbs ≤ 4611686018427387904 → (Int.gcd x y : Int) ≤ 4611686018427387904 := by
    intro x y hx hy
    by_cases h : x = 0
    · rw [h, Int.zero_gcd]; omega
    · have := Int.gcd_le_natAbs_left (a := x) y h; omega
  have g1 := gb m m' (by omega) (by omega)
  have g1' := gb (Int.gcd m m' : Int) (SWrap op) (by omega) (by omega)
  simp only [spec_RestDo.j2, decide_eq_true_eq]
  by_cases o1 : op = 1 ∨ op = 11
  · rw [if_pos o1, if_pos o1, sgcd_eq _ (by omega) (by omega) (by omega)]
    simp only [Option.bind_some]
    rw [sgcd_eq _ (by omega) (by omega) (by omega)]
    simp only [Option.bind_some]
    rw [wrap64_id (by omega) (by omega), smake_eq _ (by omega) _ (by omega) (by omega)]
    rfl
  rw [if_neg o1, if_neg o1]
  have J3 : (if op = 2 then spec_RestDo.j3 (k + 4) op (SWrap op) true m a m' a' else spec_RestDo.j3 (k + 4) op (SWrap op) (op == 12) m a m' a') = spec_RestDo.j3 (k + 4) op (SWrap op) (decide (op = 2 ∨ op = 12)) m a m' a' := by
    by_cases h : op = 2
    · rw [if_pos h]; simp [h]
    · rw [if_neg h]; congr 1; rw [Bool.eq_iff_iff]; simp [h]
  rw [J3]
  simp only [spec_RestDo.j3, decide_eq_true_eq]
  by_cases o2 : op = 2 ∨ op = 12
  · rw [if_pos o2, if_pos o2, sgcd_eq _ (by omega) (by omega) (by omega)]
    simp only [Option.bind_some]
    rw [sgcd_eq _ (by omega) (by omega) (by omega)]
    simp only [Option.bind_some]
    rw [wrap64_id (by omega) (by omega), smake_eq _ (by omega) _ (by omega) (by omega)]
    rfl
  rw [if_neg o2, if_neg o2, sin_eq]
  simp only [Option.bind_some]
  have J4 : (if op = 9 then (if m' = 0 then spec_RestDo.j4 (k + 3) op (SWrap op) (decide (0 ≤ a' ∧ a' ≤ 31)) m a m' a' else spec_RestDo.j4 (k + 3) op (SWrap op) false m a m' a') else spec_RestDo.j4 (k + 3) op (SWrap op) false m a m' a') = spec_RestDo.j4 (k + 3) op (SWrap op) (decide (op = 9 ∧ m' = 0 ∧ 0 ≤ a' ∧ a' ≤ 31)) m a m' a' := by
    by_cases h : op = 9
    · by_cases h' : m' = 0
      · rw [if_pos h, if_pos h']; congr 1; rw [Bool.eq_iff_iff]; simp [h, h']
      · rw [if_pos h, if_neg h']; congr 1; rw [Bool.eq_iff_iff]; simp [h, h']
    · rw [if_neg h]; congr 1; rw [Bool.eq_iff_iff]; simp [h]
  rw [J4]
  simp only [spec_RestDo.j4, decide_eq_true_eq]
  by_cases o9 : op = 9 ∧ m' = 0 ∧ 0 ≤ a' ∧ a' ≤ 31
  · rw [if_pos o9, if_neg (show ¬ (op = 3 ∨ op = 13) from fun h => by omega), if_pos o9]
    obtain ⟨h9, hm, h0, h31⟩ := o9
    have p := pow_le' (n := a'.toNat) (m := 31) (by omega)
    have p0 := pow_pos' a'.toNat
    have e31 : (2 : Int) ^ 31 = 2147483648 := by decide
    have b1 := shl_in q0 h0 h31
    have b2 := shl_in (a := m) (by unfold NOk; omega) h0 h31
    have b3 := Int.mul_nonneg q.2.1 (show 0 ≤ (2 : Int) ^ a'.toNat by omega)
    rw [power_eq _ (by omega) h0 (by omega)]
    simp only [Option.bind_some]
    rw [wrap64_id (x := a * 2 ^ a'.toNat) (by omega) (by omega), wrap64_id (x := m * 2 ^ a'.toNat) (by omega) (by omega), smake_eq _ (by omega) _ b3 (by omega)]
    rfl
  rw [if_neg o9]
  have J5 : (if op = 3 then spec_RestDo.j5 (k + 2) op (SWrap op) true m a m' a' else spec_RestDo.j5 (k + 2) op (SWrap op) (op == 13) m a m' a') = spec_RestDo.j5 (k + 2) op (SWrap op) (decide (op = 3 ∨ op = 13)) m a m' a' := by
    by_cases h : op = 3
    · rw [if_pos h]; simp [h]
    · rw [if_neg h]; congr 1; rw [Bool.eq_iff_iff]; simp [h]
  rw [J5]
  simp only [spec_RestDo.j5, decide_eq_true_eq]
  by_cases o3 : op = 3 ∨ op = 13
  · rw [if_pos o3, if_pos o3]
    have m1 := mul_in (a := m) (b := m') (A := 65536) (B := 65536) (by omega) (by omega) (by omega) (by omega)
    have m2 := mul_in (a := m) (b := a') (A := 65536) (B := 2147483648) (by omega) (by omega) (by omega) (by omega)
    have m3 := mul_in (a := m') (b := a) (A := 65536) (B := 2147483648) (by omega) (by omega) (by omega) (by omega)
    have m4 := mul_in32 q0 q0'
    have g2 := gb (m * m') (m * a') (by omega) (by omega)
    have g3 := gb (Int.gcd (m * m') (m * a') : Int) (m' * a) (by omega) (by omega)
    rw [wrap64_id (x := m * m') (by omega) (by omega), wrap64_id (x := m * a') (by omega) (by omega), wrap64_id (x := m' * a) (by omega) (by omega), sgcd_eq _ (by omega) (by omega) (by omega)]
    simp only [Option.bind_some]
    rw [sgcd_eq _ (by omega) (by omega) (by omega)]
    simp only [Option.bind_some]
    by_cases y : (Int.gcd (Int.gcd (m * m') (m * a') : Int) (m' * a) : Int) = 0
    · rw [if_pos y, if_pos y]
    · rw [if_neg y, if_neg y, sgcd_eq _ (by omega) (by omega) (by omega)]
      simp only [Option.bind_some]
      have g4 := gb (Int.gcd (Int.gcd (m * m') (m * a') : Int) (m' * a) : Int) (SWrap op) (by omega) (by omega)
      rw [wrap64_id (by omega) (by omega), smake_eq _ (by omega) _ (by omega) (by omega)]
      rfl
  rw [if_neg o3, if_neg o3, if_neg o9, srestAll_eq]
  simp only [Option.bind_some]
  by_cases h5 : op = 5
  · have g5 := gb m' a' (by omega) (by omega)
    have ga : Int.gcd m (Int.gcd m' a' : Int) = Int.gcd (Int.gcd m m' : Int) a' := (Int.gcd_assoc m m' a').symm
    rw [if_pos h5, sgcd_eq _ (by omega) (by omega) (by omega)]
    simp only [Option.bind_some]
    rw [sgcd_eq _ (by omega) (by omega) (by omega), ga]
    simp only [Option.bind_some]
    by_cases y : (Int.gcd (Int.gcd m m' : Int) a' : Int) = 0
    · rw [if_pos y, if_neg (fun h => h.2 y)]
    · rw [if_neg y, if_pos ⟨h5, y⟩, smake_eq _ (by omega) _ (by omega) (by have := gb (Int.gcd m m' : Int) a' (by omega) (by omega); omega)]
      rfl
  · rw [if_neg h5, if_neg (fun h => h5 h.1)]
/-! spec_DrawRestDo -/
theorem drawRestDo_tot (k : Nat) (hk : 200000000000000000000 ≤ k) {l : List Int} (hl : Bytes l) : Tot (spec_DrawRestDo.f k l) fun _ => True := by
  obtain ⟨k, rfl⟩ : ∃ m, k = m + 1 := ⟨k - 1, by omega⟩
  have J : ∀ (x : Int) (s : List Int) (p : Int), Bytes s → 0 ≤ p → p ≤ 1000 → Tot (spec_DrawRestDo.j0 (k + 1) x s p) fun _ => True := by
    intro x s p hs h0 h1
    simp only [spec_DrawRestDo.j0]
    refine Tot.then (drawRestWild_tot _ (by omega) hs h0 (by omega)) ?_
    rintro ⟨a, b, q⟩ ⟨hq, hq'⟩
    dsimp only at hq hq' ⊢
    refine Tot.then (drawRestWild_tot _ (by omega) hs (by omega) (by omega)) ?_
    rintro ⟨c, d, q1⟩ ⟨hr, hr'⟩
    dsimp only at hr hr' ⊢
    refine Tot.ite (fun _ => ?_) fun _ => Tot.here trivial
    refine Tot.then (pick_tot _ (by omega) hs (by omega) (by omega)) ?_
    rintro ⟨y, q2⟩ ⟨ht, -, -⟩
    dsimp only at ht ⊢
    refine Tot.ite (fun _ => ?_) fun _ => Tot.here trivial
    exact Tot.then (pick_tot _ (by omega) hs (by omega) (by omega)) fun _ _ => Tot.here trivial
  unfold spec_DrawRestDo.f
  refine Tot.then (open_tot hl) ?_
  rintro ⟨s, p⟩ ⟨hp, hs, -⟩
  dsimp only at hp hs ⊢
  refine Tot.then (pick_tot _ (by omega) hs (by omega) (by omega)) ?_
  rintro ⟨x, q⟩ ⟨hq, -, -⟩
  dsimp only at hq ⊢
  refine Tot.then (pick_tot _ (by omega) hs (by omega) (by omega)) ?_
  rintro ⟨y, q1⟩ ⟨hr, -, -⟩
  dsimp only at hr ⊢
  refine Tot.ite (fun _ => ?_) fun _ => J _ _ _ hs (by omega) (by omega)
  refine Tot.then (pick_tot _ (by omega) hs (by omega) (by omega)) ?_
  rintro ⟨z, q2⟩ ⟨ht, -, -⟩
  dsimp only at ht ⊢
  exact J _ _ _ hs (by omega) (by omega)
end Go.Proofs.Ytkekcenlleebeaa.LFnRestDo
