/- What the small functions that the statement reaches tell, each by a plain law. Conditions: those in each law. -/
import Derived.Test.YtlbheepfmjbpnaaDFnRangeDo
import Derived.Test.YtlbheepfmjbpnaaBase
import Derived.Test.YtlbheepfmjbpnaaBits
import Derived.Test.YtlbheepfmjbpnaaRangeMath
import Derived.Test.YtlbheepfmjbpnaaRangeDoMath
namespace Go.Proofs.Ytlbheepfmjbpnaa.LFnRangeDo
open Go.RowKit Go.Proofs.Ytlbheepfmjbpnaa.PFnRangeDo Go.Proofs.Ytlbheepfmjbpnaa.Base Go.Proofs.YtlbheepfmjbpnaaW.PrintWords Go.Proofs.YtlbheepfmjbpnaaW.PrintLast Go.Proofs.YtlbheepfmjbpnaaW.PrintMore
set_option linter.unusedVariables false
set_option linter.unusedSimpArgs false

/-! spec_l1Rd_pick -/
theorem pick_tot (k : Nat) (hk : 1 ≤ k) {s : List Int} {p n : Int} (hs : Bytes s) (h0 : 0 ≤ p) (h1 : p ≤ 1073741824) :
    Tot (spec_l1Rd_pick.f k s p n) fun r => r.2 = p + 1 ∧ 0 ≤ r.1 ∧ (1 ≤ n → r.1 < n) := by
  obtain ⟨k, rfl⟩ : ∃ m, k = m + 1 := ⟨k - 1, by omega⟩
  have e1 : wrap64 (p + 1) = p + 1 := wrap64_id (by omega) (by omega)
  have e2 : wrap64 (p + 1 - 1) = p := by rw [wrap64_id (by omega) (by omega)]; omega
  unfold spec_l1Rd_pick.f
  rw [e1]
  refine Tot.ite (fun hn => ?_) (fun hn => ?_)
  · simp only [spec_l1Rd_pick.j0, if_true]
    exact Tot.here ⟨rfl, Int.le_refl _, fun h => by omega⟩
  · simp only [spec_l1Rd_pick.j0, e2]
    refine Tot.ite (fun h => Tot.here ⟨rfl, Int.le_refl _, fun _ => by dsimp only; omega⟩) fun h => ?_
    have hne : (s.length : Int) ≠ 0 := by simpa using h
    have hlen : 0 < (s.length : Int) := by omega
    refine Tot.ite (fun hp => ?_) fun hp => ?_
    · rw [if_pos h0, if_neg (by omega)]
      have b := hs.byte p
      rw [wrap64_id (by omega) (by omega)]
      exact Tot.here ⟨rfl, tmod_nonneg b.1, fun _ => tmod_lt (by omega)⟩
    · have m1 := tmod_nonneg (b := (s.length : Int)) h0
      have m2 := tmod_lt (a := p) hlen
      have q1 : wrap64 (p * 7) = p * 7 := wrap64_id (by omega) (by omega)
      have q2 : wrap64 (p * 7 + 3) = p * 7 + 3 := wrap64_id (by omega) (by omega)
      have m3 := tmod_nonneg (b := (s.length : Int)) (a := p * 7 + 3) (by omega)
      have m4 := tmod_lt (a := p * 7 + 3) hlen
      rw [if_neg hne, if_pos m1, if_pos m2, q1, q2, if_pos m3, if_pos m4, if_neg (by omega)]
      have b1 := hs.byte (Int.tmod p s.length)
      have b2 := hs.byte (Int.tmod (p * 7 + 3) s.length)
      generalize rd s (Int.tmod p s.length) = x1 at *
      generalize rd s (Int.tmod (p * 7 + 3) s.length) = x2 at *
      have d1 := tdiv_nonneg h0 (Int.le_of_lt hlen)
      have d2 := tdiv_le h0 hlen
      generalize Int.tdiv p s.length = d at *
      rw [wrap64_id (x := x1) (by omega) (by omega), wrap64_id (x := x2) (by omega) (by omega), wrap64_id (x := d) (by omega) (by omega)]
      rw [wrap64_id (x := x1 * 131) (by omega) (by omega), wrap64_id (x := x2 * 1117) (by omega) (by omega), wrap64_id (x := p * 29) (by omega) (by omega), wrap64_id (x := d * 53) (by omega) (by omega)]
      rw [wrap64_id (x := x1 * 131 + x2 * 1117) (by omega) (by omega)]
      rw [wrap64_id (x := x1 * 131 + x2 * 1117 + p * 29) (by omega) (by omega)]
      rw [wrap64_id (x := x1 * 131 + x2 * 1117 + p * 29 + d * 53) (by omega) (by omega)]
      have z0 : 0 ≤ x1 * 131 + x2 * 1117 + p * 29 + d * 53 := by omega
      have z1 : x1 * 131 + x2 * 1117 + p * 29 + d * 53 < 9223372036854775808 := by omega
      generalize x1 * 131 + x2 * 1117 + p * 29 + d * 53 = z at *
      have y0 := tdiv_nonneg (b := 64) z0 (by omega)
      have y1 := tdiv_le (b := 64) z0 (by omega)
      rw [wrap64_id (x := Int.tdiv z 64) (by omega) (by omega)]
      exact Tot.here ⟨rfl, tmod_nonneg (bits_xor_nonneg_in z0 z1 y0 (by omega)), fun _ => tmod_lt (by omega)⟩
/-! spec_l1Open -/
theorem open_tot {s : List Int} (hs : Bytes s) : Tot (spec_l1Open.f s) fun r => r.2 = 0 ∧ Bytes r.1 ∧ r.1.length ≤ 2000 := by
  unfold spec_l1Open.f
  refine Tot.ite (fun h => ?_) (fun h => ?_)
  · rw [if_pos (by omega)]
    exact Tot.here ⟨rfl, hs.take _, by simp only [List.length_take]; omega⟩
  · exact Tot.here ⟨rfl, hs, by dsimp only; omega⟩
/-! spec_l1Power -/
theorem power_l0 (n : Int) : ∀ (d k : Nat) (o i : Int), 0 ≤ i → i ≤ n → n ≤ 40 → (n - i : Int) = d → d < k → o = 2 ^ i.toNat → spec_l1Power.l0 k n o i = some (2 ^ n.toNat) := by
  intro d
  induction d with
  | zero =>
    intro k o i h0 h1 h2 hd hk ho
    obtain ⟨k, rfl⟩ : ∃ m, k = m + 1 := ⟨k - 1, by omega⟩
    simp only [spec_l1Power.l0]
    rw [if_neg (by omega), ho]
    have : i = n := by omega
    rw [this]
  | succ d ih =>
    intro k o i h0 h1 h2 hd hk ho
    obtain ⟨k, rfl⟩ : ∃ m, k = m + 1 := ⟨k - 1, by omega⟩
    simp only [spec_l1Power.l0]
    rw [if_pos (by omega)]
    have hp : (2 : Int) ^ i.toNat ≤ 2 ^ 40 := by
      have := Nat.pow_le_pow_right (n := 2) (by omega) (show i.toNat ≤ 40 by omega)
      exact_mod_cast this
    have hp0 : (0 : Int) < 2 ^ i.toNat := Int.pow_pos (by decide)
    have e : (i + 1).toNat = i.toNat + 1 := by omega
    rw [wrap64_id (x := 2 * o) (by omega) (by omega), wrap64_id (x := i + 1) (by omega) (by omega)]
    refine ih k _ _ (by omega) (by omega) h2 (by omega) (by omega) ?_
    rw [e, Int.pow_succ, ho]; omega
theorem power_eq (k : Nat) (hk : 42 ≤ k) {n : Int} (h0 : 0 ≤ n) (h1 : n ≤ 40) : spec_l1Power.f k n = some (2 ^ n.toNat) := by
  unfold spec_l1Power.f
  exact power_l0 n n.toNat k 1 0 (by omega) h0 h1 (by omega) (by omega) (by simp)
/-! spec_l1Mod -/
theorem mod_eq {a b : Int} (hb : 0 < b) (h : b ≤ 9223372036854775807) : spec_l1Mod.f a b = some (a % b) := by
  unfold spec_l1Mod.f
  rw [if_neg (by omega)]
  have e := Int.emod_emod_of_dvd a (Int.dvd_refl b)
  have h1 : Int.tmod a b < b := Int.tmod_lt_of_pos a hb
  have h2 : -b < Int.tmod a b := Int.lt_tmod_of_pos a hb
  have h3 := Int.mul_tdiv_add_tmod a b
  have h4 : a % b = Int.tmod a b % b := by
    conv => lhs; rw [← h3]
    rw [Int.add_comm, Int.add_mul_emod_self_left]
  by_cases hn : Int.tmod a b < 0
  · rw [if_pos hn, wrap64_id (by omega) (by omega), h4, ← Int.add_emod_right, Int.emod_eq_of_lt (by omega) (by omega)]
  · rw [if_neg hn, h4, Int.emod_eq_of_lt (by omega) (by omega)]
/-! spec_NumWrap -/
/-- The number of 32 bits that differs from one by a multiple. -/
theorem snumwrap_eq (v : Int) : spec_NumWrap.f v = some (wrap32 v) := by
  unfold spec_NumWrap.f
  rw [mod_eq (by omega) (by omega)]
  simp only [Option.bind_some]
  unfold wrap32
  by_cases h : v % 4294967296 > 2147483647
  · rw [if_pos h, wrap64_id (by omega) (by omega)]; congr 1; omega
  · rw [if_neg h]; congr 1; omega
/-! spec_l1Rd_num -/
theorem num_l0 {s : List Int} (hs : Bytes s) : ∀ (d k : Nat) (v i p : Int), 0 ≤ i → i ≤ 4 → (4 - i : Int) = d → d + 2 ≤ k → 0 ≤ p → p + d ≤ 1073741824 →
    Tot (spec_l1Rd_num.l0 k v i s p) fun r => r.2 = p + d ∧ -2147483648 ≤ r.1 ∧ r.1 ≤ 2147483647 := by
  intro d
  induction d with
  | zero =>
    intro k v i p h0 h1 hd hk hp hq
    obtain ⟨k, rfl⟩ : ∃ m, k = m + 1 := ⟨k - 1, by omega⟩
    simp only [spec_l1Rd_num.l0]
    rw [if_neg (by omega), snumwrap_eq]
    simp only [Option.bind_some]
    exact Tot.here ⟨by simp, (wrap32_in v).1, (wrap32_in v).2⟩
  | succ d ih =>
    intro k v i p h0 h1 hd hk hp hq
    obtain ⟨k, rfl⟩ : ∃ m, k = m + 1 := ⟨k - 1, by omega⟩
    simp only [spec_l1Rd_num.l0]
    rw [if_pos (by omega)]
    refine Tot.then (pick_tot k (by omega) hs hp (by omega)) ?_
    rintro ⟨x, q⟩ ⟨hq', -, -⟩
    dsimp only at hq' ⊢
    subst hq'
    rw [wrap64_id (x := i + 1) (by omega) (by omega)]
    refine (ih k _ _ _ (by omega) (by omega) (by omega) (by omega) (by omega) (by omega)).mono ?_
    rintro ⟨y, q⟩ ⟨h1, h2⟩
    exact ⟨by dsimp only at h1 ⊢; omega, h2⟩
theorem num_tot (k : Nat) (hk : 42 ≤ k) {s : List Int} {p : Int} (hs : Bytes s) (h0 : 0 ≤ p) (h1 : p ≤ 1000000000) :
    Tot (spec_l1Rd_num.f k s p) fun r => p < r.2 ∧ r.2 ≤ p + 5 ∧ -2147483648 ≤ r.1 ∧ r.1 ≤ 2147483647 := by
  have go : ∀ {n q : Int}, 0 ≤ q → q ≤ 1000000010 → Tot (spec_l1Rd_pick.f k s q n) fun r => r.2 = q + 1 ∧ 0 ≤ r.1 ∧ (1 ≤ n → r.1 < n) := fun a b => pick_tot k (by omega) hs a (by omega)
  have pw : ∀ {n : Int}, 0 ≤ n → n ≤ 30 → 0 < (2 : Int) ^ n.toNat ∧ (2 : Int) ^ n.toNat ≤ 1073741824 := fun {n} a b => by
    refine ⟨Int.pow_pos (by decide), ?_⟩
    have := Nat.pow_le_pow_right (n := 2) (by omega) (show n.toNat ≤ 30 by omega)
    have h : ((2 ^ n.toNat : Nat) : Int) ≤ ((2 ^ 30 : Nat) : Int) := by exact_mod_cast this
    simpa using h
  unfold spec_l1Rd_num.f
  refine Tot.then (go h0 (by omega)) ?_
  rintro ⟨x, q⟩ ⟨hq, x0, x1⟩
  dsimp only at hq x0 x1 ⊢
  subst hq
  refine Tot.ite (fun _ => ?_) fun _ => Tot.ite (fun _ => ?_) fun _ => Tot.ite (fun _ => ?_) fun _ => Tot.ite (fun _ => ?_) fun _ => Tot.ite (fun _ => ?_) fun _ => ?_
  · refine Tot.then (go (by omega) (by omega)) ?_
    rintro ⟨y, q⟩ ⟨hq, y0, y1⟩
    dsimp only at hq y0 y1 ⊢
    subst hq
    rw [wrap64_id (by omega) (by omega)]
    exact Tot.here ⟨by dsimp only; omega, by dsimp only; omega, by dsimp only; omega, by dsimp only; omega⟩
  · refine Tot.then (go (by omega) (by omega)) ?_
    rintro ⟨y, q⟩ ⟨hq, y0, y1⟩
    dsimp only at hq y0 y1 ⊢
    subst hq
    rw [wrap64_id (by omega) (by omega)]
    exact Tot.here ⟨by dsimp only; omega, by dsimp only; omega, by dsimp only; omega, by dsimp only; omega⟩
  · refine Tot.then (go (by omega) (by omega)) ?_
    rintro ⟨y, q⟩ ⟨hq, y0, y1⟩
    dsimp only at hq y0 y1 ⊢
    subst hq
    rw [wrap64_id (by omega) (by omega)]
    exact Tot.here ⟨by dsimp only; omega, by dsimp only; omega, by dsimp only; omega, by dsimp only; omega⟩
  · refine Tot.then (go (by omega) (by omega)) ?_
    rintro ⟨y, q⟩ ⟨hq, y0, y1⟩
    dsimp only at hq y0 y1 ⊢
    subst hq
    rw [power_eq k hk y0 (by omega)]
    simp only [Option.bind_some]
    have e := pw y0 (by omega)
    generalize (2 : Int) ^ y.toNat = z at *
    refine Tot.then (go (by omega) (by omega)) ?_
    rintro ⟨y', q⟩ ⟨hq, y0', y1'⟩
    dsimp only at hq y0' y1' ⊢
    subst hq
    rw [wrap64_id (x := z + y') (by omega) (by omega), wrap64_id (by omega) (by omega)]
    exact Tot.here ⟨by dsimp only; omega, by dsimp only; omega, by dsimp only; omega, by dsimp only; omega⟩
  · refine Tot.then (go (by omega) (by omega)) ?_
    rintro ⟨y, q⟩ ⟨hq, y0, y1⟩
    dsimp only at hq y0 y1 ⊢
    subst hq
    rw [power_eq k hk y0 (by omega)]
    simp only [Option.bind_some]
    have e := pw y0 (by omega)
    generalize (2 : Int) ^ y.toNat = z at *
    refine Tot.then (go (by omega) (by omega)) ?_
    rintro ⟨y', q⟩ ⟨hq, y0', y1'⟩
    dsimp only at hq y0' y1' ⊢
    subst hq
    rw [wrap64_id (x := -z) (by omega) (by omega), wrap64_id (x := -z + y') (by omega) (by omega), wrap64_id (by omega) (by omega)]
    exact Tot.here ⟨by dsimp only; omega, by dsimp only; omega, by dsimp only; omega, by dsimp only; omega⟩
  · refine (num_l0 hs 4 k 0 0 _ (by omega) (by omega) (by omega) (by omega) (by omega) (by omega)).mono ?_
    rintro ⟨y, q⟩ ⟨h1, h2⟩
    exact ⟨by dsimp only at h1 ⊢; omega, by dsimp only at h1 ⊢; omega, h2⟩
/-! spec_l1Rd_wild -/
theorem wild_tot (k : Nat) (hk : 42 ≤ k) {s : List Int} {p : Int} (hs : Bytes s) (h0 : 0 ≤ p) (h1 : p ≤ 999999999) :
    Tot (spec_l1Rd_wild.f k s p) fun r => p < r.2 ∧ r.2 ≤ p + 6 ∧ -9223372036854775808 ≤ r.1 ∧ r.1 ≤ 9223372036854775807 := by
  have go : ∀ {n q : Int}, 0 ≤ q → q ≤ 1000000010 → Tot (spec_l1Rd_pick.f k s q n) fun r => r.2 = q + 1 ∧ 0 ≤ r.1 ∧ (1 ≤ n → r.1 < n) := fun a b => pick_tot k (by omega) hs a (by omega)
  unfold spec_l1Rd_wild.f
  refine Tot.then (go h0 (by omega)) ?_
  rintro ⟨x, q⟩ ⟨hq, x0, x1⟩
  dsimp only at hq x0 x1 ⊢
  subst hq
  refine Tot.ite (fun _ => ?_) fun _ => Tot.ite (fun _ => ?_) fun _ => Tot.ite (fun _ => ?_) fun _ => Tot.ite (fun _ => ?_) fun _ => ?_
  iterate 4
    · refine Tot.then (go (by omega) (by omega)) ?_
      rintro ⟨y, q⟩ ⟨hq, y0, y1⟩
      dsimp only at hq y0 y1 ⊢
      subst hq
      exact Tot.here ⟨by dsimp only; omega, by dsimp only; omega, (wrap64_in _).1, (wrap64_in _).2⟩
  · refine Tot.then (num_tot k hk hs (by omega) (by omega)) ?_
    rintro ⟨y, q⟩ ⟨hq, hq', y0, y1⟩
    dsimp only at hq hq' y0 y1 ⊢
    exact Tot.here ⟨by dsimp only; omega, by dsimp only; omega, by dsimp only; omega, by dsimp only; omega⟩
/-! laws_sameInts -/
theorem sameInts_loop (x : List Int) (hx : x.length ≤ 1048576) : ∀ (m : Nat) (k i : Nat), i + m = x.length → m < k → laws_sameInts.l0 k x x (i : Int) = some true
  | m, 0, _, _, h => absurd h (by omega)
  | 0, k + 1, i, hm, _ => by unfold laws_sameInts.l0; rw [if_neg (by omega)]
  | m + 1, k + 1, i, hm, hk => by
    unfold laws_sameInts.l0
    rw [if_pos (by omega), if_pos (by omega), if_pos (by omega), if_pos rfl, wrap64_id (by omega) (by omega)]
    exact sameInts_loop x hx m k (i + 1) (by omega) (by omega)
theorem sameInts_refl {k : Nat} (x : List Int) (hx : x.length ≤ 1048576) (hk : 2000000 ≤ k) : laws_sameInts.f k x x = some true := by
  unfold laws_sameInts.f
  rw [if_pos rfl]
  exact sameInts_loop x hx x.length k 0 (by omega) (by omega)
/-! impl_numOp -/
theorem numOp_eq (op : Int) : impl_numOp.f op = some (decide (1 ≤ op ∧ op ≤ 13)) := by
  unfold impl_numOp.f
  by_cases h : op ≥ 1
  · rw [if_pos h]; exact dcl (by (try unfold NOk); omega)
  · rw [if_neg h]; exact dfl (by (try unfold NOk); omega)
/-! impl_NumOk -/
theorem numOk_eq (v : Int) : impl_NumOk.f v = some (decide (NOk v)) := by
  unfold impl_NumOk.f
  by_cases h : v ≥ -2147483648
  · rw [if_pos h]; exact dcl (by (try unfold NOk); omega)
  · rw [if_neg h]; exact dfl (by (try unfold NOk); omega)
/-! impl_NumWrap -/
theorem numWrap_eq (v : Int) : impl_NumWrap.f v = some (wrap32 v) := by
  unfold impl_NumWrap.f
  have := wrap32_in v
  rw [wrap64_id (by omega) (by omega)]
/-! impl_numExact -/
theorem numExact_eq (k : Nat) (hk : 4 ≤ k) (op : Int) {a b : Int} (ha : NOk a) (hb : NOk b) (h1 : op = 4 ∨ op = 5 → b ≠ 0) (h2 : op = 9 ∨ op = 10 → 0 ≤ b ∧ b ≤ 31) :
    impl_numExact.f k op a b = some (Exact op a b) := by
  obtain ⟨k, rfl⟩ : ∃ m, k = m + 4 := ⟨k - 4, by omega⟩
  have m := mul_in32 ha hb
  have d := tdiv_in b (a := a) (A := 2147483648) (by have := ha.1; omega) (by have := ha.2; omega)
  have ha' := ha
  unfold NOk at ha hb
  unfold Exact impl_numExact.f
  by_cases c1 : op = 1
  · subst c1; simp [impl_numExact.j0, wrap64_id (x := a + b) (by omega) (by omega)]
  by_cases c11 : op = 11
  · subst c11; simp [impl_numExact.j0, wrap64_id (x := a + b) (by omega) (by omega)]
  by_cases c2 : op = 2
  · subst c2; simp [impl_numExact.j0, impl_numExact.j1, wrap64_id (x := a - b) (by omega) (by omega)]
  by_cases c12 : op = 12
  · subst c12; simp [impl_numExact.j0, impl_numExact.j1, wrap64_id (x := a - b) (by omega) (by omega)]
  by_cases c3 : op = 3
  · subst c3; simp [impl_numExact.j0, impl_numExact.j1, impl_numExact.j2, wrap64_id (x := a * b) (by omega) (by omega)]
  by_cases c13 : op = 13
  · subst c13; simp [impl_numExact.j0, impl_numExact.j1, impl_numExact.j2, wrap64_id (x := a * b) (by omega) (by omega)]
  by_cases c4 : op = 4
  · subst c4; simp [impl_numExact.j0, impl_numExact.j1, impl_numExact.j2, h1 (Or.inl rfl), wrap64_id (x := Int.tdiv a b) (by omega) (by omega)]
  by_cases c5 : op = 5
  · subst c5; simp [impl_numExact.j0, impl_numExact.j1, impl_numExact.j2, h1 (Or.inr rfl)]
  by_cases c9 : op = 9
  · subst c9
    have := h2 (Or.inl rfl)
    have u : IntKind.u64.wrap b = b := wrapu64_id (by omega) (by omega)
    simp [impl_numExact.j0, impl_numExact.j1, impl_numExact.j2, u, this.1, shl_eq ha' this.1 this.2]
  by_cases c10 : op = 10
  · subst c10
    have := h2 (Or.inr rfl)
    have u : IntKind.u64.wrap b = b := wrapu64_id (by omega) (by omega)
    simp [impl_numExact.j0, impl_numExact.j1, impl_numExact.j2, u, this.1, shr_eq this.1 this.2]
  simp [impl_numExact.j0, impl_numExact.j1, impl_numExact.j2, c1, c2, c3, c4, c5, c9, c10, c11, c12, c13]
  (repeat' split) <;> simp_all
/-! impl_NumDo -/
theorem numDo_eq (k : Nat) (hk : 9 ≤ k) (op a b : Int) : impl_NumDo.f k op a b = some (NumDo op a b) := by
  obtain ⟨k, rfl⟩ : ∃ m, k = m + 9 := ⟨k - 9, by omega⟩
  unfold impl_NumDo.f NumDo
  rw [numOp_eq, numOk_eq, numOk_eq]
  simp only [Option.bind_some]
  by_cases c0 : 1 ≤ op ∧ op ≤ 13
  case neg => simp [impl_NumDo.j0, c0]
  by_cases ca : NOk a
  case neg => simp [impl_NumDo.j0, c0, ca]
  by_cases cb : NOk b
  case neg => simp [impl_NumDo.j0, c0, ca, cb]
  have ex : ∀ m, 4 ≤ m → ¬ ((op = 4 ∨ op = 5) ∧ b = 0) → ¬ ((op = 9 ∨ op = 10) ∧ (b < 0 ∨ b > 31)) → impl_NumDo.j3 (m + 1) op a b = if 11 ≤ op then impl_NumDo.j4 m (Exact op a b) true else impl_NumDo.j4 m (Exact op a b) false := by
    intro m hm g1 g2
    simp only [impl_NumDo.j3]
    rw [numExact_eq m hm op ca cb (fun h e => g1 ⟨h, e⟩) (fun h => by
      have := fun e => g2 ⟨h, e⟩
      omega)]
    simp only [Option.bind_some]
    by_cases c11 : op = 11
    · subst c11; simp
    by_cases c12 : op = 12
    · subst c12; simp
    by_cases c13 : op = 13
    · subst c13; simp
    rw [if_neg c11, if_neg c12, if_neg (by omega)]
    have e : (op == 13) = false := by simpa using c13
    rw [e]
  have j4t : ∀ m v, impl_NumDo.j4 (m + 1) v true = some (wrap32 v, 0) := by
    intro m v; simp [impl_NumDo.j4, numWrap_eq]
  have j4f : ∀ m v, impl_NumDo.j4 (m + 1) v false = if NOk v then some (v, 0) else some (0, 1) := by
    intro m v; simp only [impl_NumDo.j4, numOk_eq]; simp
  have tail : ∀ m, 5 ≤ m → ¬ ((op = 4 ∨ op = 5) ∧ b = 0) → ¬ ((op = 9 ∨ op = 10) ∧ (b < 0 ∨ b > 31)) → impl_NumDo.j3 (m + 1) op a b = some (if 11 ≤ op then (wrap32 (Exact op a b), 0) else if NOk (Exact op a b) then (Exact op a b, 0) else (0, 1)) := by
    intro m hm g1 g2
    rw [ex m (by omega) g1 g2]
    obtain ⟨m, rfl⟩ : ∃ q, m = q + 1 := ⟨m - 1, by omega⟩
    rw [j4t, j4f]
    (repeat' split) <;> rfl
  simp only [c0, ca, cb, decide_true, if_true, not_true, or_self, if_false, Bool.not_true, and_self]
  simp only [impl_NumDo.j0, Bool.false_eq_true, if_false]
  by_cases c4 : op = 4
  · subst c4
    simp only [if_true, impl_NumDo.j1, beq_self_eq_true]
    by_cases cz : b = 0
    · simp [cz]
    · rw [if_neg cz, tail _ (by omega) (by simp [cz]) (by simp)]
      simp [cz]
  by_cases c5 : op = 5
  · subst c5
    simp only [if_true, impl_NumDo.j1, beq_self_eq_true, if_neg c4]
    by_cases cz : b = 0
    · simp [cz]
    · rw [if_neg cz, tail _ (by omega) (by simp [cz]) (by simp)]
      simp [cz]
  have e5 : (op == 5) = false := by simpa using c5
  rw [if_neg c4, e5]
  simp only [impl_NumDo.j1, Bool.false_eq_true, if_false, c4, c5, false_or, false_and]
  have t2 : ∀ m, 6 ≤ m → (op = 9 ∨ op = 10) → impl_NumDo.j2 (m + 1) op a b true = some (if (b < 0 ∨ b > 31) then (0, 3) else if 11 ≤ op then (wrap32 (Exact op a b), 0) else if NOk (Exact op a b) then (Exact op a b, 0) else (0, 1)) := by
    intro m hm ho
    obtain ⟨m, rfl⟩ : ∃ q, m = q + 1 := ⟨m - 1, by omega⟩
    simp only [impl_NumDo.j2, if_true]
    by_cases cz : b < 0
    · simp [cz]
    · rw [if_neg cz]
      by_cases cy : b > 31
      · simp [cy]
      · rw [if_neg cy, tail _ (by omega) (by omega) (by omega)]
        simp [cz, cy]
  by_cases c9 : op = 9
  · have := t2 (k + 6) (by omega) (Or.inl c9)
    subst c9
    simp only [if_true, beq_self_eq_true]
    rw [this]; simp
  by_cases c10 : op = 10
  · have := t2 (k + 6) (by omega) (Or.inr c10)
    subst c10
    simp only [if_neg c9, beq_self_eq_true]
    rw [this]; simp
  have e10 : (op == 10) = false := by simpa using c10
  rw [if_neg c9, e10]
  simp only [impl_NumDo.j2, Bool.false_eq_true, if_false]
  rw [tail _ (by omega) (by omega) (by omega)]
  simp [c9, c10]
/-! spec_l1In -/
theorem sin_eq (v a b : Int) : spec_l1In.f v a b = some (decide (a ≤ v ∧ v ≤ b)) := by
  unfold spec_l1In.f
  by_cases h : v ≥ a
  · rw [if_pos h]; exact dcl (by (try unfold NOk); omega)
  · rw [if_neg h]; exact dfl (by (try unfold NOk); omega)
/-! spec_NumOk -/
theorem snumOk_eq (v : Int) : spec_NumOk.f v = some (decide (NOk v)) := by
  unfold spec_NumOk.f
  rw [sin_eq]; exact dcl Iff.rfl
/-! spec_l1Floor -/
theorem floor_eq {a b : Int} (ha : NOk a) (hb : 0 < b) (h : b ≤ 4294967296) : spec_l1Floor.f a b = some (a / b) := by
  unfold spec_l1Floor.f
  rw [mod_eq hb (by omega)]
  simp only [Option.bind_some]
  have h0 := Int.emod_nonneg a (b := b) (by omega)
  have h1 := Int.emod_lt_of_pos a hb
  have h2 := Int.mul_ediv_add_emod a b
  unfold NOk at ha
  have h3 : a - a % b = b * (a / b) := by omega
  have h4 : Int.tdiv (a - a % b) b = a / b := by rw [h3, Int.mul_tdiv_cancel_left _ (by omega)]
  have h5 : -2147483648 ≤ a / b ∧ a / b ≤ 2147483647 := by
    have e1 := Int.le_ediv_iff_mul_le (a := -2147483648) (b := a) hb
    have e2 := Int.ediv_le_iff_le_mul (x := a) (y := 2147483647) hb
    constructor
    · rw [e1]; omega
    · by_cases hp : 0 ≤ a
      · have := Int.ediv_le_self b hp; omega
      · have : a / b < 0 := Int.ediv_neg_of_neg_of_pos (by omega) hb
        omega
  rw [if_neg (by omega), wrap64_id (x := a - a % b) (by omega) (by omega), h4, wrap64_id (by omega) (by omega)]
/-! laws_at -/
theorem at_tot {l : List Int} (hl : Bytes l) {i : Int} (h0 : 0 ≤ i) (h1 : i ≤ 1000000000) : Tot (laws_at.f l i) fun r => 0 ≤ r ∧ r ≤ 255 := by
  unfold laws_at.f
  refine Tot.ite (fun h => Tot.here (by omega)) fun h => ?_
  have hlen : 0 < (l.length : Int) := by omega
  refine Tot.ite (fun h => ?_) fun h => ?_
  · rw [if_pos h0]; exact Tot.here (hl.byte i)
  · have m1 := tmod_nonneg (b := (l.length : Int)) h0
    have m2 := tmod_lt (a := i) hlen
    have q1 : wrap64 (i * 5) = i * 5 := wrap64_id (by omega) (by omega)
    have q2 : wrap64 (i * 5 + 1) = i * 5 + 1 := wrap64_id (by omega) (by omega)
    have m3 := tmod_nonneg (b := (l.length : Int)) (a := i * 5 + 1) (by omega)
    have m4 := tmod_lt (a := i * 5 + 1) hlen
    rw [if_pos m1, if_pos m2, q1, q2, if_pos m3, if_pos m4]
    exact Tot.here (by omega)
/-! spec_l1Bits -/
theorem sbits_l0 {op a b : Int} (ho : op = 6 ∨ op = 7 ∨ op = 8) : ∀ (d k : Nat) (acc : Int) (i : Int), 0 ≤ i → i ≤ 32 → (32 - i : Int) = d → d + 2 ≤ k → acc = ((bitOp op (low a) (low b) % 2 ^ i.toNat : Nat) : Int) →
    spec_l1Bits.l0 k op a b acc i = some (wrap32 ((bitOp op (low a) (low b) : Nat) : Int)) := by
  intro d
  induction d with
  | zero =>
    intro k acc i h0 h1 hd hk ha
    obtain ⟨k, rfl⟩ : ∃ m, k = m + 1 := ⟨k - 1, by omega⟩
    simp only [spec_l1Bits.l0]
    have hi : i.toNat = 32 := by omega
    rw [if_neg (by omega), snumwrap_eq, ha, hi, Nat.mod_eq_of_lt (bitOp_lt op (low_lt a) (low_lt b))]
    rfl
  | succ d ih =>
    intro k acc i h0 h1 hd hk ha
    obtain ⟨k, rfl⟩ : ∃ m, k = m + 1 := ⟨k - 1, by omega⟩
    have la := low_lt a
    have lb := low_lt b
    have ea : a % 4294967296 = (low a : Int) := by unfold low; omega
    have eb : b % 4294967296 = (low b : Int) := by unfold low; omega
    have u : IntKind.u64.wrap i = i := wrapu64_id (by omega) (by omega)
    have sh : ∀ n : Nat, n < 2 ^ 32 → shr .i64 (n : Int) i = ((n / 2 ^ i.toNat : Nat) : Int) := by
      intro n hn
      rw [shr_eq h0 (by omega)]
      push_cast; rfl
    have tm : ∀ n : Nat, Int.tmod ((n : Nat) : Int) 2 = ((n % 2 : Nat) : Int) := by
      intro n
      rw [Int.tmod_eq_emod_of_nonneg (by omega)]; push_cast; rfl
    have pa : low a / 2 ^ i.toNat % 2 < 2 := Nat.mod_lt _ (by omega)
    have pb : low b / 2 ^ i.toNat % 2 < 2 := Nat.mod_lt _ (by omega)
    have key := bitOp_bit op (low a) (low b) i.toNat
    have sm := bitOp_small (op := op) pa pb
    have nx := mod_succ (bitOp op (low a) (low b)) i.toNat
    rw [key] at nx
    have hlt : bitOp op (low a) (low b) % 2 ^ i.toNat < 2 ^ 32 := Nat.lt_of_le_of_lt (Nat.mod_le _ _) (bitOp_lt op la lb)
    have ei : (i + 1).toNat = i.toNat + 1 := by omega
    have pw : (2 : Int) ^ i.toNat ≤ 2147483648 := by
      have := pow_le' (n := i.toNat) (m := 31) (by omega)
      have e : (2 : Int) ^ 31 = 2147483648 := by decide
      omega
    have pw0 := pow_pos' i.toNat
    have step : ∀ x : Int, x = (bitOp op (low a / 2 ^ i.toNat % 2) (low b / 2 ^ i.toNat % 2) : Int) → 
        spec_l1Bits.l0 k op a b (wrap64 (acc + shl .i64 x i)) (wrap64 (i + 1)) = some (wrap32 ((bitOp op (low a) (low b) : Nat) : Int)) := by
      intro x hx
      have hb : bitOp op (low a / 2 ^ i.toNat % 2) (low b / 2 ^ i.toNat % 2) = 0 ∨ bitOp op (low a / 2 ^ i.toNat % 2) (low b / 2 ^ i.toNat % 2) = 1 := by
        have := Nat.mod_lt (bitOp op (low a) (low b) / 2 ^ i.toNat) (show 0 < 2 by omega)
        omega
      have xk : NOk x := by unfold NOk; omega
      have e2 : x * 2 ^ i.toNat = 0 ∨ x * 2 ^ i.toNat = 2 ^ i.toNat := by
        rcases hb with h | h <;> rw [h] at hx <;> simp at hx <;> subst hx <;> simp
      rw [shl_eq xk h0 (by omega), wrap64_id (x := acc + x * 2 ^ i.toNat) (by omega) (by omega), wrap64_id (x := i + 1) (by omega) (by omega)]
      refine ih k _ _ (by omega) (by omega) (by omega) (by omega) ?_
      rw [ei, nx, ha, hx]
      push_cast; rfl
    simp only [spec_l1Bits.l0]
    rw [if_pos (by omega), mod_eq (by omega) (by omega), mod_eq (by omega) (by omega)]
    simp only [Option.bind_some]
    rw [u, if_pos h0, ea, eb, sh _ la, sh _ lb, tm, tm]
    generalize low a / 2 ^ i.toNat % 2 = p at *
    generalize low b / 2 ^ i.toNat % 2 = q at *
    have p2 : p = 0 ∨ p = 1 := by omega
    have q2 : q = 0 ∨ q = 1 := by omega
    have small : ∀ x : Int, -8 ≤ x → x ≤ 8 → wrap64 x = x := fun x h h' => wrap64_id (by omega) (by omega)
    have pq : ((p : Int) * q = 0 ∨ (p : Int) * q = 1) := by rcases p2 with rfl | rfl <;> rcases q2 with rfl | rfl <;> simp
    rcases ho with rfl | rfl | rfl
    · rw [if_neg (by omega), if_neg (by omega)]
      refine step _ ?_
      rw [sm, if_neg (by omega), if_neg (by omega), small _ (by omega) (by omega)]
    · rw [if_pos rfl, if_neg (by omega)]
      refine step _ ?_
      rw [sm, if_neg (by omega), if_pos rfl, small ((p : Int) + q) (by omega) (by omega), small ((p : Int) * q) (by omega) (by omega), small _ (by omega) (by omega)]
    · rw [if_neg (by omega), if_pos rfl]
      refine step _ ?_
      rw [sm, if_pos rfl, small _ (by omega) (by omega), Int.tmod_eq_emod_of_nonneg (by omega)]
theorem sbits_eq (k : Nat) (hk : 40 ≤ k) {op a b : Int} (ho : op = 6 ∨ op = 7 ∨ op = 8) (ha : NOk a) (hb : NOk b) : spec_l1Bits.f k op a b = some (Exact op a b) := by
  unfold spec_l1Bits.f
  rw [sbits_l0 ho 32 k 0 0 (by omega) (by omega) (by omega) (by omega) (by simp [Nat.mod_one])]
  congr 1
  rcases ho with rfl | rfl | rfl
  · simp [Exact, bitOp, bits_and32 ha hb]
  · simp [Exact, bitOp, bits_or32 ha hb]
  · simp [Exact, bitOp, bits_xor32 ha hb]
/-! spec_l1Exact -/
theorem sexact_eq (k : Nat) (hk : 50 ≤ k) {op a b : Int} (h0 : 1 ≤ op) (h13 : op ≤ 13) (ha : NOk a) (hb : NOk b) (h1 : op = 4 ∨ op = 5 → b ≠ 0) (h2 : op = 9 ∨ op = 10 → 0 ≤ b ∧ b ≤ 31) :
    spec_l1Exact.f k op a b = some (Exact op a b) := by
  obtain ⟨k, rfl⟩ : ∃ m, k = m + 4 := ⟨k - 4, by omega⟩
  have m := mul_in32 ha hb
  have d := tdiv_in b (a := a) (A := 2147483648) (by have := ha.1; omega) (by have := ha.2; omega)
  have ha' := ha
  have hb' := hb
  unfold NOk at ha hb
  unfold spec_l1Exact.f
  by_cases c1 : op = 1
  · subst c1; simp [Exact, spec_l1Exact.j0, wrap64_id (x := a + b) (by omega) (by omega)]
  by_cases c11 : op = 11
  · subst c11; simp [Exact, spec_l1Exact.j0, wrap64_id (x := a + b) (by omega) (by omega)]
  by_cases c2 : op = 2
  · subst c2; simp [Exact, spec_l1Exact.j0, spec_l1Exact.j1, wrap64_id (x := a - b) (by omega) (by omega)]
  by_cases c12 : op = 12
  · subst c12; simp [Exact, spec_l1Exact.j0, spec_l1Exact.j1, wrap64_id (x := a - b) (by omega) (by omega)]
  by_cases c3 : op = 3
  · subst c3; simp [Exact, spec_l1Exact.j0, spec_l1Exact.j1, spec_l1Exact.j2, wrap64_id (x := a * b) (by omega) (by omega)]
  by_cases c13 : op = 13
  · subst c13; simp [Exact, spec_l1Exact.j0, spec_l1Exact.j1, spec_l1Exact.j2, wrap64_id (x := a * b) (by omega) (by omega)]
  by_cases c4 : op = 4
  · subst c4; simp [Exact, spec_l1Exact.j0, spec_l1Exact.j1, spec_l1Exact.j2, h1 (Or.inl rfl), wrap64_id (x := Int.tdiv a b) (by omega) (by omega)]
  by_cases c5 : op = 5
  · subst c5; simp [Exact, spec_l1Exact.j0, spec_l1Exact.j1, spec_l1Exact.j2, h1 (Or.inr rfl)]
  have j2 : ∀ m, 45 ≤ m → spec_l1Exact.f (m + 3) op a b = spec_l1Exact.j2 (m + 1) op a b false := by
    intro m hm
    have n11 : (op == 11) = false := by simpa using c11
    have n12 : (op == 12) = false := by simpa using c12
    have n13 : (op == 13) = false := by simpa using c13
    unfold spec_l1Exact.f
    rw [if_neg c1, n11]
    simp only [spec_l1Exact.j0, Bool.false_eq_true, if_false, if_neg c2, n12]
    simp only [spec_l1Exact.j1, Bool.false_eq_true, if_false, if_neg c3, n13]
  have e := j2 (k + 1) (by omega)
  unfold spec_l1Exact.f at e
  rw [e]
  simp only [spec_l1Exact.j2, Bool.false_eq_true, if_false, if_neg c4, if_neg c5]
  by_cases c9 : op = 9
  · have := h2 (Or.inl c9)
    have s := shl_in ha' this.1 this.2
    rw [if_pos c9, power_eq _ (by omega) this.1 (by omega)]
    simp only [Option.bind_some]
    rw [wrap64_id (by omega) (by omega)]
    subst c9; simp [Exact]
  by_cases c10 : op = 10
  · have := h2 (Or.inr c10)
    have p := pow_le' (n := b.toNat) (m := 31) (by omega)
    have q := pow_pos' b.toNat
    have e : (2 : Int) ^ 31 = 2147483648 := by decide
    rw [if_neg c9, if_pos c10, power_eq _ (by omega) this.1 (by omega)]
    simp only [Option.bind_some]
    rw [floor_eq ha' q (by omega)]
    subst c10; simp [Exact]
  rw [if_neg c9, if_neg c10, sbits_eq _ (by omega) (by omega) ha' hb']
  rfl
/-! impl_rangeNone -/
theorem rangeNone_eq : impl_rangeNone.f = some (1, 0) := rfl
/-! spec_l8None -/
theorem snone_eq : spec_l8None.f = some (1, 0) := rfl
/-! impl_RangeOk -/
theorem rangeOk_eq (l h : Int) : impl_RangeOk.f l h = some (decide (ROk l h)) := by
  unfold impl_RangeOk.f impl_rangeNone.f ROk
  simp only [Option.bind_some, numOk_eq, Bool.and_eq_true, beq_iff_eq]
  by_cases c : l = 1 ∧ h = 0
  · simp [c]
  · by_cases c1 : NOk l <;> by_cases c2 : NOk h <;> simp [c, c1, c2]
/-! spec_RangeOk -/
theorem srangeOk_eq (l h : Int) : spec_RangeOk.f l h = some (decide (ROk l h)) := by
  unfold spec_RangeOk.f spec_l8None.f ROk
  simp only [Option.bind_some, snumOk_eq, Bool.and_eq_true, beq_iff_eq]
  by_cases c : l = 1 ∧ h = 0
  · simp [c]
  · by_cases c1 : NOk l <;> by_cases c2 : NOk h <;> simp [c, c1, c2]
/-! impl_Range_empty -/
theorem rangeEmpty_eq (l h : Int) : impl_Range_empty.f l h = some (decide (l > h)) := rfl
/-! spec_l8Min -/
theorem smin_eq (a b : Int) : spec_l8Min.f a b = some (min a b) := by
  unfold spec_l8Min.f; split <;> congr 1 <;> omega
/-! spec_l8Max -/
theorem smax_eq (a b : Int) : spec_l8Max.f a b = some (max a b) := by
  unfold spec_l8Max.f; split <;> congr 1 <;> omega
/-! impl_rangeFrom -/
theorem rangeFrom_eq (a b : Int) : impl_rangeFrom.f a b = some (RFrom a b) := by
  unfold impl_rangeFrom.f RFrom
  rw [rangeNone_eq, mx_eq, mn_eq]
  split <;> rfl
/-! spec_l8Cut -/
theorem scut_eq (a b : Int) : spec_l8Cut.f a b = some (RFrom a b) := by
  unfold spec_l8Cut.f RFrom
  rw [smax_eq, smin_eq, snone_eq]
  simp only [Option.bind_some]
  split <;> rfl
/-! impl_RangeHas -/
theorem rangeHas_eq (l h v : Int) : impl_RangeHas.f l h v = some (decide (RHas l h v)) := by
  unfold impl_RangeHas.f RHas
  rw [rangeOk_eq]
  simp only [Option.bind_some]
  by_cases c : ROk l h <;> by_cases c1 : l ≤ v <;> simp [c, c1]
/-! spec_RangeHas -/
theorem srangeHas_eq (l h v : Int) : spec_RangeHas.f l h v = some (decide (RHas l h v)) := by
  unfold spec_RangeHas.f RHas
  rw [srangeOk_eq, sin_eq]
  simp only [Option.bind_some]
  by_cases c : ROk l h <;> simp [c]
/-! impl_RangeJoin -/
theorem rangeJoin_eq (k : Nat) (hk : 1 ≤ k) (l h l' h' : Int) : impl_RangeJoin.f k l h l' h' = some (RJoin l h l' h') := by
  obtain ⟨k, rfl⟩ : ∃ m, k = m + 1 := ⟨k - 1, by omega⟩
  unfold impl_RangeJoin.f RJoin
  rw [rangeOk_eq, rangeOk_eq]
  simp only [Option.bind_some]
  by_cases c : ROk l h
  case neg => simp [c, impl_RangeJoin.j0, rangeNone_eq]
  by_cases c1 : ROk l' h'
  case neg => simp [c, c1, impl_RangeJoin.j0, rangeNone_eq]
  simp only [c, c1, decide_true, if_true, Bool.not_true, impl_RangeJoin.j0, Bool.false_eq_true, if_false, rangeEmpty_eq, Option.bind_some, mn_eq, mx_eq, decide_eq_true_eq, not_true, or_self]
  by_cases c2 : l > h
  · simp only [c2, if_true]
  · by_cases c3 : l' > h' <;> simp only [c2, c3, if_true, if_false]
/-! spec_RangeJoin -/
theorem srangeJoin_eq (k : Nat) (hk : 1 ≤ k) (l h l' h' : Int) : spec_RangeJoin.f k l h l' h' = some (RJoin l h l' h') := by
  obtain ⟨k, rfl⟩ : ∃ m, k = m + 1 := ⟨k - 1, by omega⟩
  unfold spec_RangeJoin.f RJoin
  rw [srangeOk_eq, srangeOk_eq]
  simp only [Option.bind_some]
  by_cases c : ROk l h
  case neg => simp [c, spec_RangeJoin.j0, snone_eq]
  by_cases c1 : ROk l' h'
  case neg => simp [c, c1, spec_RangeJoin.j0, snone_eq]
  simp only [c, c1, decide_true, if_true, Bool.not_true, spec_RangeJoin.j0, Bool.false_eq_true, if_false, snone_eq, Option.bind_some, smin_eq, smax_eq, Bool.and_eq_true, beq_iff_eq, not_true, or_self, c.empty_iff, c1.empty_iff]
  by_cases c2 : l = 1 ∧ h = 0
  · simp only [c2, and_self, if_true]
  · by_cases c3 : l' = 1 ∧ h' = 0 <;> simp only [c2, c3, and_self, if_true, if_false]
/-! impl_RangeMeet -/
theorem rangeMeet_eq (k : Nat) (hk : 1 ≤ k) (l h l' h' : Int) : impl_RangeMeet.f k l h l' h' = some (RMeet l h l' h') := by
  obtain ⟨k, rfl⟩ : ∃ m, k = m + 1 := ⟨k - 1, by omega⟩
  unfold impl_RangeMeet.f RMeet
  rw [rangeOk_eq, rangeOk_eq]
  simp only [Option.bind_some, rangeEmpty_eq, mn_eq, mx_eq]
  by_cases c : ROk l h
  case neg => simp [c, impl_RangeMeet.j0, rangeNone_eq]
  by_cases c1 : ROk l' h'
  case neg => simp [c, c1, impl_RangeMeet.j0, rangeNone_eq]
  by_cases c2 : l > h
  · simp [c, c1, c2, impl_RangeMeet.j0, rangeNone_eq]
  by_cases c3 : l' > h'
  · simp [c, c1, c2, c3, impl_RangeMeet.j0, rangeNone_eq]
  simp only [c, c1, c2, c3, decide_true, decide_false, if_true, Bool.not_true, impl_RangeMeet.j0, Bool.false_eq_true, if_false, rangeFrom_eq, Option.bind_some, mn_eq, mx_eq, not_true, or_self]
/-! spec_RangeMeet -/
theorem srangeMeet_eq (k : Nat) (hk : 1 ≤ k) (l h l' h' : Int) : spec_RangeMeet.f k l h l' h' = some (RMeet l h l' h') := by
  obtain ⟨k, rfl⟩ : ∃ m, k = m + 1 := ⟨k - 1, by omega⟩
  unfold spec_RangeMeet.f RMeet
  rw [srangeOk_eq, srangeOk_eq]
  simp only [Option.bind_some, snone_eq, Bool.and_eq_true, beq_iff_eq]
  by_cases c : ROk l h
  case neg => simp [c, spec_RangeMeet.j0, snone_eq]
  by_cases c1 : ROk l' h'
  case neg => simp [c, c1, spec_RangeMeet.j0, snone_eq]
  simp only [c.empty_iff, c1.empty_iff]
  by_cases c2 : l = 1 ∧ h = 0
  · simp [c, c1, c2, spec_RangeMeet.j0, snone_eq]
  by_cases c3 : l' = 1 ∧ h' = 0
  · simp [c, c1, c2, c3, spec_RangeMeet.j0, snone_eq]
  have e : (l' == 1 && h' == 0) = false := by
    rw [Bool.eq_false_iff]; simpa using c3
  simp only [c, c1, c2, c3, e, decide_true, decide_false, if_true, Bool.not_true, spec_RangeMeet.j0, Bool.false_eq_true, if_false, scut_eq, smin_eq, smax_eq, Option.bind_some, not_true, or_self]
/-! laws_wide -/
theorem wide_tot {l : List Int} (hl : Bytes l) {i : Int} (h0 : 0 ≤ i) (h1 : i ≤ 100000000) : Tot (laws_wide.f l i) fun r => 0 ≤ r ∧ r < 4294967296 := by
  unfold laws_wide.f
  rw [wrap64_id (x := i + 1) (by omega) (by omega), wrap64_id (x := i + 2) (by omega) (by omega), wrap64_id (x := i + 3) (by omega) (by omega)]
  refine Tot.then (at_tot hl h0 (by omega)) fun a ha => Tot.then (at_tot hl (by omega) (by omega)) fun b hb => Tot.then (at_tot hl (by omega) (by omega)) fun c hc => Tot.then (at_tot hl (by omega) (by omega)) fun d hd => ?_
  rw [wrap64_id (x := a) (by omega) (by omega), wrap64_id (x := b) (by omega) (by omega), wrap64_id (x := c) (by omega) (by omega), wrap64_id (x := d) (by omega) (by omega)]
  rw [wrap64_id (x := a * 16777216) (by omega) (by omega), wrap64_id (x := b * 65536) (by omega) (by omega), wrap64_id (x := c * 256) (by omega) (by omega)]
  have e : (2 : Int) ^ 32 = 4294967296 := by decide
  have r1 := bits_or_nonneg (x := a * 16777216) (y := b * 65536) (n := 32) (by omega) (by omega) (by omega) (by omega) (by omega)
  have r2 := bits_or_nonneg (y := c * 256) (n := 32) (by omega) r1.1 r1.2 (by omega) (by omega)
  have r3 := bits_or_nonneg (y := d) (n := 32) (by omega) r2.1 r2.2 (by omega) (by omega)
  exact Tot.here ⟨r3.1, by omega⟩
/-! laws_within -/
/-- A drawn number of a range lies in it. -/
theorem within_tot (k : Nat) (hk : 1 ≤ k) {x : List Int} (hx : Bytes x) (l h : Int) {i : Int} (h0 : 0 ≤ i) (h1 : i ≤ 1000000) :
    Tot (laws_within.f k l h x i) fun r => -9223372036854775808 ≤ r ∧ r ≤ 9223372036854775807 ∧ (ROk l h → ¬ l > h → l ≤ r ∧ r ≤ h) := by
  obtain ⟨k, rfl⟩ : ∃ m, k = m + 1 := ⟨k - 1, by omega⟩
  have J : Tot (laws_within.j0 (k + 1) x i true l h) fun r => -9223372036854775808 ≤ r ∧ r ≤ 9223372036854775807 := by
    simp only [laws_within.j0, if_true]
    exact Tot.then (at_tot hx h0 (by omega)) fun a ha => Tot.here (wrap64_in _)
  unfold laws_within.f
  refine Tot.ite (fun c => J.mono fun r hr => ⟨hr.1, hr.2, fun _ n => absurd c n⟩) fun c => ?_
  rw [srangeOk_eq]
  simp only [Option.bind_some]
  by_cases o : ROk l h
  case neg =>
    simp only [o, decide_false, Bool.not_false]
    exact J.mono fun r hr => ⟨hr.1, hr.2, fun n => n.elim⟩
  have b := o.some c
  unfold NOk at b
  simp only [o, decide_true, Bool.not_true, laws_within.j0, Bool.false_eq_true, if_false]
  rw [wrap64_id (x := i + 5) (by omega) (by omega), wrap64_id (x := h - l) (by omega) (by omega), wrap64_id (x := h - l + 1) (by omega) (by omega)]
  have fin : ∀ r : Int, l ≤ r → r ≤ h → (-9223372036854775808 ≤ r ∧ r ≤ 9223372036854775807 ∧ (ROk l h → ¬ l > h → l ≤ r ∧ r ≤ h)) := fun r a b => ⟨by omega, by omega, fun _ _ => ⟨a, b⟩⟩
  refine Tot.then (at_tot hx (by omega) (by omega)) fun a ha => Tot.ite (fun _ => ?_) fun _ => Tot.ite (fun _ => ?_) fun _ => ?_
  · refine Tot.then (at_tot hx h0 (by omega)) fun a ha => ?_
    rw [if_neg (by omega), wrap64_id (x := a) (by omega) (by omega)]
    have t0 := tmod_nonneg (b := h - l + 1) (tmod_nonneg (a := a) (b := 3) (by omega))
    have t1 := tmod_lt (a := Int.tmod a 3) (b := h - l + 1) (by omega)
    rw [wrap64_id (x := l + Int.tmod (Int.tmod a 3) (h - l + 1)) (by omega) (by omega)]
    exact Tot.here ⟨by omega, by omega, fun _ _ => ⟨by omega, by omega⟩⟩
  · refine Tot.then (at_tot hx h0 (by omega)) fun a ha => ?_
    rw [if_neg (by omega), wrap64_id (x := a) (by omega) (by omega)]
    have t0 := tmod_nonneg (b := h - l + 1) (tmod_nonneg (a := a) (b := 3) (by omega))
    have t1 := tmod_lt (a := Int.tmod a 3) (b := h - l + 1) (by omega)
    rw [wrap64_id (x := h - Int.tmod (Int.tmod a 3) (h - l + 1)) (by omega) (by omega)]
    exact Tot.here ⟨by omega, by omega, fun _ _ => ⟨by omega, by omega⟩⟩
  · refine Tot.then (wide_tot hx h0 (by omega)) fun a ha => ?_
    rw [if_neg (by omega)]
    have t0 := tmod_nonneg (b := h - l + 1) ha.1
    have t1 := tmod_lt (a := a) (b := h - l + 1) (by omega)
    rw [wrap64_id (x := l + Int.tmod a (h - l + 1)) (by omega) (by omega)]
    exact Tot.here ⟨by omega, by omega, fun _ _ => ⟨by omega, by omega⟩⟩
/-! laws_has -/
theorem has_l0 (xs : List Int) (v : Int) : ∀ (d k : Nat) (i : Int), 0 ≤ i → i ≤ xs.length → ((xs.length : Int) - i = d) → d < k → xs.length < 9223372036854775807 →
    laws_has.l0 k xs v i = some (decide (v ∈ xs.drop i.toNat)) := by
  intro d
  induction d with
  | zero =>
    intro k i h0 h1 hd hk hx
    obtain ⟨k, rfl⟩ : ∃ m, k = m + 1 := ⟨k - 1, by omega⟩
    simp only [laws_has.l0]
    rw [if_neg (by omega), List.drop_of_length_le (by omega)]
    rfl
  | succ d ih =>
    intro k i h0 h1 hd hk hx
    obtain ⟨k, rfl⟩ : ∃ m, k = m + 1 := ⟨k - 1, by omega⟩
    simp only [laws_has.l0]
    rw [if_pos (by omega), if_pos h0, drop_rd h0 (by omega)]
    generalize rd xs i = s
    have e : (i + 1).toNat = i.toNat + 1 := by omega
    rw [wrap64_id (by omega) (by omega), ih k (i + 1) (by omega) (by omega) (by omega) (by omega) hx, e]
    by_cases c : s = v
    · subst c; simp
    · have c' : ¬ v = s := fun e => c e.symm
      simp [c, c']
theorem has_eq (k : Nat) (xs : List Int) (v : Int) (hk : xs.length < k) (hx : xs.length < 9223372036854775807) : laws_has.f k xs v = some (decide (v ∈ xs)) := by
  unfold laws_has.f
  rw [has_l0 xs v xs.length k 0 (by omega) (by omega) (by omega) hk hx]; simp
/-! spec_l8Range -/
theorem drawRange_tot (k : Nat) (hk : 42 ≤ k) {s : List Int} {p : Int} (hs : Bytes s) (h0 : 0 ≤ p) (h1 : p ≤ 100000000) :
    Tot (spec_l8Range.f k s p) fun r => p < r.2.2 ∧ r.2.2 ≤ p + 20 ∧ ROk r.1 r.2.1 := by
  have go : ∀ {n q : Int}, 0 ≤ q → q ≤ 100001000 → Tot (spec_l1Rd_pick.f k s q n) fun r => r.2 = q + 1 ∧ 0 ≤ r.1 ∧ (1 ≤ n → r.1 < n) := fun a b => pick_tot k (by omega) hs a (by omega)
  have nm : ∀ {q : Int}, 0 ≤ q → q ≤ 100001000 → Tot (spec_l1Rd_num.f k s q) fun r => q < r.2 ∧ r.2 ≤ q + 5 ∧ -2147483648 ≤ r.1 ∧ r.1 ≤ 2147483647 := fun a b => num_tot k hk hs a (by omega)
  unfold spec_l8Range.f
  refine Tot.then (go h0 (by omega)) ?_
  rintro ⟨x, q⟩ ⟨hq, x0, x1⟩
  dsimp only at hq x0 x1 ⊢
  subst hq
  refine Tot.ite (fun _ => ?_) fun _ => ?_
  · rw [snone_eq]
    exact Tot.here ⟨by dsimp only; omega, by dsimp only; omega, rok_none⟩
  · refine Tot.then (nm (by omega) (by omega)) ?_
    rintro ⟨y, q⟩ ⟨hq, hq', y0, y1⟩
    dsimp only at hq hq' y0 y1 ⊢
    refine Tot.ite (fun _ => ?_) fun _ => Tot.ite (fun _ => ?_) fun _ => Tot.ite (fun _ => ?_) fun _ => ?_
    · exact Tot.here ⟨by dsimp only; omega, by dsimp only; omega, Or.inr ⟨⟨y0, y1⟩, ⟨y0, y1⟩, Int.le_refl _⟩⟩
    · refine Tot.then (go (by omega) (by omega)) ?_
      rintro ⟨z, q'⟩ ⟨hr, z0, z1⟩
      dsimp only at hr z0 z1 ⊢
      rw [scut_eq]
      exact Tot.here ⟨by dsimp only; omega, by dsimp only; omega, RFrom_ok _ _⟩
    · exact Tot.here ⟨by dsimp only; omega, by dsimp only; omega, Or.inr (by unfold NOk; dsimp only; omega)⟩
    · refine Tot.then (nm (by omega) (by omega)) ?_
      rintro ⟨z, q'⟩ ⟨hr, hr', z0, z1⟩
      dsimp only at hr hr' z0 z1 ⊢
      rw [smin_eq, smax_eq]
      simp only [Option.bind_some]
      rw [scut_eq]
      exact Tot.here ⟨by dsimp only; omega, by dsimp only; omega, RFrom_ok _ _⟩
/-! spec_l8Wild -/
theorem drawWild_tot (k : Nat) (hk : 42 ≤ k) {s : List Int} {p : Int} (hs : Bytes s) (h0 : 0 ≤ p) (h1 : p ≤ 10000000) :
    Tot (spec_l8Wild.f k s p) fun r => p < r.2.2 ∧ r.2.2 ≤ p + 30 := by
  unfold spec_l8Wild.f
  refine Tot.then (pick_tot k (by omega) hs h0 (by omega)) ?_
  rintro ⟨x, q⟩ ⟨hq, x0, x1⟩
  dsimp only at hq x0 x1 ⊢
  subst hq
  refine Tot.ite (fun _ => ?_) fun _ => ?_
  · refine Tot.then (wild_tot k hk hs (by omega) (by omega)) ?_
    rintro ⟨y, q⟩ ⟨hq, hq', -, -⟩
    dsimp only at hq hq' ⊢
    refine Tot.then (wild_tot k hk hs (by omega) (by omega)) ?_
    rintro ⟨z, q'⟩ ⟨hr, hr', -, -⟩
    dsimp only at hr hr' ⊢
    exact Tot.here ⟨by dsimp only; omega, by dsimp only; omega⟩
  · refine Tot.then (drawRange_tot k hk hs (by omega) (by omega)) ?_
    rintro ⟨y, z, q⟩ ⟨hq, hq', -⟩
    dsimp only at hq hq' ⊢
    exact Tot.here ⟨by dsimp only; omega, by dsimp only; omega⟩
/-! impl_rangeCorners impl_numExact -/
theorem rangeCorners_eq (k : Nat) (hk : 4 ≤ k) (op : Int) {al ah bl bh : Int} (h1 : NOk al) (h2 : NOk ah) (h3 : NOk bl) (h4 : NOk bh) (z : op = 4 ∨ op = 5 → bl ≠ 0 ∧ bh ≠ 0) (s : op = 9 ∨ op = 10 → 0 ≤ bl ∧ bl ≤ 31 ∧ 0 ≤ bh ∧ bh ≤ 31) :
    impl_rangeCorners.f k op al ah bl bh = some (CLo (Exact op) al ah bl bh, CHi (Exact op) al ah bl bh) := by
  unfold impl_rangeCorners.f
  rw [numExact_eq k hk op h1 h3 (fun h => (z h).1) (fun h => ⟨(s h).1, (s h).2.1⟩), numExact_eq k hk op h1 h4 (fun h => (z h).2) (fun h => (s h).2.2),
    numExact_eq k hk op h2 h3 (fun h => (z h).1) (fun h => ⟨(s h).1, (s h).2.1⟩), numExact_eq k hk op h2 h4 (fun h => (z h).2) (fun h => (s h).2.2)]
  simp only [Option.bind_some, mn_eq, mx_eq, Int.min_self, Int.max_self]
  rfl
/-! impl_rangeCorners impl_numExact impl_rangeWrap -/
theorem rangeWrap_eq (k : Nat) (hk : 5 ≤ k) {op al ah bl bh : Int} (h : 11 ≤ op) (h' : op ≤ 13) (h1 : NOk al) (h2 : NOk ah) (h3 : NOk bl) (h4 : NOk bh) :
    impl_rangeWrap.f k op al ah bl bh = some (RWrap (CLo (Exact op) al ah bl bh) (CHi (Exact op) al ah bl bh)) := by
  obtain ⟨k, rfl⟩ : ∃ m, k = m + 1 := ⟨k - 1, by omega⟩
  have b1 := exact_wrap_in h h' h1 h3
  have b2 := exact_wrap_in h h' h1 h4
  have b3 := exact_wrap_in h h' h2 h3
  have b4 := exact_wrap_in h h' h2 h4
  unfold impl_rangeWrap.f
  rw [rangeCorners_eq (k + 1) (by omega) op h1 h2 h3 h4 (fun h => by omega) (fun h => by omega)]
  simp only [Option.bind_some]
  have lo : -4611686016279904256 ≤ CLo (Exact op) al ah bl bh ∧ CLo (Exact op) al ah bl bh ≤ 4611686018427387904 := by unfold CLo; omega
  have hi : -4611686016279904256 ≤ CHi (Exact op) al ah bl bh ∧ CHi (Exact op) al ah bl bh ≤ 4611686018427387904 := by unfold CHi; omega
  revert lo hi
  generalize CLo (Exact op) al ah bl bh = lo
  generalize CHi (Exact op) al ah bl bh = hi
  intro l1 l2
  have i1 := wrap32_in lo
  have i2 := wrap32_in hi
  rw [wrap64_id (by omega) (by omega)]
  unfold RWrap
  by_cases c : hi - lo > 4294967295
  · rw [if_pos c, if_pos (Or.inl c)]
    simp only [impl_rangeWrap.j0, if_true, rangeFrom_eq, Option.bind_some]
    rfl
  · rw [if_neg c]
    simp only [numWrap_eq, Option.bind_some, impl_rangeWrap.j0, decide_eq_true_eq]
    by_cases d : wrap32 lo > wrap32 hi
    · rw [if_pos d, if_pos (Or.inr d), rangeFrom_eq]; rfl
    · rw [if_neg d, if_neg (by omega), rangeFrom_eq, RFrom_id (by unfold NOk; omega) (by unfold NOk; omega) (by omega)]; rfl
/-! impl_rangeShift impl_rangeCorners impl_numExact -/
theorem rangeShift_eq (k : Nat) (hk : 6 ≤ k) {op al ah bl bh : Int} (g : RGood op al ah bl bh) (h : op = 9 ∨ op = 10) :
    impl_rangeShift.f k op al ah bl bh = some ((RDo op al ah bl bh).1, (RDo op al ah bl bh).2, RFaults op al ah bl bh) := by
  obtain ⟨k, rfl⟩ : ∃ m, k = m + 1 := ⟨k - 1, by omega⟩
  rw [RDo_shift g h, RFaults_shift g h]
  unfold impl_rangeShift.f RShift
  rw [rangeMeet_eq (k + 1) (by omega)]
  have E := RMeet_ends (l := bl) (h := bh) (p := 0) (q := 31)
  revert E
  generalize RMeet bl bh 0 31 = c
  intro E
  have ne : ((!(c.1 == bl) || (!(c.2 == bh))) = true) ↔ ¬ c = (bl, bh) := by
    obtain ⟨c1, c2⟩ := c
    simp only [Bool.or_eq_true, Bool.not_eq_true', beq_eq_false_iff_ne, ne_eq, Prod.mk.injEq]
    omega
  simp only [Option.bind_some, rangeNone_eq, rangeEmpty_eq, decide_eq_true_eq]
  by_cases e : c.1 > c.2
  · rw [if_pos e, if_pos e, if_neg (c := ¬ c.1 > c.2 ∧ _) (fun x => x.1 e)]
    by_cases n : c = (bl, bh)
    · rw [if_neg (fun x => ne.mp x n), if_pos n]; rfl
    · rw [if_pos (ne.mpr n), if_pos (by simp), if_neg n]
  · rw [if_neg e, if_neg e]
    have E := E e
    rw [rangeCorners_eq (k + 1) (by omega) op g.a.1 g.a.2.1 E.2.2.2.2.1 E.2.2.2.2.2 (fun h => by omega) (fun h => by omega)]
    simp only [Option.bind_some, rangeFrom_eq]
    generalize CLo (Exact op) al ah c.1 c.2 = lo
    generalize CHi (Exact op) al ah c.1 c.2 = hi
    have J : ∀ b : Bool, impl_rangeShift.j0 (k + 1) [] b bl bh c.1 c.2 (RFrom lo hi).1 (RFrom lo hi).2 = some ((RFrom lo hi).1, (RFrom lo hi).2, (if b = true then [1] else []) ++ (if c = (bl, bh) then [] else [3])) := fun b => by
      simp only [impl_rangeShift.j0]
      cases b
      · simp only [Bool.false_eq_true, if_false]
        by_cases n : c = (bl, bh)
        · rw [if_neg (fun x => ne.mp x n), if_pos n]; rfl
        · rw [if_pos (ne.mpr n), if_pos (by simp), if_neg n]
      · simp only [if_true, Option.bind_some]
        rw [if_pos (by simp)]
        by_cases n : c = (bl, bh)
        · rw [if_neg (fun x => ne.mp x n), if_pos n]; rfl
        · rw [if_pos (ne.mpr n), if_pos (by simp), if_neg n]; rfl
    by_cases o : lo < -2147483648
    · rw [if_pos o, J, if_pos rfl, if_pos (show ¬ c.1 > c.2 ∧ Over lo hi from ⟨e, Or.inl o⟩)]
    · rw [if_neg o, J]
      by_cases o' : hi > 2147483647
      · rw [if_pos (by simp [o']), if_pos (show ¬ c.1 > c.2 ∧ Over lo hi from ⟨e, Or.inr o'⟩)]
      · rw [if_neg (by simp; omega), if_neg (show ¬ (¬ c.1 > c.2 ∧ Over lo hi) from fun x => by have := x.2; unfold Over at this; omega)]
/-! impl_rangeSides -/
theorem rangeSides_eq (k : Nat) (hk : 1 ≤ k) (l h : Int) : impl_rangeSides.f k l h = some ((RNeg l h).1, (RNeg l h).2, (RPos l h).1, (RPos l h).2) := by
  unfold impl_rangeSides.f
  rw [rangeMeet_eq k hk, rangeMeet_eq k hk]
  rfl
/-! impl_rangeDiv impl_rangeSides impl_rangeCorners -/
theorem rangeDiv_j1 (k : Nat) (lo hi : Int) (s : Bool) {al ah bl bh : Int} (g : RGood 4 al ah bl bh) : impl_rangeDiv.j1 (k + 3) lo hi s al ah bl bh = some ((if s = true then RFrom lo hi else (1, 0)).1, (if s = true then RFrom lo hi else (1, 0)).2, RFaults 4 al ah bl bh) := by
  rw [RFaults_div g]
  have J : ∀ x : Int × Int, impl_rangeDiv.j2 (k + 2) al ah bl bh x.1 x.2 = some (x.1, x.2, (if RHas al ah (-2147483648) ∧ RHas bl bh (-1) then [1] else []) ++ (if RHas bl bh 0 then [2] else [])) := fun x => by
    have J3 : ∀ b : Bool, impl_rangeDiv.j3 (k + 1) [] b bl bh x.1 x.2 = some (x.1, x.2, (if b = true then [1] else []) ++ (if RHas bl bh 0 then [2] else [])) := fun b => by
      simp only [impl_rangeDiv.j3, rangeHas_eq, Option.bind_some, decide_eq_true_eq]
      cases b
      · simp only [Bool.false_eq_true, if_false]
        by_cases n : RHas bl bh 0
        · rw [if_pos n, if_pos (by simp), if_pos n]
        · rw [if_neg n, if_neg n]; rfl
      · simp only [if_true]
        rw [if_pos (by simp)]
        by_cases n : RHas bl bh 0
        · rw [if_pos n, if_pos (by simp), if_pos n]; rfl
        · rw [if_neg n, if_neg n]; rfl
    simp only [impl_rangeDiv.j2, rangeHas_eq, Option.bind_some, decide_eq_true_eq]
    by_cases c : RHas al ah (-2147483648)
    · rw [if_pos c, J3]; simp only [c, true_and, decide_eq_true_eq]
    · rw [if_neg c, J3]; simp only [c, false_and, Bool.false_eq_true]
  simp only [impl_rangeDiv.j1, rangeNone_eq, rangeFrom_eq, Option.bind_some]
  cases s
  · simp only [Bool.false_eq_true, if_false]; exact J (1, 0)
  · simp only [if_true]; exact J _
theorem rangeDiv_eq (k : Nat) (hk : 12 ≤ k) {al ah bl bh : Int} (g : RGood 4 al ah bl bh) :
    impl_rangeDiv.f k al ah bl bh = some ((RDo 4 al ah bl bh).1, (RDo 4 al ah bl bh).2, RFaults 4 al ah bl bh) := by
  obtain ⟨k, rfl⟩ : ∃ m, k = m + 4 := ⟨k - 4, by omega⟩
  rw [RDo_div g]
  have ex : Exact 4 = Int.tdiv := by funext a b; simp [Exact]
  unfold impl_rangeDiv.f RDiv
  rw [rangeSides_eq _ (by omega)]
  have N := RNeg_ends (l := bl) (h := bh)
  have P := RPos_ends (l := bl) (h := bh)
  have n1 := RNeg_ok bl bh
  have p1 := RPos_ok bl bh
  revert N P n1 p1
  generalize RNeg bl bh = n
  generalize RPos bl bh = p
  intro N P n1 p1
  simp only [Option.bind_some, rangeEmpty_eq, decide_eq_true_eq]
  have CP : ¬ p.1 > p.2 → impl_rangeCorners.f (k + 3) 4 al ah p.1 p.2 = some (CLo Int.tdiv al ah p.1 p.2, CHi Int.tdiv al ah p.1 p.2) := fun e => by
    have E := P e
    rw [rangeCorners_eq (k + 3) (by omega) 4 g.a.1 g.a.2.1 (p1.some e).1 E.2.1 (fun h => by omega) (fun h => by omega), ex]
  by_cases e : n.1 > n.2
  · rw [if_pos e, if_pos e]
    simp only [impl_rangeDiv.j0, rangeEmpty_eq, Option.bind_some, decide_eq_true_eq]
    by_cases e' : p.1 > p.2
    · rw [if_pos e', if_pos e', rangeDiv_j1 k _ _ _ g]; rfl
    · rw [if_neg e', if_neg e', CP e']
      simp only [Option.bind_some, Bool.false_eq_true, if_false]
      rw [rangeDiv_j1 k _ _ _ g]; rfl
  · rw [if_neg e, if_neg e]
    have E := N e
    rw [rangeCorners_eq (k + 4) (by omega) 4 g.a.1 g.a.2.1 E.1 (n1.some e).2.1 (fun h => by omega) (fun h => by omega), ex]
    simp only [Option.bind_some, impl_rangeDiv.j0, rangeEmpty_eq, decide_eq_true_eq]
    by_cases e' : p.1 > p.2
    · rw [if_pos e', if_pos e', rangeDiv_j1 k _ _ _ g]; rfl
    · rw [if_neg e', if_neg e', CP e']
      simp only [Option.bind_some, if_true, mn_eq, mx_eq]
      rw [rangeDiv_j1 k _ _ _ g]; rfl
/-! impl_rangeRemBy -/
theorem rangeRemBy_eq (k : Nat) (hk : 1 ≤ k) {al ah l h : Int} (a : NOk al) (b : NOk ah) (c : 0 < l) (d : l ≤ h) (e : h ≤ 2147483648) : impl_rangeRemBy.f k al ah l h = some (RRemBy al ah l h) := by
  obtain ⟨k, rfl⟩ : ∃ m, k = m + 1 := ⟨k - 1, by omega⟩
  unfold impl_rangeRemBy.f RRemBy
  rw [wrap64_id (x := -l) (by omega) (by omega)]
  have J : ∀ x : Bool, impl_rangeRemBy.j0 (k + 1) h x al ah = some (if x = true then (al, ah) else (if al < 0 then max al (1 - h) else 0, if ah > 0 then min ah (h - 1) else 0)) := fun x => by
    simp only [impl_rangeRemBy.j0]
    rw [wrap64_id (x := 1 - h) (by omega) (by omega), wrap64_id (x := h - 1) (by omega) (by omega), mx_eq, mn_eq]
    cases x
    · simp only [Bool.false_eq_true, if_false]
      by_cases p : al < 0 <;> by_cases q : ah > 0 <;> simp only [p, q, if_true, if_false]
    · simp only [if_true]
  by_cases p : al > -l
  · rw [if_pos p, J]; simp only [p, true_and, decide_eq_true_eq]
  · rw [if_neg p, J]; simp only [p, false_and, Bool.false_eq_true]
/-! impl_rangeRem impl_rangeRemBy impl_rangeSides impl_Range_single -/
theorem rangeRem_j1 (k : Nat) (hk : 1 ≤ k) {al ah bl bh : Int} (g : RGood 5 al ah bl bh) {n p o : Int × Int} (hp : ¬ p.1 > p.2 → 0 < p.1 ∧ NOk p.2 ∧ p.1 ≤ p.2) :
    impl_rangeRem.j1 (k + 1) al ah bl bh n.1 n.2 p.1 p.2 o.1 o.2 = some ((if p.1 > p.2 then o else RJoin o.1 o.2 (RRemBy al ah p.1 p.2).1 (RRemBy al ah p.1 p.2).2).1, (if p.1 > p.2 then o else RJoin o.1 o.2 (RRemBy al ah p.1 p.2).1 (RRemBy al ah p.1 p.2).2).2, if RHas bl bh 0 then [2] else []) := by
  simp only [impl_rangeRem.j1, rangeEmpty_eq, rangeHas_eq, Option.bind_some, decide_eq_true_eq]
  by_cases e : p.1 > p.2
  · simp only [if_pos e]
    by_cases n : RHas bl bh 0
    · simp only [if_pos n]
    · simp only [if_neg n]
  · have E := hp e
    have := E.2.1
    unfold NOk at this
    simp only [if_neg e]
    rw [rangeRemBy_eq k hk g.a.1 g.a.2.1 E.1 E.2.2 (by omega)]
    simp only [Option.bind_some]
    rw [rangeJoin_eq k hk]
    simp only [Option.bind_some]
    by_cases n : RHas bl bh 0
    · simp only [if_pos n]
    · simp only [if_neg n]
theorem rangeRem_eq (k : Nat) (hk : 12 ≤ k) {al ah bl bh : Int} (g : RGood 5 al ah bl bh) :
    impl_rangeRem.f k al ah bl bh = some ((RDo 5 al ah bl bh).1, (RDo 5 al ah bl bh).2, RFaults 5 al ah bl bh) := by
  obtain ⟨k, rfl⟩ : ∃ m, k = m + 3 := ⟨k - 3, by omega⟩
  rw [RDo_rem g, RFaults_rem g]
  unfold impl_rangeRem.f RRem
  have J : ∀ b : Bool, (b = true → al = ah ∧ bl = bh ∧ bl ≠ 0) → (b = false → ¬ (al = ah ∧ bl = bh ∧ bl ≠ 0)) → impl_rangeRem.j0 (k + 3) b al ah bl bh = some ((if al = ah ∧ bl = bh ∧ bl ≠ 0 then (Int.tmod al bl, Int.tmod al bl) else
      if (RPos bl bh).1 > (RPos bl bh).2 then (if (RNeg bl bh).1 > (RNeg bl bh).2 then (1, 0) else RJoin 1 0 (RRemBy al ah (-(RNeg bl bh).2) (-(RNeg bl bh).1)).1 (RRemBy al ah (-(RNeg bl bh).2) (-(RNeg bl bh).1)).2) else RJoin (if (RNeg bl bh).1 > (RNeg bl bh).2 then (1, 0) else RJoin 1 0 (RRemBy al ah (-(RNeg bl bh).2) (-(RNeg bl bh).1)).1 (RRemBy al ah (-(RNeg bl bh).2) (-(RNeg bl bh).1)).2).1 (if (RNeg bl bh).1 > (RNeg bl bh).2 then (1, 0) else RJoin 1 0 (RRemBy al ah (-(RNeg bl bh).2) (-(RNeg bl bh).1)).1 (RRemBy al ah (-(RNeg bl bh).2) (-(RNeg bl bh).1)).2).2 (RRemBy al ah (RPos bl bh).1 (RPos bl bh).2).1 (RRemBy al ah (RPos bl bh).1 (RPos bl bh).2).2).1,
      (if al = ah ∧ bl = bh ∧ bl ≠ 0 then (Int.tmod al bl, Int.tmod al bl) else
      if (RPos bl bh).1 > (RPos bl bh).2 then (if (RNeg bl bh).1 > (RNeg bl bh).2 then (1, 0) else RJoin 1 0 (RRemBy al ah (-(RNeg bl bh).2) (-(RNeg bl bh).1)).1 (RRemBy al ah (-(RNeg bl bh).2) (-(RNeg bl bh).1)).2) else RJoin (if (RNeg bl bh).1 > (RNeg bl bh).2 then (1, 0) else RJoin 1 0 (RRemBy al ah (-(RNeg bl bh).2) (-(RNeg bl bh).1)).1 (RRemBy al ah (-(RNeg bl bh).2) (-(RNeg bl bh).1)).2).1 (if (RNeg bl bh).1 > (RNeg bl bh).2 then (1, 0) else RJoin 1 0 (RRemBy al ah (-(RNeg bl bh).2) (-(RNeg bl bh).1)).1 (RRemBy al ah (-(RNeg bl bh).2) (-(RNeg bl bh).1)).2).2 (RRemBy al ah (RPos bl bh).1 (RPos bl bh).2).1 (RRemBy al ah (RPos bl bh).1 (RPos bl bh).2).2).2,
      if al = ah ∧ bl = bh ∧ bl ≠ 0 then [] else if RHas bl bh 0 then [2] else []) := fun b h1 h2 => by
    simp only [impl_rangeRem.j0]
    cases b
    · have c := h2 rfl
      simp only [Bool.false_eq_true, if_false, if_neg c]
      rw [rangeSides_eq _ (by omega)]
      have N := RNeg_ends (l := bl) (h := bh)
      have P := RPos_ends (l := bl) (h := bh)
      revert N P
      generalize RNeg bl bh = n
      generalize RPos bl bh = p
      intro N P
      simp only [Option.bind_some, rangeNone_eq, rangeEmpty_eq, decide_eq_true_eq]
      by_cases e : n.1 > n.2
      · simp only [if_pos e]
        exact rangeRem_j1 (k + 1) (by omega) g (p := p) (o := (1, 0)) P
      · have E := N e
        have := E.1
        unfold NOk at this
        simp only [if_neg e]
        rw [wrap64_id (x := -n.2) (by omega) (by omega), wrap64_id (x := -n.1) (by omega) (by omega), rangeRemBy_eq (k + 2) (by omega) g.a.1 g.a.2.1 (by omega) (by omega) (by omega)]
        simp only [Option.bind_some]
        rw [rangeJoin_eq (k + 2) (by omega)]
        simp only [Option.bind_some]
        exact rangeRem_j1 (k + 1) (by omega) g (p := p) P
    · have c := h1 rfl
      simp only [if_true, if_pos c]
      rw [if_neg c.2.2]
  have S : ∀ l h : Int, impl_Range_single.f l h = some (l == h) := fun _ _ => rfl
  simp only [S, Option.bind_some, beq_iff_eq]
  by_cases c1 : al = ah
  · rw [if_pos c1]
    by_cases c2 : bl = bh
    · rw [if_pos c2]
      exact J _ (fun h => ⟨c1, c2, by simpa using h⟩) (fun h => by simp only [bne_eq_false_iff_eq] at h; exact fun x => x.2.2 h)
    · rw [if_neg c2]
      exact J _ (fun h => absurd h (by decide)) (fun _ x => c2 x.2.1)
  · rw [if_neg c1]
    exact J _ (fun h => absurd h (by decide)) (fun _ x => c1 x.1)
/-! impl_rangeBits impl_numExact impl_Range_single -/
theorem maskI_l0 {al ah bl bh lo : Int} (hm : max ah bh ≤ 2147483647) : ∀ (n j k : Nat), j + n = 31 → n < k → impl_rangeBits.l0 k al ah bl bh lo (2 ^ j - 1) = some (lo, maskF n (2 ^ j - 1) (max ah bh))
  | n, j, 0, _, h => absurd h (by omega)
  | 0, j, k + 1, h, _ => by
    have e : (2 : Int) ^ 31 = 2147483648 := by decide
    rw [show j = 31 by omega]
    simp only [impl_rangeBits.l0, mx_eq]
    rw [if_neg (by omega)]
    rfl
  | n + 1, j, k + 1, h, hk => by
    have p := pow_le' (n := j) (m := 31) (by omega)
    have q := pow_pos' j
    have e : (2 : Int) ^ 31 = 2147483648 := by decide
    simp only [impl_rangeBits.l0, mx_eq]
    rw [maskF]
    by_cases c : (2 : Int) ^ j - 1 < max ah bh
    · rw [if_pos c, if_pos c, wrap64_id (x := 2 * (2 ^ j - 1)) (by omega) (by omega), wrap64_id (by omega) (by omega)]
      have e : 2 * ((2 : Int) ^ j - 1) + 1 = 2 ^ (j + 1) - 1 := by rw [Int.pow_succ]; omega
      rw [e]
      exact maskI_l0 hm n (j + 1) k (by omega) (by omega)
    · rw [if_neg c, if_neg c]
theorem rangeBits_eq (k : Nat) (hk : 60 ≤ k) {op al ah bl bh : Int} (g : RGood op al ah bl bh) (h : op = 6 ∨ op = 7 ∨ op = 8) :
    impl_rangeBits.f k op al ah bl bh = some (RDo op al ah bl bh) := by
  obtain ⟨k, rfl⟩ : ∃ m, k = m + 5 := ⟨k - 5, by omega⟩
  have A := g.a
  have B := g.b
  rw [RDo_bits g h]
  have S : ∀ l h : Int, impl_Range_single.f l h = some (l == h) := fun _ _ => rfl
  have J3 : ∀ lo : Int, impl_rangeBits.j3 (k + 3) al ah bl bh lo 0 = some (lo, maskF 31 0 (max ah bh)) := fun lo => by
    have hm : max ah bh ≤ 2147483647 := by unfold NOk at A B; omega
    have := maskI_l0 (al := al) (bl := bl) (lo := lo) hm 31 0 (k + 2) (by omega) (by omega)
    simp only [impl_rangeBits.j3]
    simpa using this
  have J2 : ∀ b : Bool, impl_rangeBits.j2 (k + 4) op b al ah bl bh = some (if b = true then (-2147483648, 2147483647) else (if op = 7 then max al bl else 0, maskF 31 0 (max ah bh))) := fun b => by
    simp only [impl_rangeBits.j2, mx_eq]
    cases b
    · simp only [Bool.false_eq_true, if_false]
      by_cases c : op = 7
      · rw [if_pos c, J3, if_pos c]
      · rw [if_neg c, J3, if_neg c]
    · simp only [if_true]
  have J1 : ∀ b : Bool, impl_rangeBits.j1 (k + 4) b al ah bl bh = some (if b = true then (0, min ah bh) else if 0 ≤ al then (0, ah) else if 0 ≤ bl then (0, bh) else (-2147483648, 2147483647)) := fun b => by
    simp only [impl_rangeBits.j1, mn_eq, ge_iff_le]
    cases b
    · simp only [Bool.false_eq_true, if_false]
      by_cases c : 0 ≤ al
      · simp only [if_pos c]
      · simp only [if_neg c]
        by_cases d : 0 ≤ bl
        · simp only [if_pos d]
        · simp only [if_neg d]
    · simp only [if_true]
  have J0 : ∀ b : Bool, (b = true ↔ al = ah ∧ bl = bh) → impl_rangeBits.j0 (k + 5) op b al ah bl bh = some (RBits op al ah bl bh) := fun b hb => by
    simp only [impl_rangeBits.j0]
    unfold RBits
    cases b
    · have n : ¬ (al = ah ∧ bl = bh) := fun x => absurd (hb.mpr x) (by decide)
      simp only [Bool.false_eq_true, if_false]
      rw [if_neg n]
      by_cases c : op = 6
      · simp only [if_pos c, J1, Bool.false_eq_true, if_false, decide_eq_true_eq, ge_iff_le]
        by_cases d : 0 ≤ al
        · simp only [d, if_true, true_and]
        · simp only [d, if_false, false_and]
      · simp only [if_neg c, J2, if_true, decide_eq_true_eq]
        by_cases d : al < 0
        · simp only [d, if_true, true_or]
        · simp only [d, if_false, false_or]
    · have y := hb.mp rfl
      simp only [if_true]
      rw [if_pos y, numExact_eq (k + 4) (by omega) op A.1 B.1 (fun h => by omega) (fun h => by omega)]
      rfl
  unfold impl_rangeBits.f
  simp only [S, Option.bind_some, beq_iff_eq]
  by_cases c1 : al = ah
  · rw [if_pos c1]
    exact J0 _ (by simp [c1])
  · rw [if_neg c1]
    exact J0 _ (by simp [c1])
/-! impl_RangeDo impl_rangeBits impl_rangeRem impl_rangeDiv impl_rangeShift impl_rangeWrap -/
theorem rangeDo_eq (k : Nat) (hk : 100 ≤ k) (op al ah bl bh : Int) : impl_RangeDo.f k op al ah bl bh = some ((RDo op al ah bl bh).1, (RDo op al ah bl bh).2, RFaults op al ah bl bh) := by
  obtain ⟨k, rfl⟩ : ∃ m, k = m + 6 := ⟨k - 6, by omega⟩
  have bad : (¬ (1 ≤ op ∧ op ≤ 13) ∨ ¬ ROk al ah ∨ ¬ ROk bl bh ∨ al > ah ∨ bl > bh) → impl_RangeDo.j0 (k + 6) op true al ah bl bh = some ((RDo op al ah bl bh).1, (RDo op al ah bl bh).2, RFaults op al ah bl bh) := fun g => by
    simp only [impl_RangeDo.j0, if_true, rangeNone_eq, Option.bind_some]
    rw [RDo_bad g, RFaults_bad g]
  unfold impl_RangeDo.f
  simp only [numOp_eq, rangeOk_eq, rangeEmpty_eq, Option.bind_some, decide_eq_true_eq]
  by_cases c1 : 1 ≤ op ∧ op ≤ 13
  case neg => rw [if_neg c1]; exact bad (Or.inl c1)
  rw [if_pos c1]
  by_cases c2 : ROk al ah
  case neg => rw [if_neg c2]; exact bad (Or.inr (Or.inl c2))
  rw [if_pos c2]
  by_cases c3 : ROk bl bh
  case neg => rw [if_neg c3]; exact bad (Or.inr (Or.inr (Or.inl c3)))
  rw [if_pos c3]
  by_cases c4 : al > ah
  case pos => rw [if_pos c4]; exact bad (Or.inr (Or.inr (Or.inr (Or.inl c4))))
  rw [if_neg c4]
  by_cases c5 : bl > bh
  case pos => simp only [c5, decide_true]; exact bad (Or.inr (Or.inr (Or.inr (Or.inr c5))))
  simp only [c5, decide_false]
  have g : RGood op al ah bl bh := ⟨c1, c2, c3, c4, c5⟩
  have A := g.a
  have B := g.b
  have J4 : ∀ b : Bool, (b = true ↔ op = 9 ∨ op = 10) → 4 ≤ op → op ≤ 10 → impl_RangeDo.j4 (k + 3) op op b al ah bl bh = some ((RDo op al ah bl bh).1, (RDo op al ah bl bh).2, RFaults op al ah bl bh) := fun b hb h0 h1 => by
    simp only [impl_RangeDo.j4]
    cases b
    · have n : ¬ (op = 9 ∨ op = 10) := fun x => absurd (hb.mpr x) (by decide)
      simp only [Bool.false_eq_true, if_false]
      by_cases d4 : op = 4
      · rw [if_pos d4]
        subst d4
        rw [rangeDiv_eq (k + 2) (by omega) g]
        rfl
      rw [if_neg d4]
      by_cases d5 : op = 5
      · rw [if_pos d5]
        subst d5
        rw [rangeRem_eq (k + 2) (by omega) g]
        rfl
      rw [if_neg d5, rangeBits_eq (k + 2) (by omega) g (by omega), RFaults_bits g (by omega)]
      rfl
    · simp only [if_true]
      rw [rangeShift_eq (k + 2) (by omega) g (hb.mp rfl)]
      rfl
  have J3 : ∀ b : Bool, (b = true ↔ 11 ≤ op) → 4 ≤ op → impl_RangeDo.j3 (k + 4) op op b al ah bl bh = some ((RDo op al ah bl bh).1, (RDo op al ah bl bh).2, RFaults op al ah bl bh) := fun b hb h0 => by
    simp only [impl_RangeDo.j3]
    cases b
    · have n : ¬ 11 ≤ op := fun x => absurd (hb.mpr x) (by decide)
      simp only [Bool.false_eq_true, if_false]
      by_cases d9 : op = 9
      · rw [if_pos d9]; exact J4 _ (by simp [d9]) h0 (by omega)
      · rw [if_neg d9]; exact J4 _ (by simp [d9]) h0 (by omega)
    · have y := hb.mp rfl
      simp only [if_true]
      rw [rangeWrap_eq (k + 3) (by omega) y c1.2 A.1 A.2.1 B.1 B.2.1, RDo_wrap g y, RFaults_wrap g y]
      rfl
  have J2 : ∀ (b : Bool) (lo hi : Int), (b = true ↔ Over lo hi) → impl_RangeDo.j2 (k + 4) lo hi b = some ((RFrom lo hi).1, (RFrom lo hi).2, if Over lo hi then [1] else []) := fun b lo hi hb => by
    simp only [impl_RangeDo.j2, rangeFrom_eq, Option.bind_some]
    cases b
    · have n : ¬ Over lo hi := fun x => absurd (hb.mpr x) (by decide)
      simp only [Bool.false_eq_true, if_false, if_neg n]
    · simp only [if_true, if_pos (hb.mp rfl)]
  have J1 : ∀ b : Bool, (b = true ↔ op ≤ 3) → impl_RangeDo.j1 (k + 5) op op b al ah bl bh = some ((RDo op al ah bl bh).1, (RDo op al ah bl bh).2, RFaults op al ah bl bh) := fun b hb => by
    simp only [impl_RangeDo.j1]
    cases b
    · have n : ¬ op ≤ 3 := fun x => absurd (hb.mpr x) (by decide)
      simp only [Bool.false_eq_true, if_false]
      by_cases d1 : op = 11
      · rw [if_pos d1]; exact J3 _ (by simp [d1]) (by omega)
      rw [if_neg d1]
      by_cases d2 : op = 12
      · rw [if_pos d2]; exact J3 _ (by simp [d2]) (by omega)
      rw [if_neg d2]
      exact J3 _ (by simp only [beq_iff_eq]; omega) (by omega)
    · have y := hb.mp rfl
      simp only [if_true]
      rw [rangeCorners_eq (k + 4) (by omega) op A.1 A.2.1 B.1 B.2.1 (fun h => by omega) (fun h => by omega), RDo_low g y, RFaults_low g y]
      simp only [Option.bind_some]
      by_cases o : CLo (Exact op) al ah bl bh < -2147483648
      · rw [if_pos o]; exact J2 _ _ _ (by unfold Over; simp [o])
      · rw [if_neg o]; exact J2 _ _ _ (by unfold Over; simp only [decide_eq_true_eq]; omega)
  simp only [impl_RangeDo.j0, Bool.false_eq_true, if_false]
  by_cases d1 : op = 1
  · rw [if_pos d1]; exact J1 _ (by simp [d1])
  rw [if_neg d1]
  by_cases d2 : op = 2
  · rw [if_pos d2]; exact J1 _ (by simp [d2])
  rw [if_neg d2]
  exact J1 _ (by simp only [beq_iff_eq]; omega)
/-! spec_l8R_add -/
theorem radd_eq (k : Nat) (hk : 1 ≤ k) (s : Bool) (lo hi v : Int) : spec_l8R_add.f k s lo hi v = some (true, if s = true then min lo v else v, if s = true then max hi v else v) := by
  obtain ⟨k, rfl⟩ : ∃ m, k = m + 1 := ⟨k - 1, by omega⟩
  unfold spec_l8R_add.f
  cases s
  · simp only [Bool.false_eq_true, if_false, spec_l8R_add.j0, if_true]
  · simp only [if_true, spec_l8R_add.j0, decide_eq_true_eq]
    by_cases c : v < lo
    · rw [if_pos c]
      by_cases d : v > hi
      · rw [if_pos d, show min lo v = v by omega, show max hi v = v by omega]
      · rw [if_neg d, show min lo v = v by omega, show max hi v = hi by omega]
    · rw [if_neg c]
      by_cases d : v > hi
      · rw [if_pos d, show min lo v = lo by omega, show max hi v = v by omega]
      · rw [if_neg d, show min lo v = lo by omega, show max hi v = hi by omega]
/-! spec_l8R_corners spec_l8R_add spec_l1Exact -/
theorem rcorners_eq (k : Nat) (hk : 60 ≤ k) {op al ah bl bh : Int} (h0 : 1 ≤ op) (h13 : op ≤ 13) (s : Bool) (lo hi : Int) (h1 : NOk al) (h2 : NOk ah) (h3 : NOk bl) (h4 : NOk bh) (z : op = 4 ∨ op = 5 → bl ≠ 0 ∧ bh ≠ 0) (t : op = 9 ∨ op = 10 → 0 ≤ bl ∧ bl ≤ 31 ∧ 0 ≤ bh ∧ bh ≤ 31) :
    spec_l8R_corners.f k s lo hi op al ah bl bh = some (true, if s = true then min lo (CLo (Exact op) al ah bl bh) else CLo (Exact op) al ah bl bh, if s = true then max hi (CHi (Exact op) al ah bl bh) else CHi (Exact op) al ah bl bh) := by
  unfold spec_l8R_corners.f
  rw [sexact_eq k (by omega) h0 h13 h1 h3 (fun h => (z h).1) (fun h => ⟨(t h).1, (t h).2.1⟩), sexact_eq k (by omega) h0 h13 h1 h4 (fun h => (z h).2) (fun h => (t h).2.2),
    sexact_eq k (by omega) h0 h13 h2 h3 (fun h => (z h).1) (fun h => ⟨(t h).1, (t h).2.1⟩), sexact_eq k (by omega) h0 h13 h2 h4 (fun h => (z h).2) (fun h => (t h).2.2)]
  simp only [Option.bind_some, radd_eq k (by omega : 1 ≤ k), if_true]
  unfold CLo CHi
  cases s
  · simp only [Bool.false_eq_true, if_false]
  · simp only [if_true]
    rw [Option.some.injEq, Prod.mk.injEq, Prod.mk.injEq]
    exact ⟨rfl, by omega, by omega⟩
/-! spec_l8Wrapped -/
theorem swrapped_eq (k : Nat) (hk : 1 ≤ k) {lo hi : Int} (l1 : -4611686016279904256 ≤ lo ∧ lo ≤ 4611686018427387904) (l2 : -4611686016279904256 ≤ hi ∧ hi ≤ 4611686018427387904) : spec_l8Wrapped.f k lo hi = some (RWrap lo hi) := by
  obtain ⟨k, rfl⟩ : ∃ m, k = m + 1 := ⟨k - 1, by omega⟩
  unfold spec_l8Wrapped.f
  rw [wrap64_id (by omega) (by omega)]
  unfold RWrap
  by_cases c : hi - lo > 4294967295
  · rw [if_pos c, if_pos (Or.inl c)]
    simp only [spec_l8Wrapped.j0, if_true]
  · rw [if_neg c]
    simp only [snumwrap_eq, Option.bind_some, spec_l8Wrapped.j0, decide_eq_true_eq]
    by_cases d : wrap32 lo > wrap32 hi
    · rw [if_pos d, if_pos (Or.inr d)]
    · rw [if_neg d, if_neg (by omega)]
/-! spec_l8Rem -/
theorem srem_eq (k : Nat) (hk : 1 ≤ k) {al ah l h : Int} (a : NOk al) (b : NOk ah) (c : 0 < l) (d : l ≤ h) (e : h ≤ 2147483648) : spec_l8Rem.f k al ah l h = some (RRemBy al ah l h) := by
  obtain ⟨k, rfl⟩ : ∃ m, k = m + 1 := ⟨k - 1, by omega⟩
  unfold spec_l8Rem.f RRemBy
  rw [wrap64_id (x := -l) (by omega) (by omega)]
  have J : ∀ x : Bool, spec_l8Rem.j0 (k + 1) h x al ah = some (if x = true then (al, ah) else (if al < 0 then max al (1 - h) else 0, if ah > 0 then min ah (h - 1) else 0)) := fun x => by
    simp only [spec_l8Rem.j0]
    rw [wrap64_id (x := 1 - h) (by omega) (by omega), wrap64_id (x := h - 1) (by omega) (by omega)]
    simp only [smax_eq, smin_eq, Option.bind_some]
    cases x
    · simp only [Bool.false_eq_true, if_false]
      by_cases p : al < 0 <;> by_cases q : ah > 0 <;> simp only [p, q, if_true, if_false]
    · simp only [if_true]
  by_cases p : al > -l
  · rw [if_pos p, J]; simp only [p, true_and, decide_eq_true_eq]
  · rw [if_neg p, J]; simp only [p, false_and, Bool.false_eq_true]
/-! spec_l8Mask -/
theorem smask_l0 {m : Int} (hm : m ≤ 2147483647) : ∀ (n j k : Nat), j + n = 31 → n < k → spec_l8Mask.l0 k m (2 ^ j - 1) = some (maskF n (2 ^ j - 1) m)
  | n, j, 0, _, h => absurd h (by omega)
  | 0, j, k + 1, h, _ => by
    have e : (2 : Int) ^ 31 = 2147483648 := by decide
    rw [show j = 31 by omega]
    simp only [spec_l8Mask.l0]
    rw [if_neg (by omega)]
    rfl
  | n + 1, j, k + 1, h, hk => by
    have p := pow_le' (n := j) (m := 31) (by omega)
    have q := pow_pos' j
    have e : (2 : Int) ^ 31 = 2147483648 := by decide
    simp only [spec_l8Mask.l0]
    rw [maskF]
    by_cases c : (2 : Int) ^ j - 1 < m
    · rw [if_pos c, if_pos c, wrap64_id (x := 2 * (2 ^ j - 1)) (by omega) (by omega), wrap64_id (by omega) (by omega)]
      have e : 2 * ((2 : Int) ^ j - 1) + 1 = 2 ^ (j + 1) - 1 := by rw [Int.pow_succ]; omega
      rw [e]
      exact smask_l0 hm n (j + 1) k (by omega) (by omega)
    · rw [if_neg c, if_neg c]
theorem smask_eq (k : Nat) (hk : 32 ≤ k) {m : Int} (hm : m ≤ 2147483647) : spec_l8Mask.f k m = some (maskF 31 0 m) := by
  have := smask_l0 hm 31 0 k (by omega) (by omega)
  unfold spec_l8Mask.f
  simpa using this
/-! spec_l8Bits spec_l8Mask spec_l1Bits -/
theorem sbitsR_eq (k : Nat) (hk : 60 ≤ k) {op al ah bl bh : Int} (g : RGood op al ah bl bh) (h : op = 6 ∨ op = 7 ∨ op = 8) :
    spec_l8Bits.f k op al ah bl bh = some (RDo op al ah bl bh) := by
  obtain ⟨k, rfl⟩ : ∃ m, k = m + 6 := ⟨k - 6, by omega⟩
  have A := g.a
  have B := g.b
  have hm : max ah bh ≤ 2147483647 := by unfold NOk at A B; omega
  rw [RDo_bits g h]
  have J5 : ∀ b : Bool, spec_l8Bits.j5 (k + 1) b al ah bl bh = some (if b = true then (0, maskF 31 0 (max ah bh)) else (-2147483648, 2147483647)) := fun b => by
    simp only [spec_l8Bits.j5, smax_eq, Option.bind_some]
    rw [smask_eq k (by omega) hm]
    cases b <;> rfl
  have J4 : ∀ b : Bool, spec_l8Bits.j4 (k + 2) op b al ah bl bh = some (if b = true then (max al bl, maskF 31 0 (max ah bh)) else if 0 ≤ al ∧ 0 ≤ bl ∧ op = 8 then (0, maskF 31 0 (max ah bh)) else (-2147483648, 2147483647)) := fun b => by
    simp only [spec_l8Bits.j4, smax_eq, Option.bind_some, ge_iff_le]
    rw [smask_eq (k + 1) (by omega) hm]
    cases b
    · simp only [Bool.false_eq_true, if_false, J5, beq_iff_eq]
      by_cases c : 0 ≤ al <;> by_cases d : 0 ≤ bl <;> simp only [c, d, if_true, if_false, true_and, false_and]
    · rfl
  have J3 : ∀ b : Bool, spec_l8Bits.j3 (k + 3) op b al ah bl bh = some (if b = true then (0, bh) else if 0 ≤ al ∧ 0 ≤ bl ∧ op = 7 then (max al bl, maskF 31 0 (max ah bh)) else if 0 ≤ al ∧ 0 ≤ bl ∧ op = 8 then (0, maskF 31 0 (max ah bh)) else (-2147483648, 2147483647)) := fun b => by
    simp only [spec_l8Bits.j3, J4, ge_iff_le, beq_iff_eq]
    cases b
    · simp only [Bool.false_eq_true, if_false]
      by_cases c : 0 ≤ al <;> by_cases d : 0 ≤ bl <;> simp only [c, d, if_true, if_false, true_and, false_and]
    · rfl
  have J2 : ∀ b : Bool, spec_l8Bits.j2 (k + 4) op b al ah bl bh = some (if b = true then (0, ah) else if op = 6 ∧ 0 ≤ bl then (0, bh) else if 0 ≤ al ∧ 0 ≤ bl ∧ op = 7 then (max al bl, maskF 31 0 (max ah bh)) else if 0 ≤ al ∧ 0 ≤ bl ∧ op = 8 then (0, maskF 31 0 (max ah bh)) else (-2147483648, 2147483647)) := fun b => by
    simp only [spec_l8Bits.j2, J3, ge_iff_le, decide_eq_true_eq]
    cases b
    · simp only [Bool.false_eq_true, if_false]
      by_cases c : op = 6 <;> simp only [c, if_true, if_false, true_and, false_and]
    · rfl
  have J1 : ∀ b : Bool, spec_l8Bits.j1 (k + 5) op b al ah bl bh = some (if b = true then (0, min ah bh) else if op = 6 ∧ 0 ≤ al then (0, ah) else if op = 6 ∧ 0 ≤ bl then (0, bh) else if 0 ≤ al ∧ 0 ≤ bl ∧ op = 7 then (max al bl, maskF 31 0 (max ah bh)) else if 0 ≤ al ∧ 0 ≤ bl ∧ op = 8 then (0, maskF 31 0 (max ah bh)) else (-2147483648, 2147483647)) := fun b => by
    simp only [spec_l8Bits.j1, J2, ge_iff_le, decide_eq_true_eq, smin_eq, Option.bind_some]
    cases b
    · simp only [Bool.false_eq_true, if_false]
      by_cases c : op = 6 <;> simp only [c, if_true, if_false, true_and, false_and]
    · rfl
  have J0 : ∀ b : Bool, (b = true ↔ al = ah ∧ bl = bh) → spec_l8Bits.j0 (k + 6) op b al ah bl bh = some (RBits op al ah bl bh) := fun b hb => by
    simp only [spec_l8Bits.j0]
    unfold RBits
    cases b
    · have n : ¬ (al = ah ∧ bl = bh) := fun x => absurd (hb.mpr x) (by decide)
      simp only [Bool.false_eq_true, if_false, J1, ge_iff_le, decide_eq_true_eq]
      rw [if_neg n]
      rcases h with rfl | rfl | rfl
      · by_cases c : 0 ≤ al <;> by_cases d : 0 ≤ bl <;> simp [c, d]
      · by_cases c : 0 ≤ al <;> by_cases d : 0 ≤ bl <;> simp [c, d, Int.not_lt.mpr] <;> omega
      · by_cases c : 0 ≤ al <;> by_cases d : 0 ≤ bl <;> simp [c, d, Int.not_lt.mpr] <;> omega
    · have y := hb.mp rfl
      simp only [if_true]
      rw [if_pos y, sbits_eq (k + 5) (by omega) h A.1 B.1]
      rfl
  unfold spec_l8Bits.f
  by_cases c1 : al = ah
  · rw [if_pos c1]
    exact J0 _ (by simp [c1])
  · rw [if_neg c1]
    exact J0 _ (by simp [c1])
/-! spec_l8Div spec_l8R_corners spec_l8Rem spec_l8New -/
theorem sdiv4_eq (k : Nat) (hk : 80 ≤ k) {al ah bl bh : Int} (g : RGood 4 al ah bl bh) :
    spec_l8Div.f k 4 al ah bl bh = some ((RDo 4 al ah bl bh).1, (RDo 4 al ah bl bh).2, RFaults 4 al ah bl bh) := by
  obtain ⟨k, rfl⟩ : ∃ m, k = m + 5 := ⟨k - 5, by omega⟩
  have A := g.a
  rw [RDo_div g, RFaults_div g]
  have ex : Exact 4 = Int.tdiv := by funext a b; simp [Exact]
  unfold spec_l8Div.f RDiv
  rw [srangeMeet_eq _ (by omega), srangeMeet_eq _ (by omega)]
  simp only [Option.bind_some, if_true, srangeHas_eq]
  have N := RNeg_ends (l := bl) (h := bh)
  have P := RPos_ends (l := bl) (h := bh)
  have n1 := RNeg_ok bl bh
  have p1 := RPos_ok bl bh
  rw [show RMeet bl bh (-2147483648) (-1) = RNeg bl bh from rfl, show RMeet bl bh 1 2147483647 = RPos bl bh from rfl]
  revert N P n1 p1
  generalize RNeg bl bh = n
  generalize RPos bl bh = p
  intro N P n1 p1
  have J5 : ∀ (l : List Int) (s : Bool) (lo hi : Int), spec_l8Div.j5 (k + 1) l s lo hi = some ((if s = true then RFrom lo hi else (1, 0)).1, (if s = true then RFrom lo hi else (1, 0)).2, l) := fun l s lo hi => by
    simp only [spec_l8Div.j5, scut_eq, snone_eq, Option.bind_some]
    cases s <;> rfl
  have J4 : ∀ (l : List Int) (s : Bool) (lo hi : Int), spec_l8Div.j4 (k + 2) 4 l al ah p.1 p.2 s lo hi = some ((if p.1 > p.2 then if s = true then RFrom lo hi else (1, 0) else RFrom (if s = true then min lo (CLo Int.tdiv al ah p.1 p.2) else CLo Int.tdiv al ah p.1 p.2) (if s = true then max hi (CHi Int.tdiv al ah p.1 p.2) else CHi Int.tdiv al ah p.1 p.2)).1,
      (if p.1 > p.2 then if s = true then RFrom lo hi else (1, 0) else RFrom (if s = true then min lo (CLo Int.tdiv al ah p.1 p.2) else CLo Int.tdiv al ah p.1 p.2) (if s = true then max hi (CHi Int.tdiv al ah p.1 p.2) else CHi Int.tdiv al ah p.1 p.2)).2, l) := fun l s lo hi => by
    simp only [spec_l8Div.j4, snone_eq, Option.bind_some, p1.ne_none]
    by_cases e : p.1 > p.2
    · rw [if_neg (fun x => x e), if_pos e, J5]
    · have E := P e
      rw [if_pos e, if_neg e, rcorners_eq (k + 1) (by omega) (by omega) (by omega) s lo hi A.1 A.2.1 (p1.some e).1 E.2.1 (fun h => by omega) (fun h => by omega), ex]
      simp only [Option.bind_some]
      rw [J5, if_pos rfl]
  have J2 : ∀ l : List Int, spec_l8Div.j2 (k + 3) 4 l al ah bl bh n.1 n.2 p.1 p.2 = some ((if n.1 > n.2 then if p.1 > p.2 then (1, 0) else RFrom (CLo Int.tdiv al ah p.1 p.2) (CHi Int.tdiv al ah p.1 p.2)
  else if p.1 > p.2 then RFrom (CLo Int.tdiv al ah n.1 n.2) (CHi Int.tdiv al ah n.1 n.2)
  else RFrom (min (CLo Int.tdiv al ah p.1 p.2) (CLo Int.tdiv al ah n.1 n.2)) (max (CHi Int.tdiv al ah p.1 p.2) (CHi Int.tdiv al ah n.1 n.2))).1, (if n.1 > n.2 then if p.1 > p.2 then (1, 0) else RFrom (CLo Int.tdiv al ah p.1 p.2) (CHi Int.tdiv al ah p.1 p.2)
  else if p.1 > p.2 then RFrom (CLo Int.tdiv al ah n.1 n.2) (CHi Int.tdiv al ah n.1 n.2)
  else RFrom (min (CLo Int.tdiv al ah p.1 p.2) (CLo Int.tdiv al ah n.1 n.2)) (max (CHi Int.tdiv al ah p.1 p.2) (CHi Int.tdiv al ah n.1 n.2))).2, l) := fun l => by
    have W : spec_l8New.f = some (false, 0, 0) := rfl
    simp only [spec_l8Div.j2, snone_eq, Option.bind_some, n1.ne_none, W]
    rw [if_neg (by decide)]
    by_cases e : n.1 > n.2
    · rw [if_neg (fun x => x e), if_pos e, J4]
      simp only [Bool.false_eq_true, if_false]
    · have E := N e
      rw [if_pos e, if_neg e, rcorners_eq (k + 2) (by omega) (by omega) (by omega) false 0 0 A.1 A.2.1 E.1 (n1.some e).2.1 (fun h => by omega) (fun h => by omega), ex]
      simp only [Option.bind_some, Bool.false_eq_true, if_false]
      rw [J4]
      simp only [if_true]
      rw [Int.min_comm, Int.max_comm]
  have J1 : ∀ l : List Int, l.length ≤ 1 → spec_l8Div.j1 (k + 4) 4 l al ah bl bh n.1 n.2 p.1 p.2 = (spec_l8Div.j2 (k + 3) 4 [] al ah bl bh n.1 n.2 p.1 p.2).bind fun r => some (r.1, r.2.1, l ++ (if RHas bl bh 0 then [2] else [])) := fun l hl => by
    simp only [spec_l8Div.j1, srangeHas_eq, Option.bind_some, decide_eq_true_eq]
    by_cases c : RHas bl bh 0
    · rw [if_pos c, if_pos (by omega), J2, J2, if_pos c]; rfl
    · rw [if_neg c, J2, J2, if_neg c, List.append_nil]; rfl
  have J0 : ∀ b : Bool, spec_l8Div.j0 (k + 5) 4 [] b al ah bl bh n.1 n.2 p.1 p.2 = (spec_l8Div.j2 (k + 3) 4 [] al ah bl bh n.1 n.2 p.1 p.2).bind fun r => some (r.1, r.2.1, (if b = true then [1] else []) ++ (if RHas bl bh 0 then [2] else [])) := fun b => by
    simp only [spec_l8Div.j0]
    cases b
    · simp only [Bool.false_eq_true, if_false]
      rw [J1 _ (by simp)]
    · simp only [if_true]
      rw [if_pos (by simp), J1 _ (by simp)]
      rfl
  by_cases c : al = -2147483648
  · have h : RHas al ah (-2147483648) := ⟨g.2.1, by omega, by omega⟩
    rw [if_pos c, J0, J2]
    simp only [h, true_and, decide_eq_true_eq, Option.bind_some]
  · have h : ¬ RHas al ah (-2147483648) := fun x => by
      have := x.2.1; have := A.1; unfold NOk at this; omega
    rw [if_neg c, J0, J2]
    simp only [h, false_and, Bool.false_eq_true, Option.bind_some]
theorem sdiv5_eq (k : Nat) (hk : 80 ≤ k) {al ah bl bh : Int} (g : RGood 5 al ah bl bh) :
    spec_l8Div.f k 5 al ah bl bh = some ((RDo 5 al ah bl bh).1, (RDo 5 al ah bl bh).2, RFaults 5 al ah bl bh) := by
  obtain ⟨k, rfl⟩ : ∃ m, k = m + 5 := ⟨k - 5, by omega⟩
  have A := g.a
  have B := g.b
  rw [RDo_rem g, RFaults_rem g]
  have ex : ∀ a b : Int, Exact 5 a b = Int.tmod a b := fun a b => by simp [Exact]
  unfold spec_l8Div.f RRem
  rw [srangeMeet_eq _ (by omega), srangeMeet_eq _ (by omega)]
  simp only [Option.bind_some]
  rw [if_neg (by decide)]
  have N := RNeg_ends (l := bl) (h := bh)
  have P := RPos_ends (l := bl) (h := bh)
  have n1 := RNeg_ok bl bh
  have p1 := RPos_ok bl bh
  rw [show RMeet bl bh (-2147483648) (-1) = RNeg bl bh from rfl, show RMeet bl bh 1 2147483647 = RPos bl bh from rfl]
  revert N P n1 p1
  generalize RNeg bl bh = n
  generalize RPos bl bh = p
  intro N P n1 p1
  have V : ∀ (o : Int × Int) (l : List Int), (if al = ah then (if bl = bh then (if bl = 0 then (some (o.1, o.2, l)) else ((spec_l1Exact.f (k + 1) 5 al bl).bind fun t510 => (some (t510, t510, l)))) else (some (o.1, o.2, l))) else (some (o.1, o.2, l))) = some ((if al = ah ∧ bl = bh ∧ bl ≠ 0 then (Int.tmod al bl, Int.tmod al bl) else o).1, (if al = ah ∧ bl = bh ∧ bl ≠ 0 then (Int.tmod al bl, Int.tmod al bl) else o).2, l) := fun o l => by
    by_cases c1 : al = ah
    · rw [if_pos c1]
      by_cases c2 : bl = bh
      · rw [if_pos c2]
        by_cases c3 : bl = 0
        · rw [if_pos c3, if_neg (fun x => x.2.2 c3)]
        · rw [if_neg c3, if_pos ⟨c1, c2, c3⟩, sexact_eq (k + 1) (by omega) (by omega) (by omega) A.1 B.1 (fun _ => c3) (fun h => by omega), ex]
          rfl
      · rw [if_neg c2, if_neg (fun x => c2 x.2.1)]
    · rw [if_neg c1, if_neg (fun x => c1 x.1)]
  have J3 : ∀ (l : List Int) (o : Int × Int), spec_l8Div.j3 (k + 2) 5 l al ah bl bh p.1 p.2 o.1 o.2 = some ((if al = ah ∧ bl = bh ∧ bl ≠ 0 then (Int.tmod al bl, Int.tmod al bl) else if p.1 > p.2 then o else RJoin o.1 o.2 (RRemBy al ah p.1 p.2).1 (RRemBy al ah p.1 p.2).2).1, (if al = ah ∧ bl = bh ∧ bl ≠ 0 then (Int.tmod al bl, Int.tmod al bl) else if p.1 > p.2 then o else RJoin o.1 o.2 (RRemBy al ah p.1 p.2).1 (RRemBy al ah p.1 p.2).2).2, l) := fun l o => by
    simp only [spec_l8Div.j3, snone_eq, Option.bind_some, p1.ne_none]
    by_cases e : p.1 > p.2
    · rw [if_neg (fun x => x e), V, if_pos e]
    · have E := P e
      have := E.2.1
      unfold NOk at this
      rw [if_pos e, srem_eq (k + 1) (by omega) A.1 A.2.1 E.1 E.2.2 (by omega)]
      simp only [Option.bind_some]
      rw [srangeJoin_eq (k + 1) (by omega)]
      simp only [Option.bind_some]
      rw [V, if_neg e]
  have J2 : ∀ l : List Int, spec_l8Div.j2 (k + 3) 5 l al ah bl bh n.1 n.2 p.1 p.2 = some ((if al = ah ∧ bl = bh ∧ bl ≠ 0 then (Int.tmod al bl, Int.tmod al bl) else if p.1 > p.2 then (if n.1 > n.2 then (1, 0) else RJoin 1 0 (RRemBy al ah (-n.2) (-n.1)).1 (RRemBy al ah (-n.2) (-n.1)).2) else RJoin (if n.1 > n.2 then (1, 0) else RJoin 1 0 (RRemBy al ah (-n.2) (-n.1)).1 (RRemBy al ah (-n.2) (-n.1)).2).1 (if n.1 > n.2 then (1, 0) else RJoin 1 0 (RRemBy al ah (-n.2) (-n.1)).1 (RRemBy al ah (-n.2) (-n.1)).2).2 (RRemBy al ah p.1 p.2).1 (RRemBy al ah p.1 p.2).2).1,
      (if al = ah ∧ bl = bh ∧ bl ≠ 0 then (Int.tmod al bl, Int.tmod al bl) else if p.1 > p.2 then (if n.1 > n.2 then (1, 0) else RJoin 1 0 (RRemBy al ah (-n.2) (-n.1)).1 (RRemBy al ah (-n.2) (-n.1)).2) else RJoin (if n.1 > n.2 then (1, 0) else RJoin 1 0 (RRemBy al ah (-n.2) (-n.1)).1 (RRemBy al ah (-n.2) (-n.1)).2).1 (if n.1 > n.2 then (1, 0) else RJoin 1 0 (RRemBy al ah (-n.2) (-n.1)).1 (RRemBy al ah (-n.2) (-n.1)).2).2 (RRemBy al ah p.1 p.2).1 (RRemBy al ah p.1 p.2).2).2, l) := fun l => by
    simp only [spec_l8Div.j2, snone_eq, Option.bind_some, n1.ne_none, if_true]
    by_cases e : n.1 > n.2
    · rw [if_neg (fun x => x e), if_pos e]
      exact J3 l (1, 0)
    · have E := N e
      have := E.1
      unfold NOk at this
      rw [if_pos e, if_neg e, wrap64_id (x := -n.2) (by omega) (by omega), wrap64_id (x := -n.1) (by omega) (by omega), srem_eq (k + 2) (by omega) A.1 A.2.1 (by omega) (by omega) (by omega)]
      simp only [Option.bind_some]
      rw [srangeJoin_eq (k + 2) (by omega)]
      simp only [Option.bind_some]
      exact J3 l _
  simp only [spec_l8Div.j0, Bool.false_eq_true, if_false, spec_l8Div.j1, srangeHas_eq, Option.bind_some, decide_eq_true_eq]
  by_cases c : RHas bl bh 0
  · have h : ¬ (al = ah ∧ bl = bh ∧ bl ≠ 0) := fun x => by have := c.2; omega
    rw [if_pos c, if_pos (by simp), J2, if_pos c]
    simp only [if_neg h]
    try rfl
  · rw [if_neg c, J2, if_neg c]
    simp only [ite_self]
    try rfl
/-! spec_RangeDo spec_l8Div spec_l8Bits spec_l8R_corners spec_l8Wrapped spec_l8New -/
theorem srangeDo_eq (k : Nat) (hk : 120 ≤ k) (op al ah bl bh : Int) : spec_RangeDo.f k op al ah bl bh = some ((RDo op al ah bl bh).1, (RDo op al ah bl bh).2, RFaults op al ah bl bh) := by
  obtain ⟨k, rfl⟩ : ∃ m, k = m + 10 := ⟨k - 10, by omega⟩
  have bad : (¬ (1 ≤ op ∧ op ≤ 13) ∨ ¬ ROk al ah ∨ ¬ ROk bl bh ∨ al > ah ∨ bl > bh) → spec_RangeDo.j0 (k + 10) op [] true al ah bl bh = some ((RDo op al ah bl bh).1, (RDo op al ah bl bh).2, RFaults op al ah bl bh) := fun g => by
    simp only [spec_RangeDo.j0, if_true, snone_eq, Option.bind_some]
    rw [RDo_bad g, RFaults_bad g]
  unfold spec_RangeDo.f
  simp only [sin_eq, srangeOk_eq, snone_eq, Option.bind_some, decide_eq_true_eq]
  by_cases c1 : 1 ≤ op ∧ op ≤ 13
  case neg => rw [if_neg c1]; exact bad (Or.inl c1)
  rw [if_pos c1]
  by_cases c2 : ROk al ah
  case neg => rw [if_neg c2]; exact bad (Or.inr (Or.inl c2))
  rw [if_pos c2]
  by_cases c3 : ROk bl bh
  case neg => rw [if_neg c3]; exact bad (Or.inr (Or.inr (Or.inl c3)))
  rw [if_pos c3]
  simp only [c2.is_none]
  by_cases c4 : al > ah
  case pos => rw [if_pos c4]; exact bad (Or.inr (Or.inr (Or.inr (Or.inl c4))))
  rw [if_neg c4]
  have e5 : (bl == 1 && (bh == 0)) = decide (bl > bh) := by rw [Bool.eq_iff_iff, c3.is_none]; simp
  rw [e5]
  by_cases c5 : bl > bh
  case pos => simp only [c5, decide_true]; exact bad (Or.inr (Or.inr (Or.inr (Or.inr c5))))
  simp only [c5, decide_false]
  have g : RGood op al ah bl bh := ⟨c1, c2, c3, c4, c5⟩
  have A := g.a
  have B := g.b
  have ne : ∀ c : Int × Int, ((!(c.1 == bl) || (!(c.2 == bh))) = true) ↔ ¬ c = (bl, bh) := fun c => by
    obtain ⟨c1, c2⟩ := c
    simp only [Bool.or_eq_true, Bool.not_eq_true', beq_eq_false_iff_ne, ne_eq, Prod.mk.injEq]
    omega
  have J8 : ∀ (l : List Int) (s : Bool) (lo hi : Int), spec_RangeDo.j8 (k + 2) l s lo hi = some ((if s = true then RFrom lo hi else (1, 0)).1, (if s = true then RFrom lo hi else (1, 0)).2, l) := fun l s lo hi => by
    simp only [spec_RangeDo.j8, scut_eq, snone_eq, Option.bind_some]
    cases s <;> rfl
  have J7 : ∀ (l : List Int) (b s : Bool) (lo hi : Int), l.length ≤ 1 → spec_RangeDo.j7 (k + 3) l b s lo hi = some ((if s = true then RFrom lo hi else (1, 0)).1, (if s = true then RFrom lo hi else (1, 0)).2, l ++ (if b = true then [3] else [])) := fun l b s lo hi hl => by
    simp only [spec_RangeDo.j7, J8]
    cases b
    · simp
    · simp only [if_true]; rw [if_pos (by omega)]
  have J6 : ∀ (l : List Int) (sh s : Bool) (c : Int × Int) (lo hi : Int), l.length ≤ 1 → spec_RangeDo.j6 (k + 4) l sh bl bh c.1 c.2 s lo hi = some ((if s = true then RFrom lo hi else (1, 0)).1, (if s = true then RFrom lo hi else (1, 0)).2, l ++ (if sh = true ∧ ¬ c = (bl, bh) then [3] else [])) := fun l sh s c lo hi hl => by
    simp only [spec_RangeDo.j6, J7 _ _ _ _ _ hl, ne]
    cases sh
    · simp
    · simp
  have J5 : ∀ (sh b s : Bool) (c : Int × Int) (lo hi : Int), spec_RangeDo.j5 (k + 5) [] sh b bl bh c.1 c.2 s lo hi = some ((if s = true then RFrom lo hi else (1, 0)).1, (if s = true then RFrom lo hi else (1, 0)).2, (if b = true then [1] else []) ++ (if sh = true ∧ ¬ c = (bl, bh) then [3] else [])) := fun sh b s c lo hi => by
    simp only [spec_RangeDo.j5]
    cases b
    · simp only [Bool.false_eq_true, if_false]
      rw [J6 _ _ _ _ _ _ (by simp)]
    · simp only [if_true]
      rw [if_pos (by simp), J6 _ _ _ _ _ _ (by simp)]
      rfl
  have J4 : ∀ (sh : Bool) (c : Int × Int) (lo hi : Int), op ≤ 10 → spec_RangeDo.j4 (k + 6) op [] sh bl bh c.1 c.2 true lo hi = some ((RFrom lo hi).1, (RFrom lo hi).2, (if Over lo hi then [1] else []) ++ (if sh = true ∧ ¬ c = (bl, bh) then [3] else [])) := fun sh c lo hi h => by
    simp only [spec_RangeDo.j4]
    rw [if_neg (by omega)]
    simp only [if_true]
    by_cases o : lo < -2147483648
    · rw [if_pos o, J5, if_pos rfl, if_pos rfl, if_pos (show Over lo hi from Or.inl o)]
    · rw [if_neg o, J5, if_pos rfl]
      by_cases o' : hi > 2147483647
      · rw [if_pos (by simp [o']), if_pos (show Over lo hi from Or.inr o')]
      · rw [if_neg (by simp; omega), if_neg (show ¬ Over lo hi from fun x => by unfold Over at x; omega)]
  have W : spec_l8New.f = some (false, 0, 0) := rfl
  simp only [spec_RangeDo.j0, Bool.false_eq_true, if_false]
  have J1 : ∀ b : Bool, (b = true ↔ op = 4 ∨ op = 5) → spec_RangeDo.j1 (k + 9) op [] b al ah bl bh = some ((RDo op al ah bl bh).1, (RDo op al ah bl bh).2, RFaults op al ah bl bh) := fun b hb => by
    simp only [spec_RangeDo.j1]
    cases b
    · have n : ¬ (op = 4 ∨ op = 5) := fun x => absurd (hb.mpr x) (by decide)
      simp only [Bool.false_eq_true, if_false, sin_eq, Option.bind_some, decide_eq_true_eq]
      by_cases d : 6 ≤ op ∧ op ≤ 8
      · rw [if_pos d, sbitsR_eq (k + 8) (by omega) g (by omega), RFaults_bits g (by omega)]
        rfl
      rw [if_neg d]
      have J3 : ∀ sh : Bool, (sh = true ↔ op = 9 ∨ op = 10) → spec_RangeDo.j2 (k + 8) op [] sh al ah bl bh bl bh = some ((RDo op al ah bl bh).1, (RDo op al ah bl bh).2, RFaults op al ah bl bh) := fun sh hs => by
        simp only [spec_RangeDo.j2]
        cases sh
        · have n' : ¬ (op = 9 ∨ op = 10) := fun x => absurd (hs.mpr x) (by decide)
          simp only [Bool.false_eq_true, if_false, spec_RangeDo.j3, snone_eq, W, Option.bind_some, c3.ne_none]
          rw [if_pos c5, rcorners_eq (k + 6) (by omega) c1.1 c1.2 false 0 0 A.1 A.2.1 B.1 B.2.1 (fun h => by omega) (fun h => by omega)]
          simp only [Option.bind_some, Bool.false_eq_true, if_false]
          by_cases y : op ≤ 3
          · have := J4 false (bl, bh) (CLo (Exact op) al ah bl bh) (CHi (Exact op) al ah bl bh) (by omega)
            dsimp only at this
            rw [this, RDo_low g y, RFaults_low g y]
            simp
          · simp only [spec_RangeDo.j4]
            have b1 := exact_wrap_in (op := op) (by omega) c1.2 A.1 B.1
            have b2 := exact_wrap_in (op := op) (by omega) c1.2 A.1 B.2.1
            have b3 := exact_wrap_in (op := op) (by omega) c1.2 A.2.1 B.1
            have b4 := exact_wrap_in (op := op) (by omega) c1.2 A.2.1 B.2.1
            rw [if_pos (by omega), swrapped_eq (k + 5) (by omega) (by unfold CLo; omega) (by unfold CHi; omega), RDo_wrap g (by omega), RFaults_wrap g (by omega)]
            rfl
        · have y := hs.mp rfl
          simp only [if_true]
          rw [srangeMeet_eq (k + 7) (by omega), RDo_shift g y, RFaults_shift g y]
          unfold RShift
          have E := RMeet_ends (l := bl) (h := bh) (p := 0) (q := 31)
          have O := RMeet_ok bl bh 0 31
          revert E O
          generalize RMeet bl bh 0 31 = c
          intro E O
          simp only [Option.bind_some, spec_RangeDo.j3, snone_eq, W, O.ne_none]
          by_cases e : c.1 > c.2
          · rw [if_neg (fun x => x e), if_pos e, if_neg (show ¬ (¬ c.1 > c.2 ∧ _) from fun x => x.1 e)]
            simp only [spec_RangeDo.j4, Bool.false_eq_true, if_false]
            rw [if_neg (by omega), J5]
            simp
          · have E := E e
            rw [if_pos e, if_neg e, rcorners_eq (k + 6) (by omega) c1.1 c1.2 false 0 0 A.1 A.2.1 E.2.2.2.2.1 E.2.2.2.2.2 (fun h => by omega) (fun h => by omega)]
            simp only [Option.bind_some, Bool.false_eq_true, if_false]
            rw [J4 true c _ _ (by omega)]
            simp [e]
      by_cases d9 : op = 9
      · rw [if_pos d9]; exact J3 _ (by simp [d9])
      · rw [if_neg d9]; exact J3 _ (by simp [d9])
    · simp only [if_true]
      rcases hb.mp rfl with rfl | rfl
      · rw [sdiv4_eq (k + 8) (by omega) g]; rfl
      · rw [sdiv5_eq (k + 8) (by omega) g]; rfl
  by_cases d4 : op = 4
  · rw [if_pos d4]; exact J1 _ (by simp [d4])
  · rw [if_neg d4]; exact J1 _ (by simp [d4])
/-! spec_DrawRangeDo spec_l8Shift -/
theorem drawShift_tot (k : Nat) (hk : 43 ≤ k) {s : List Int} {p op : Int} (hs : Bytes s) (h0 : 0 ≤ p) (h1 : p ≤ 10000000) :
    Tot (spec_l8Shift.f k s p op) fun _ => True := by
  obtain ⟨k, rfl⟩ : ∃ m, k = m + 1 := ⟨k - 1, by omega⟩
  have J : ∀ b : Bool, Tot (spec_l8Shift.j0 (k + 1) b s p) fun _ => True := fun b => by
    simp only [spec_l8Shift.j0]
    refine Tot.ite (fun _ => ?_) fun _ => ?_
    · refine Tot.then (pick_tot k (by omega) hs h0 (by omega)) ?_
      rintro ⟨x, q⟩ ⟨hq, -, -⟩
      dsimp only at hq ⊢
      refine Tot.then (pick_tot k (by omega) hs (by omega) (by omega)) fun _ _ => ?_
      rw [scut_eq]
      exact Tot.here trivial
    · exact Tot.then (drawRange_tot k (by omega) hs h0 (by omega)) fun _ _ => Tot.here trivial
  unfold spec_l8Shift.f
  exact Tot.ite (fun _ => J _) fun _ => J _
theorem drawRangeDo_tot (k : Nat) (hk : 60 ≤ k) {l : List Int} (hl : Bytes l) : Tot (spec_DrawRangeDo.f k l) fun _ => True := by
  unfold spec_DrawRangeDo.f
  refine Tot.then (open_tot hl) ?_
  rintro ⟨s, p⟩ ⟨hp, hs, -⟩
  dsimp only at hp hs ⊢
  refine Tot.then (pick_tot _ (by omega) hs (by omega) (by omega)) ?_
  rintro ⟨x, q⟩ ⟨hq, -, -⟩
  dsimp only at hq ⊢
  refine Tot.then (pick_tot _ (by omega) hs (by omega) (by omega)) ?_
  rintro ⟨y, q1⟩ ⟨hr, -, -⟩
  dsimp only at hr ⊢
  refine Tot.ite (fun _ => ?_) fun _ => ?_
  · refine Tot.then (pick_tot _ (by omega) hs (by omega) (by omega)) ?_
    rintro ⟨z, q2⟩ ⟨ht, -, -⟩
    dsimp only at ht ⊢
    refine Tot.then (drawWild_tot _ (by omega) hs (by omega) (by omega)) ?_
    rintro ⟨a, b, q3⟩ ⟨hu, hu'⟩
    dsimp only at hu hu' ⊢
    exact Tot.then (drawShift_tot _ (by omega) hs (by omega) (by omega)) fun _ _ => Tot.here trivial
  · refine Tot.then (drawWild_tot _ (by omega) hs (by omega) (by omega)) ?_
    rintro ⟨a, b, q3⟩ ⟨hu, hu'⟩
    dsimp only at hu hu' ⊢
    exact Tot.then (drawShift_tot _ (by omega) hs (by omega) (by omega)) fun _ _ => Tot.here trivial
end Go.Proofs.Ytlbheepfmjbpnaa.LFnRangeDo
