/- What the small functions that the statement reaches tell, each by a plain law. Conditions: those in each law. -/
import Derived.Test.YtmdcgkkkfncieaaDFnRestLattice
import Derived.Test.YtmdcgkkkfncieaaBase
import Derived.Test.YtmdcgkkkfncieaaNumMath
import Derived.Test.YtmdcgkkkfncieaaBits
import Derived.Test.YtmdcgkkkfncieaaRangeMath
import Derived.Test.YtmdcgkkkfncieaaRestMath
namespace Go.Proofs.Ytmdcgkkkfncieaa.LFnRestLattice
open Go.RowKit Go.Proofs.Ytmdcgkkkfncieaa.PFnRestLattice Go.Proofs.Ytmdcgkkkfncieaa.Base Go.Proofs.YtmdcgkkkfncieaaW.PrintWords Go.Proofs.YtmdcgkkkfncieaaW.PrintLast Go.Proofs.YtmdcgkkkfncieaaW.PrintMore
set_option linter.unusedVariables false
set_option linter.unusedSimpArgs false

/-! spec_l1Rd_pick -/
theorem pick_tot (k : Nat) (hk : 1 ≤ k) {s : List Int} {p n : Int} (hs : Bytes s) (h0 : 0 ≤ p) (h1 : p ≤ 1073741824) :
    Tot (spec_l1Rd_pick.f k s p n) fun r => r.2 = p + 1 ∧ 0 ≤ r.1 ∧ (1 ≤ n → r.1 < n) := by
  obtain ⟨k, rfl⟩ : ∃ m, k = m + 1 := ⟨k - 1, by omega⟩
  have e1 : wrap64 (p + 1) = p + 1 := wrap64_id (by omega) (by omega)
  have e2 : wrap64 (p + 1 - 1) = p := by rw [wrap64_id (by omega) (by omega)]; omega
  unfold spec_l1Rd_pick.f
  rw [e1]
  refine Tot.ite (fun hn => ?_) (fun hn => ?_)
  · simp only [spec_l1Rd_pick.j0, if_true]
    exact Tot.here ⟨rfl, Int.le_refl _, fun h => by omega⟩
  · simp only [spec_l1Rd_pick.j0, e2]
    refine Tot.ite (fun h => Tot.here ⟨rfl, Int.le_refl _, fun _ => by dsimp only; omega⟩) fun h => ?_
    have hne : (s.length : Int) ≠ 0 := by simpa using h
    have hlen : 0 < (s.length : Int) := by omega
    refine Tot.ite (fun hp => ?_) fun hp => ?_
    · rw [if_pos h0, if_neg (by omega)]
      have b := hs.byte p
      rw [wrap64_id (by omega) (by omega)]
      exact Tot.here ⟨rfl, tmod_nonneg b.1, fun _ => tmod_lt (by omega)⟩
    · have m1 := tmod_nonneg (b := (s.length : Int)) h0
      have m2 := tmod_lt (a := p) hlen
      have q1 : wrap64 (p * 7) = p * 7 := wrap64_id (by omega) (by omega)
      have q2 : wrap64 (p * 7 + 3) = p * 7 + 3 := wrap64_id (by omega) (by omega)
      have m3 := tmod_nonneg (b := (s.length : Int)) (a := p * 7 + 3) (by omega)
      have m4 := tmod_lt (a := p * 7 + 3) hlen
      rw [if_neg hne, if_pos m1, if_pos m2, q1, q2, if_pos m3, if_pos m4, if_neg (by omega)]
      have b1 := hs.byte (Int.tmod p s.length)
      have b2 := hs.byte (Int.tmod (p * 7 + 3) s.length)
      generalize rd s (Int.tmod p s.length) = x1 at *
      generalize rd s (Int.tmod (p * 7 + 3) s.length) = x2 at *
      have d1 := tdiv_nonneg h0 (Int.le_of_lt hlen)
      have d2 := tdiv_le h0 hlen
      generalize Int.tdiv p s.length = d at *
      rw [wrap64_id (x := x1) (by omega) (by omega), wrap64_id (x := x2) (by omega) (by omega), wrap64_id (x := d) (by omega) (by omega)]
      rw [wrap64_id (x := x1 * 131) (by omega) (by omega), wrap64_id (x := x2 * 1117) (by omega) (by omega), wrap64_id (x := p * 29) (by omega) (by omega), wrap64_id (x := d * 53) (by omega) (by omega)]
      rw [wrap64_id (x := x1 * 131 + x2 * 1117) (by omega) (by omega)]
      rw [wrap64_id (x := x1 * 131 + x2 * 1117 + p * 29) (by omega) (by omega)]
      rw [wrap64_id (x := x1 * 131 + x2 * 1117 + p * 29 + d * 53) (by omega) (by omega)]
      have z0 : 0 ≤ x1 * 131 + x2 * 1117 + p * 29 + d * 53 := by omega
      have z1 : x1 * 131 + x2 * 1117 + p * 29 + d * 53 < 9223372036854775808 := by omega
      generalize x1 * 131 + x2 * 1117 + p * 29 + d * 53 = z at *
      have y0 := tdiv_nonneg (b := 64) z0 (by omega)
      have y1 := tdiv_le (b := 64) z0 (by omega)
      rw [wrap64_id (x := Int.tdiv z 64) (by omega) (by omega)]
      exact Tot.here ⟨rfl, tmod_nonneg (bits_xor_nonneg_in z0 z1 y0 (by omega)), fun _ => tmod_lt (by omega)⟩
/-! spec_l1Open -/
theorem open_tot {s : List Int} (hs : Bytes s) : Tot (spec_l1Open.f s) fun r => r.2 = 0 ∧ Bytes r.1 ∧ r.1.length ≤ 2000 := by
  unfold spec_l1Open.f
  refine Tot.ite (fun h => ?_) (fun h => ?_)
  · rw [if_pos (by omega)]
    exact Tot.here ⟨rfl, hs.take _, by simp only [List.length_take]; omega⟩
  · exact Tot.here ⟨rfl, hs, by dsimp only; omega⟩
/-! spec_l1Power -/
theorem power_l0 (n : Int) : ∀ (d k : Nat) (o i : Int), 0 ≤ i → i ≤ n → n ≤ 40 → (n - i : Int) = d → d < k → o = 2 ^ i.toNat → spec_l1Power.l0 k n o i = some (2 ^ n.toNat) := by
  intro d
  induction d with
  | zero =>
    intro k o i h0 h1 h2 hd hk ho
    obtain ⟨k, rfl⟩ : ∃ m, k = m + 1 := ⟨k - 1, by omega⟩
    simp only [spec_l1Power.l0]
    rw [if_neg (by omega), ho]
    have : i = n := by omega
    rw [this]
  | succ d ih =>
    intro k o i h0 h1 h2 hd hk ho
    obtain ⟨k, rfl⟩ : ∃ m, k = m + 1 := ⟨k - 1, by omega⟩
    simp only [spec_l1Power.l0]
    rw [if_pos (by omega)]
    have hp : (2 : Int) ^ i.toNat ≤ 2 ^ 40 := by
      have := Nat.pow_le_pow_right (n := 2) (by omega) (show i.toNat ≤ 40 by omega)
      exact_mod_cast this
    have hp0 : (0 : Int) < 2 ^ i.toNat := Int.pow_pos (by decide)
    have e : (i + 1).toNat = i.toNat + 1 := by omega
    rw [wrap64_id (x := 2 * o) (by omega) (by omega), wrap64_id (x := i + 1) (by omega) (by omega)]
    refine ih k _ _ (by omega) (by omega) h2 (by omega) (by omega) ?_
    rw [e, Int.pow_succ, ho]; omega
theorem power_eq (k : Nat) (hk : 42 ≤ k) {n : Int} (h0 : 0 ≤ n) (h1 : n ≤ 40) : spec_l1Power.f k n = some (2 ^ n.toNat) := by
  unfold spec_l1Power.f
  exact power_l0 n n.toNat k 1 0 (by omega) h0 h1 (by omega) (by omega) (by simp)
/-! spec_l1Mod -/
theorem mod_eq {a b : Int} (hb : 0 < b) (h : b ≤ 9223372036854775807) : spec_l1Mod.f a b = some (a % b) := by
  unfold spec_l1Mod.f
  rw [if_neg (by omega)]
  have e := Int.emod_emod_of_dvd a (Int.dvd_refl b)
  have h1 : Int.tmod a b < b := Int.tmod_lt_of_pos a hb
  have h2 : -b < Int.tmod a b := Int.lt_tmod_of_pos a hb
  have h3 := Int.mul_tdiv_add_tmod a b
  have h4 : a % b = Int.tmod a b % b := by
    conv => lhs; rw [← h3]
    rw [Int.add_comm, Int.add_mul_emod_self_left]
  by_cases hn : Int.tmod a b < 0
  · rw [if_pos hn, wrap64_id (by omega) (by omega), h4, ← Int.add_emod_right, Int.emod_eq_of_lt (by omega) (by omega)]
  · rw [if_neg hn, h4, Int.emod_eq_of_lt (by omega) (by omega)]
/-! spec_NumWrap -/
/-- The number of 32 bits that differs from one by a multiple. -/
theorem snumwrap_eq (v : Int) : spec_NumWrap.f v = some (wrap32 v) := by
  unfold spec_NumWrap.f
  rw [mod_eq (by omega) (by omega)]
  simp only [Option.bind_some]
  unfold wrap32
  by_cases h : v % 4294967296 > 2147483647
  · rw [if_pos h, wrap64_id (by omega) (by omega)]; congr 1; omega
  · rw [if_neg h]; congr 1; omega
/-! spec_l1Rd_num -/
theorem num_l0 {s : List Int} (hs : Bytes s) : ∀ (d k : Nat) (v i p : Int), 0 ≤ i → i ≤ 4 → (4 - i : Int) = d → d + 2 ≤ k → 0 ≤ p → p + d ≤ 1073741824 →
    Tot (spec_l1Rd_num.l0 k v i s p) fun r => r.2 = p + d ∧ -2147483648 ≤ r.1 ∧ r.1 ≤ 2147483647 := by
  intro d
  induction d with
  | zero =>
    intro k v i p h0 h1 hd hk hp hq
    obtain ⟨k, rfl⟩ : ∃ m, k = m + 1 := ⟨k - 1, by omega⟩
    simp only [spec_l1Rd_num.l0]
    rw [if_neg (by omega), snumwrap_eq]
    simp only [Option.bind_some]
    exact Tot.here ⟨by simp, (wrap32_in v).1, (wrap32_in v).2⟩
  | succ d ih =>
    intro k v i p h0 h1 hd hk hp hq
    obtain ⟨k, rfl⟩ : ∃ m, k = m + 1 := ⟨k - 1, by omega⟩
    simp only [spec_l1Rd_num.l0]
    rw [if_pos (by omega)]
    refine Tot.then (pick_tot k (by omega) hs hp (by omega)) ?_
    rintro ⟨x, q⟩ ⟨hq', -, -⟩
    dsimp only at hq' ⊢
    subst hq'
    rw [wrap64_id (x := i + 1) (by omega) (by omega)]
    refine (ih k _ _ _ (by omega) (by omega) (by omega) (by omega) (by omega) (by omega)).mono ?_
    rintro ⟨y, q⟩ ⟨h1, h2⟩
    exact ⟨by dsimp only at h1 ⊢; omega, h2⟩
theorem num_tot (k : Nat) (hk : 42 ≤ k) {s : List Int} {p : Int} (hs : Bytes s) (h0 : 0 ≤ p) (h1 : p ≤ 1000000000) :
    Tot (spec_l1Rd_num.f k s p) fun r => p < r.2 ∧ r.2 ≤ p + 5 ∧ -2147483648 ≤ r.1 ∧ r.1 ≤ 2147483647 := by
  have go : ∀ {n q : Int}, 0 ≤ q → q ≤ 1000000010 → Tot (spec_l1Rd_pick.f k s q n) fun r => r.2 = q + 1 ∧ 0 ≤ r.1 ∧ (1 ≤ n → r.1 < n) := fun a b => pick_tot k (by omega) hs a (by omega)
  have pw : ∀ {n : Int}, 0 ≤ n → n ≤ 30 → 0 < (2 : Int) ^ n.toNat ∧ (2 : Int) ^ n.toNat ≤ 1073741824 := fun {n} a b => by
    refine ⟨Int.pow_pos (by decide), ?_⟩
    have := Nat.pow_le_pow_right (n := 2) (by omega) (show n.toNat ≤ 30 by omega)
    have h : ((2 ^ n.toNat : Nat) : Int) ≤ ((2 ^ 30 : Nat) : Int) := by exact_mod_cast this
    simpa using h
  unfold spec_l1Rd_num.f
  refine Tot.then (go h0 (by omega)) ?_
  rintro ⟨x, q⟩ ⟨hq, x0, x1⟩
  dsimp only at hq x0 x1 ⊢
  subst hq
  refine Tot.ite (fun _ => ?_) fun _ => Tot.ite (fun _ => ?_) fun _ => Tot.ite (fun _ => ?_) fun _ => Tot.ite (fun _ => ?_) fun _ => Tot.ite (fun _ => ?_) fun _ => ?_
  · refine Tot.then (go (by omega) (by omega)) ?_
    rintro ⟨y, q⟩ ⟨hq, y0, y1⟩
    dsimp only at hq y0 y1 ⊢
    subst hq
    rw [wrap64_id (by omega) (by omega)]
    exact Tot.here ⟨by dsimp only; omega, by dsimp only; omega, by dsimp only; omega, by dsimp only; omega⟩
  · refine Tot.then (go (by omega) (by omega)) ?_
    rintro ⟨y, q⟩ ⟨hq, y0, y1⟩
    dsimp only at hq y0 y1 ⊢
    subst hq
    rw [wrap64_id (by omega) (by omega)]
    exact Tot.here ⟨by dsimp only; omega, by dsimp only; omega, by dsimp only; omega, by dsimp only; omega⟩
  · refine Tot.then (go (by omega) (by omega)) ?_
    rintro ⟨y, q⟩ ⟨hq, y0, y1⟩
    dsimp only at hq y0 y1 ⊢
    subst hq
    rw [wrap64_id (by omega) (by omega)]
    exact Tot.here ⟨by dsimp only; omega, by dsimp only; omega, by dsimp only; omega, by dsimp only; omega⟩
  · refine Tot.then (go (by omega) (by omega)) ?_
    rintro ⟨y, q⟩ ⟨hq, y0, y1⟩
    dsimp only at hq y0 y1 ⊢
    subst hq
    rw [power_eq k hk y0 (by omega)]
    simp only [Option.bind_some]
    have e := pw y0 (by omega)
    generalize (2 : Int) ^ y.toNat = z at *
    refine Tot.then (go (by omega) (by omega)) ?_
    rintro ⟨y', q⟩ ⟨hq, y0', y1'⟩
    dsimp only at hq y0' y1' ⊢
    subst hq
    rw [wrap64_id (x := z + y') (by omega) (by omega), wrap64_id (by omega) (by omega)]
    exact Tot.here ⟨by dsimp only; omega, by dsimp only; omega, by dsimp only; omega, by dsimp only; omega⟩
  · refine Tot.then (go (by omega) (by omega)) ?_
    rintro ⟨y, q⟩ ⟨hq, y0, y1⟩
    dsimp only at hq y0 y1 ⊢
    subst hq
    rw [power_eq k hk y0 (by omega)]
    simp only [Option.bind_some]
    have e := pw y0 (by omega)
    generalize (2 : Int) ^ y.toNat = z at *
    refine Tot.then (go (by omega) (by omega)) ?_
    rintro ⟨y', q⟩ ⟨hq, y0', y1'⟩
    dsimp only at hq y0' y1' ⊢
    subst hq
    rw [wrap64_id (x := -z) (by omega) (by omega), wrap64_id (x := -z + y') (by omega) (by omega), wrap64_id (by omega) (by omega)]
    exact Tot.here ⟨by dsimp only; omega, by dsimp only; omega, by dsimp only; omega, by dsimp only; omega⟩
  · refine (num_l0 hs 4 k 0 0 _ (by omega) (by omega) (by omega) (by omega) (by omega) (by omega)).mono ?_
    rintro ⟨y, q⟩ ⟨h1, h2⟩
    exact ⟨by dsimp only at h1 ⊢; omega, by dsimp only at h1 ⊢; omega, h2⟩
/-! spec_l1Rd_wild -/
theorem wild_tot (k : Nat) (hk : 42 ≤ k) {s : List Int} {p : Int} (hs : Bytes s) (h0 : 0 ≤ p) (h1 : p ≤ 999999999) :
    Tot (spec_l1Rd_wild.f k s p) fun r => p < r.2 ∧ r.2 ≤ p + 6 ∧ -9223372036854775808 ≤ r.1 ∧ r.1 ≤ 9223372036854775807 := by
  have go : ∀ {n q : Int}, 0 ≤ q → q ≤ 1000000010 → Tot (spec_l1Rd_pick.f k s q n) fun r => r.2 = q + 1 ∧ 0 ≤ r.1 ∧ (1 ≤ n → r.1 < n) := fun a b => pick_tot k (by omega) hs a (by omega)
  unfold spec_l1Rd_wild.f
  refine Tot.then (go h0 (by omega)) ?_
  rintro ⟨x, q⟩ ⟨hq, x0, x1⟩
  dsimp only at hq x0 x1 ⊢
  subst hq
  refine Tot.ite (fun _ => ?_) fun _ => Tot.ite (fun _ => ?_) fun _ => Tot.ite (fun _ => ?_) fun _ => Tot.ite (fun _ => ?_) fun _ => ?_
  iterate 4
    · refine Tot.then (go (by omega) (by omega)) ?_
      rintro ⟨y, q⟩ ⟨hq, y0, y1⟩
      dsimp only at hq y0 y1 ⊢
      subst hq
      exact Tot.here ⟨by dsimp only; omega, by dsimp only; omega, (wrap64_in _).1, (wrap64_in _).2⟩
  · refine Tot.then (num_tot k hk hs (by omega) (by omega)) ?_
    rintro ⟨y, q⟩ ⟨hq, hq', y0, y1⟩
    dsimp only at hq hq' y0 y1 ⊢
    exact Tot.here ⟨by dsimp only; omega, by dsimp only; omega, by dsimp only; omega, by dsimp only; omega⟩
/-! impl_NumOk -/
theorem numOk_eq (v : Int) : impl_NumOk.f v = some (decide (NOk v)) := by
  unfold impl_NumOk.f
  by_cases h : v ≥ -2147483648
  · rw [if_pos h]; exact dcl (by (try unfold NOk); omega)
  · rw [if_neg h]; exact dfl (by (try unfold NOk); omega)
/-! spec_l1In -/
theorem sin_eq (v a b : Int) : spec_l1In.f v a b = some (decide (a ≤ v ∧ v ≤ b)) := by
  unfold spec_l1In.f
  by_cases h : v ≥ a
  · rw [if_pos h]; exact dcl (by (try unfold NOk); omega)
  · rw [if_neg h]; exact dfl (by (try unfold NOk); omega)
/-! spec_NumOk -/
theorem snumOk_eq (v : Int) : spec_NumOk.f v = some (decide (NOk v)) := by
  unfold spec_NumOk.f
  rw [sin_eq]; exact dcl Iff.rfl
/-! laws_at -/
theorem at_tot {l : List Int} (hl : Bytes l) {i : Int} (h0 : 0 ≤ i) (h1 : i ≤ 1000000000) : Tot (laws_at.f l i) fun r => 0 ≤ r ∧ r ≤ 255 := by
  unfold laws_at.f
  refine Tot.ite (fun h => Tot.here (by omega)) fun h => ?_
  have hlen : 0 < (l.length : Int) := by omega
  refine Tot.ite (fun h => ?_) fun h => ?_
  · rw [if_pos h0]; exact Tot.here (hl.byte i)
  · have m1 := tmod_nonneg (b := (l.length : Int)) h0
    have m2 := tmod_lt (a := i) hlen
    have q1 : wrap64 (i * 5) = i * 5 := wrap64_id (by omega) (by omega)
    have q2 : wrap64 (i * 5 + 1) = i * 5 + 1 := wrap64_id (by omega) (by omega)
    have m3 := tmod_nonneg (b := (l.length : Int)) (a := i * 5 + 1) (by omega)
    have m4 := tmod_lt (a := i * 5 + 1) hlen
    rw [if_pos m1, if_pos m2, q1, q2, if_pos m3, if_pos m4]
    exact Tot.here (by omega)
/-! laws_wide -/
theorem wide_tot {l : List Int} (hl : Bytes l) {i : Int} (h0 : 0 ≤ i) (h1 : i ≤ 100000000) : Tot (laws_wide.f l i) fun r => 0 ≤ r ∧ r < 4294967296 := by
  unfold laws_wide.f
  rw [wrap64_id (x := i + 1) (by omega) (by omega), wrap64_id (x := i + 2) (by omega) (by omega), wrap64_id (x := i + 3) (by omega) (by omega)]
  refine Tot.then (at_tot hl h0 (by omega)) fun a ha => Tot.then (at_tot hl (by omega) (by omega)) fun b hb => Tot.then (at_tot hl (by omega) (by omega)) fun c hc => Tot.then (at_tot hl (by omega) (by omega)) fun d hd => ?_
  rw [wrap64_id (x := a) (by omega) (by omega), wrap64_id (x := b) (by omega) (by omega), wrap64_id (x := c) (by omega) (by omega), wrap64_id (x := d) (by omega) (by omega)]
  rw [wrap64_id (x := a * 16777216) (by omega) (by omega), wrap64_id (x := b * 65536) (by omega) (by omega), wrap64_id (x := c * 256) (by omega) (by omega)]
  have e : (2 : Int) ^ 32 = 4294967296 := by decide
  have r1 := bits_or_nonneg (x := a * 16777216) (y := b * 65536) (n := 32) (by omega) (by omega) (by omega) (by omega) (by omega)
  have r2 := bits_or_nonneg (y := c * 256) (n := 32) (by omega) r1.1 r1.2 (by omega) (by omega)
  have r3 := bits_or_nonneg (y := d) (n := 32) (by omega) r2.1 r2.2 (by omega) (by omega)
  exact Tot.here ⟨r3.1, by omega⟩
/-! impl_RestOk -/
theorem restOk_eq (m a : Int) : impl_RestOk.f m a = some (decide (SOk m a)) := by
  unfold impl_RestOk.f
  rw [numOk_eq]
  simp only [Option.bind_some]
  by_cases c : m = 0
  · rw [if_pos c]; exact dcl ⟨fun h => Or.inl ⟨c, h⟩, fun h => h.zero c⟩
  · rw [if_neg c]
    have e : SOk m a ↔ (1 ≤ m ∧ m ≤ 65536 ∧ 0 ≤ a ∧ a < m) := by
      unfold SOk; constructor
      · intro h; rcases h with h | h
        · exact absurd h.1 c
        · exact h.2
      · intro h; exact Or.inr ⟨c, h⟩
    by_cases c1 : m ≥ 1
    · rw [if_pos c1]
      by_cases c2 : m ≤ 65536
      · rw [if_pos c2]
        by_cases c3 : a ≥ 0
        · rw [if_pos c3]; exact dcl (by rw [e]; omega)
        · rw [if_neg c3]; exact dfl (by rw [e]; omega)
      · rw [if_neg c2]; exact dfl (by rw [e]; omega)
    · rw [if_neg c1]; exact dfl (by rw [e]; omega)
/-! spec_RestOk -/
theorem srestOk_eq (m a : Int) : spec_RestOk.f m a = some (decide (SOk m a)) := by
  unfold spec_RestOk.f
  rw [snumOk_eq, sin_eq, sin_eq]
  simp only [Option.bind_some]
  by_cases c : m = 0
  · rw [if_pos c]; exact dcl ⟨fun h => Or.inl ⟨c, h⟩, fun h => h.zero c⟩
  · rw [if_neg c]
    have e : SOk m a ↔ (1 ≤ m ∧ m ≤ 65536 ∧ 0 ≤ a ∧ a < m) := by
      unfold SOk; constructor
      · intro h; rcases h with h | h
        · exact absurd h.1 c
        · exact h.2
      · intro h; exact Or.inr ⟨c, h⟩
    by_cases c1 : 1 ≤ m ∧ m ≤ 65536
    · simp only [c1, decide_true, if_true, and_self]
      rw [wrap64_id (by omega) (by omega)]; exact dcl (by rw [e]; omega)
    · simp only [c1, decide_false, Bool.false_eq_true, if_false]; exact dfl (by rw [e]; omega)
/-! impl_restAll -/
theorem restAll_eq : impl_restAll.f = some (1, 0) := rfl
/-! spec_l9All -/
theorem srestAll_eq : spec_l9All.f = some (1, 0) := rfl
/-! impl_restMod -/
theorem restMod_eq {n m : Int} (hm : 0 < m) (h : m ≤ 9223372036854775807) : impl_restMod.f n m = some (n % m) := mod_eq hm h
/-! impl_restGcd -/
theorem tmod_gcd (g n : Int) : Int.gcd n (Int.tmod g n) = Int.gcd g n := by
  rw [Int.gcd_eq_natAbs_gcd_natAbs, Int.gcd_eq_natAbs_gcd_natAbs, Int.natAbs_tmod, Nat.gcd_comm g.natAbs, Nat.gcd_comm n.natAbs (g.natAbs % n.natAbs), ← Nat.gcd_rec]
theorem gcd_l1 {xs : List Int} {len i r : Int} (K : Nat) : ∀ (d k : Nat) (g n : Int), n.natAbs ≤ d → K + d + 1 ≤ k →
    (∀ (k' : Nat) (g' : Int), K ≤ k' → g'.natAbs = Int.gcd g n → impl_restGcd.l0 k' g' xs len (wrap64 (i + 1)) = some r) → impl_restGcd.l1 k g n xs len i = some r := by
  intro d
  induction d with
  | zero =>
    intro k g n hn hk h
    obtain ⟨k, rfl⟩ : ∃ m, k = m + 1 := ⟨k - 1, by omega⟩
    have : n = 0 := by omega
    subst this
    simp only [impl_restGcd.l1, if_true]
    exact h k g (by omega) (by simp)
  | succ d ih =>
    intro k g n hn hk h
    obtain ⟨k, rfl⟩ : ∃ m, k = m + 1 := ⟨k - 1, by omega⟩
    simp only [impl_restGcd.l1]
    by_cases c : n = 0
    · subst c
      rw [if_pos rfl]
      exact h k g (by omega) (by simp)
    · rw [if_neg c]
      have : (Int.tmod g n).natAbs < n.natAbs := by rw [Int.natAbs_tmod]; exact Nat.mod_lt _ (by omega)
      refine ih k n (Int.tmod g n) (by omega) (by omega) ?_
      rw [tmod_gcd]; exact fun k' g' => h k' g'
def gcds (g : Nat) (xs : List Int) : Nat := xs.foldl (fun g n => Nat.gcd g n.natAbs) g
theorem gcd_l0 (xs : List Int) (hx : ∀ x ∈ xs, x.natAbs ≤ 9223372036854775807) (hl : xs.length ≤ 1000) : ∀ (d k : Nat) (g i : Int), 0 ≤ i → i ≤ xs.length → ((xs.length : Int) - i = d) → d * 9223372036854775900 + 2 ≤ k → g.natAbs ≤ 9223372036854775807 →
    impl_restGcd.l0 k g xs (xs.length : Int) i = some ((gcds g.natAbs (xs.drop i.toNat) : Nat) : Int) := by
  intro d
  induction d with
  | zero =>
    intro k g i h0 h1 hd hk hg
    obtain ⟨k, rfl⟩ : ∃ m, k = m + 1 := ⟨k - 1, by omega⟩
    simp only [impl_restGcd.l0]
    rw [if_neg (by omega), List.drop_of_length_le (by omega)]
    simp only [gcds, List.foldl_nil]
    by_cases c : g < 0
    · rw [if_pos c, wrap64_id (by omega) (by omega)]; congr 1; omega
    · rw [if_neg c]; congr 1; omega
  | succ d ih =>
    intro k g i h0 h1 hd hk hg
    obtain ⟨k, rfl⟩ : ∃ m, k = m + 1 := ⟨k - 1, by omega⟩
    simp only [impl_restGcd.l0]
    rw [if_pos (by omega), if_pos h0, if_pos (by omega), drop_rd h0 (by omega)]
    have hm : rd xs i ∈ xs := by
      have := drop_rd (xs := xs) h0 (by omega)
      exact List.mem_of_mem_drop (by rw [this]; exact List.mem_cons_self ..)
    have hn := hx _ hm
    generalize rd xs i = n at *
    have e : (i + 1).toNat = i.toNat + 1 := by omega
    refine gcd_l1 (d * 9223372036854775900 + 2) n.natAbs k g n (Nat.le_refl _) (by omega) ?_
    intro k' g' hk' hg'
    have le : g'.natAbs ≤ 9223372036854775807 := by
      rw [hg', Int.gcd_eq_natAbs_gcd_natAbs]
      rcases Nat.eq_zero_or_pos g.natAbs with z | z
      · rw [z, Nat.gcd_zero_left]; exact hn
      · exact Nat.le_trans (Nat.gcd_le_left _ z) hg
    rw [wrap64_id (by omega) (by omega), ih k' g' (i + 1) (by omega) (by omega) (by omega) hk' le, e, hg']
    rfl
theorem restGcd_eq (k : Nat) (xs : List Int) (hk : xs.length * 9223372036854775900 + 2 ≤ k) (hx : ∀ x ∈ xs, x.natAbs ≤ 9223372036854775807) (hl : xs.length ≤ 1000) : impl_restGcd.f k xs = some ((gcds 0 xs : Nat) : Int) := by
  unfold impl_restGcd.f
  rw [gcd_l0 xs hx hl xs.length k 0 0 (by omega) (by omega) (by omega) hk (by decide)]
  simp
theorem restGcd2 (k : Nat) (hk : 100000000000000000000 ≤ k) {a b : Int} (ha : a.natAbs ≤ 9223372036854775807) (hb : b.natAbs ≤ 9223372036854775807) : impl_restGcd.f k [a, b] = some ((Int.gcd a b : Nat) : Int) := by
  rw [restGcd_eq k _ (by simp; omega) (by intro x hx; simp at hx; rcases hx with rfl | rfl <;> assumption) (by simp)]
  simp [gcds, Int.gcd_eq_natAbs_gcd_natAbs]
theorem restGcd3 (k : Nat) (hk : 100000000000000000000 ≤ k) {a b c : Int} (ha : a.natAbs ≤ 9223372036854775807) (hb : b.natAbs ≤ 9223372036854775807) (hc : c.natAbs ≤ 9223372036854775807) :
    impl_restGcd.f k [a, b, c] = some ((Int.gcd (Int.gcd a b : Int) c : Nat) : Int) := by
  rw [restGcd_eq k _ (by simp; omega) (by intro x hx; simp at hx; rcases hx with rfl | rfl | rfl <;> assumption) (by simp)]
  simp [gcds, Int.gcd_eq_natAbs_gcd_natAbs]
/-! impl_restOf -/
theorem restOf_eq (k : Nat) (hk : 100000000000000000000 ≤ k) (n : Int) {m : Int} (h0 : 0 ≤ m) (h1 : m ≤ 9223372036854775807) : impl_restOf.f k n m = some (SOf n m) := by
  unfold impl_restOf.f SOf SCut
  by_cases c : m > 65536
  · have g := gcd_le_65536 c
    simp only [if_pos c]
    rw [restGcd2 k hk (by omega) (by omega)]
    simp only [Option.bind_some]
    rw [if_neg (by omega), if_neg (by omega), restMod_eq (by omega) (by omega)]
    rfl
  · simp only [if_neg c]
    by_cases c0 : m = 0
    · rw [if_pos c0, if_pos c0]
    · rw [if_neg c0, if_neg c0, restMod_eq (by omega) (by omega)]
      rfl
/-! impl_RestHas -/
theorem restHas_eq (k : Nat) (hk : 1 ≤ k) (m a v : Int) : impl_RestHas.f k m a v = some (decide (SHas m a v)) := by
  obtain ⟨k, rfl⟩ : ∃ m, k = m + 1 := ⟨k - 1, by omega⟩
  unfold impl_RestHas.f
  rw [restOk_eq, numOk_eq]
  simp only [Option.bind_some]
  by_cases c : SOk m a
  case neg => simp only [c, decide_false, Bool.false_eq_true, if_false, impl_RestHas.j0, if_true]; exact dfl (fun h => c h.1)
  by_cases c1 : NOk v
  case neg => simp only [c, c1, decide_true, decide_false, Bool.not_false, impl_RestHas.j0, if_true]; exact dfl (fun h => c1 h.2.1)
  simp only [c, c1, decide_true, if_true, Bool.not_true, impl_RestHas.j0, Bool.false_eq_true, if_false]
  by_cases c2 : m = 0
  · rw [if_pos c2]
    by_cases c3 : v = a
    · subst c3
      have : SHas m v v := ⟨c, c1, Or.inl ⟨c2, rfl⟩⟩
      simp only [this, decide_true, beq_self_eq_true]
    · have : ¬ SHas m a v := fun h => by rcases h.2.2 with h | h; exact c3 h.2; exact h.1 c2
      simp [c3, this]
  · have p := c.pos c2
    rw [if_neg c2, restMod_eq (by omega) (by omega)]
    simp only [Option.bind_some]
    by_cases c3 : v % m = a
    · have : SHas m a v := ⟨c, c1, Or.inr ⟨c2, c3⟩⟩
      simp only [this, decide_true, c3, beq_self_eq_true]
    · have : ¬ SHas m a v := fun h => by rcases h.2.2 with h | h; exact c2 h.1; exact c3 h.2
      simp [c3, this]
/-! spec_RestHas -/
theorem srestHas_eq (k : Nat) (hk : 1 ≤ k) (m a v : Int) : spec_RestHas.f k m a v = some (decide (SHas m a v)) := by
  obtain ⟨k, rfl⟩ : ∃ m, k = m + 1 := ⟨k - 1, by omega⟩
  unfold spec_RestHas.f
  rw [srestOk_eq, snumOk_eq]
  simp only [Option.bind_some]
  by_cases c : SOk m a
  case neg => simp only [c, decide_false, Bool.false_eq_true, if_false, spec_RestHas.j0, if_true]; exact dfl (fun h => c h.1)
  by_cases c1 : NOk v
  case neg => simp only [c, c1, decide_true, decide_false, Bool.not_false, spec_RestHas.j0, if_true]; exact dfl (fun h => c1 h.2.1)
  simp only [c, c1, decide_true, if_true, Bool.not_true, spec_RestHas.j0, Bool.false_eq_true, if_false]
  by_cases c2 : m = 0
  · rw [if_pos c2]
    by_cases c3 : v = a
    · subst c3
      have : SHas m v v := ⟨c, c1, Or.inl ⟨c2, rfl⟩⟩
      simp only [this, decide_true, beq_self_eq_true]
    · have : ¬ SHas m a v := fun h => by rcases h.2.2 with h | h; exact c3 h.2; exact h.1 c2
      simp [c3, this]
  · have p := c.pos c2
    rw [if_neg c2, mod_eq (by omega) (by omega)]
    simp only [Option.bind_some]
    by_cases c3 : v % m = a
    · have : SHas m a v := ⟨c, c1, Or.inr ⟨c2, c3⟩⟩
      simp only [this, decide_true, c3, beq_self_eq_true]
    · have : ¬ SHas m a v := fun h => by rcases h.2.2 with h | h; exact c2 h.1; exact c3 h.2
      simp [c3, this]
/-! impl_RestIn -/
theorem restIn_eq (k : Nat) (hk : 1 ≤ k) (m a m' a' : Int) : impl_RestIn.f k m a m' a' = some (decide (SIn m a m' a')) := by
  obtain ⟨k, rfl⟩ : ∃ m, k = m + 1 := ⟨k - 1, by omega⟩
  unfold impl_RestIn.f
  rw [restOk_eq, restOk_eq]
  simp only [Option.bind_some]
  by_cases c : SOk m a
  case neg => simp only [c, decide_false, Bool.false_eq_true, if_false, impl_RestIn.j0, if_true]; exact dfl (fun h => c h.1)
  by_cases c1 : SOk m' a'
  case neg => simp only [c, c1, decide_true, decide_false, Bool.not_false, impl_RestIn.j0, if_true]; exact dfl (fun h => c1 h.2.1)
  simp only [c, c1, decide_true, if_true, Bool.not_true, impl_RestIn.j0, Bool.false_eq_true, if_false]
  by_cases c2 : m' = 0
  · rw [if_pos c2]
    have e : SIn m a m' a' ↔ m = m' ∧ a = a' := ⟨fun h => by rcases h.2.2 with h | h; exact h.2; exact absurd c2 h.1, fun h => ⟨c, c1, Or.inl ⟨c2, h⟩⟩⟩
    have : (m == m' && a == a') = decide (SIn m a m' a') := by
      rw [Bool.eq_iff_iff]; simp [e]
    rw [this]
  · have p := c1.pos c2
    have q := c.nok
    rw [if_neg c2, restMod_eq (by omega) (by omega), Int.tmod_eq_emod_of_nonneg (by omega)]
    simp only [Option.bind_some]
    have e : SIn m a m' a' ↔ m % m' = 0 ∧ a % m' = a' := ⟨fun h => by rcases h.2.2 with h | h; exact absurd h.1 c2; exact h.2, fun h => ⟨c, c1, Or.inr ⟨c2, h⟩⟩⟩
    by_cases c3 : m % m' = 0
    · rw [if_pos c3]
      have : (a % m' == a') = decide (SIn m a m' a') := by
        rw [Bool.eq_iff_iff]; simp [e, c3]
      rw [this]
    · rw [if_neg c3]; exact dfl (fun h => c3 (e.mp h).1)
/-! impl_RestJoin -/
theorem restJoin_eq (k : Nat) (hk : 200000000000000000000 ≤ k) (m a m' a' : Int) : impl_RestJoin.f k m a m' a' = some (SJoin m a m' a') := by
  obtain ⟨k, rfl⟩ : ∃ m, k = m + 1 := ⟨k - 1, by omega⟩
  unfold impl_RestJoin.f SJoin
  rw [restOk_eq, restOk_eq]
  simp only [Option.bind_some]
  by_cases c : SOk m a
  case neg => simp [c, impl_RestJoin.j0, restAll_eq]
  by_cases c1 : SOk m' a'
  case neg => simp [c, c1, impl_RestJoin.j0, restAll_eq]
  simp only [c, c1, decide_true, if_true, Bool.not_true, impl_RestJoin.j0, Bool.false_eq_true, if_false, not_true, or_self]
  have q := c.nok
  have q' := c1.nok
  unfold NOk at q q'
  rw [wrap64_id (by omega) (by omega), restGcd3 k (by omega) (by omega) (by omega) (by omega)]
  simp only [Option.bind_some]
  have le : (Int.gcd (Int.gcd m m' : Int) (a - a') : Int) ≤ 9223372036854775807 := by
    by_cases z : a - a' = 0
    · rw [z, Int.gcd_zero]
      by_cases y : m = 0
      · rw [y, Int.zero_gcd]; omega
      · have := Int.gcd_le_left (a := m) m' (by omega); omega
    · have := Int.gcd_le_natAbs_right (b := a - a') (Int.gcd m m' : Int) z; omega
  rw [restOf_eq k (by omega) _ (by omega) le]
  rfl
/-! impl_RestMeet -/
theorem meet_l0 {p m a m' a' x : Int} (hm : 1 ≤ m) (hm1 : m ≤ 65536) (hm' : 1 ≤ m') (hm1' : m' ≤ 65536) (hx : Both m a m' a' x) (hp : (Int.lcm m m' : Int) ≤ 65536) : ∀ (d k : Nat) (at' : Int), 0 ≤ at' → at' ≤ x → at' % m = a → (x - at').toNat ≤ d → d < k →
    impl_RestMeet.l0 k p at' m a m' a' = some (p, x, true) := by
  intro d
  induction d with
  | zero =>
    intro k y h0 h1 h2 hd hk
    obtain ⟨k, rfl⟩ : ∃ m, k = m + 1 := ⟨k - 1, by omega⟩
    have : y = x := by omega
    subst this
    simp only [impl_RestMeet.l0]
    rw [restMod_eq (by omega) (by omega), hx.2.2.2]
    simp
  | succ d ih =>
    intro k y h0 h1 h2 hd hk
    obtain ⟨k, rfl⟩ : ∃ m, k = m + 1 := ⟨k - 1, by omega⟩
    simp only [impl_RestMeet.l0]
    rw [restMod_eq (by omega) (by omega)]
    simp only [Option.bind_some]
    have hx1 := hx.2.1
    by_cases c : y % m' = a'
    · rw [if_pos c, both_unique (⟨h0, by omega, h2, c⟩ : Both m a m' a' y) hx]
    · rw [if_neg c, wrap64_id (by omega) (by omega)]
      have ne : y ≠ x := fun e => c (by rw [e]; exact hx.2.2.2)
      have d1 : m ∣ x - y := Int.dvd_of_emod_eq_zero ((Int.emod_eq_emod_iff_emod_sub_eq_zero).mp (hx.2.2.1.trans h2.symm))
      have le := Int.le_of_dvd (by omega) d1
      exact ih k (y + m) (by omega) (by omega) (by rw [Int.add_emod_right]; exact h2) (by omega) (by omega)
theorem lcm_div {m m' : Int} (hm : 1 ≤ m) (hm' : 1 ≤ m') : Int.tdiv m (Int.gcd m m' : Int) * m' = (Int.lcm m m' : Int) := by
  have g := Int.gcd_pos_of_ne_zero_left (a := m) m' (by omega)
  have d : (Int.gcd m m' : Int) ∣ m := Int.gcd_dvd_left _ _
  rw [Int.tdiv_eq_ediv_of_nonneg (by omega)]
  obtain ⟨t, ht⟩ := d
  have e : m / (Int.gcd m m' : Int) = t := by
    have e6 : (Int.gcd m m' : Int) ≠ 0 := by clear ht; omega
    exact Int.ediv_eq_of_eq_mul_right e6 ht
  rw [e, Int.lcm_eq_mul_div]
  have nm : (m.natAbs : Int) = m := by omega
  have nm' : (m'.natAbs : Int) = m' := by omega
  push_cast
  rw [nm, nm']
  have e5 : m * m' = (Int.gcd m m' : Int) * (t * m') := by rw [← Int.mul_assoc, ← ht]
  have e6 : (Int.gcd m m' : Int) ≠ 0 := by omega
  rw [e5, Int.mul_ediv_cancel_left _ e6]
theorem lcm_small {m m' : Int} (hm : 1 ≤ m) (hm1 : m ≤ 65536) (hm' : 1 ≤ m') (hm1' : m' ≤ 65536) : Int.tdiv m (Int.gcd m m' : Int) ≤ 65536 ∧ 0 ≤ Int.tdiv m (Int.gcd m m' : Int) ∧ (Int.lcm m m' : Int) ≤ 4294967296 := by
  have g := Int.gcd_pos_of_ne_zero_left (a := m) m' (by omega)
  have l := Int.lcm_le_natAbs_mul (a := m) (b := m') (by omega) (by omega)
  have : m.natAbs * m'.natAbs ≤ 65536 * 65536 := Nat.mul_le_mul (by omega) (by omega)
  refine ⟨?_, tdiv_nonneg (by omega) (by omega), by omega⟩
  have := tdiv_le (a := m) (b := (Int.gcd m m' : Int)) (by omega) (by omega)
  omega
theorem restMeet_eq (k : Nat) (hk : 200000000000000000000 ≤ k) (m a m' a' : Int) : impl_RestMeet.f k m a m' a' = some (SMeet m a m' a') := by
  obtain ⟨k, rfl⟩ : ∃ m, k = m + 3 := ⟨k - 3, by omega⟩
  unfold impl_RestMeet.f SMeet
  rw [restOk_eq, restOk_eq]
  simp only [Option.bind_some]
  by_cases c : SOk m a
  case neg => simp [c, impl_RestMeet.j0]
  by_cases c1 : SOk m' a'
  case neg => simp [c, c1, impl_RestMeet.j0]
  simp only [c, c1, decide_true, if_true, Bool.not_true, impl_RestMeet.j0, Bool.false_eq_true, if_false, not_true, or_self]
  rw [restHas_eq _ (by omega), restHas_eq _ (by omega)]
  simp only [Option.bind_some, decide_eq_true_eq]
  by_cases c2 : m = 0
  · rw [if_pos c2, if_pos c2]; split <;> rfl
  rw [if_neg c2, if_neg c2]
  by_cases c3 : m' = 0
  · rw [if_pos c3, if_pos c3]; split <;> rfl
  rw [if_neg c3, if_neg c3]
  have p := c.pos c2
  have p' := c1.pos c3
  have g := Int.gcd_pos_of_ne_zero_left (a := m) m' (by omega)
  have gl := Int.gcd_le_left (a := m) m' (by omega)
  rw [restGcd2 _ (by omega) (by omega) (by omega)]
  simp only [Option.bind_some]
  rw [if_neg (by omega), wrap64_id (x := a - a') (by omega) (by omega)]
  have tm : Int.tmod (a - a') (Int.gcd m m' : Int) = 0 ↔ (a - a') % (Int.gcd m m' : Int) = 0 := by
    rw [← Int.dvd_iff_tmod_eq_zero, Int.dvd_iff_emod_eq_zero]
  by_cases c4 : (a - a') % (Int.gcd m m' : Int) = 0
  case neg => rw [if_neg (fun h => c4 (tm.mp h)), if_pos c4]
  rw [if_pos (tm.mpr c4), if_neg (fun h => h c4 : ¬ ¬ (a - a') % (Int.gcd m m' : Int) = 0)]
  have dv : (Int.gcd m m' : Int) ∣ a - a' := Int.dvd_of_emod_eq_zero c4
  obtain ⟨x, hx⟩ := both_exists p.1 p'.1 p.2.2.1 p.2.2.2 p'.2.2.1 p'.2.2.2 dv
  have J : ∀ (M A M' A' : Int), 1 ≤ M → M ≤ 65536 → 1 ≤ M' → M' ≤ 65536 → 0 ≤ A → A < M → (Int.gcd M M' = Int.gcd m m') → (Int.lcm M M' = Int.lcm m m') → Both M A M' A' x →
      impl_RestMeet.j1 (k + 2) (Int.gcd m m' : Int) M A M' A' = some (if (Int.lcm m m' : Int) > 65536 then (M, A, true) else ((Int.lcm m m' : Int), x, true)) := by
    intro M A M' A' h1 h2 h3 h4 h5 h6 hg hl hb
    have ls := lcm_small h1 h2 h3 h4
    have ld := lcm_div h1 h3
    rw [hg] at ls ld
    rw [hl] at ls ld
    simp only [impl_RestMeet.j1]
    rw [if_neg (by omega), wrap64_id (x := Int.tdiv M (Int.gcd m m' : Int)) (by omega) (by omega), ld, wrap64_id (by omega) (by omega)]
    by_cases cl : (Int.lcm m m' : Int) > 65536
    · rw [if_pos cl, if_pos cl]
    · rw [if_neg cl, if_neg cl]
      have e : A % M = A := Int.emod_eq_of_lt h5 h6
      have le : A ≤ x := by
        have := hb.2.2.1
        have d1 := Int.mul_ediv_add_emod x M
        have d2 := Int.ediv_nonneg hb.1 (show 0 ≤ M by omega)
        have d3 : 0 ≤ M * (x / M) := Int.mul_nonneg (by omega) d2
        omega
      have hx1 := hb.2.1
      rw [hl] at hx1
      exact meet_l0 h1 h2 h3 h4 hb (by rw [hl]; omega) (x - A).toNat (k + 1) A h5 le e (by omega) (by omega)
  by_cases c5 : m' > m
  · rw [if_pos c5, J m' a' m a p'.1 p'.2.1 p.1 p.2.1 p'.2.2.1 p'.2.2.2 (Int.gcd_comm _ _) (Int.lcm_comm _ _) (both_swap hx), bothOf_eq hx]
    by_cases cl : (Int.lcm m m' : Int) > 65536
    · rw [if_pos cl, if_pos cl, if_pos c5]
    · rw [if_neg cl, if_neg cl]
  · rw [if_neg c5, J m a m' a' p.1 p.2.1 p'.1 p'.2.1 p.2.2.1 p.2.2.2 rfl rfl hx, bothOf_eq hx]
    by_cases cl : (Int.lcm m m' : Int) > 65536
    · rw [if_pos cl, if_pos cl, if_neg c5]
    · rw [if_neg cl, if_neg cl]
/-! spec_l9Gcd -/
theorem sgcd_l0 : ∀ (d k : Nat) (a b : Int), 0 ≤ a → 0 ≤ b → b.toNat ≤ d → d < k → spec_l9Gcd.l0 k a b = some ((Int.gcd a b : Nat) : Int) := by
  intro d
  induction d with
  | zero =>
    intro k a b h0 h1 hd hk
    obtain ⟨k, rfl⟩ : ∃ m, k = m + 1 := ⟨k - 1, by omega⟩
    have : b = 0 := by omega
    subst this
    simp only [spec_l9Gcd.l0, if_true, Int.gcd_zero]; congr 1; omega
  | succ d ih =>
    intro k a b h0 h1 hd hk
    obtain ⟨k, rfl⟩ : ∃ m, k = m + 1 := ⟨k - 1, by omega⟩
    simp only [spec_l9Gcd.l0]
    by_cases c : b = 0
    · subst c
      rw [if_pos rfl, Int.gcd_zero]; congr 1; omega
    · rw [if_neg c]
      have t0 := tmod_nonneg (b := b) h0
      have t1 := tmod_lt (a := a) (b := b) (by omega)
      rw [ih k b (Int.tmod a b) h1 t0 (by omega) (by omega)]
      congr 2
      rw [Int.gcd_eq_natAbs_gcd_natAbs, Int.gcd_eq_natAbs_gcd_natAbs, Int.natAbs_tmod, Nat.gcd_comm a.natAbs, Nat.gcd_comm b.natAbs (a.natAbs % b.natAbs), ← Nat.gcd_rec]
theorem sgcd_eq (k : Nat) (hk : 100000000000000000000 ≤ k) {a b : Int} (ha : a.natAbs ≤ 9223372036854775807) (hb : b.natAbs ≤ 9223372036854775807) : spec_l9Gcd.f k a b = some ((Int.gcd a b : Nat) : Int) := by
  obtain ⟨k, rfl⟩ : ∃ m, k = m + 2 := ⟨k - 2, by omega⟩
  have L : ∀ x y : Int, 0 ≤ x → 0 ≤ y → y ≤ 9223372036854775807 → spec_l9Gcd.l0 k x y = some ((Int.gcd x y : Nat) : Int) := fun x y h h' h'' => sgcd_l0 y.toNat k x y h h' (Nat.le_refl _) (by omega)
  unfold spec_l9Gcd.f
  simp only [spec_l9Gcd.j0, spec_l9Gcd.j1]
  by_cases c : a < 0
  · rw [if_pos c, wrap64_id (x := -a) (by omega) (by omega)]
    by_cases c1 : b < 0
    · rw [if_pos c1, wrap64_id (by omega) (by omega), L _ _ (by omega) (by omega) (by omega)]; simp
    · rw [if_neg c1, L _ _ (by omega) (by omega) (by omega)]; simp
  · rw [if_neg c]
    by_cases c1 : b < 0
    · rw [if_pos c1, wrap64_id (by omega) (by omega), L _ _ (by omega) (by omega) (by omega)]; simp
    · rw [if_neg c1, L _ _ (by omega) (by omega) (by omega)]
/-! spec_l9Make -/
theorem smake_eq (k : Nat) (hk : 100000000000000000000 ≤ k) (n : Int) {m : Int} (h0 : 0 ≤ m) (h1 : m ≤ 9223372036854775807) : spec_l9Make.f k m n = some (SOf n m) := by
  unfold spec_l9Make.f SOf SCut
  by_cases c : m > 65536
  · have g := gcd_le_65536 c
    simp only [if_pos c]
    rw [sgcd_eq k hk (by omega) (by omega)]
    simp only [Option.bind_some]
    rw [if_neg (by omega), if_neg (by omega), mod_eq (by omega) (by omega)]
    rfl
  · simp only [if_neg c]
    by_cases c0 : m = 0
    · rw [if_pos c0, if_pos c0]
    · rw [if_neg c0, if_neg c0, mod_eq (by omega) (by omega)]
      rfl
/-! spec_RestJoin -/
theorem srestJoin_eq (k : Nat) (hk : 200000000000000000000 ≤ k) (m a m' a' : Int) : spec_RestJoin.f k m a m' a' = some (SJoin m a m' a') := by
  obtain ⟨k, rfl⟩ : ∃ m, k = m + 1 := ⟨k - 1, by omega⟩
  unfold spec_RestJoin.f SJoin
  rw [srestOk_eq, srestOk_eq]
  simp only [Option.bind_some]
  by_cases c : SOk m a
  case neg => simp [c, spec_RestJoin.j0, srestAll_eq]
  by_cases c1 : SOk m' a'
  case neg => simp [c, c1, spec_RestJoin.j0, srestAll_eq]
  simp only [c, c1, decide_true, if_true, Bool.not_true, spec_RestJoin.j0, Bool.false_eq_true, if_false, not_true, or_self]
  have q := c.nok
  have q' := c1.nok
  unfold NOk at q q'
  have le0 : (Int.gcd m m' : Int) ≤ 65536 := by
    by_cases y : m = 0
    · rw [y, Int.zero_gcd]; omega
    · have := Int.gcd_le_left (a := m) m' (by omega); omega
  rw [sgcd_eq k (by omega) (by omega) (by omega)]
  simp only [Option.bind_some]
  rw [wrap64_id (by omega) (by omega), sgcd_eq k (by omega) (by omega) (by omega)]
  simp only [Option.bind_some]
  have le : (Int.gcd (Int.gcd m m' : Int) (a - a') : Int) ≤ 9223372036854775807 := by
    by_cases z : a - a' = 0
    · rw [z, Int.gcd_zero]; omega
    · have := Int.gcd_le_natAbs_right (b := a - a') (Int.gcd m m' : Int) z; omega
  rw [smake_eq k (by omega) _ (by omega) le]
  rfl
/-! spec_RestMeet -/
theorem smeet_l0 {p m a m' a' x : Int} (hm : 1 ≤ m) (hm1 : m ≤ 65536) (hm' : 1 ≤ m') (hm1' : m' ≤ 65536) (hx : Both m a m' a' x) (hp : (Int.lcm m m' : Int) ≤ 65536) : ∀ (d k : Nat) (at' : Int), 0 ≤ at' → at' ≤ x → at' % m = a → (x - at').toNat ≤ d → d < k →
    spec_RestMeet.l0 k p at' m a m' a' = some (p, x, true) := by
  intro d
  induction d with
  | zero =>
    intro k y h0 h1 h2 hd hk
    obtain ⟨k, rfl⟩ : ∃ m, k = m + 1 := ⟨k - 1, by omega⟩
    have : y = x := by omega
    subst this
    simp only [spec_RestMeet.l0]
    rw [mod_eq (by omega) (by omega), hx.2.2.2]
    simp
  | succ d ih =>
    intro k y h0 h1 h2 hd hk
    obtain ⟨k, rfl⟩ : ∃ m, k = m + 1 := ⟨k - 1, by omega⟩
    simp only [spec_RestMeet.l0]
    rw [mod_eq (by omega) (by omega)]
    simp only [Option.bind_some]
    have hx1 := hx.2.1
    by_cases c : y % m' = a'
    · rw [if_pos c, both_unique (⟨h0, by omega, h2, c⟩ : Both m a m' a' y) hx]
    · rw [if_neg c, wrap64_id (by omega) (by omega)]
      have ne : y ≠ x := fun e => c (by rw [e]; exact hx.2.2.2)
      have d1 : m ∣ x - y := Int.dvd_of_emod_eq_zero ((Int.emod_eq_emod_iff_emod_sub_eq_zero).mp (hx.2.2.1.trans h2.symm))
      have le := Int.le_of_dvd (by omega) d1
      exact ih k (y + m) (by omega) (by omega) (by rw [Int.add_emod_right]; exact h2) (by omega) (by omega)
theorem slcm_div {m m' : Int} (hm : 1 ≤ m) (hm' : 1 ≤ m') : Int.tdiv m (Int.gcd m m' : Int) * m' = (Int.lcm m m' : Int) := by
  have g := Int.gcd_pos_of_ne_zero_left (a := m) m' (by omega)
  have d : (Int.gcd m m' : Int) ∣ m := Int.gcd_dvd_left _ _
  rw [Int.tdiv_eq_ediv_of_nonneg (by omega)]
  obtain ⟨t, ht⟩ := d
  have e : m / (Int.gcd m m' : Int) = t := by
    have e6 : (Int.gcd m m' : Int) ≠ 0 := by clear ht; omega
    exact Int.ediv_eq_of_eq_mul_right e6 ht
  rw [e, Int.lcm_eq_mul_div]
  have nm : (m.natAbs : Int) = m := by omega
  have nm' : (m'.natAbs : Int) = m' := by omega
  push_cast
  rw [nm, nm']
  have e5 : m * m' = (Int.gcd m m' : Int) * (t * m') := by rw [← Int.mul_assoc, ← ht]
  have e6 : (Int.gcd m m' : Int) ≠ 0 := by omega
  rw [e5, Int.mul_ediv_cancel_left _ e6]
theorem srestMeet_eq (k : Nat) (hk : 200000000000000000000 ≤ k) (m a m' a' : Int) : spec_RestMeet.f k m a m' a' = some (SMeet m a m' a') := by
  have main : ∀ (k : Nat), 150000000000000000000 ≤ k → ∀ m a m' a', (m = 0 ∨ m' ≠ 0) → spec_RestMeet.f k m a m' a' = some (SMeet m a m' a') := by
    intro k hk m a m' a' h
    obtain ⟨k, rfl⟩ : ∃ m, k = m + 2 := ⟨k - 2, by omega⟩
    unfold SMeet
    simp only [spec_RestMeet.f]
    rw [srestOk_eq, srestOk_eq]
    simp only [Option.bind_some]
    by_cases c : SOk m a
    case neg => simp [c, spec_RestMeet.j0]
    by_cases c1 : SOk m' a'
    case neg => simp [c, c1, spec_RestMeet.j0]
    simp only [c, c1, decide_true, if_true, Bool.not_true, spec_RestMeet.j0, Bool.false_eq_true, if_false, not_true, or_self]
    rw [srestHas_eq _ (by omega)]
    simp only [Option.bind_some, decide_eq_true_eq]
    by_cases c2 : m = 0
    · rw [if_pos c2, if_pos c2]; split <;> rfl
    rw [if_neg c2, if_neg c2]
    have c3 : ¬ m' = 0 := by rcases h with h | h; exact absurd h c2; exact h
    rw [if_neg c3, if_neg c3]
    have p := c.pos c2
    have p' := c1.pos c3
    have g := Int.gcd_pos_of_ne_zero_left (a := m) m' (by omega)
    have gl := Int.gcd_le_left (a := m) m' (by omega)
    rw [sgcd_eq _ (by omega) (by omega) (by omega)]
    simp only [Option.bind_some]
    rw [wrap64_id (x := a - a') (by omega) (by omega), mod_eq (by omega) (by omega)]
    simp only [Option.bind_some]
    by_cases c4 : (a - a') % (Int.gcd m m' : Int) = 0
    case neg => rw [if_neg c4, if_pos c4]
    rw [if_pos c4, if_neg (fun h => h c4 : ¬ ¬ (a - a') % (Int.gcd m m' : Int) = 0), if_neg (by omega : ¬ (Int.gcd m m' : Int) = 0)]
    obtain ⟨x, hx⟩ := both_exists p.1 p'.1 p.2.2.1 p.2.2.2 p'.2.2.1 p'.2.2.2 (Int.dvd_of_emod_eq_zero c4)
    have l := Int.lcm_le_natAbs_mul (a := m) (b := m') (by omega) (by omega)
    have l' : m.natAbs * m'.natAbs ≤ 65536 * 65536 := Nat.mul_le_mul (by omega) (by omega)
    have td := tdiv_le (a := m) (b := (Int.gcd m m' : Int)) (by omega) (by omega)
    have td0 := tdiv_nonneg (a := m) (b := (Int.gcd m m' : Int)) (by omega) (by omega)
    rw [wrap64_id (x := Int.tdiv m (Int.gcd m m' : Int)) (by omega) (by omega), slcm_div p.1 p'.1, wrap64_id (by omega) (by omega), bothOf_eq hx]
    by_cases cl : (Int.lcm m m' : Int) > 65536
    · rw [if_pos cl, if_pos cl]; split <;> rfl
    · rw [if_neg cl, if_neg cl]
      have e : a % m = a := Int.emod_eq_of_lt p.2.2.1 p.2.2.2
      have le : a ≤ x := by
        have := hx.2.2.1
        have d1 := Int.mul_ediv_add_emod x m
        have d2 := Int.ediv_nonneg hx.1 (show 0 ≤ m by omega)
        have d3 : 0 ≤ m * (x / m) := Int.mul_nonneg (by omega) d2
        omega
      have hx1 := hx.2.1
      exact smeet_l0 p.1 p.2.1 p'.1 p'.2.1 hx (by omega) (x - a).toNat _ a p.2.2.1 le e (by omega) (by omega)
  by_cases h : m = 0 ∨ m' ≠ 0
  · exact main k (by omega) m a m' a' h
  · have h1 : ¬ m = 0 := fun e => h (Or.inl e)
    have h2 : m' = 0 := Decidable.byContradiction fun e => h (Or.inr e)
    obtain ⟨k, rfl⟩ : ∃ m, k = m + 2 := ⟨k - 2, by omega⟩
    have sw := main k (by omega) m' a' m a (Or.inl h2)
    simp only [spec_RestMeet.f]
    rw [srestOk_eq, srestOk_eq]
    simp only [Option.bind_some]
    by_cases c : SOk m a
    case neg => unfold SMeet; simp [c, spec_RestMeet.j0]
    by_cases c1 : SOk m' a'
    case neg => unfold SMeet; simp [c, c1, spec_RestMeet.j0]
    simp only [c, c1, decide_true, if_true, Bool.not_true, spec_RestMeet.j0, Bool.false_eq_true, if_false, not_true, or_self]
    have e1 : SMeet m' a' m a = if SHas m a a' then (m', a', true) else (0, 0, false) := by
      unfold SMeet; rw [if_neg (by simp [c, c1]), if_pos h2]
    have e2 : SMeet m a m' a' = if SHas m a a' then (m', a', true) else (0, 0, false) := by
      unfold SMeet; rw [if_neg (by simp [c, c1]), if_neg h1, if_pos h2]
    rw [if_neg h1, if_pos h2, sw, e1, e2]
    rfl
/-! spec_l9Rest -/
theorem drawRest_tot (k : Nat) (hk : 42 ≤ k) {s : List Int} {p : Int} (hs : Bytes s) (h0 : 0 ≤ p) (h1 : p ≤ 10000000) :
    Tot (spec_l9Rest.f k s p) fun r => p < r.2.2 ∧ r.2.2 ≤ p + 10 ∧ SOk r.1 r.2.1 := by
  have go : ∀ {n q : Int}, 0 ≤ q → q ≤ 10001000 → Tot (spec_l1Rd_pick.f k s q n) fun r => r.2 = q + 1 ∧ 0 ≤ r.1 ∧ (1 ≤ n → r.1 < n) := fun a b => pick_tot k (by omega) hs a (by omega)
  unfold spec_l9Rest.f
  refine Tot.then (go h0 (by omega)) ?_
  rintro ⟨x, q⟩ ⟨hq, x0, x1⟩
  dsimp only at hq x0 x1 ⊢
  subst hq
  refine Tot.ite (fun _ => ?_) fun _ => Tot.ite (fun _ => ?_) fun _ => ?_
  · refine Tot.then (num_tot k hk hs (by omega) (by omega)) ?_
    rintro ⟨y, q⟩ ⟨hq, hq', y0, y1⟩
    dsimp only at hq hq' y0 y1 ⊢
    exact Tot.here ⟨by dsimp only; omega, by dsimp only; omega, Or.inl ⟨rfl, y0, y1⟩⟩
  · rw [srestAll_eq]
    exact Tot.here ⟨by dsimp only; omega, by dsimp only; omega, sok_all⟩
  · refine Tot.then (go (by omega) (by omega)) ?_
    rintro ⟨y, q⟩ ⟨hq, y0, y1⟩
    dsimp only at hq y0 y1 ⊢
    have y2 := y1 (by omega)
    refine Tot.ite (fun _ => ?_) fun _ => ?_
    · simp only [Option.bind_some]
      refine Tot.then (go (by omega) (by omega)) ?_
      rintro ⟨z, q'⟩ ⟨hr, z0, z1⟩
      dsimp only at hr z0 z1 ⊢
      have z2 := z1 (by omega)
      rw [if_pos z0, if_pos (by simp; omega)]
      refine Tot.then (go (by omega) (by omega)) ?_
      rintro ⟨u, q1⟩ ⟨ht, u0, u1⟩
      dsimp only at ht u0 u1 ⊢
      have u2 := u1 (by omega)
      refine Tot.then (go (by omega) (by omega)) ?_
      rintro ⟨v, q2⟩ ⟨hv, v0, v1⟩
      dsimp only at hv v0 v1 ⊢
      have v2 := v1 (by omega)
      rw [wrap64_id (x := u * 256) (by omega) (by omega), wrap64_id (x := u * 256 + v) (by omega) (by omega)]
      have tb : 1 ≤ rd [64, 4096, 65536, 65535, 32768, 60000] z ∧ rd [64, 4096, 65536, 65535, 32768, 60000] z ≤ 65536 := by
        have : z = 0 ∨ z = 1 ∨ z = 2 ∨ z = 3 ∨ z = 4 ∨ z = 5 := by omega
        rcases this with rfl | rfl | rfl | rfl | rfl | rfl <;> decide
      generalize rd [64, 4096, 65536, 65535, 32768, 60000] z = m at *
      rw [if_neg (by omega)]
      exact Tot.here ⟨by dsimp only; omega, by dsimp only; omega, Or.inr ⟨by dsimp only; omega, by dsimp only; omega, by dsimp only; omega, tmod_nonneg (by omega), tmod_lt (by omega)⟩⟩
    · refine Tot.then (go (by omega) (by omega)) ?_
      rintro ⟨u, q1⟩ ⟨ht, u0, u1⟩
      dsimp only at ht u0 u1 ⊢
      have u2 := u1 (by omega)
      refine Tot.then (go (by omega) (by omega)) ?_
      rintro ⟨v, q2⟩ ⟨hv, v0, v1⟩
      dsimp only at hv v0 v1 ⊢
      have v2 := v1 (by omega)
      rw [wrap64_id (x := u * 256) (by omega) (by omega), wrap64_id (x := u * 256 + v) (by omega) (by omega), wrap64_id (x := 1 + y) (by omega) (by omega), if_neg (by omega)]
      exact Tot.here ⟨by dsimp only; omega, by dsimp only; omega, Or.inr ⟨by dsimp only; omega, by dsimp only; omega, by dsimp only; omega, tmod_nonneg (by omega), tmod_lt (by omega)⟩⟩
/-! spec_l9Wild -/
theorem drawRestWild_tot (k : Nat) (hk : 42 ≤ k) {s : List Int} {p : Int} (hs : Bytes s) (h0 : 0 ≤ p) (h1 : p ≤ 1000000) :
    Tot (spec_l9Wild.f k s p) fun r => p < r.2.2 ∧ r.2.2 ≤ p + 20 := by
  unfold spec_l9Wild.f
  refine Tot.then (pick_tot k (by omega) hs h0 (by omega)) ?_
  rintro ⟨x, q⟩ ⟨hq, x0, x1⟩
  dsimp only at hq x0 x1 ⊢
  refine Tot.ite (fun _ => ?_) fun _ => ?_
  · simp only [Option.bind_some]
    refine Tot.then (pick_tot k (by omega) hs (by omega) (by omega)) ?_
    rintro ⟨z, q'⟩ ⟨hr, z0, z1⟩
    dsimp only at hr z0 z1 ⊢
    have z2 := z1 (by omega)
    rw [if_pos z0, if_pos (by simp; omega)]
    refine Tot.then (wild_tot k hk hs (by omega) (by omega)) ?_
    rintro ⟨y, q1⟩ ⟨ht, ht', -, -⟩
    dsimp only at ht ht' ⊢
    exact Tot.here ⟨by dsimp only; omega, by dsimp only; omega⟩
  · refine Tot.then (drawRest_tot k hk hs (by omega) (by omega)) ?_
    rintro ⟨y, z, q1⟩ ⟨ht, ht', -⟩
    dsimp only at ht ht' ⊢
    exact Tot.here ⟨by dsimp only; omega, by dsimp only; omega⟩
/-! spec_l9Two -/
theorem drawRestTwo_tot (k : Nat) (hk : 200000000000000000000 ≤ k) {s : List Int} {p : Int} (hs : Bytes s) (h0 : 0 ≤ p) (h1 : p ≤ 100000) :
    Tot (spec_l9Two.f k s p) fun r => p < r.2.2.2.2 ∧ r.2.2.2.2 ≤ p + 50 := by
  obtain ⟨k, rfl⟩ : ∃ m, k = m + 1 := ⟨k - 1, by omega⟩
  have J : ∀ (b : Bool) (q m a m' a' : Int), 0 ≤ q → q ≤ 200000 → (b = true → 1 ≤ m ∧ m ≤ 65536) → Tot (spec_l9Two.j0 (k + 1) b s q m a m' a') fun r => q ≤ r.2.2.2.2 ∧ r.2.2.2.2 ≤ q + 3 := by
    intro b q m a m' a' g0 g1 hb
    simp only [spec_l9Two.j0]
    refine Tot.ite (fun hb' => ?_) fun _ => ?_
    · have hm := hb hb'
      refine Tot.then (pick_tot k (by omega) hs g0 (by omega)) ?_
      rintro ⟨x, q1⟩ ⟨hq, x0, x1⟩
      dsimp only at hq x0 x1 ⊢
      have x2 := x1 (by omega)
      rw [wrap64_id (x := 1 + x) (by omega) (by omega), sgcd_eq k (by omega) (by omega) (by omega)]
      simp only [Option.bind_some]
      have gp := Int.gcd_pos_of_ne_zero_left (a := m) (1 + x) (by omega)
      have gl := Int.gcd_le_left (a := m) (1 + x) (by omega)
      refine Tot.then (pick_tot k (by omega) hs (by omega) (by omega)) ?_
      rintro ⟨y, q2⟩ ⟨hr, -, -⟩
      dsimp only at hr ⊢
      rw [mod_eq (by omega) (by omega)]
      simp only [Option.bind_some]
      refine Tot.then (pick_tot k (by omega) hs (by omega) (by omega)) ?_
      rintro ⟨z, q3⟩ ⟨ht, -, -⟩
      dsimp only at ht ⊢
      exact Tot.ite (fun _ => Tot.here ⟨by dsimp only; omega, by dsimp only; omega⟩) fun _ => Tot.here ⟨by dsimp only; omega, by dsimp only; omega⟩
    · refine Tot.then (pick_tot k (by omega) hs g0 (by omega)) ?_
      rintro ⟨z, q3⟩ ⟨ht, -, -⟩
      dsimp only at ht ⊢
      exact Tot.ite (fun _ => Tot.here ⟨by dsimp only; omega, by dsimp only; omega⟩) fun _ => Tot.here ⟨by dsimp only; omega, by dsimp only; omega⟩
  unfold spec_l9Two.f
  refine Tot.then (drawRestWild_tot _ (by omega) hs h0 (by omega)) ?_
  rintro ⟨a, b, q⟩ ⟨hq, hq'⟩
  dsimp only at hq hq' ⊢
  refine Tot.then (drawRestWild_tot _ (by omega) hs (by omega) (by omega)) ?_
  rintro ⟨c, d, q1⟩ ⟨hr, hr'⟩
  dsimp only at hr hr' ⊢
  refine Tot.then (pick_tot _ (by omega) hs (by omega) (by omega)) ?_
  rintro ⟨x, q2⟩ ⟨ht, -, -⟩
  dsimp only at ht ⊢
  have fin : ∀ r : Int × Int × Int × Int × Int, q2 ≤ r.2.2.2.2 ∧ r.2.2.2.2 ≤ q2 + 3 → p < r.2.2.2.2 ∧ r.2.2.2.2 ≤ p + 50 := fun r h => by omega
  refine Tot.ite (fun _ => ?_) fun _ => (J _ _ _ _ _ _ (by omega) (by omega) (fun h => by simp at h)).mono fin
  rw [srestOk_eq]
  simp only [Option.bind_some, decide_eq_true_eq]
  refine Tot.ite (fun o => ?_) fun _ => (J _ _ _ _ _ _ (by omega) (by omega) (fun h => by simp at h)).mono fin
  refine (J _ _ _ _ _ _ (by omega) (by omega) (fun h => ?_)).mono fin
  have h' : a > 0 := by simpa using h
  have := o.pos (by omega)
  omega
/-! spec_DrawRestMeet -/
theorem drawRestMeet_tot (k : Nat) (hk : 200000000000000000000 ≤ k) {l : List Int} (hl : Bytes l) : Tot (spec_DrawRestMeet.f k l) fun _ => True := by
  unfold spec_DrawRestMeet.f
  refine Tot.then (open_tot hl) ?_
  rintro ⟨s, p⟩ ⟨hp, hs, -⟩
  dsimp only at hp hs ⊢
  refine Tot.then (drawRestTwo_tot k (by omega) hs (by omega) (by omega)) ?_
  rintro ⟨a, b, c, d, q⟩ -
  exact Tot.here trivial
/-! laws_ofRest -/
theorem ofRest_tot (k : Nat) (hk : 1 ≤ k) {x : List Int} (hx : Bytes x) (m a : Int) {i : Int} (h0 : 0 ≤ i) (h1 : i ≤ 1000000) : Tot (laws_ofRest.f k m a x i) fun _ => True := by
  obtain ⟨k, rfl⟩ : ∃ m, k = m + 1 := ⟨k - 1, by omega⟩
  unfold laws_ofRest.f
  rw [srestOk_eq]
  simp only [Option.bind_some, decide_eq_true_eq]
  refine Tot.ite (fun o => ?_) fun o => ?_
  · simp only [laws_ofRest.j0, beq_iff_eq]
    refine Tot.ite (fun _ => Tot.here trivial) fun hm => ?_
    rw [wrap64_id (x := i + 3) (by omega) (by omega)]
    refine Tot.then (at_tot hx h0 (by omega)) fun a ha => Tot.then (at_tot hx (by omega) (by omega)) fun b hb => Tot.ite (fun _ => ?_) fun _ => ?_
    · refine Tot.then (wide_tot hx h0 (by omega)) fun c hc => ?_
      rw [if_neg hm, snumwrap_eq]
      exact Tot.here trivial
    · rw [snumwrap_eq]
      exact Tot.here trivial
  · simp only [laws_ofRest.j0, if_true]
    exact Tot.here trivial
end Go.Proofs.Ytmdcgkkkfncieaa.LFnRestLattice
