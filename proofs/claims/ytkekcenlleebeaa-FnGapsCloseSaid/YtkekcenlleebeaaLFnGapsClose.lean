/- What the small functions that the statement reaches tell, each by a plain law. Conditions: those in each law. -/
import Derived.Test.YtkekcenlleebeaaDFnGapsClose
import Derived.Test.YtkekcenlleebeaaBase
import Derived.Test.YtkekcenlleebeaaBits
import Derived.Test.YtkekcenlleebeaaGapsMath
import Derived.Test.YtkekcenlleebeaaGaps2Math
namespace Go.Proofs.Ytkekcenlleebeaa.LFnGapsClose
open Go.RowKit Go.Proofs.Ytkekcenlleebeaa.PFnGapsClose Go.Proofs.Ytkekcenlleebeaa.Base Go.Proofs.YtkekcenlleebeaaW.PrintWords Go.Proofs.YtkekcenlleebeaaW.PrintLast Go.Proofs.YtkekcenlleebeaaW.PrintMore
set_option linter.unusedVariables false
set_option linter.unusedSimpArgs false

/-! spec_l1Rd_pick -/
theorem pick_tot (k : Nat) (hk : 1 ≤ k) {s : List Int} {p n : Int} (hs : Bytes s) (h0 : 0 ≤ p) (h1 : p ≤ 1073741824) :
    Tot (spec_l1Rd_pick.f k s p n) fun r => r.2 = p + 1 ∧ 0 ≤ r.1 ∧ (1 ≤ n → r.1 < n) := by
  obtain ⟨k, rfl⟩ : ∃ m, k = m + 1 := ⟨k - 1, by omega⟩
  have e1 : wrap64 (p + 1) = p + 1 := wrap64_id (by omega) (by omega)
  have e2 : wrap64 (p + 1 - 1) = p := by rw [wrap64_id (by omega) (by omega)]; omega
  unfold spec_l1Rd_pick.f
  rw [e1]
  refine Tot.ite (fun hn => ?_) (fun hn => ?_)
  · simp only [spec_l1Rd_pick.j0, if_true]
    exact Tot.here ⟨rfl, Int.le_refl _, fun h => by omega⟩
  · simp only [spec_l1Rd_pick.j0, e2]
    refine Tot.ite (fun h => Tot.here ⟨rfl, Int.le_refl _, fun _ => by dsimp only; omega⟩) fun h => ?_
    have hne : (s.length : Int) ≠ 0 := by simpa using h
    have hlen : 0 < (s.length : Int) := by omega
    refine Tot.ite (fun hp => ?_) fun hp => ?_
    · rw [if_pos h0, if_neg (by omega)]
      have b := hs.byte p
      rw [wrap64_id (by omega) (by omega)]
      exact Tot.here ⟨rfl, tmod_nonneg b.1, fun _ => tmod_lt (by omega)⟩
    · have m1 := tmod_nonneg (b := (s.length : Int)) h0
      have m2 := tmod_lt (a := p) hlen
      have q1 : wrap64 (p * 7) = p * 7 := wrap64_id (by omega) (by omega)
      have q2 : wrap64 (p * 7 + 3) = p * 7 + 3 := wrap64_id (by omega) (by omega)
      have m3 := tmod_nonneg (b := (s.length : Int)) (a := p * 7 + 3) (by omega)
      have m4 := tmod_lt (a := p * 7 + 3) hlen
      rw [if_neg hne, if_pos m1, if_pos m2, q1, q2, if_pos m3, if_pos m4, if_neg (by omega)]
      have b1 := hs.byte (Int.tmod p s.length)
      have b2 := hs.byte (Int.tmod (p * 7 + 3) s.length)
      generalize rd s (Int.tmod p s.length) = x1 at *
      generalize rd s (Int.tmod (p * 7 + 3) s.length) = x2 at *
      have d1 := tdiv_nonneg h0 (Int.le_of_lt hlen)
      have d2 := tdiv_le h0 hlen
      generalize Int.tdiv p s.length = d at *
      rw [wrap64_id (x := x1) (by omega) (by omega), wrap64_id (x := x2) (by omega) (by omega), wrap64_id (x := d) (by omega) (by omega)]
      rw [wrap64_id (x := x1 * 131) (by omega) (by omega), wrap64_id (x := x2 * 1117) (by omega) (by omega), wrap64_id (x := p * 29) (by omega) (by omega), wrap64_id (x := d * 53) (by omega) (by omega)]
      rw [wrap64_id (x := x1 * 131 + x2 * 1117) (by omega) (by omega)]
      rw [wrap64_id (x := x1 * 131 + x2 * 1117 + p * 29) (by omega) (by omega)]
      rw [wrap64_id (x := x1 * 131 + x2 * 1117 + p * 29 + d * 53) (by omega) (by omega)]
      have z0 : 0 ≤ x1 * 131 + x2 * 1117 + p * 29 + d * 53 := by omega
      have z1 : x1 * 131 + x2 * 1117 + p * 29 + d * 53 < 9223372036854775808 := by omega
      generalize x1 * 131 + x2 * 1117 + p * 29 + d * 53 = z at *
      have y0 := tdiv_nonneg (b := 64) z0 (by omega)
      have y1 := tdiv_le (b := 64) z0 (by omega)
      rw [wrap64_id (x := Int.tdiv z 64) (by omega) (by omega)]
      exact Tot.here ⟨rfl, tmod_nonneg (bits_xor_nonneg_in z0 z1 y0 (by omega)), fun _ => tmod_lt (by omega)⟩
/-! spec_l1Open -/
theorem open_tot {s : List Int} (hs : Bytes s) : Tot (spec_l1Open.f s) fun r => r.2 = 0 ∧ Bytes r.1 ∧ r.1.length ≤ 2000 := by
  unfold spec_l1Open.f
  refine Tot.ite (fun h => ?_) (fun h => ?_)
  · rw [if_pos (by omega)]
    exact Tot.here ⟨rfl, hs.take _, by simp only [List.length_take]; omega⟩
  · exact Tot.here ⟨rfl, hs, by dsimp only; omega⟩
/-! spec_l1Power -/
theorem power_l0 (n : Int) : ∀ (d k : Nat) (o i : Int), 0 ≤ i → i ≤ n → n ≤ 40 → (n - i : Int) = d → d < k → o = 2 ^ i.toNat → spec_l1Power.l0 k n o i = some (2 ^ n.toNat) := by
  intro d
  induction d with
  | zero =>
    intro k o i h0 h1 h2 hd hk ho
    obtain ⟨k, rfl⟩ : ∃ m, k = m + 1 := ⟨k - 1, by omega⟩
    simp only [spec_l1Power.l0]
    rw [if_neg (by omega), ho]
    have : i = n := by omega
    rw [this]
  | succ d ih =>
    intro k o i h0 h1 h2 hd hk ho
    obtain ⟨k, rfl⟩ : ∃ m, k = m + 1 := ⟨k - 1, by omega⟩
    simp only [spec_l1Power.l0]
    rw [if_pos (by omega)]
    have hp : (2 : Int) ^ i.toNat ≤ 2 ^ 40 := by
      have := Nat.pow_le_pow_right (n := 2) (by omega) (show i.toNat ≤ 40 by omega)
      exact_mod_cast this
    have hp0 : (0 : Int) < 2 ^ i.toNat := Int.pow_pos (by decide)
    have e : (i + 1).toNat = i.toNat + 1 := by omega
    rw [wrap64_id (x := 2 * o) (by omega) (by omega), wrap64_id (x := i + 1) (by omega) (by omega)]
    refine ih k _ _ (by omega) (by omega) h2 (by omega) (by omega) ?_
    rw [e, Int.pow_succ, ho]; omega
theorem power_eq (k : Nat) (hk : 42 ≤ k) {n : Int} (h0 : 0 ≤ n) (h1 : n ≤ 40) : spec_l1Power.f k n = some (2 ^ n.toNat) := by
  unfold spec_l1Power.f
  exact power_l0 n n.toNat k 1 0 (by omega) h0 h1 (by omega) (by omega) (by simp)
/-! spec_l1Mod -/
theorem mod_eq {a b : Int} (hb : 0 < b) (h : b ≤ 9223372036854775807) : spec_l1Mod.f a b = some (a % b) := by
  unfold spec_l1Mod.f
  rw [if_neg (by omega)]
  have e := Int.emod_emod_of_dvd a (Int.dvd_refl b)
  have h1 : Int.tmod a b < b := Int.tmod_lt_of_pos a hb
  have h2 : -b < Int.tmod a b := Int.lt_tmod_of_pos a hb
  have h3 := Int.mul_tdiv_add_tmod a b
  have h4 : a % b = Int.tmod a b % b := by
    conv => lhs; rw [← h3]
    rw [Int.add_comm, Int.add_mul_emod_self_left]
  by_cases hn : Int.tmod a b < 0
  · rw [if_pos hn, wrap64_id (by omega) (by omega), h4, ← Int.add_emod_right, Int.emod_eq_of_lt (by omega) (by omega)]
  · rw [if_neg hn, h4, Int.emod_eq_of_lt (by omega) (by omega)]
/-! spec_NumWrap -/
/-- The number of 32 bits that differs from one by a multiple. -/
theorem snumwrap_eq (v : Int) : spec_NumWrap.f v = some (wrap32 v) := by
  unfold spec_NumWrap.f
  rw [mod_eq (by omega) (by omega)]
  simp only [Option.bind_some]
  unfold wrap32
  by_cases h : v % 4294967296 > 2147483647
  · rw [if_pos h, wrap64_id (by omega) (by omega)]; congr 1; omega
  · rw [if_neg h]; congr 1; omega
/-! spec_l1Rd_num -/
theorem num_l0 {s : List Int} (hs : Bytes s) : ∀ (d k : Nat) (v i p : Int), 0 ≤ i → i ≤ 4 → (4 - i : Int) = d → d + 2 ≤ k → 0 ≤ p → p + d ≤ 1073741824 →
    Tot (spec_l1Rd_num.l0 k v i s p) fun r => r.2 = p + d ∧ -2147483648 ≤ r.1 ∧ r.1 ≤ 2147483647 := by
  intro d
  induction d with
  | zero =>
    intro k v i p h0 h1 hd hk hp hq
    obtain ⟨k, rfl⟩ : ∃ m, k = m + 1 := ⟨k - 1, by omega⟩
    simp only [spec_l1Rd_num.l0]
    rw [if_neg (by omega), snumwrap_eq]
    simp only [Option.bind_some]
    exact Tot.here ⟨by simp, (wrap32_in v).1, (wrap32_in v).2⟩
  | succ d ih =>
    intro k v i p h0 h1 hd hk hp hq
    obtain ⟨k, rfl⟩ : ∃ m, k = m + 1 := ⟨k - 1, by omega⟩
    simp only [spec_l1Rd_num.l0]
    rw [if_pos (by omega)]
    refine Tot.then (pick_tot k (by omega) hs hp (by omega)) ?_
    rintro ⟨x, q⟩ ⟨hq', -, -⟩
    dsimp only at hq' ⊢
    subst hq'
    rw [wrap64_id (x := i + 1) (by omega) (by omega)]
    refine (ih k _ _ _ (by omega) (by omega) (by omega) (by omega) (by omega) (by omega)).mono ?_
    rintro ⟨y, q⟩ ⟨h1, h2⟩
    exact ⟨by dsimp only at h1 ⊢; omega, h2⟩
theorem num_tot (k : Nat) (hk : 42 ≤ k) {s : List Int} {p : Int} (hs : Bytes s) (h0 : 0 ≤ p) (h1 : p ≤ 1000000000) :
    Tot (spec_l1Rd_num.f k s p) fun r => p < r.2 ∧ r.2 ≤ p + 5 ∧ -2147483648 ≤ r.1 ∧ r.1 ≤ 2147483647 := by
  have go : ∀ {n q : Int}, 0 ≤ q → q ≤ 1000000010 → Tot (spec_l1Rd_pick.f k s q n) fun r => r.2 = q + 1 ∧ 0 ≤ r.1 ∧ (1 ≤ n → r.1 < n) := fun a b => pick_tot k (by omega) hs a (by omega)
  have pw : ∀ {n : Int}, 0 ≤ n → n ≤ 30 → 0 < (2 : Int) ^ n.toNat ∧ (2 : Int) ^ n.toNat ≤ 1073741824 := fun {n} a b => by
    refine ⟨Int.pow_pos (by decide), ?_⟩
    have := Nat.pow_le_pow_right (n := 2) (by omega) (show n.toNat ≤ 30 by omega)
    have h : ((2 ^ n.toNat : Nat) : Int) ≤ ((2 ^ 30 : Nat) : Int) := by exact_mod_cast this
    simpa using h
  unfold spec_l1Rd_num.f
  refine Tot.then (go h0 (by omega)) ?_
  rintro ⟨x, q⟩ ⟨hq, x0, x1⟩
  dsimp only at hq x0 x1 ⊢
  subst hq
  refine Tot.ite (fun _ => ?_) fun _ => Tot.ite (fun _ => ?_) fun _ => Tot.ite (fun _ => ?_) fun _ => Tot.ite (fun _ => ?_) fun _ => Tot.ite (fun _ => ?_) fun _ => ?_
  · refine Tot.then (go (by omega) (by omega)) ?_
    rintro ⟨y, q⟩ ⟨hq, y0, y1⟩
    dsimp only at hq y0 y1 ⊢
    subst hq
    rw [wrap64_id (by omega) (by omega)]
    exact Tot.here ⟨by dsimp only; omega, by dsimp only; omega, by dsimp only; omega, by dsimp only; omega⟩
  · refine Tot.then (go (by omega) (by omega)) ?_
    rintro ⟨y, q⟩ ⟨hq, y0, y1⟩
    dsimp only at hq y0 y1 ⊢
    subst hq
    rw [wrap64_id (by omega) (by omega)]
    exact Tot.here ⟨by dsimp only; omega, by dsimp only; omega, by dsimp only; omega, by dsimp only; omega⟩
  · refine Tot.then (go (by omega) (by omega)) ?_
    rintro ⟨y, q⟩ ⟨hq, y0, y1⟩
    dsimp only at hq y0 y1 ⊢
    subst hq
    rw [wrap64_id (by omega) (by omega)]
    exact Tot.here ⟨by dsimp only; omega, by dsimp only; omega, by dsimp only; omega, by dsimp only; omega⟩
  · refine Tot.then (go (by omega) (by omega)) ?_
    rintro ⟨y, q⟩ ⟨hq, y0, y1⟩
    dsimp only at hq y0 y1 ⊢
    subst hq
    rw [power_eq k hk y0 (by omega)]
    simp only [Option.bind_some]
    have e := pw y0 (by omega)
    generalize (2 : Int) ^ y.toNat = z at *
    refine Tot.then (go (by omega) (by omega)) ?_
    rintro ⟨y', q⟩ ⟨hq, y0', y1'⟩
    dsimp only at hq y0' y1' ⊢
    subst hq
    rw [wrap64_id (x := z + y') (by omega) (by omega), wrap64_id (by omega) (by omega)]
    exact Tot.here ⟨by dsimp only; omega, by dsimp only; omega, by dsimp only; omega, by dsimp only; omega⟩
  · refine Tot.then (go (by omega) (by omega)) ?_
    rintro ⟨y, q⟩ ⟨hq, y0, y1⟩
    dsimp only at hq y0 y1 ⊢
    subst hq
    rw [power_eq k hk y0 (by omega)]
    simp only [Option.bind_some]
    have e := pw y0 (by omega)
    generalize (2 : Int) ^ y.toNat = z at *
    refine Tot.then (go (by omega) (by omega)) ?_
    rintro ⟨y', q⟩ ⟨hq, y0', y1'⟩
    dsimp only at hq y0' y1' ⊢
    subst hq
    rw [wrap64_id (x := -z) (by omega) (by omega), wrap64_id (x := -z + y') (by omega) (by omega), wrap64_id (by omega) (by omega)]
    exact Tot.here ⟨by dsimp only; omega, by dsimp only; omega, by dsimp only; omega, by dsimp only; omega⟩
  · refine (num_l0 hs 4 k 0 0 _ (by omega) (by omega) (by omega) (by omega) (by omega) (by omega)).mono ?_
    rintro ⟨y, q⟩ ⟨h1, h2⟩
    exact ⟨by dsimp only at h1 ⊢; omega, by dsimp only at h1 ⊢; omega, h2⟩
/-! impl_NumOk -/
theorem numOk_eq (v : Int) : impl_NumOk.f v = some (decide (NOk v)) := by
  unfold impl_NumOk.f
  by_cases h : v ≥ -2147483648
  · rw [if_pos h]; exact dcl (by (try unfold NOk); omega)
  · rw [if_neg h]; exact dfl (by (try unfold NOk); omega)
/-! spec_l1In -/
theorem sin_eq (v a b : Int) : spec_l1In.f v a b = some (decide (a ≤ v ∧ v ≤ b)) := by
  unfold spec_l1In.f
  by_cases h : v ≥ a
  · rw [if_pos h]; exact dcl (by (try unfold NOk); omega)
  · rw [if_neg h]; exact dfl (by (try unfold NOk); omega)
/-! spec_NumOk -/
theorem snumOk_eq (v : Int) : spec_NumOk.f v = some (decide (NOk v)) := by
  unfold spec_NumOk.f
  rw [sin_eq]; exact dcl Iff.rfl
/-! spec_l11At -/
theorem sl11At_eq {n : Int} {d : List Int} {i j : Int} (h0 : 0 ≤ n) (h : n ≤ 12) (hl : (d.length : Int) = (n + 1) * (n + 1)) (hi0 : 0 ≤ i) (hi : i ≤ n) (hj0 : 0 ≤ j) (hj : j ≤ n) :
    spec_l11At.f n d i j = some (gat n d i j) := by
  have := idx_in h0 h hi0 hi hj0 hj
  unfold spec_l11At.f gat
  rw [idx_w h0 h hi0 hi hj0 hj, if_pos (by omega), if_pos (by omega)]
/-! impl_Gaps_at -/
theorem gapsAt_eq {n : Int} {d : List Int} {i j : Int} (h0 : 0 ≤ n) (h : n ≤ 12) (hi0 : 0 ≤ i) (hi : i ≤ n) (hj0 : 0 ≤ j) (hj : j ≤ n) :
    impl_Gaps_at.f n d i j = some (i * (n + 1) + j) := by
  unfold impl_Gaps_at.f
  rw [idx_w h0 h hi0 hi hj0 hj]
/-! spec_l1In spec_l11At spec_GapsOk -/
theorem sGapsOk_l1 {n : Int} {d : List Int} (h0 : 0 ≤ n) (h : n ≤ 12) (hl : (d.length : Int) = (n + 1) * (n + 1)) (i : Int) (hi0 : 0 ≤ i) (hi : i ≤ n) (K : Nat) (Q : Prop)
    (rest : ∀ k, K ≤ k → Tot (spec_GapsOk.l0 k (i + 1) n d) fun b => b = true ↔ Q) : ∀ (m : Nat) (k : Nat) (j : Int), (n + 1 - j).toNat = m → 0 ≤ j → j ≤ n + 1 → K + m < k →
    Tot (spec_GapsOk.l1 k i j n d) fun b => b = true ↔ (∀ j' : Int, j ≤ j' → j' ≤ n → DIn (gat n d i j') ∧ (i = j' → gat n d i j' = 0)) ∧ Q
  | m, 0, j, _, _, _, hk => absurd hk (by omega)
  | 0, k + 1, j, hm, hj, hj', hk => by
    unfold spec_GapsOk.l1
    rw [if_neg (by omega), wrap64_id (by omega) (by omega)]
    refine (rest k (by omega)).mono fun b hb => hb.trans ⟨fun q => ⟨fun j' a c => absurd a (by omega), q⟩, fun q => q.2⟩
  | m + 1, k + 1, j, hm, hj, hj', hk => by
    unfold spec_GapsOk.l1
    rw [if_pos (by omega), sl11At_eq h0 h hl hi0 hi hj (by omega)]
    show Tot ((spec_l1In.f (gat n d i j) (-1099511627776) 1099511627776).bind _) _
    rw [sin_eq]
    have next : DIn (gat n d i j) → (i = j → gat n d i j = 0) → Tot (spec_GapsOk.l1 k i (wrap64 (j + 1)) n d) fun b => b = true ↔ (∀ j' : Int, j ≤ j' → j' ≤ n → DIn (gat n d i j') ∧ (i = j' → gat n d i j' = 0)) ∧ Q := by
      intro a c
      rw [wrap64_id (by omega) (by omega)]
      refine (sGapsOk_l1 h0 h hl i hi0 hi K Q rest m k (j + 1) (by omega) (by omega) (by omega) (by omega)).mono fun b hb => hb.trans ⟨fun q => ⟨fun j' p p' => ?_, q.2⟩, fun q => ⟨fun j' p p' => q.1 j' (by omega) p', q.2⟩⟩
      by_cases e : j' = j
      · subst e; exact ⟨a, c⟩
      · exact q.1 j' (by omega) p'
    refine Tot.ite (fun c => ?_) (fun c => ?_)
    · have c' : DIn (gat n d i j) := (of_decide_eq_true c : -1099511627776 ≤ gat n d i j ∧ gat n d i j ≤ 1099511627776)
      refine Tot.ite (fun e => ?_) (fun e => next c' fun e' => absurd e' e)
      refine Tot.ite (fun z => next c' fun _ => z) (fun z => Tot.here ⟨fun f => (nomatch f), fun q => absurd ((q.1 j (by omega) (by omega)).2 e) z⟩)
    · refine Tot.here ⟨fun f => (nomatch f), fun q => ?_⟩
      have := (q.1 j (by omega) (by omega)).1
      exact absurd (decide_eq_true (show -1099511627776 ≤ gat n d i j ∧ gat n d i j ≤ 1099511627776 from this)) c
theorem sGapsOk_l0 {n : Int} {d : List Int} (h0 : 0 ≤ n) (h : n ≤ 12) (hl : (d.length : Int) = (n + 1) * (n + 1)) : ∀ (m : Nat) (k : Nat) (i : Int), (n + 1 - i).toNat = m → 0 ≤ i → i ≤ n + 1 → 20 * m < k →
    Tot (spec_GapsOk.l0 k i n d) fun b => b = true ↔ ∀ i' j : Int, i ≤ i' → i' ≤ n → 0 ≤ j → j ≤ n → DIn (gat n d i' j) ∧ (i' = j → gat n d i' j = 0)
  | m, 0, i, _, _, _, hk => absurd hk (by omega)
  | 0, k + 1, i, hm, hi, hi', hk => by
    unfold spec_GapsOk.l0
    rw [if_neg (by omega)]
    exact Tot.here ⟨fun _ i' j a b => absurd a (by omega), fun _ => rfl⟩
  | m + 1, k + 1, i, hm, hi, hi', hk => by
    unfold spec_GapsOk.l0
    rw [if_pos (by omega)]
    refine (sGapsOk_l1 h0 h hl i hi (by omega) (20 * m + 1) _ (fun k hk => sGapsOk_l0 h0 h hl m k (i + 1) (by omega) (by omega) (by omega) (by omega)) _ k 0 rfl (by omega) (by omega) (by omega)).mono fun b hb => hb.trans ⟨fun q i' j a b c e => ?_, fun q => ⟨fun j' a b => q i j' (by omega) (by omega) a b, fun i' j a b c e => q i' j (by omega) b c e⟩⟩
    by_cases e' : i' = i
    · subst e'; exact q.1 j c e
    · exact q.2 i' j (by omega) b c e
theorem sGapsOk_tot {k : Nat} (n : Int) (d : List Int) (hk : 1000 ≤ k) : Tot (spec_GapsOk.f k n d) fun b => b = true ↔ GOk n d := by
  obtain ⟨k, rfl⟩ : ∃ j, k = j + 1 := ⟨k - 1, by omega⟩
  unfold spec_GapsOk.f
  rw [sin_eq]
  show Tot (if decide (0 ≤ n ∧ n ≤ 12) = true then _ else _) _
  refine Tot.ite (fun c => ?_) (fun c => ?_)
  · have c := of_decide_eq_true c
    rw [sq_w c.1 c.2]
    rw [spec_GapsOk.j0]
    by_cases e : (d.length : Int) = (n + 1) * (n + 1)
    · have : ((d.length : Int) != (n + 1) * (n + 1)) = false := bne_eq_false_iff_eq.mpr e
      rw [this, if_neg (by simp)]
      exact (sGapsOk_l0 c.1 c.2 e _ k 0 rfl (by omega) (by omega) (by omega)).mono fun b hb => hb.trans (GOk.of_all c.1 c.2 e).symm
    · have : ((d.length : Int) != (n + 1) * (n + 1)) = true := bne_iff_ne.mpr e
      rw [this, if_pos rfl]
      exact Tot.here ⟨fun f => (nomatch f), fun q => absurd q.2.2.1 e⟩
  · rw [spec_GapsOk.j0]
    rw [if_pos rfl]
    exact Tot.here ⟨fun f => (nomatch f), fun q => absurd (decide_eq_true (show 0 ≤ n ∧ n ≤ 12 from ⟨q.1, q.2.1⟩)) c⟩
theorem sGapsOk_yes {k : Nat} {n : Int} {d : List Int} (h : GOk n d) (hk : 1000 ≤ k) : spec_GapsOk.f k n d = some true := by
  obtain ⟨b, e, hb⟩ := sGapsOk_tot (k := k) n d hk
  rw [e, hb.mpr h]
theorem sGapsOk_no {k : Nat} {n : Int} {d : List Int} (h : ¬ GOk n d) (hk : 1000 ≤ k) : spec_GapsOk.f k n d = some false := by
  obtain ⟨b, e, hb⟩ := sGapsOk_tot (k := k) n d hk
  rw [e]
  cases b with
  | false => rfl
  | true => exact absurd (hb.mp rfl) h
/-! impl_Gaps_at impl_GapsOk -/
theorem gapsOk_l1 (d : List Int) (hd : d.length ≤ 1000) : ∀ (m : Nat) (k : Nat) (p : Int), ((d.length : Int) - p).toNat = m → 0 ≤ p → p ≤ d.length → m < k →
    Tot (impl_GapsOk.l1 k d (d.length : Int) p) fun b => b = true ↔ ∀ q : Int, p ≤ q → q < (d.length : Int) → DIn (rd d q)
  | m, 0, p, _, _, _, hk => absurd hk (by omega)
  | 0, k + 1, p, hm, hp, hp', hk => by
    unfold impl_GapsOk.l1
    rw [if_neg (by omega)]
    exact Tot.here ⟨fun _ q a b => absurd a (by omega), fun _ => rfl⟩
  | m + 1, k + 1, p, hm, hp, hp', hk => by
    unfold impl_GapsOk.l1
    rw [if_pos (by omega), if_pos (by omega), if_pos (by omega)]
    refine Tot.ite (fun c => Tot.here ⟨fun f => (nomatch f), fun q => ?_⟩) (fun c => Tot.ite (fun c' => Tot.here ⟨fun f => (nomatch f), fun q => ?_⟩) (fun c' => ?_))
    · have := (q p (by omega) (by omega)).1; omega
    · have := (q p (by omega) (by omega)).2; omega
    · rw [wrap64_id (by omega) (by omega)]
      refine (gapsOk_l1 d hd m k (p + 1) (by omega) (by omega) (by omega) (by omega)).mono fun b hb => hb.trans ⟨fun q r a b => ?_, fun q r a b => q r (by omega) b⟩
      by_cases e : r = p
      · subst e; exact ⟨by omega, by omega⟩
      · exact q r (by omega) b
theorem gapsOk_l0 {n : Int} {d : List Int} (h0 : 0 ≤ n) (h : n ≤ 12) (hl : (d.length : Int) = (n + 1) * (n + 1)) (hd : d.length ≤ 1000) : ∀ (m : Nat) (k : Nat) (i : Int), (n + 1 - i).toNat = m → 0 ≤ i → i ≤ n + 1 → 1500 + m < k →
    Tot (impl_GapsOk.l0 k (n + 1) i n d) fun b => b = true ↔ (∀ i' : Int, i ≤ i' → i' ≤ n → rd d (i' * (n + 1) + i') = 0) ∧ ∀ q : Int, 0 ≤ q → q < (d.length : Int) → DIn (rd d q)
  | m, 0, p, _, _, _, hk => absurd hk (by omega)
  | 0, k + 1, i, hm, hi, hi', hk => by
    unfold impl_GapsOk.l0
    rw [if_neg (by omega)]
    refine (gapsOk_l1 d hd _ k 0 rfl (by omega) (by omega) (by omega)).mono fun b hb => hb.trans ⟨fun q => ⟨fun i' a b => absurd a (by omega), q⟩, fun q => q.2⟩
  | m + 1, k + 1, i, hm, hi, hi', hk => by
    unfold impl_GapsOk.l0
    have ix := idx_in h0 h hi (by omega : i ≤ n) hi (by omega)
    rw [if_pos (by omega), gapsAt_eq h0 h hi (by omega) hi (by omega)]
    show Tot (if 0 ≤ i * (n + 1) + i then _ else _) _
    rw [if_pos (by omega), if_pos (by omega)]
    refine Tot.ite (fun c => ?_) (fun c => Tot.here ⟨fun f => (nomatch f), fun q => absurd (q.1 i (by omega) (by omega)) c⟩)
    rw [wrap64_id (by omega) (by omega)]
    refine (gapsOk_l0 h0 h hl hd m k (i + 1) (by omega) (by omega) (by omega) (by omega)).mono fun b hb => hb.trans ⟨fun q => ⟨fun i' a b => ?_, q.2⟩, fun q => ⟨fun i' a b => q.1 i' (by omega) b, q.2⟩⟩
    by_cases e : i' = i
    · subst e; exact c
    · exact q.1 i' (by omega) b
theorem gapsOk_tot {k : Nat} (n : Int) (d : List Int) (hk : 2000 ≤ k) : Tot (impl_GapsOk.f k n d) fun b => b = true ↔ GOk n d := by
  obtain ⟨k, rfl⟩ : ∃ j, k = j + 1 := ⟨k - 1, by omega⟩
  unfold impl_GapsOk.f
  have no : ¬ GOk n d → Tot (impl_GapsOk.j0 (k + 1) true n d) fun b => b = true ↔ GOk n d := by
    intro hn
    rw [impl_GapsOk.j0]
    rw [if_pos rfl]
    exact Tot.here ⟨fun f => (nomatch f), fun q => absurd q hn⟩
  refine Tot.ite (fun c => no fun q => by have := q.1; omega) (fun c => Tot.ite (fun c' => no fun q => by have := q.2.1; omega) (fun c' => ?_))
  have a : 0 ≤ n := by omega
  have b : n ≤ 12 := by omega
  rw [sq_w a b]
  by_cases e : (d.length : Int) = (n + 1) * (n + 1)
  · have : ((d.length : Int) != (n + 1) * (n + 1)) = false := bne_eq_false_iff_eq.mpr e
    have ix := idx_in a b a (Int.le_refl n) a (Int.le_refl n)
    have big : d.length ≤ 1000 := by rcases twelve a b with rfl | rfl | rfl | rfl | rfl | rfl | rfl | rfl | rfl | rfl | rfl | rfl | rfl <;> omega
    rw [this]
    rw [impl_GapsOk.j0]
    rw [if_neg (by simp), wrap64_id (x := n + 1) (by omega) (by omega)]
    refine (gapsOk_l0 a b e big _ k 0 rfl (by omega) (by omega) (by omega)).mono fun r hr => hr.trans ⟨fun q => ⟨a, b, e, q.2, q.1⟩, fun q => ⟨q.2.2.2.2, q.2.2.2.1⟩⟩
  · have : ((d.length : Int) != (n + 1) * (n + 1)) = true := bne_iff_ne.mpr e
    rw [this]
    exact no fun q => e q.2.2.1
theorem gapsOk_yes {k : Nat} {n : Int} {d : List Int} (h : GOk n d) (hk : 2000 ≤ k) : impl_GapsOk.f k n d = some true := by
  obtain ⟨b, e, hb⟩ := gapsOk_tot (k := k) n d hk
  rw [e, hb.mpr h]
theorem gapsOk_no {k : Nat} {n : Int} {d : List Int} (h : ¬ GOk n d) (hk : 2000 ≤ k) : impl_GapsOk.f k n d = some false := by
  obtain ⟨b, e, hb⟩ := gapsOk_tot (k := k) n d hk
  rw [e]
  cases b with
  | false => rfl
  | true => exact absurd (hb.mp rfl) h
/-! spec_l11Copy -/
theorem sl11Copy_loop (n : Int) (x : List Int) (hx : x.length ≤ 1048576) : ∀ (m : Nat) (k i : Nat) (acc : List Int), i + m = x.length → m < k → acc = x.take i → spec_l11Copy.l0 k (i : Int) n x n acc = some (n, x)
  | m, 0, _, _, _, h, _ => absurd h (by omega)
  | 0, k + 1, i, acc, hm, hk, h => by
    unfold spec_l11Copy.l0
    rw [if_neg (by omega), h, List.take_of_length_le (by omega)]
  | m + 1, k + 1, i, acc, hm, hk, h => by
    unfold spec_l11Copy.l0
    have hl : acc.length = i := by rw [h, List.length_take]; omega
    rw [if_pos (by omega), if_pos (by omega), if_pos (by omega), wrap64_id (by omega) (by omega)]
    refine sl11Copy_loop n x hx m k (i + 1) _ (by omega) (by omega) ?_
    have hi : i < x.length := by omega
    rw [h, List.take_add_one, List.getElem?_eq_getElem hi]
    simp [rd, List.getD_eq_getElem?_getD, List.getElem?_eq_getElem hi]
theorem sl11Copy_eq {k : Nat} (n : Int) (x : List Int) (hx : x.length ≤ 1048576) (hk : 2000000 ≤ k) : spec_l11Copy.f k n x = some (n, x) := by
  unfold spec_l11Copy.f
  exact sl11Copy_loop n x hx x.length k 0 [] (by omega) (by omega) (by simp)
/-! impl_Gaps_clone -/
theorem clone_eq (n : Int) (x : List Int) (hx : x.length ≤ 1048576) : impl_Gaps_clone.f n x = some (n, x) := by
  unfold impl_Gaps_clone.f
  rw [if_pos (by simp; omega)]; rfl
/-! spec_l11Put -/
theorem sl11Put_eq {n : Int} {d : List Int} {i j : Int} (v : Int) (h0 : 0 ≤ n) (h : n ≤ 12) (hl : (d.length : Int) = (n + 1) * (n + 1)) (hi0 : 0 ≤ i) (hi : i ≤ n) (hj0 : 0 ≤ j) (hj : j ≤ n) :
    spec_l11Put.f n d i j v = some (gput n d i j v) := by
  have := idx_in h0 h hi0 hi hj0 hj
  unfold spec_l11Put.f gput
  rw [idx_w h0 h hi0 hi hj0 hj, if_pos (by omega), if_pos (by omega)]
/-! spec_l11Add -/
theorem sl11Add_eq (a b : Int) : spec_l11Add.f a b = some (if a ≥ 1099511627776 ∨ b ≥ 1099511627776 ∨ wrap64 (a + b) ≥ 1099511627776 then 1099511627776 else wrap64 (a + b)) := by
  unfold spec_l11Add.f
  by_cases c : a ≥ 1099511627776
  · rw [if_pos c, if_pos (.inl c)]
  · rw [if_neg c]
    by_cases c2 : b ≥ 1099511627776
    · rw [if_pos c2, if_pos (.inr (.inl c2))]
    · rw [if_neg c2]
      by_cases c3 : wrap64 (a + b) ≥ 1099511627776
      · rw [if_pos c3, if_pos (.inr (.inr c3))]
      · rw [if_neg c3, if_neg (by omega)]
/-! spec_l11Add impl_gapsTogether -/
theorem together_eq {a b : Int} (ha : a ≤ 1099511627776) (hb : b ≤ 1099511627776) : impl_gapsTogether.f a b = spec_l11Add.f a b := by
  unfold impl_gapsTogether.f spec_l11Add.f
  by_cases c : a ≥ 1099511627776
  · rw [if_pos (by omega : a = 1099511627776), if_pos c]
  · rw [if_neg (by omega : ¬ a = 1099511627776), if_neg c]
    by_cases c2 : b ≥ 1099511627776
    · rw [if_pos (by omega : b = 1099511627776), if_pos c2]
    · rw [if_neg (by omega : ¬ b = 1099511627776), if_neg c2]
/-! spec_GapsClose impl_GapsClose spec_l11Add impl_gapsTogether -/
theorem idx_w2 {n i j : Int} (h0 : 0 ≤ n) (h : n ≤ 12) (hi0 : 0 ≤ i) (hi : i ≤ n) (hj0 : 0 ≤ j) (hj : j ≤ n) : wrap64 (wrap64 (i * (n + 1)) + j) = i * (n + 1) + j := by
  have := idx_w h0 h hi0 hi hj0 hj
  rwa [wrap64_id (x := n + 1) (by omega) (by omega)] at this
/-- A matrix on the way to be closed. -/
def Way (n : Int) (d : List Int) : Prop := (d.length : Int) = (n + 1) * (n + 1) ∧ ∀ p : Int, 0 ≤ p → p < (d.length : Int) → rd d p ≤ 1099511627776
def Less (n : Int) (d' d : List Int) : Prop := ∀ i j : Int, 0 ≤ i → i ≤ n → 0 ≤ j → j ≤ n → gat n d' i j ≤ gat n d i j
theorem close_l2 {n : Int} (h0 : 0 ≤ n) (h : n ≤ 12) (d0 : List Int) (t i : Int) (ht0 : 0 ≤ t) (ht : t ≤ n) (hi0 : 0 ≤ i) (hi : i ≤ n) : ∀ (m : Nat) (j : Int) (d : List Int), (n + 1 - j).toNat = m → 0 ≤ j → j ≤ n + 1 → Way n d →
    ∃ d', Way n d' ∧ Less n d' d ∧ ∀ K : Nat, spec_GapsClose.l2 (K + (m + 1)) t i j n d0 n d = spec_GapsClose.l1 K t (i + 1) n d0 n d' ∧
      impl_GapsClose.l2 (K + (m + 1)) (n + 1) t i (n + 1) t (n + 1) i (n + 1) j n d = impl_GapsClose.l1 K (n + 1) t (n + 1) t (n + 1) (i + 1) n d'
  | 0, j, d, hm, hj, hj', w => by
    refine ⟨d, w, fun _ _ _ _ _ _ => Int.le_refl _, fun K => ⟨?_, ?_⟩⟩
    · show spec_GapsClose.l2 (K + 1) t i j n d0 n d = _
      rw [spec_GapsClose.l2, if_neg (show ¬ j ≤ n by omega), wrap64_id (by omega) (by omega)]
    · show impl_GapsClose.l2 (K + 1) _ _ _ _ _ _ _ _ _ _ _ = _
      rw [impl_GapsClose.l2, if_neg (show ¬ j < n + 1 by omega), wrap64_id (by omega) (by omega)]
  | m + 1, j, d, hm, hj, hj', w => by
    have w' := w
    obtain ⟨hl, ub⟩ := w'
    have a := idx_in h0 h hi0 hi ht0 ht
    have b := idx_in h0 h ht0 ht hj (by omega : j ≤ n)
    have c := idx_in h0 h hi0 hi hj (by omega : j ≤ n)
    have ua := ub (i * (n + 1) + t) (by omega) (by omega)
    have ub' := ub (t * (n + 1) + j) (by omega) (by omega)
    obtain ⟨s, hs, hsu⟩ : ∃ s, spec_l11Add.f (rd d (i * (n + 1) + t)) (rd d (t * (n + 1) + j)) = some s ∧ s ≤ 1099511627776 := ⟨_, sl11Add_eq _ _, by split <;> omega⟩
    have gs : impl_gapsTogether.f (rd d (i * (n + 1) + t)) (rd d (t * (n + 1) + j)) = some s := by rw [together_eq (by omega) (by omega), hs]
    have nw : Way n (gput n d i j s) := by
      refine ⟨by rw [gput_len]; exact hl, fun p hp hp' => ?_⟩
      rw [gput_len] at hp'
      unfold gput
      rw [rd_set _ _ _ _ (by omega) hp]
      split
      · exact hsu
      · exact ub p hp hp'
    by_cases q : s < rd d (i * (n + 1) + j)
    · obtain ⟨d', w2, le, eq⟩ := close_l2 h0 h d0 t i ht0 ht hi0 hi m (j + 1) (gput n d i j s) (by omega) (by omega) (by omega) nw
      refine ⟨d', w2, fun x y hx hx' hy hy' => ?_, fun K => ⟨?_, ?_⟩⟩
      · have := le x y hx hx' hy hy'
        rw [gat_put h0 h hl hi0 hi hj (by omega) hx hx' hy hy'] at this
        split at this
        · rename_i e; obtain ⟨rfl, rfl⟩ := e
          have q' : s < gat n d x y := q
          omega
        · exact this
      · show spec_GapsClose.l2 ((K + (m + 1)) + 1) t i j n d0 n d = _
        rw [spec_GapsClose.l2, if_pos (show j ≤ n by omega), sl11At_eq h0 h hl hi0 hi ht0 ht, sl11At_eq h0 h hl ht0 ht hj (by omega), sl11At_eq h0 h hl hi0 hi hj (by omega), Option.bind_some, Option.bind_some]
        show (spec_l11Add.f (rd d (i * (n + 1) + t)) (rd d (t * (n + 1) + j))).bind _ = _
        rw [hs, Option.bind_some, Option.bind_some, if_pos (show s < gat n d i j from q), sl11Put_eq _ h0 h hl hi0 hi hj (by omega), Option.bind_some, wrap64_id (by omega) (by omega)]
        exact (eq K).1
      · show impl_GapsClose.l2 ((K + (m + 1)) + 1) _ _ _ _ _ _ _ _ _ _ _ = _
        rw [impl_GapsClose.l2, if_pos (show j < n + 1 by omega), idx_w2 h0 h hi0 hi ht0 ht, idx_w2 h0 h ht0 ht hj (by omega), idx_w2 h0 h hi0 hi hj (by omega)]
        rw [if_pos a.1, if_pos (show i * (n + 1) + t < (d.length : Int) by omega), if_pos b.1, if_pos (show t * (n + 1) + j < (d.length : Int) by omega), gs, Option.bind_some, if_pos c.1, if_pos (show i * (n + 1) + j < (d.length : Int) by omega), if_pos q, wrap64_id (by omega) (by omega)]
        exact (eq K).2
    · obtain ⟨d', w2, le, eq⟩ := close_l2 h0 h d0 t i ht0 ht hi0 hi m (j + 1) d (by omega) (by omega) (by omega) w
      refine ⟨d', w2, le, fun K => ⟨?_, ?_⟩⟩
      · show spec_GapsClose.l2 ((K + (m + 1)) + 1) t i j n d0 n d = _
        rw [spec_GapsClose.l2, if_pos (show j ≤ n by omega), sl11At_eq h0 h hl hi0 hi ht0 ht, sl11At_eq h0 h hl ht0 ht hj (by omega), sl11At_eq h0 h hl hi0 hi hj (by omega), Option.bind_some, Option.bind_some]
        show (spec_l11Add.f (rd d (i * (n + 1) + t)) (rd d (t * (n + 1) + j))).bind _ = _
        rw [hs, Option.bind_some, Option.bind_some, if_neg (show ¬ s < gat n d i j from q), wrap64_id (by omega) (by omega)]
        exact (eq K).1
      · show impl_GapsClose.l2 ((K + (m + 1)) + 1) _ _ _ _ _ _ _ _ _ _ _ = _
        rw [impl_GapsClose.l2, if_pos (show j < n + 1 by omega), idx_w2 h0 h hi0 hi ht0 ht, idx_w2 h0 h ht0 ht hj (by omega), idx_w2 h0 h hi0 hi hj (by omega)]
        rw [if_pos a.1, if_pos (show i * (n + 1) + t < (d.length : Int) by omega), if_pos b.1, if_pos (show t * (n + 1) + j < (d.length : Int) by omega), gs, Option.bind_some, if_pos c.1, if_pos (show i * (n + 1) + j < (d.length : Int) by omega), if_neg q, wrap64_id (by omega) (by omega)]
        exact (eq K).2
theorem close_l1 {n : Int} (h0 : 0 ≤ n) (h : n ≤ 12) (d0 : List Int) (t : Int) (ht0 : 0 ≤ t) (ht : t ≤ n) : ∀ (m : Nat) (i : Int) (d : List Int), (n + 1 - i).toNat = m → 0 ≤ i → i ≤ n + 1 → Way n d →
    ∃ d', Way n d' ∧ Less n d' d ∧ ∃ F : Nat, F ≤ m * 25 + 1 ∧ ∀ K : Nat, spec_GapsClose.l1 (K + F) t i n d0 n d = spec_GapsClose.l0 K (t + 1) n d0 n d' ∧
      impl_GapsClose.l1 (K + F) (n + 1) t (n + 1) t (n + 1) i n d = impl_GapsClose.l3 K (n + 1) (n + 1) t (n + 1) 0 n d'
  | 0, i, d, hm, hi, hi', w => by
    refine ⟨d, w, fun _ _ _ _ _ _ => Int.le_refl _, 1, by omega, fun K => ⟨?_, ?_⟩⟩
    · rw [spec_GapsClose.l1, if_neg (show ¬ i ≤ n by omega), wrap64_id (by omega) (by omega)]
    · rw [impl_GapsClose.l1, if_neg (show ¬ i < n + 1 by omega)]
  | m + 1, i, d, hm, hi, hi', w => by
    obtain ⟨d1, w1, le1, eq1⟩ := close_l2 h0 h d0 t i ht0 ht hi (by omega) _ 0 d rfl (by omega) (by omega) w
    obtain ⟨d2, w2, le2, F, hF, eq2⟩ := close_l1 h0 h d0 t ht0 ht m (i + 1) d1 (by omega) (by omega) (by omega) w1
    refine ⟨d2, w2, fun x y a b c e => Int.le_trans (le2 x y a b c e) (le1 x y a b c e), F + ((n + 1 - 0).toNat + 1) + 1, by omega, fun K => ⟨?_, ?_⟩⟩
    · rw [show K + (F + ((n + 1 - 0).toNat + 1) + 1) = (K + F + ((n + 1 - 0).toNat + 1)) + 1 by omega]
      rw [spec_GapsClose.l1, if_pos (show i ≤ n by omega), (eq1 (K + F)).1, (eq2 K).1]
    · rw [show K + (F + ((n + 1 - 0).toNat + 1) + 1) = (K + F + ((n + 1 - 0).toNat + 1)) + 1 by omega]
      rw [impl_GapsClose.l1, if_pos (show i < n + 1 by omega), (eq1 (K + F)).2, (eq2 K).2]
/-- A number that is below itself. -/
def Loops (n : Int) (d : List Int) : Prop := ∃ i : Int, 0 ≤ i ∧ i ≤ n ∧ gat n d i i < 0
theorem close_l3 {n : Int} (h0 : 0 ≤ n) (h : n ≤ 12) (t : Int) (d : List Int) (ht0 : 0 ≤ t) (ht : t ≤ n) (hl : (d.length : Int) = (n + 1) * (n + 1)) : ∀ (m : Nat) (i : Int), (n + 1 - i).toNat = m → 0 ≤ i → i ≤ n + 1 →
    (∀ x : Int, 0 ≤ x → x < i → ¬ gat n d x x < 0) → ∀ K : Nat, (Loops n d → impl_GapsClose.l3 (K + (m + 1)) (n + 1) (n + 1) t (n + 1) i n d = some (0, [], false)) ∧
      (¬ Loops n d → impl_GapsClose.l3 (K + (m + 1)) (n + 1) (n + 1) t (n + 1) i n d = impl_GapsClose.l0 K (n + 1) (n + 1) (t + 1) n d)
  | 0, i, hm, hi, hi', hx, K => by
    refine ⟨fun l => ?_, fun l => ?_⟩
    · obtain ⟨x, a, b, c⟩ := l
      exact absurd c (hx x a (by omega))
    · show impl_GapsClose.l3 (K + 1) _ _ _ _ _ _ _ = _
      rw [impl_GapsClose.l3, if_neg (show ¬ i < n + 1 by omega), wrap64_id (by omega) (by omega)]
  | m + 1, i, hm, hi, hi', hx, K => by
    have a := idx_in h0 h hi (by omega : i ≤ n) hi (by omega)
    have step : impl_GapsClose.l3 (K + (m + 1 + 1)) (n + 1) (n + 1) t (n + 1) i n d = if gat n d i i < 0 then some (0, [], false) else impl_GapsClose.l3 (K + (m + 1)) (n + 1) (n + 1) t (n + 1) (i + 1) n d := by
      show impl_GapsClose.l3 ((K + (m + 1)) + 1) _ _ _ _ _ _ _ = _
      rw [impl_GapsClose.l3, if_pos (show i < n + 1 by omega), idx_w2 h0 h hi (by omega) hi (by omega), if_pos a.1, if_pos (show i * (n + 1) + i < (d.length : Int) by omega), wrap64_id (x := i + 1) (by omega) (by omega)]
      rfl
    rw [step]
    by_cases c : gat n d i i < 0
    · rw [if_pos c]
      exact ⟨fun _ => rfl, fun l => absurd ⟨i, hi, by omega, c⟩ l⟩
    · rw [if_neg c]
      refine close_l3 h0 h t d ht0 ht hl m (i + 1) (by omega) (by omega) (by omega) (fun x p q => ?_) K
      by_cases e : x = i
      · subst e; exact c
      · exact hx x p (by omega)
theorem diag_pos {n p : Int} (h0 : 0 ≤ n) (h : n ≤ 12) (hp : 0 ≤ p) (hp' : p < (n + 1) * (n + 1)) (e : Int.tmod p (n + 2) = 0) : ∃ i : Int, 0 ≤ i ∧ i ≤ n ∧ p = i * (n + 1) + i := by
  rw [Int.tmod_eq_emod_of_nonneg hp] at e
  refine ⟨p / (n + 2), ?_⟩
  rcases twelve h0 h with rfl | rfl | rfl | rfl | rfl | rfl | rfl | rfl | rfl | rfl | rfl | rfl | rfl <;> omega
theorem pos_diag {n i : Int} (h0 : 0 ≤ n) (h : n ≤ 12) (hi : 0 ≤ i) (hi' : i ≤ n) : Int.tmod (i * (n + 1) + i) (n + 2) = 0 := by
  have a := idx_in h0 h hi hi' hi hi'
  rw [Int.tmod_eq_emod_of_nonneg a.1]
  rcases twelve h0 h with rfl | rfl | rfl | rfl | rfl | rfl | rfl | rfl | rfl | rfl | rfl | rfl | rfl <;> omega
theorem close_neg3 {n : Int} (h0 : 0 ≤ n) (h : n ≤ 12) (d0 d : List Int) (hl : (d.length : Int) = (n + 1) * (n + 1)) (i : Int) (hi : 0 ≤ i) (hi' : i ≤ n) (c : gat n d i i < 0) : ∀ (m : Nat) (p : Int) (K : Nat), (i * (n + 1) + i - p).toNat = m → 0 ≤ p → p ≤ i * (n + 1) + i → m < K →
    spec_GapsClose.l3 K p n d0 n d = some (0, [], false)
  | m, p, 0, _, _, _, h => absurd h (by omega)
  | m, p, K + 1, hm, hp, hp', hK => by
    have a := idx_in h0 h hi hi' hi hi'
    rw [spec_GapsClose.l3, if_pos (show p < (d.length : Int) by omega), if_pos hp]
    by_cases q : rd d p < -4294967296
    · rw [if_pos q]
    · rw [if_neg q, wrap64_id (x := n + 2) (by omega) (by omega), if_neg (show ¬ n + 2 = 0 by omega), wrap64_id (x := p + 1) (by omega) (by omega)]
      match m, hm with
      | 0, hm =>
        obtain rfl : p = i * (n + 1) + i := by omega
        rw [if_pos (pos_diag h0 h hi hi'), if_pos (show rd d (i * (n + 1) + i) < 0 from c)]
      | m + 1, hm =>
        have next := close_neg3 h0 h d0 d hl i hi hi' c m (p + 1) K (by omega) (by omega) (by omega) (by omega)
        by_cases e : Int.tmod p (n + 2) = 0
        · rw [if_pos e]
          by_cases z : rd d p < 0
          · rw [if_pos z]
          · rw [if_neg z]; exact next
        · rw [if_neg e]; exact next
set_option maxRecDepth 20000 in
theorem close_neg {n : Int} (h0 : 0 ≤ n) (h : n ≤ 12) (d0 : List Int) (m : Nat) : ∀ (t : Int) (d : List Int) (K : Nat), (n + 1 - t).toNat = m → 0 ≤ t → t ≤ n + 1 → Way n d → Loops n d → m * 500 + 500 ≤ K → spec_GapsClose.l0 K t n d0 n d = some (0, [], false) := by
  induction m with
  | zero =>
    intro t d K hm ht ht' w l hK
    obtain ⟨K, rfl⟩ : ∃ K', K = K' + 1 := ⟨K - 1, by omega⟩
    obtain ⟨i, a, b, c⟩ := l
    have ix := idx_in h0 h a b a b
    rw [spec_GapsClose.l0, if_neg (show ¬ t ≤ n by omega)]
    exact close_neg3 h0 h d0 d w.1 i a b c _ 0 K rfl (by omega) (by omega) (by omega)
  | succ m ih =>
    intro t d K hm ht ht' w l hK
    obtain ⟨K, rfl⟩ : ∃ K', K = K' + 1 := ⟨K - 1, by omega⟩
    obtain ⟨d', w', le, F, hF, eq⟩ := close_l1 h0 h d0 t ht (by omega) _ 0 d rfl (by omega) (by omega) w
    rw [spec_GapsClose.l0, if_pos (show t ≤ n by omega)]
    obtain ⟨G, e⟩ : ∃ G, K = G + F := ⟨K - F, by omega⟩
    rw [e, (eq G).1]
    obtain ⟨i, a, b, c⟩ := l
    exact ih (t + 1) d' G (by omega) (by omega) (by omega) w' ⟨i, a, b, Int.lt_of_le_of_lt (le i i a b a b) c⟩ (by omega)
theorem close_end {n : Int} (h0 : 0 ≤ n) (h : n ≤ 12) (d0 d : List Int) (hl : (d.length : Int) = (n + 1) * (n + 1)) (nl : ¬ Loops n d) : ∀ (m : Nat) (p : Int) (K L : Nat), ((d.length : Int) - p).toNat = m → 0 ≤ p → p ≤ (d.length : Int) → m < K → m < L →
    ∃ r, spec_GapsClose.l3 K p n d0 n d = some r ∧ impl_GapsClose.l4 L d (d.length : Int) p n d = some r ∧ r.2.1.length ≤ 169 ∧ (r.2.2 = true → r.1 = n ∧ r.2.1 = d ∧ ∀ q : Int, p ≤ q → q < (d.length : Int) → -4294967296 ≤ rd d q)
  | m, p, 0, _, _, _, _, h, _ => absurd h (by omega)
  | m, p, _, 0, _, _, _, _, h => absurd h (by omega)
  | 0, p, K + 1, L + 1, hm, hp, hp', hK, hL => by
    rw [spec_GapsClose.l3, impl_GapsClose.l4, if_neg (show ¬ p < (d.length : Int) by omega), if_neg (show ¬ p < (d.length : Int) by omega)]
    exact ⟨_, rfl, rfl, len_small h0 h hl, fun _ => ⟨rfl, rfl, fun q a b => absurd a (by omega)⟩⟩
  | m + 1, p, K + 1, L + 1, hm, hp, hp', hK, hL => by
    have sm := len_small h0 h hl
    rw [spec_GapsClose.l3, impl_GapsClose.l4, if_pos (show p < (d.length : Int) by omega), if_pos (show p < (d.length : Int) by omega), if_pos (show 0 ≤ p by omega), if_pos (show 0 ≤ p by omega), if_pos (show p < (d.length : Int) by omega)]
    by_cases q : rd d p < -4294967296
    · rw [if_pos q, if_pos q]
      exact ⟨_, rfl, rfl, by simp, fun f => (nomatch f)⟩
    · rw [if_neg q, if_neg q, wrap64_id (x := n + 2) (by omega) (by omega), if_neg (show ¬ n + 2 = 0 by omega), wrap64_id (x := p + 1) (by omega) (by omega)]
      obtain ⟨r, n1, n2, n3, n4⟩ := close_end h0 h d0 d hl nl m (p + 1) K L (by omega) (by omega) (by omega) (by omega) (by omega)
      refine ⟨r, ?_, n2, n3, fun f => ⟨(n4 f).1, (n4 f).2.1, fun x a b => ?_⟩⟩
      rotate_left
      · by_cases e : x = p
        · subst e; omega
        · exact (n4 f).2.2 x (by omega) b
      by_cases e : Int.tmod p (n + 2) = 0
      · obtain ⟨i, a, b, c⟩ := diag_pos h0 h hp (by omega) e
        have z : ¬ rd d p < 0 := fun z => nl ⟨i, a, b, by unfold gat; rw [← c]; exact z⟩
        rw [if_pos e, if_neg z]; exact n1
      · rw [if_neg e]; exact n1
set_option maxRecDepth 20000 in
theorem close_l0 {n : Int} (h0 : 0 ≤ n) (h : n ≤ 12) (d0 : List Int) (m : Nat) : ∀ (t : Int) (d : List Int) (K L : Nat), (n + 1 - t).toNat = m → 0 ≤ t → t ≤ n + 1 → Way n d → (m = 0 → ¬ Loops n d) → m * 1000 + 1000 ≤ K → m * 1000 + 1000 ≤ L →
    ∃ r, spec_GapsClose.l0 K t n d0 n d = some r ∧ impl_GapsClose.l0 L (n + 1) (n + 1) t n d = some r ∧ r.2.1.length ≤ 169 ∧ (r.2.2 = true → r.1 = n ∧ Way n r.2.1 ∧ Less n r.2.1 d ∧ ¬ Loops n r.2.1 ∧ ∀ q : Int, 0 ≤ q → q < (r.2.1.length : Int) → -4294967296 ≤ rd r.2.1 q) := by
  induction m with
  | zero =>
    intro t d K L hm ht ht' w l hK hL
    obtain ⟨K, rfl⟩ : ∃ K', K = K' + 1 := ⟨K - 1, by omega⟩
    obtain ⟨L, rfl⟩ : ∃ K', L = K' + 1 := ⟨L - 1, by omega⟩
    have sm := len_small h0 h w.1
    rw [spec_GapsClose.l0, impl_GapsClose.l0, if_neg (show ¬ t ≤ n by omega), if_neg (show ¬ t < n + 1 by omega)]
    obtain ⟨r, n1, n2, n3, n4⟩ := close_end h0 h d0 d w.1 (l rfl) _ 0 K L rfl (by omega) (by omega) (by omega) (by omega)
    refine ⟨r, n1, n2, n3, fun f => ?_⟩
    obtain ⟨a, b, c⟩ := n4 f
    rw [b]
    exact ⟨a, w, fun _ _ _ _ _ _ => Int.le_refl _, l rfl, c⟩
  | succ m ih =>
    intro t d K L hm ht ht' w l hK hL
    obtain ⟨K, rfl⟩ : ∃ K', K = K' + 1 := ⟨K - 1, by omega⟩
    obtain ⟨L, rfl⟩ : ∃ K', L = K' + 1 := ⟨L - 1, by omega⟩
    obtain ⟨d', w', le, F, hF, eq⟩ := close_l1 h0 h d0 t ht (by omega) _ 0 d rfl (by omega) (by omega) w
    rw [spec_GapsClose.l0, impl_GapsClose.l0, if_pos (show t ≤ n by omega), if_pos (show t < n + 1 by omega)]
    obtain ⟨G, e⟩ : ∃ G, K = G + F := ⟨K - F, by omega⟩
    obtain ⟨H, e'⟩ : ∃ H, L = (H + ((n + 1 - 0).toNat + 1)) + F := ⟨L - F - ((n + 1 - 0).toNat + 1), by omega⟩
    rw [e, (eq G).1, e', (eq _).2]
    have s3 := close_l3 h0 h t d' ht (by omega) w'.1 _ 0 rfl (by omega) (by omega) (fun x a b => absurd a (by omega)) H
    by_cases lo : Loops n d'
    · rw [s3.1 lo, close_neg h0 h d0 m (t + 1) d' G (by omega) (by omega) (by omega) w' lo (by omega)]
      exact ⟨_, rfl, rfl, by simp, fun f => (nomatch f)⟩
    · rw [s3.2 lo]
      obtain ⟨r, n1, n2, n3, n4⟩ := ih (t + 1) d' G H (by omega) (by omega) (by omega) w' (fun _ => lo) (by omega) (by omega)
      exact ⟨r, n1, n2, n3, fun f => ⟨(n4 f).1, (n4 f).2.1, fun x y a b c e => Int.le_trans ((n4 f).2.2.1 x y a b c e) (le x y a b c e), (n4 f).2.2.2⟩⟩
theorem close_full {k : Nat} (n : Int) (d : List Int) (hk : 3000000 ≤ k) : ∃ r, spec_GapsClose.f k n d = some r ∧ impl_GapsClose.f k n d = some r ∧ r.2.1.length ≤ 169 ∧ (r.2.2 = true → GOk n d ∧ r.1 = n ∧ GOk n r.2.1 ∧ ∀ q : Int, 0 ≤ q → q < (r.2.1.length : Int) → -4294967296 ≤ rd r.2.1 q) := by
  unfold spec_GapsClose.f impl_GapsClose.f
  by_cases g : GOk n d
  · have g' := g
    obtain ⟨h0, h, hl, hin, hz⟩ := g'
    have sm := len_small h0 h hl
    rw [sGapsOk_yes g (by omega), gapsOk_yes g (by omega), Option.bind_some, Option.bind_some, if_pos rfl, if_pos rfl, sl11Copy_eq n d (by omega) (by omega), clone_eq n d (by omega), Option.bind_some, Option.bind_some, wrap64_id (x := n + 1) (by omega) (by omega)]
    obtain ⟨r, n1, n2, n3, n4⟩ := close_l0 h0 h d _ 0 d k k rfl (by omega) (by omega) ⟨hl, fun p a b => (hin p a b).2⟩ (fun e => absurd e (by omega)) (by omega) (by omega)
    refine ⟨r, n1, n2, n3, fun f => ?_⟩
    obtain ⟨m1, m2, m3, m4, m5⟩ := n4 f
    refine ⟨g, m1, ⟨h0, h, m2.1, fun p a b => ⟨?_, m2.2 p a b⟩, fun i a b => ?_⟩, m5⟩
    · have := m5 p a b; omega
    · have x1 := m3 i i a b a b
      have x2 : gat n d i i = 0 := hz i a b
      have x3 : ¬ gat n r.2.1 i i < 0 := fun q => m4 ⟨i, a, b, q⟩
      show gat n r.2.1 i i = 0
      omega
  · rw [sGapsOk_no g (by omega), gapsOk_no g (by omega)]
    exact ⟨_, rfl, rfl, by simp, fun f => (nomatch f)⟩
theorem close_both {k : Nat} (n : Int) (d : List Int) (hk : 3000000 ≤ k) : ∃ r, spec_GapsClose.f k n d = some r ∧ impl_GapsClose.f k n d = some r ∧ r.2.1.length ≤ 169 := by
  obtain ⟨r, a, b, c, _⟩ := close_full (k := k) n d hk
  exact ⟨r, a, b, c⟩
/-! spec_GapsTop -/
theorem gapsTop_l1 (n i : Int) (hn0 : 0 ≤ n) (hn : n ≤ 12) (Q : Int × List Int → Prop) (G : Nat) (hi0 : 0 ≤ i) (hi : i ≤ 12) (rest : ∀ k acc, G ≤ k → (acc.length : Int) = (i + 1) * (n + 1) → Tot (spec_GapsTop.l0 k n (i + 1) n acc) Q) : ∀ (m k : Nat) (j : Int) (acc : List Int), (n + 1 - j).toNat = m → 0 ≤ j → j ≤ n + 1 → G + m < k → (acc.length : Int) = i * (n + 1) + j →
    Tot (spec_GapsTop.l1 k n i j n acc) Q
  | m, 0, _, _, _, _, _, h, _ => absurd h (by omega)
  | 0, k + 1, j, acc, hm, hj, hj', hk, hl => by
    rw [spec_GapsTop.l1, if_neg (show ¬ j ≤ n by omega), wrap64_id (by omega) (by omega)]
    refine rest k acc (by omega) ?_
    rw [hl, Int.add_mul i 1 (n + 1), Int.one_mul]; omega
  | m + 1, k + 1, j, acc, hm, hj, hj', hk, hl => by
    have small : acc.length < 17592186044416 := by
      rcases twelve hn0 hn with rfl | rfl | rfl | rfl | rfl | rfl | rfl | rfl | rfl | rfl | rfl | rfl | rfl <;> omega
    rw [spec_GapsTop.l1, if_pos (show j ≤ n by omega), if_pos small, if_pos small, wrap64_id (by omega) (by omega)]
    refine Tot.ite (fun _ => ?_) (fun _ => ?_)
    · exact gapsTop_l1 n i hn0 hn Q G hi0 hi rest m k (j + 1) _ (by omega) (by omega) (by omega) (by omega) (by simp; omega)
    · exact gapsTop_l1 n i hn0 hn Q G hi0 hi rest m k (j + 1) _ (by omega) (by omega) (by omega) (by omega) (by simp; omega)
theorem gapsTop_l0 (n : Int) (hn0 : 0 ≤ n) (hn : n ≤ 12) (m : Nat) : ∀ (k : Nat) (i : Int) (acc : List Int), (n + 1 - i).toNat = m → 0 ≤ i → i ≤ n + 1 → m * 20 < k → (acc.length : Int) = i * (n + 1) →
    Tot (spec_GapsTop.l0 k n i n acc) fun r => r.1 = n ∧ (r.2.length : Int) = (n + 1) * (n + 1) := by
  induction m with
  | zero =>
    intro k i acc hm hi hi' hk hl
    obtain ⟨k, rfl⟩ : ∃ K, k = K + 1 := ⟨k - 1, by omega⟩
    rw [spec_GapsTop.l0, if_neg (show ¬ i ≤ n by omega)]
    have e : i = n + 1 := by omega
    subst e
    exact Tot.here ⟨rfl, hl⟩
  | succ m ih =>
    intro k i acc hm hi hi' hk hl
    obtain ⟨k, rfl⟩ : ∃ K, k = K + 1 := ⟨k - 1, by omega⟩
    rw [spec_GapsTop.l0, if_pos (show i ≤ n by omega)]
    exact gapsTop_l1 n i hn0 hn _ (m * 20 + 1) hi (by omega) (fun k acc a b => ih k (i + 1) acc (by omega) (by omega) (by omega) (by omega) b) _ k 0 acc rfl (by omega) (by omega) (by omega) (by omega)
theorem gapsTop_tot {k : Nat} (n : Int) (hn0 : 0 ≤ n) (hn : n ≤ 12) (hk : 1000 ≤ k) : Tot (spec_GapsTop.f k n) fun r => r.1 = n ∧ (r.2.length : Int) = (n + 1) * (n + 1) := by
  unfold spec_GapsTop.f
  rw [sin_eq, Option.bind_some, decide_eq_true (show 0 ≤ n ∧ n ≤ 12 from ⟨hn0, hn⟩), if_pos rfl]
  exact gapsTop_l0 n hn0 hn _ k 0 [] rfl (by omega) (by omega) (by omega) (by simp)
/-! spec_l11Num -/
theorem l11Num_tot {x : List Int} {n i : Int} (hl : (x.length : Int) = n) (hn : n ≤ 12) (h0 : 0 ≤ i) (h : i ≤ n) : Tot (spec_l11Num.f x i) fun _ => True := by
  unfold spec_l11Num.f
  refine Tot.ite (fun _ => Tot.here trivial) (fun c => ?_)
  rw [wrap64_id (x := i - 1) (by omega) (by omega), if_pos (by omega), if_pos (by omega)]
  exact Tot.here trivial
/-! spec_l11Size -/
theorem l11Size_tot {k : Nat} {s : List Int} {p : Int} (hs : Bytes s) (hk : 10 ≤ k) (h0 : 0 ≤ p) (h1 : p ≤ 1000000) : Tot (spec_l11Size.f k s p) fun r => 0 ≤ r.1 ∧ r.1 ≤ 12 ∧ p ≤ r.2 ∧ r.2 ≤ p + 2 := by
  unfold spec_l11Size.f
  refine Tot.then (pick_tot k (by omega) hs h0 (by omega)) ?_
  rintro ⟨a, q⟩ ⟨hq, ha, hb⟩
  dsimp only at hq ha hb ⊢
  refine Tot.ite (fun _ => Tot.here ⟨by dsimp only; omega, by dsimp only; omega, by dsimp only; omega, by dsimp only; omega⟩) (fun _ => ?_)
  refine Tot.then (pick_tot k (by omega) hs (by omega) (by omega)) ?_
  rintro ⟨a2, q2⟩ ⟨hq2, ha2, hb2⟩
  dsimp only at hq2 ha2 hb2 ⊢
  have := hb2 (by omega)
  exact Tot.here ⟨by dsimp only; omega, by dsimp only; omega, by dsimp only; omega, by dsimp only; omega⟩
/-! spec_l11Numbers -/
theorem l11Numbers_tot {s : List Int} (hs : Bytes s) (n : Int) (hn : n ≤ 12) (m : Nat) : ∀ (k : Nat) (i p : Int) (acc : List Int), (n - i).toNat = m → 0 ≤ i → i ≤ n → m + 100 ≤ k → 0 ≤ p → p + 10 * m ≤ 1000000 → (acc.length : Int) = i →
    Tot (spec_l11Numbers.l0 k n acc i s p) fun r => (r.1.length : Int) = n ∧ p ≤ r.2 ∧ r.2 ≤ p + 10 * m := by
  induction m with
  | zero =>
    intro k i p acc hm hi hi' hk hp hp' hl
    obtain ⟨k, rfl⟩ : ∃ K, k = K + 1 := ⟨k - 1, by omega⟩
    rw [spec_l11Numbers.l0, if_neg (show ¬ i < n by omega)]
    exact Tot.here ⟨by dsimp only; omega, by dsimp only; omega, by dsimp only; omega⟩
  | succ m ih =>
    intro k i p acc hm hi hi' hk hp hp' hl
    obtain ⟨k, rfl⟩ : ∃ K, k = K + 1 := ⟨k - 1, by omega⟩
    rw [spec_l11Numbers.l0, if_pos (show i < n by omega), wrap64_id (x := i + 1) (by omega) (by omega)]
    refine Tot.then (pick_tot k (by omega) hs hp (by omega)) ?_
    rintro ⟨a, q⟩ ⟨hq, ha, hb⟩
    dsimp only at hq ha hb ⊢
    refine Tot.ite (fun _ => ?_) (fun _ => ?_)
    · refine Tot.then (num_tot k (by omega) hs (by omega) (by omega)) ?_
      rintro ⟨a2, q2⟩ ⟨hq2, hq3, _⟩
      dsimp only at hq2 hq3 ⊢
      rw [if_pos (show acc.length < 17592186044416 by omega)]
      refine (ih k (i + 1) q2 (acc ++ [a2]) (by omega) (by omega) (by omega) (by omega) (by omega) (by omega) (by simp; omega)).mono fun r hr => ⟨hr.1, by omega, by omega⟩
    · refine Tot.then (pick_tot k (by omega) hs (by omega) (by omega)) ?_
      rintro ⟨a2, q2⟩ ⟨hq2, ha2, hb2⟩
      dsimp only at hq2 ha2 hb2 ⊢
      rw [if_pos (show acc.length < 17592186044416 by omega)]
      refine (ih k (i + 1) q2 (acc ++ [wrap64 (a2 - 10)]) (by omega) (by omega) (by omega) (by omega) (by omega) (by omega) (by simp; omega)).mono fun r hr => ⟨hr.1, by omega, by omega⟩
/-! spec_l11Gaps spec_GapsTop spec_l11Num spec_l11Put -/
theorem l11Gaps_loop {s : List Int} (hs : Bytes s) (n : Int) (hn0 : 0 ≤ n) (hn : n ≤ 12) (x : List Int) (hx : (x.length : Int) = n) (m : Nat) : ∀ (k : Nat) (c p : Int) (d : List Int), c.toNat = m → 0 ≤ c → c ≤ 1000 → m + 100 ≤ k → 0 ≤ p → p + 10 * m ≤ 1000000 → (d.length : Int) = (n + 1) * (n + 1) →
    Tot (spec_l11Gaps.l0 k n x c s p n d) fun r => r.1 = n ∧ (r.2.1.length : Int) = (n + 1) * (n + 1) ∧ p ≤ r.2.2 ∧ r.2.2 ≤ p + 10 * m := by
  induction m with
  | zero =>
    intro k c p d hm hc hc' hk hp hp' hl
    obtain ⟨k, rfl⟩ : ∃ K, k = K + 1 := ⟨k - 1, by omega⟩
    rw [spec_l11Gaps.l0, if_neg (show ¬ c > 0 by omega)]
    exact Tot.here ⟨rfl, hl, by dsimp only; omega, by dsimp only; omega⟩
  | succ m ih =>
    intro k c p d hm hc hc' hk hp hp' hl
    obtain ⟨k, rfl⟩ : ∃ K, k = K + 1 := ⟨k - 1, by omega⟩
    rw [spec_l11Gaps.l0, if_pos (show c > 0 by omega), wrap64_id (x := c - 1) (by omega) (by omega), wrap64_id (x := n + 1) (by omega) (by omega)]
    refine Tot.then (pick_tot k (by omega) hs hp (by omega)) ?_
    rintro ⟨i, q1⟩ ⟨e1, i0, i1⟩
    dsimp only at e1 i0 i1 ⊢
    refine Tot.then (pick_tot k (by omega) hs (by omega) (by omega)) ?_
    rintro ⟨j, q2⟩ ⟨e2, j0, j1⟩
    dsimp only at e2 j0 j1 ⊢
    have i2 := i1 (by omega)
    have j2 := j1 (by omega)
    refine Tot.ite (fun _ => ?_) (fun _ => ?_)
    · exact (ih k (c - 1) q2 d (by omega) (by omega) (by omega) (by omega) (by omega) (by omega) hl).mono fun r hr => ⟨hr.1, hr.2.1, by omega, by omega⟩
    · refine Tot.then (l11Num_tot hx hn i0 (by omega)) ?_
      intro t1 _
      refine Tot.then (l11Num_tot hx hn j0 (by omega)) ?_
      intro t2 _
      refine Tot.then (pick_tot k (by omega) hs (by omega) (by omega)) ?_
      rintro ⟨a, q3⟩ ⟨e3, a0, a1⟩
      dsimp only at e3 a0 a1 ⊢
      refine Tot.then (pick_tot k (by omega) hs (by omega) (by omega)) ?_
      rintro ⟨b, q4⟩ ⟨e4, b0, b1⟩
      dsimp only at e4 b0 b1 ⊢
      have next : ∀ v : Int, Tot (spec_l11Gaps.l0 k n x (c - 1) s q4 n (gput n d i j v)) fun r => r.1 = n ∧ (r.2.1.length : Int) = (n + 1) * (n + 1) ∧ p ≤ r.2.2 ∧ r.2.2 ≤ p + 10 * (m + 1 : Nat) := fun v =>
        (ih k (c - 1) q4 (gput n d i j v) (by omega) (by omega) (by omega) (by omega) (by omega) (by omega) (by rw [gput_len]; exact hl)).mono fun r hr => ⟨hr.1, hr.2.1, by omega, by omega⟩
      refine Tot.ite (fun _ => ?_) (fun _ => ?_)
      · rw [sl11Put_eq _ hn0 hn hl i0 (by omega) j0 (by omega)]; exact next _
      · rw [sl11Put_eq _ hn0 hn hl i0 (by omega) j0 (by omega)]; exact next _
theorem l11Gaps_tot {k : Nat} {s : List Int} {p : Int} (hs : Bytes s) (hk : 3000 ≤ k) (h0 : 0 ≤ p) (h1 : p ≤ 500000) (n : Int) (hn0 : 0 ≤ n) (hn : n ≤ 12) (x : List Int) (hx : (x.length : Int) = n) :
    Tot (spec_l11Gaps.f k s p n x) fun r => r.1 = n ∧ (r.2.1.length : Int) = (n + 1) * (n + 1) ∧ p ≤ r.2.2 ∧ r.2.2 ≤ 600000 := by
  unfold spec_l11Gaps.f
  refine Tot.then (gapsTop_tot n hn0 hn (by omega)) ?_
  rintro ⟨n', d⟩ ⟨e, hl⟩
  dsimp only at e hl ⊢
  subst e
  rw [wrap64_id (x := 3 * n') (by omega) (by omega), wrap64_id (x := 3 * n' + 3) (by omega) (by omega)]
  refine Tot.then (pick_tot k (by omega) hs h0 (by omega)) ?_
  rintro ⟨c, q⟩ ⟨e, c0, c1⟩
  dsimp only at e c0 c1 ⊢
  have := c1 (by omega)
  exact (l11Gaps_loop hs n' hn0 hn x hx _ k c q d rfl c0 (by omega) (by omega) (by omega) (by omega) hl).mono fun r hr => ⟨hr.1, hr.2.1, by omega, by omega⟩
/-! spec_l11Spoilt -/
theorem l11Spoilt_tot {k : Nat} {s : List Int} {p : Int} (hs : Bytes s) (hk : 3000 ≤ k) (h0 : 0 ≤ p) (h1 : p ≤ 700000) (n : Int) (d : List Int) (hd : d.length ≤ 169) :
    Tot (spec_l11Spoilt.f k s p n d) fun r => r.2.1.length ≤ 170 ∧ p ≤ r.2.2 ∧ r.2.2 ≤ p + 3 := by
  obtain ⟨k, rfl⟩ : ∃ K, k = K + 1 + 1 + 1 := ⟨k - 3, by omega⟩
  unfold spec_l11Spoilt.f
  refine Tot.then (pick_tot _ (by omega) hs h0 (by omega)) ?_
  rintro ⟨c, q⟩ ⟨e, c0, c1⟩
  dsimp only at e c0 c1 ⊢
  have j2 : ∀ (b : Bool) (n : Int) (d : List Int), d.length ≤ 170 → (b = true → 0 < d.length) → Tot (spec_l11Spoilt.j2 (k + 1) b s q n d) fun r => r.2.1.length ≤ 170 ∧ p ≤ r.2.2 ∧ r.2.2 ≤ p + 3 := by
    intro b n d hd hb
    rw [spec_l11Spoilt.j2]
    refine Tot.ite (fun c => ?_) (fun _ => Tot.here ⟨hd, by dsimp only; omega, by dsimp only; omega⟩)
    have pos := hb c
    refine Tot.then (pick_tot _ (by omega) hs (by omega) (by omega)) ?_
    rintro ⟨u, q2⟩ ⟨e2, u0, u1⟩
    dsimp only at e2 u0 u1 ⊢
    rw [Option.bind_some]
    refine Tot.then (pick_tot _ (by omega) hs (by omega) (by omega)) ?_
    rintro ⟨u', q3⟩ ⟨e3, v0, v1⟩
    dsimp only at e3 v0 v1 ⊢
    have w1 := u1 (by omega)
    have w2 := v1 (by omega)
    rw [if_pos v0, if_pos (show u' < (([1099511627776, 1099511627777, (-1099511627776), (-1099511627777), 1] : List Int).length : Int) from w2), if_pos u0, if_pos w1]
    exact Tot.here ⟨by simpa using hd, by dsimp only; omega, by dsimp only; omega⟩
  have j1 : ∀ (n : Int) (d : List Int), d.length ≤ 170 → Tot (spec_l11Spoilt.j1 (k + 1 + 1) c s q n d) fun r => r.2.1.length ≤ 170 ∧ p ≤ r.2.2 ∧ r.2.2 ≤ p + 3 := by
    intro n d hd
    rw [spec_l11Spoilt.j1]
    refine Tot.ite (fun _ => j2 _ n d hd fun b => ?_) (fun _ => j2 _ n d hd fun b => (nomatch b))
    have := of_decide_eq_true b
    omega
  have j0 : ∀ (n : Int), Tot (spec_l11Spoilt.j0 (k + 1 + 1 + 1) c s q n d) fun r => r.2.1.length ≤ 170 ∧ p ≤ r.2.2 ∧ r.2.2 ≤ p + 3 := by
    intro n
    rw [spec_l11Spoilt.j0]
    refine Tot.ite (fun _ => ?_) (fun _ => j1 n d (by omega))
    rw [if_pos (show d.length < 17592186044416 by omega)]
    exact j1 n _ (by simp; omega)
  exact Tot.ite (fun _ => j0 _) (fun _ => j0 _)
/-! laws_sameInts -/
theorem sameInts_loop (x : List Int) (hx : x.length ≤ 1048576) : ∀ (m : Nat) (k i : Nat), i + m = x.length → m < k → laws_sameInts.l0 k x x (i : Int) = some true
  | m, 0, _, _, h => absurd h (by omega)
  | 0, k + 1, i, hm, _ => by unfold laws_sameInts.l0; rw [if_neg (by omega)]
  | m + 1, k + 1, i, hm, hk => by
    unfold laws_sameInts.l0
    rw [if_pos (by omega), if_pos (by omega), if_pos (by omega), if_pos rfl, wrap64_id (by omega) (by omega)]
    exact sameInts_loop x hx m k (i + 1) (by omega) (by omega)
theorem sameInts_refl {k : Nat} (x : List Int) (hx : x.length ≤ 1048576) (hk : 2000000 ≤ k) : laws_sameInts.f k x x = some true := by
  unfold laws_sameInts.f
  rw [if_pos rfl]
  exact sameInts_loop x hx x.length k 0 (by omega) (by omega)
/-! spec_GapsHas impl_GapsHas spec_l11Num spec_l11At impl_Gaps_at spec_NumOk impl_NumOk -/
/-- A number that may stand; the number i of a row, 0 ahead of it. -/
def NIn (x : Int) : Prop := -2147483648 ≤ x ∧ x ≤ 2147483647
def numAt (l : List Int) (i : Int) : Int := if i = 0 then 0 else rd l (i - 1)
def Nums (l : List Int) : Prop := ∀ p : Int, 0 ≤ p → p < (l.length : Int) → NIn (rd l p)
def Keeps (n : Int) (d l : List Int) : Prop := ∀ i j : Int, 0 ≤ i → i ≤ n → 0 ≤ j → j ≤ n → numAt l i - numAt l j ≤ gat n d i j
def Has (n : Int) (d l : List Int) : Prop := GOk n d ∧ (l.length : Int) = n ∧ Nums l ∧ Keeps n d l
theorem numAt_in {n : Int} {l : List Int} (hl : (l.length : Int) = n) (h : Nums l) {i : Int} (h0 : 0 ≤ i) (hi : i ≤ n) : NIn (numAt l i) := by
  unfold numAt
  by_cases e : i = 0
  · rw [if_pos e]; exact ⟨by omega, by omega⟩
  · rw [if_neg e]; exact h (i - 1) (by omega) (by omega)
theorem l11Num_eq {n : Int} {l : List Int} (hl : (l.length : Int) = n) (hn : n ≤ 12) {i : Int} (h0 : 0 ≤ i) (hi : i ≤ n) : spec_l11Num.f l i = some (numAt l i) := by
  unfold spec_l11Num.f numAt
  by_cases e : i = 0
  · rw [if_pos e, if_pos e]
  · rw [if_neg e, if_neg e, wrap64_id (x := i - 1) (by omega) (by omega), if_pos (by omega), if_pos (by omega)]
theorem snumOk_in (x : Int) : spec_NumOk.f x = some (decide (-2147483648 ≤ x ∧ x ≤ 2147483647)) := by
  unfold spec_NumOk.f
  rw [sin_eq]; rfl
theorem numOk_in (x : Int) : impl_NumOk.f x = some (decide (-2147483648 ≤ x ∧ x ≤ 2147483647)) := by
  unfold impl_NumOk.f
  by_cases c : x ≥ -2147483648
  · rw [if_pos c]; exact dcl ⟨fun h => ⟨c, h⟩, fun h => h.2⟩
  · rw [if_neg c]; exact dfl (fun h => c h.1)
theorem sHas_l2 {n : Int} {d l : List Int} (h0 : 0 ≤ n) (h : n ≤ 12) (hl : (d.length : Int) = (n + 1) * (n + 1)) (ll : (l.length : Int) = n) (hn : Nums l) (i : Int) (hi0 : 0 ≤ i) (hi : i ≤ n) (K : Nat) (Q : Prop)
    (rest : ∀ k, K ≤ k → Tot (spec_GapsHas.l1 k l (i + 1) n d) fun b => b = true ↔ Q) : ∀ (m : Nat) (k : Nat) (j : Int), (n + 1 - j).toNat = m → 0 ≤ j → j ≤ n + 1 → K + m < k →
    Tot (spec_GapsHas.l2 k l i j n d) fun b => b = true ↔ (∀ j' : Int, j ≤ j' → j' ≤ n → numAt l i - numAt l j' ≤ gat n d i j') ∧ Q
  | m, 0, j, _, _, _, hk => absurd hk (by omega)
  | 0, k + 1, j, hm, hj, hj', hk => by
    rw [spec_GapsHas.l2, if_neg (show ¬ j ≤ n by omega), wrap64_id (by omega) (by omega)]
    exact (rest k (by omega)).mono fun b hb => hb.trans ⟨fun q => ⟨fun j' a c => absurd a (by omega), q⟩, fun q => q.2⟩
  | m + 1, k + 1, j, hm, hj, hj', hk => by
    have a := numAt_in ll hn hi0 hi
    have b := numAt_in ll hn hj (by omega)
    unfold NIn at a b
    rw [spec_GapsHas.l2, if_pos (show j ≤ n by omega), l11Num_eq ll h hi0 hi, l11Num_eq ll h hj (by omega), sl11At_eq h0 h hl hi0 hi hj (by omega), Option.bind_some, Option.bind_some, Option.bind_some, wrap64_id (x := numAt l i - numAt l j) (by omega) (by omega), wrap64_id (x := j + 1) (by omega) (by omega)]
    refine Tot.ite (fun c => Tot.here ⟨fun f => (nomatch f), fun q => absurd (q.1 j (by omega) (by omega)) (by omega)⟩) (fun c => ?_)
    refine (sHas_l2 h0 h hl ll hn i hi0 hi K Q rest m k (j + 1) (by omega) (by omega) (by omega) (by omega)).mono fun b hb => hb.trans ⟨fun q => ⟨fun j' p p' => ?_, q.2⟩, fun q => ⟨fun j' p p' => q.1 j' (by omega) p', q.2⟩⟩
    by_cases e : j' = j
    · subst e; omega
    · exact q.1 j' (by omega) p'
theorem sHas_l1 {n : Int} {d l : List Int} (h0 : 0 ≤ n) (h : n ≤ 12) (hl : (d.length : Int) = (n + 1) * (n + 1)) (ll : (l.length : Int) = n) (hn : Nums l) : ∀ (m : Nat) (k : Nat) (i : Int), (n + 1 - i).toNat = m → 0 ≤ i → i ≤ n + 1 → 20 * m < k →
    Tot (spec_GapsHas.l1 k l i n d) fun b => b = true ↔ ∀ i' j : Int, i ≤ i' → i' ≤ n → 0 ≤ j → j ≤ n → numAt l i' - numAt l j ≤ gat n d i' j
  | m, 0, i, _, _, _, hk => absurd hk (by omega)
  | 0, k + 1, i, hm, hi, hi', hk => by
    rw [spec_GapsHas.l1, if_neg (show ¬ i ≤ n by omega)]
    exact Tot.here ⟨fun _ i' j a b => absurd a (by omega), fun _ => rfl⟩
  | m + 1, k + 1, i, hm, hi, hi', hk => by
    rw [spec_GapsHas.l1, if_pos (show i ≤ n by omega)]
    refine (sHas_l2 h0 h hl ll hn i hi (by omega) (20 * m + 1) _ (fun k hk => sHas_l1 h0 h hl ll hn m k (i + 1) (by omega) (by omega) (by omega) (by omega)) _ k 0 rfl (by omega) (by omega) (by omega)).mono fun b hb => hb.trans ⟨fun q i' j a b c e => ?_, fun q => ⟨fun j' a b => q i j' (by omega) (by omega) a b, fun i' j a b c e => q i' j (by omega) b c e⟩⟩
    by_cases e' : i' = i
    · subst e'; exact q.1 j c e
    · exact q.2 i' j (by omega) b c e
theorem sHas_l0 {n : Int} {d l : List Int} (h0 : 0 ≤ n) (h : n ≤ 12) (hl : (d.length : Int) = (n + 1) * (n + 1)) (ll : (l.length : Int) = n) : ∀ (m : Nat) (k : Nat) (p : Int), (n - p).toNat = m → 0 ≤ p → p ≤ n → 500 + m < k → (∀ q : Int, 0 ≤ q → q < p → NIn (rd l q)) →
    Tot (spec_GapsHas.l0 k l p n d) fun b => b = true ↔ Nums l ∧ Keeps n d l
  | m, 0, p, _, _, _, hk, _ => absurd hk (by omega)
  | 0, k + 1, p, hm, hp, hp', hk, hq => by
    have hn : Nums l := fun q a b => hq q a (by omega)
    rw [spec_GapsHas.l0, if_neg (show ¬ p < (l.length : Int) by omega)]
    exact (sHas_l1 h0 h hl ll hn _ k 0 rfl (by omega) (by omega) (by omega)).mono fun b hb => hb.trans ⟨fun q => ⟨hn, fun i j a b c e => q i j a b c e⟩, fun q i j a b c e => q.2 i j a b c e⟩
  | m + 1, k + 1, p, hm, hp, hp', hk, hq => by
    rw [spec_GapsHas.l0, if_pos (show p < (l.length : Int) by omega), if_pos hp, snumOk_in, Option.bind_some, wrap64_id (x := p + 1) (by omega) (by omega)]
    refine Tot.ite (fun c => ?_) (fun c => Tot.here ⟨fun f => (nomatch f), fun q => absurd (decide_eq_true (show -2147483648 ≤ rd l p ∧ rd l p ≤ 2147483647 from q.1 p hp (by omega))) c⟩)
    have c' : NIn (rd l p) := (of_decide_eq_true c : -2147483648 ≤ rd l p ∧ rd l p ≤ 2147483647)
    exact sHas_l0 h0 h hl ll m k (p + 1) (by omega) (by omega) (by omega) (by omega) fun q a b => by
      by_cases e : q = p
      · subst e; exact c'
      · exact hq q a (by omega)
theorem sHas_tot {k : Nat} (n : Int) (d l : List Int) (hk : 5000 ≤ k) : Tot (spec_GapsHas.f k n d l) fun b => b = true ↔ Has n d l := by
  obtain ⟨k, rfl⟩ : ∃ j, k = j + 1 := ⟨k - 1, by omega⟩
  have no : ¬ Has n d l → Tot (spec_GapsHas.j0 (k + 1) l true n d) fun b => b = true ↔ Has n d l := fun hn => by
    rw [spec_GapsHas.j0, if_pos rfl]
    exact Tot.here ⟨fun f => (nomatch f), fun q => absurd q hn⟩
  unfold spec_GapsHas.f
  by_cases g : GOk n d
  · rw [sGapsOk_yes g (by omega), Option.bind_some, if_pos rfl]
    by_cases e : (l.length : Int) = n
    · have ne : ((l.length : Int) != n) = false := bne_eq_false_iff_eq.mpr e
      rw [ne, spec_GapsHas.j0, if_neg (show ¬ (false = true) by decide)]
      exact (sHas_l0 g.1 g.2.1 g.2.2.1 e _ k 0 rfl (by omega) g.1 (by have := g.2.1; omega) (fun q a b => absurd a (by omega))).mono fun b hb => hb.trans ⟨fun q => ⟨g, e, q.1, q.2⟩, fun q => ⟨q.2.2.1, q.2.2.2⟩⟩
    · have ne : ((l.length : Int) != n) = true := bne_iff_ne.mpr e
      rw [ne]; exact no fun q => e q.2.1
  · rw [sGapsOk_no g (by omega), Option.bind_some, if_neg (show ¬ (false = true) by decide)]
    exact no fun q => g q.1
theorem has_l2 {n : Int} {d l : List Int} (h0 : 0 ≤ n) (h : n ≤ 12) (hl : (d.length : Int) = (n + 1) * (n + 1)) (ll : (l.length : Int) = n) (hn : Nums l) (x : List Int) (hx : (x.length : Int) = n + 1) (xe : ∀ i : Int, 0 ≤ i → i ≤ n → rd x i = numAt l i) (i : Int) (hi0 : 0 ≤ i) (hi : i ≤ n) (K : Nat) (Q : Prop)
    (rest : ∀ k, K ≤ k → Tot (impl_GapsHas.l1 k x x (x.length : Int) (i + 1) n d) fun b => b = true ↔ Q) : ∀ (m : Nat) (k : Nat) (j : Int), (n + 1 - j).toNat = m → 0 ≤ j → j ≤ n + 1 → K + m < k →
    Tot (impl_GapsHas.l2 k x i (rd x i) x (x.length : Int) i x (x.length : Int) j n d) fun b => b = true ↔ (∀ j' : Int, j ≤ j' → j' ≤ n → numAt l i - numAt l j' ≤ gat n d i j') ∧ Q
  | m, 0, j, _, _, _, hk => absurd hk (by omega)
  | 0, k + 1, j, hm, hj, hj', hk => by
    rw [impl_GapsHas.l2, if_neg (show ¬ j < (x.length : Int) by omega), wrap64_id (by omega) (by omega)]
    exact (rest k (by omega)).mono fun b hb => hb.trans ⟨fun q => ⟨fun j' a c => absurd a (by omega), q⟩, fun q => q.2⟩
  | m + 1, k + 1, j, hm, hj, hj', hk => by
    have a := numAt_in ll hn hi0 hi
    have b := numAt_in ll hn hj (by omega)
    have ix := idx_in h0 h hi0 hi hj (by omega)
    unfold NIn at a b
    rw [impl_GapsHas.l2, if_pos (show j < (x.length : Int) by omega), if_pos hj, if_pos (show j < (x.length : Int) by omega), gapsAt_eq h0 h hi0 hi hj (by omega), Option.bind_some, if_pos ix.1, if_pos (show i * (n + 1) + j < (d.length : Int) by omega), xe i hi0 hi, xe j hj (by omega), wrap64_id (x := numAt l i - numAt l j) (by omega) (by omega), wrap64_id (x := j + 1) (by omega) (by omega)]
    have next : numAt l i - numAt l j ≤ gat n d i j → Tot (impl_GapsHas.l2 k x i (numAt l i) x (x.length : Int) i x (x.length : Int) (j + 1) n d) fun b => b = true ↔ (∀ j' : Int, j ≤ j' → j' ≤ n → numAt l i - numAt l j' ≤ gat n d i j') ∧ Q := fun z => by
      have t := has_l2 h0 h hl ll hn x hx xe i hi0 hi K Q rest m k (j + 1) (by omega) (by omega) (by omega) (by omega)
      rw [xe i hi0 hi] at t
      refine t.mono fun b hb => hb.trans ⟨fun q => ⟨fun j' p p' => ?_, q.2⟩, fun q => ⟨fun j' p p' => q.1 j' (by omega) p', q.2⟩⟩
      by_cases e : j' = j
      · subst e; exact z
      · exact q.1 j' (by omega) p'
    refine Tot.ite (fun z => next (by unfold gat; omega)) (fun _ => Tot.ite (fun c => Tot.here ⟨fun f => (nomatch f), fun q => ?_⟩) (fun c => next (by unfold gat; omega)))
    have := q.1 j (by omega) (by omega)
    unfold gat at this; omega
theorem has_l1 {n : Int} {d l : List Int} (h0 : 0 ≤ n) (h : n ≤ 12) (hl : (d.length : Int) = (n + 1) * (n + 1)) (ll : (l.length : Int) = n) (hn : Nums l) (x : List Int) (hx : (x.length : Int) = n + 1) (xe : ∀ i : Int, 0 ≤ i → i ≤ n → rd x i = numAt l i) : ∀ (m : Nat) (k : Nat) (i : Int), (n + 1 - i).toNat = m → 0 ≤ i → i ≤ n + 1 → 20 * m < k →
    Tot (impl_GapsHas.l1 k x x (x.length : Int) i n d) fun b => b = true ↔ ∀ i' j : Int, i ≤ i' → i' ≤ n → 0 ≤ j → j ≤ n → numAt l i' - numAt l j ≤ gat n d i' j
  | m, 0, i, _, _, _, hk => absurd hk (by omega)
  | 0, k + 1, i, hm, hi, hi', hk => by
    rw [impl_GapsHas.l1, if_neg (show ¬ i < (x.length : Int) by omega)]
    exact Tot.here ⟨fun _ i' j a b => absurd a (by omega), fun _ => rfl⟩
  | m + 1, k + 1, i, hm, hi, hi', hk => by
    rw [impl_GapsHas.l1, if_pos (show i < (x.length : Int) by omega), if_pos hi, if_pos (show i < (x.length : Int) by omega)]
    refine (has_l2 h0 h hl ll hn x hx xe i hi (by omega) (20 * m + 1) _ (fun k hk => has_l1 h0 h hl ll hn x hx xe m k (i + 1) (by omega) (by omega) (by omega) (by omega)) _ k 0 rfl (by omega) (by omega) (by omega)).mono fun b hb => hb.trans ⟨fun q i' j a b c e => ?_, fun q => ⟨fun j' a b => q i j' (by omega) (by omega) a b, fun i' j a b c e => q i' j (by omega) b c e⟩⟩
    by_cases e' : i' = i
    · subst e'; exact q.1 j c e
    · exact q.2 i' j (by omega) b c e
theorem has_l0 {n : Int} {d l : List Int} (h0 : 0 ≤ n) (h : n ≤ 12) (hl : (d.length : Int) = (n + 1) * (n + 1)) (ll : (l.length : Int) = n) : ∀ (m : Nat) (k : Nat) (p : Nat), (l.length - p) = m → p ≤ l.length → 500 + m < k → (∀ q : Int, 0 ≤ q → q < p → NIn (rd l q)) →
    Tot (impl_GapsHas.l0 k (0 :: l.take p) l (l.length : Int) (p : Int) n d) fun b => b = true ↔ Nums l ∧ Keeps n d l
  | m, 0, p, _, _, hk, _ => absurd hk (by omega)
  | 0, k + 1, p, hm, hp, hk, hq => by
    have hn : Nums l := fun q a b => hq q a (by omega)
    rw [impl_GapsHas.l0, if_neg (show ¬ (p : Int) < (l.length : Int) by omega), List.take_of_length_le (by omega)]
    refine (has_l1 h0 h hl ll hn (0 :: l) (by simp; omega) (fun i a b => ?_) _ k 0 rfl (by omega) (by omega) (by omega)).mono fun b hb => hb.trans ⟨fun q => ⟨hn, fun i j a b c e => q i j a b c e⟩, fun q i j a b c e => q.2 i j a b c e⟩
    unfold numAt rd
    by_cases e : i = 0
    · subst e; rfl
    · obtain ⟨t, ht⟩ : ∃ t : Nat, i = (t : Int) + 1 := ⟨(i - 1).toNat, by omega⟩
      subst ht
      rw [if_neg e, show ((t : Int) + 1).toNat = t + 1 by omega, show ((t : Int) + 1 - 1).toNat = t by omega]
      simp
  | m + 1, k + 1, p, hm, hp, hk, hq => by
    have hlt : p < l.length := by omega
    rw [impl_GapsHas.l0, if_pos (show (p : Int) < (l.length : Int) by omega), if_pos (show 0 ≤ (p : Int) by omega), if_pos (show (p : Int) < (l.length : Int) by omega), numOk_in, Option.bind_some, wrap64_id (x := (p : Int) + 1) (by omega) (by omega)]
    refine Tot.ite (fun c => ?_) (fun c => Tot.here ⟨fun f => (nomatch f), fun q => absurd (decide_eq_true (show -2147483648 ≤ rd l (p : Int) ∧ rd l (p : Int) ≤ 2147483647 from q.1 p (by omega) (by omega))) c⟩)
    have c' : NIn (rd l p) := (of_decide_eq_true c : -2147483648 ≤ rd l p ∧ rd l p ≤ 2147483647)
    rw [if_pos (by simp; omega)]
    have e : (0 :: l.take p) ++ [rd l (p : Int)] = 0 :: l.take (p + 1) := by
      rw [List.cons_append, List.take_add_one, List.getElem?_eq_getElem hlt]
      simp [rd, List.getD_eq_getElem?_getD, List.getElem?_eq_getElem hlt]
    rw [e, show ((p : Int) + 1) = ((p + 1 : Nat) : Int) by omega]
    exact has_l0 h0 h hl ll m k (p + 1) (by omega) (by omega) (by omega) fun q a b => by
      by_cases e : q = p
      · subst e; exact c'
      · exact hq q a (by omega)
theorem has_tot {k : Nat} (n : Int) (d l : List Int) (hk : 5000 ≤ k) : Tot (impl_GapsHas.f k n d l) fun b => b = true ↔ Has n d l := by
  obtain ⟨k, rfl⟩ : ∃ j, k = j + 1 := ⟨k - 1, by omega⟩
  have no : ¬ Has n d l → Tot (impl_GapsHas.j0 (k + 1) l true n d) fun b => b = true ↔ Has n d l := fun hn => by
    rw [impl_GapsHas.j0, if_pos rfl]
    exact Tot.here ⟨fun f => (nomatch f), fun q => absurd q hn⟩
  unfold impl_GapsHas.f
  by_cases g : GOk n d
  · rw [gapsOk_yes g (by omega), Option.bind_some, if_pos rfl]
    by_cases e : (l.length : Int) = n
    · have ne : ((l.length : Int) != n) = false := bne_eq_false_iff_eq.mpr e
      have h0 := g.1
      have h12 := g.2.1
      rw [ne, impl_GapsHas.j0, if_neg (show ¬ (false = true) by decide), wrap64_id (x := n + 1) (by omega) (by omega), if_pos (show 0 ≤ n + 1 by omega), if_pos (show (n + 1).toNat ≤ 35184372088832 by omega), Option.bind_some, if_pos (by simp)]
      exact (has_l0 h0 h12 g.2.2.1 e _ k 0 rfl (by omega) (by omega) (fun q a b => absurd a (by omega))).mono fun b hb => hb.trans ⟨fun q => ⟨g, e, q.1, q.2⟩, fun q => ⟨q.2.2.1, q.2.2.2⟩⟩
    · have ne : ((l.length : Int) != n) = true := bne_iff_ne.mpr e
      rw [ne]; exact no fun q => e q.2.1
  · rw [gapsOk_no g (by omega), Option.bind_some, if_neg (show ¬ (false = true) by decide)]
    exact no fun q => g q.1
/-! impl_GapsIn -/
theorem gapsIn_l0 (x y : List Int) (n : Int) (hl : x.length = y.length) (hx : x.length ≤ 169) (le : ∀ p : Int, 0 ≤ p → p < (x.length : Int) → rd x p ≤ rd y p) : ∀ (m k : Nat) (p : Int), ((x.length : Int) - p).toNat = m → 0 ≤ p → p ≤ (x.length : Int) → m < k → impl_GapsIn.l0 k x (x.length : Int) p n y = some true
  | m, 0, _, _, _, _, h => absurd h (by omega)
  | 0, k + 1, p, hm, hp, hp', hk => by rw [impl_GapsIn.l0, if_neg (show ¬ p < (x.length : Int) by omega)]
  | m + 1, k + 1, p, hm, hp, hp', hk => by
    have := le p hp (by omega)
    rw [impl_GapsIn.l0, if_pos (show p < (x.length : Int) by omega), if_pos hp, if_pos (show p < (x.length : Int) by omega), if_pos (show p < (y.length : Int) by omega), if_neg (show ¬ rd x p > rd y p by omega), wrap64_id (x := p + 1) (by omega) (by omega)]
    exact gapsIn_l0 x y n hl hx le m k (p + 1) (by omega) (by omega) (by omega) (by omega)
theorem gapsIn_yes {k : Nat} {n : Int} {x y : List Int} (g : GOk n x) (g' : GOk n y) (le : ∀ p : Int, 0 ≤ p → p < (x.length : Int) → rd x p ≤ rd y p) (hk : 5000 ≤ k) : impl_GapsIn.f k n x n y = some true := by
  obtain ⟨k, rfl⟩ : ∃ j, k = j + 1 := ⟨k - 1, by omega⟩
  have ne : (n != n) = false := by simp
  have a := g.2.2.1
  have b := g'.2.2.1
  have c := len_small g.1 g.2.1 a
  unfold impl_GapsIn.f
  rw [gapsOk_yes g (by omega), Option.bind_some, if_pos rfl, gapsOk_yes g' (by omega), Option.bind_some, if_pos rfl, ne, impl_GapsIn.j0, if_neg (show ¬ (false = true) by decide)]
  exact gapsIn_l0 x y n (by omega) c le _ k 0 rfl (by omega) (by omega) (by omega)
/-! spec_DrawGapsHas spec_l11Size spec_l11Numbers spec_l11Gaps spec_l11Spoilt -/
theorem l11Numbers_all {k : Nat} {s : List Int} {q n : Int} (hs : Bytes s) (hk : 1000 ≤ k) (a : 0 ≤ n) (b : n ≤ 12) (h0 : 0 ≤ q) (h1 : q ≤ 800000) : Tot (spec_l11Numbers.f k s q n) fun r => (r.1.length : Int) = n ∧ q ≤ r.2 ∧ r.2 ≤ q + 120 := by
  unfold spec_l11Numbers.f
  exact (l11Numbers_tot hs n b _ k 0 q [] rfl (by omega) (by omega) (by omega) (by omega) (by omega) rfl).mono fun r hr => ⟨hr.1, hr.2.1, by have := hr.2.2; omega⟩
theorem drawGapsHas_tot {k : Nat} {l : List Int} (hl : Bytes l) (hk : 10000 ≤ k) : Tot (spec_DrawGapsHas.f k l) fun r => r.2.1.length ≤ 170 ∧ r.2.2.length ≤ 13 := by
  unfold spec_DrawGapsHas.f
  refine Tot.then (open_tot hl) ?_
  rintro ⟨s, p⟩ ⟨hp, hs, -⟩
  dsimp only at hp hs ⊢
  refine Tot.then (l11Size_tot hs (by omega) (by omega) (by omega)) ?_
  rintro ⟨n, q⟩ ⟨a, b, c, d⟩
  dsimp only at a b c d ⊢
  refine Tot.then (l11Numbers_all hs (by omega) a b (by omega) (by omega)) ?_
  rintro ⟨x, q2⟩ ⟨e, f, g⟩
  dsimp only at e f g ⊢
  refine Tot.then (l11Gaps_tot hs (by omega) (by omega) (by omega) n a b x e) ?_
  rintro ⟨n', d', q3⟩ ⟨e1, e2, e3, e4⟩
  dsimp only at e1 e2 e3 e4 ⊢
  have sm := len_small a b e2
  refine Tot.then (pick_tot k (by omega) hs (by omega) (by omega)) ?_
  rintro ⟨t, q4⟩ ⟨h1, h2, h3⟩
  dsimp only at h1 h2 h3 ⊢
  refine Tot.ite (fun _ => ?_) (fun _ => Tot.ite (fun _ => ?_) (fun _ => ?_))
  · refine Tot.then (l11Numbers_all hs (by omega) a b (by omega) (by omega)) ?_
    rintro ⟨x2, q5⟩ ⟨f1, _⟩
    dsimp only at f1 ⊢
    exact Tot.here ⟨by dsimp only; omega, by dsimp only; omega⟩
  · rw [if_pos (show x.length < 17592186044416 by omega)]
    exact Tot.here ⟨by dsimp only; omega, by simp; omega⟩
  · refine Tot.then (l11Spoilt_tot hs (by omega) (by omega) (by omega) n' d' sm) ?_
    rintro ⟨n2, d2, q5⟩ ⟨f1, _⟩
    dsimp only at f1 ⊢
    exact Tot.here ⟨f1, by dsimp only; omega⟩
end Go.Proofs.Ytkekcenlleebeaa.LFnGapsClose
