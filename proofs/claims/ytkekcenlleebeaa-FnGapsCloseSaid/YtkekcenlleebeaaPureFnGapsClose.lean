/- For every code the law FnGapsClose answers true: closing loses no numbers, says so when there are none, and what is closed once is closed. Conditions: none beyond those of the given statement. -/
import Derived.Test.YtkekcenlleebeaaLFnGapsClose
namespace Go.Proofs.Ytkekcenlleebeaa.Pure
set_option linter.unusedVariables false
set_option linter.unusedSimpArgs false
open Go.RowKit Go.Proofs.Ytkekcenlleebeaa.PFnGapsClose Go.Proofs.Ytkekcenlleebeaa.LFnGapsClose Go.Proofs.Ytkekcenlleebeaa.Base Go.Proofs.YtkekcenlleebeaaW.PrintWords Go.Proofs.YtkekcenlleebeaaW.PrintLast Go.Proofs.YtkekcenlleebeaaW.PrintMore

/-- Two bounds together. -/
def tg (a b : Int) : Int := if a ≥ 1099511627776 ∨ b ≥ 1099511627776 ∨ a + b ≥ 1099511627776 then 1099511627776 else a + b
def LB (n t : Int) (d : List Int) : Prop := ∀ x : Int, 0 ≤ x → x ≤ n → -1152921504606846976 ≤ gat n d x t ∧ -1152921504606846976 ≤ gat n d t x
theorem tg_eq {a b : Int} (ha : -1152921504606846976 ≤ a) (ha' : a ≤ 1099511627776) (hb : -1152921504606846976 ≤ b) (hb' : b ≤ 1099511627776) : spec_l11Add.f a b = some (tg a b) := by
  rw [sl11Add_eq, wrap64_id (by omega) (by omega)]
  rfl
theorem tg_zero_right {a : Int} (ha : a ≤ 1099511627776) : tg a 0 = a := by
  unfold tg; split <;> omega
theorem tg_zero_left {a : Int} (ha : a ≤ 1099511627776) : tg 0 a = a := by
  unfold tg; split <;> omega
theorem tg_le {a b : Int} (ha : a < 1099511627776) (hb : b < 1099511627776) (h : a + b ≤ 1099511627776) : tg a b = a + b := by
  unfold tg; split <;> omega
theorem tg_top (a b : Int) : tg a b ≤ 1099511627776 := by
  unfold tg; split <;> omega
theorem tg_fin {a b : Int} (h : tg a b < 1099511627776) : a < 1099511627776 ∧ b < 1099511627776 ∧ tg a b = a + b := by
  unfold tg at h ⊢
  split at h
  · omega
  · rename_i c; rw [if_neg c]; omega
theorem tg_ge {a b x y : Int} (h1 : x ≤ a) (h2 : y ≤ b) (h : x + y ≤ 1099511627776) : x + y ≤ tg a b := by
  unfold tg; split <;> omega

/-- One row of a round. -/
theorem row_round {n : Int} (h0 : 0 ≤ n) (h : n ≤ 12) (t i : Int) (ht0 : 0 ≤ t) (ht : t ≤ n) (hi0 : 0 ≤ i) (hi : i ≤ n) : ∀ (m : Nat) (j : Int) (d : List Int), (n + 1 - j).toNat = m → 0 ≤ j → j ≤ n + 1 → LFnGapsClose.Way n d → LB n t d → gat n d t t = 0 →
    ∃ d', LFnGapsClose.Way n d' ∧ (∀ x y : Int, 0 ≤ x → x ≤ n → 0 ≤ y → y ≤ n → gat n d' x y = if x = i ∧ j ≤ y then min (gat n d x y) (tg (gat n d x t) (gat n d t y)) else gat n d x y) ∧
      ∀ K : Nat, impl_GapsClose.l2 (K + (m + 1)) (n + 1) t i (n + 1) t (n + 1) i (n + 1) j n d = impl_GapsClose.l1 K (n + 1) t (n + 1) t (n + 1) (i + 1) n d'
  | 0, j, d, hm, hj, hj', w, lb, z => by
    refine ⟨d, w, fun x y a b c e => by rw [if_neg (by omega)], fun K => ?_⟩
    show impl_GapsClose.l2 (K + 1) _ _ _ _ _ _ _ _ _ _ _ = _
    rw [impl_GapsClose.l2, if_neg (show ¬ j < n + 1 by omega), wrap64_id (by omega) (by omega)]
  | m + 1, j, d, hm, hj, hj', w, lb, z => by
    have w' := w
    obtain ⟨hl, ub⟩ := w'
    have a := idx_in h0 h hi0 hi ht0 ht
    have b := idx_in h0 h ht0 ht hj (by omega : j ≤ n)
    have c := idx_in h0 h hi0 hi hj (by omega : j ≤ n)
    have ua := ub (i * (n + 1) + t) (by omega) (by omega)
    have ub' := ub (t * (n + 1) + j) (by omega) (by omega)
    have ga : gat n d i t ≤ 1099511627776 := ua
    have gb : gat n d t j ≤ 1099511627776 := ub'
    have la := (lb i hi0 hi).1
    have lb' := (lb j hj (by omega)).2
    have hs : spec_l11Add.f (rd d (i * (n + 1) + t)) (rd d (t * (n + 1) + j)) = some (tg (gat n d i t) (gat n d t j)) := tg_eq la ua lb' ub'
    have gs : impl_gapsTogether.f (rd d (i * (n + 1) + t)) (rd d (t * (n + 1) + j)) = some (tg (gat n d i t) (gat n d t j)) := by rw [together_eq (by omega) (by omega), hs]
    have sU := tg_top (gat n d i t) (gat n d t j)
    have step : ∀ K : Nat, impl_GapsClose.l2 (K + (m + 1 + 1)) (n + 1) t i (n + 1) t (n + 1) i (n + 1) j n d = if tg (gat n d i t) (gat n d t j) < gat n d i j then impl_GapsClose.l2 (K + (m + 1)) (n + 1) t i (n + 1) t (n + 1) i (n + 1) (j + 1) n (gput n d i j (tg (gat n d i t) (gat n d t j))) else impl_GapsClose.l2 (K + (m + 1)) (n + 1) t i (n + 1) t (n + 1) i (n + 1) (j + 1) n d := by
      intro K
      show impl_GapsClose.l2 ((K + (m + 1)) + 1) _ _ _ _ _ _ _ _ _ _ _ = _
      rw [impl_GapsClose.l2, if_pos (show j < n + 1 by omega), idx_w2 h0 h hi0 hi ht0 ht, idx_w2 h0 h ht0 ht hj (by omega), idx_w2 h0 h hi0 hi hj (by omega)]
      rw [if_pos a.1, if_pos (show i * (n + 1) + t < (d.length : Int) by omega), if_pos b.1, if_pos (show t * (n + 1) + j < (d.length : Int) by omega), gs, Option.bind_some, if_pos c.1, if_pos (show i * (n + 1) + j < (d.length : Int) by omega), wrap64_id (by omega) (by omega)]
      rfl
    by_cases q : tg (gat n d i t) (gat n d t j) < gat n d i j
    · have nt : ¬ (j = t) := fun e => by subst e; rw [z, tg_zero_right ga] at q; omega
      have ni : ¬ (i = t) := fun e => by subst e; rw [z, tg_zero_left gb] at q; omega
      have get : ∀ x y : Int, 0 ≤ x → x ≤ n → 0 ≤ y → y ≤ n → gat n (gput n d i j (tg (gat n d i t) (gat n d t j))) x y = if x = i ∧ y = j then tg (gat n d i t) (gat n d t j) else gat n d x y := fun x y a b c e => gat_put h0 h hl hi0 hi hj (by omega) a b c e
      have nw : LFnGapsClose.Way n (gput n d i j (tg (gat n d i t) (gat n d t j))) := by
        refine ⟨by rw [gput_len]; exact hl, fun p hp hp' => ?_⟩
        rw [gput_len] at hp'
        unfold gput
        rw [rd_set _ _ _ _ (by omega) hp]
        split
        · exact sU
        · exact ub p hp hp'
      have nlb : LB n t (gput n d i j (tg (gat n d i t) (gat n d t j))) := fun x a b => by
        rw [get x t a b ht0 ht, get t x ht0 ht a b, if_neg (by omega), if_neg (by omega)]
        exact lb x a b
      obtain ⟨d', w2, eq, go⟩ := row_round h0 h t i ht0 ht hi0 hi m (j + 1) _ (by omega) (by omega) (by omega) nw nlb (by rw [get t t ht0 ht ht0 ht, if_neg (by omega)]; exact z)
      refine ⟨d', w2, fun x y xa xb ya yb => ?_, fun K => by rw [step K, if_pos q]; exact go K⟩
      rw [eq x y xa xb ya yb, get x y xa xb ya yb, get x t xa xb ht0 ht, get t y ht0 ht ya yb]
      by_cases e1 : x = i ∧ j + 1 ≤ y
      · rw [if_pos e1, if_neg (show ¬ (x = i ∧ y = j) by omega), if_neg (show ¬ (x = i ∧ t = j) by omega), if_neg (show ¬ (t = i ∧ y = j) by omega), if_pos (by omega)]
      · rw [if_neg e1]
        by_cases e2 : x = i ∧ y = j
        · rw [if_pos e2, if_pos (by omega)]
          obtain ⟨rfl, rfl⟩ := e2
          rw [Int.min_eq_right (by omega)]
        · rw [if_neg e2, if_neg (by omega)]
    · obtain ⟨d', w2, eq, go⟩ := row_round h0 h t i ht0 ht hi0 hi m (j + 1) d (by omega) (by omega) (by omega) w lb z
      refine ⟨d', w2, fun x y xa xb ya yb => ?_, fun K => by rw [step K, if_neg q]; exact go K⟩
      rw [eq x y xa xb ya yb]
      by_cases e1 : x = i ∧ j + 1 ≤ y
      · rw [if_pos e1, if_pos (by omega)]
      · rw [if_neg e1]
        by_cases e2 : x = i ∧ y = j
        · rw [if_pos (by omega)]
          obtain ⟨rfl, rfl⟩ := e2
          rw [Int.min_eq_left (by omega)]
        · rw [if_neg (by omega)]
/-- What a round makes of each bound. -/
def Round (n t : Int) (d d' : List Int) : Prop := ∀ x y : Int, 0 ≤ x → x ≤ n → 0 ≤ y → y ≤ n → gat n d' x y = min (gat n d x y) (tg (gat n d x t) (gat n d t y))
theorem round_eq {n : Int} (h0 : 0 ≤ n) (h : n ≤ 12) (t : Int) (ht0 : 0 ≤ t) (ht : t ≤ n) : ∀ (m : Nat) (i : Int) (d : List Int), (n + 1 - i).toNat = m → 0 ≤ i → i ≤ n + 1 → LFnGapsClose.Way n d → LB n t d → gat n d t t = 0 →
    ∃ d', LFnGapsClose.Way n d' ∧ (∀ x y : Int, 0 ≤ x → x ≤ n → 0 ≤ y → y ≤ n → gat n d' x y = if i ≤ x then min (gat n d x y) (tg (gat n d x t) (gat n d t y)) else gat n d x y) ∧
      ∃ F : Nat, F ≤ m * 25 + 1 ∧ ∀ K : Nat, impl_GapsClose.l1 (K + F) (n + 1) t (n + 1) t (n + 1) i n d = impl_GapsClose.l3 K (n + 1) (n + 1) t (n + 1) 0 n d'
  | 0, i, d, hm, hi, hi', w, lb, z => by
    refine ⟨d, w, fun x y a b c e => by rw [if_neg (by omega)], 1, by omega, fun K => ?_⟩
    rw [impl_GapsClose.l1, if_neg (show ¬ i < n + 1 by omega)]
  | m + 1, i, d, hm, hi, hi', w, lb, z => by
    obtain ⟨d1, w1, e1, g1⟩ := row_round h0 h t i ht0 ht hi (by omega) _ 0 d rfl (by omega) (by omega) w lb z
    have ut : ∀ y : Int, 0 ≤ y → y ≤ n → gat n d t y ≤ 1099511627776 := fun y a b => by
      have := idx_in h0 h ht0 ht a b
      exact w.2 _ this.1 (by have := w.1; omega)
    have row : ∀ y : Int, 0 ≤ y → y ≤ n → gat n d1 t y = gat n d t y := fun y a b => by
      rw [e1 t y ht0 ht a b]
      split
      · rw [z, tg_zero_left (ut y a b), Int.min_self]
      · rfl
    have ux : ∀ y : Int, 0 ≤ y → y ≤ n → gat n d y t ≤ 1099511627776 := fun y a b => by
      have := idx_in h0 h a b ht0 ht
      exact w.2 _ this.1 (by have := w.1; omega)
    have col : ∀ x : Int, 0 ≤ x → x ≤ n → gat n d1 x t = gat n d x t := fun x a b => by
      rw [e1 x t a b ht0 ht]
      split
      · rw [z, tg_zero_right (ux x a b), Int.min_self]
      · rfl
    have lb1 : LB n t d1 := fun x a b => by
      rw [row x a b, col x a b]; exact lb x a b
    obtain ⟨d2, w2, e2, F, hF, g2⟩ := round_eq h0 h t ht0 ht m (i + 1) d1 (by omega) (by omega) (by omega) w1 lb1 (by rw [row t ht0 ht]; exact z)
    refine ⟨d2, w2, fun x y xa xb ya yb => ?_, F + ((n + 1 - 0).toNat + 1) + 1, by omega, fun K => ?_⟩
    · rw [e2 x y xa xb ya yb, row y ya yb, col x xa xb, e1 x y xa xb ya yb]
      by_cases q : i + 1 ≤ x
      · rw [if_pos q, if_neg (show ¬ (x = i ∧ 0 ≤ y) by omega), if_pos (show i ≤ x by omega)]
      · rw [if_neg q]
        by_cases q2 : x = i
        · rw [if_pos (by omega), if_pos (by omega)]
        · rw [if_neg (by omega), if_neg (by omega)]
    · rw [show K + (F + ((n + 1 - 0).toNat + 1) + 1) = (K + F + ((n + 1 - 0).toNat + 1)) + 1 by omega]
      rw [impl_GapsClose.l1, if_pos (show i < n + 1 by omega), g1 (K + F), g2 K]
theorem round_full {n : Int} (h0 : 0 ≤ n) (h : n ≤ 12) (t : Int) (ht0 : 0 ≤ t) (ht : t ≤ n) (d : List Int) (w : LFnGapsClose.Way n d) (lb : LB n t d) (z : gat n d t t = 0) :
    ∃ d', LFnGapsClose.Way n d' ∧ Round n t d d' ∧ ∃ F : Nat, F ≤ 400 ∧ ∀ K : Nat, impl_GapsClose.l0 (K + F) (n + 1) (n + 1) t n d = impl_GapsClose.l3 K (n + 1) (n + 1) t (n + 1) 0 n d' := by
  obtain ⟨d', w', e, F, hF, g⟩ := round_eq h0 h t ht0 ht _ 0 d rfl (by omega) (by omega) w lb z
  refine ⟨d', w', fun x y a b c f => by rw [e x y a b c f, if_pos a], F + 1, by omega, fun K => ?_⟩
  rw [show K + (F + 1) = (K + F) + 1 by omega, impl_GapsClose.l0, if_pos (show t < n + 1 by omega)]
  exact g K
theorem way_le {n : Int} (h0 : 0 ≤ n) (h : n ≤ 12) {d : List Int} (w : LFnGapsClose.Way n d) {x y : Int} (a : 0 ≤ x) (b : x ≤ n) (c : 0 ≤ y) (e : y ≤ n) : gat n d x y ≤ 1099511627776 := by
  have := idx_in h0 h a b c e
  exact w.2 _ this.1 (by have := w.1; omega)
theorem no_loop {n : Int} (h0 : 0 ≤ n) (h : n ≤ 12) (t : Int) (ht0 : 0 ≤ t) (ht : t ≤ n) (d : List Int) (w : LFnGapsClose.Way n d) (nl : ¬ Loops n d) (K : Nat) :
    impl_GapsClose.l3 (K + 14) (n + 1) (n + 1) t (n + 1) 0 n d = impl_GapsClose.l0 (K + (14 - ((n + 1 - 0).toNat + 1))) (n + 1) (n + 1) (t + 1) n d := by
  have := (close_l3 h0 h t d ht0 ht w.1 _ 0 rfl (by omega) (by omega) (fun x a b => absurd a (by omega)) (K + (14 - ((n + 1 - 0).toNat + 1)))).2 nl
  rw [← this]
  congr 1
  omega
theorem end_ok {n : Int} {d : List Int} (hd : d.length ≤ 169) (lo : ∀ q : Int, 0 ≤ q → q < (d.length : Int) → -4294967296 ≤ rd d q) : ∀ k, 1000 ≤ k → impl_GapsClose.l4 k d (d.length : Int) 0 n d = some (n, d, true) := by
  intro k hk
  have go : ∀ (m k : Nat) (i : Int), ((d.length : Int) - i).toNat = m → 0 ≤ i → i ≤ (d.length : Int) → m < k → impl_GapsClose.l4 k d (d.length : Int) i n d = some (n, d, true) := by
    intro m
    induction m with
    | zero =>
      intro k i hm a b hk
      obtain ⟨k, rfl⟩ : ∃ j, k = j + 1 := ⟨k - 1, by omega⟩
      rw [impl_GapsClose.l4, if_neg (by omega)]
    | succ m ih =>
      intro k i hm a b hk
      obtain ⟨k, rfl⟩ : ∃ j, k = j + 1 := ⟨k - 1, by omega⟩
      have := lo i a (by omega)
      rw [impl_GapsClose.l4, if_pos (by omega), if_pos a, if_pos (by omega), if_neg (by omega), wrap64_id (x := i + 1) (by omega) (by omega)]
      exact ih k (i + 1) (by omega) (by omega) (by omega) (by omega)
  exact go _ k 0 rfl (by omega) (by omega) (by omega)

/-- Numbers that keep the bounds. -/
def Kp (n : Int) (a : Int → Int) (d : List Int) : Prop := ∀ i j : Int, 0 ≤ i → i ≤ n → 0 ≤ j → j ≤ n → a i - a j ≤ gat n d i j
set_option maxRecDepth 20000 in
theorem keeps_l0 {n : Int} (h0 : 0 ≤ n) (h : n ≤ 12) (a : Int → Int) (ha : ∀ i : Int, 0 ≤ i → i ≤ n → NIn (a i)) (m : Nat) : ∀ (t : Int) (d : List Int) (K : Nat), (n + 1 - t).toNat = m → 0 ≤ t → t ≤ n + 1 → LFnGapsClose.Way n d → Kp n a d → (∀ i : Int, 0 ≤ i → i ≤ n → gat n d i i = 0) → m * 1000 + 2000 ≤ K →
    ∃ r, impl_GapsClose.l0 K (n + 1) (n + 1) t n d = some (n, r, true) ∧ Kp n a r := by
  induction m with
  | zero =>
    intro t d K hm ht ht' w kp z hK
    obtain ⟨K, rfl⟩ : ∃ K', K = K' + 1 := ⟨K - 1, by omega⟩
    have sm := len_small h0 h w.1
    refine ⟨d, ?_, kp⟩
    rw [impl_GapsClose.l0, if_neg (show ¬ t < n + 1 by omega)]
    refine end_ok sm (fun q q0 q1 => ?_) K (by omega)
    obtain ⟨i, j, a1, a2, a3, a4, rfl⟩ := idx_of h0 h q0 (by have := w.1; omega)
    have u := kp i j a1 a2 a3 a4
    have v1 := ha i a1 a2
    have v2 := ha j a3 a4
    unfold NIn at v1 v2
    unfold gat at u
    omega
  | succ m ih =>
    intro t d K hm ht ht' w kp z hK
    have low : ∀ i j : Int, 0 ≤ i → i ≤ n → 0 ≤ j → j ≤ n → -4294967296 ≤ a i - a j ∧ a i - a j ≤ 4294967296 := fun i j a1 a2 a3 a4 => by
      have v1 := ha i a1 a2
      have v2 := ha j a3 a4
      unfold NIn at v1 v2
      omega
    obtain ⟨d', w', rn, F, hF, g⟩ := round_full h0 h t ht (by omega) d w (fun x b c => by
      have u1 := kp x t b c ht (by omega)
      have u2 := kp t x ht (by omega) b c
      have u3 := low x t b c ht (by omega)
      have u4 := low t x ht (by omega) b c
      constructor <;> omega) (z t ht (by omega))
    have kp' : Kp n a d' := fun i j a1 a2 a3 a4 => by
      rw [rn i j a1 a2 a3 a4]
      have u1 := kp i j a1 a2 a3 a4
      have u2 := kp i t a1 a2 ht (by omega)
      have u3 := kp t j ht (by omega) a3 a4
      have u4 := low i j a1 a2 a3 a4
      have := tg_ge u2 u3 (by omega)
      omega
    have z' : ∀ i : Int, 0 ≤ i → i ≤ n → gat n d' i i = 0 := fun i a1 a2 => by
      have u1 := kp' i i a1 a2 a1 a2
      have u2 := rn i i a1 a2 a1 a2
      have u3 := z i a1 a2
      omega
    have nl : ¬ Loops n d' := fun ⟨i, a1, a2, a3⟩ => by have := z' i a1 a2; omega
    obtain ⟨G, e⟩ : ∃ G, K = (G + 14) + F := ⟨K - F - 14, by omega⟩
    rw [e, g, no_loop h0 h t ht (by omega) d' w' nl G]
    exact ih (t + 1) d' _ (by omega) (by omega) (by omega) w' kp' z' (by omega)
set_option maxRecDepth 20000 in
theorem close_has {n : Int} {d l : List Int} (hs : Has n d l) {k : Nat} (hk : 100000 ≤ k) : ∃ r, impl_GapsClose.f k n d = some (n, r, true) ∧ Kp n (numAt l) r := by
  obtain ⟨g, ll, nl, kp⟩ := hs
  have g' := g
  obtain ⟨h0, h, hl, hin, hz⟩ := g'
  have sm := len_small h0 h hl
  unfold impl_GapsClose.f
  rw [gapsOk_yes g (by omega), Option.bind_some, if_pos rfl, clone_eq n d (by omega), Option.bind_some, wrap64_id (x := n + 1) (by omega) (by omega)]
  exact keeps_l0 h0 h (numAt l) (fun i a b => numAt_in ll nl a b) _ 0 d k rfl (by omega) (by omega) ⟨hl, fun p a b => (hin p a b).2⟩ kp hz (by omega)

/-- A chain of finite bounds. -/
inductive Ch (E : Int → Int → Prop) : Int → List Int → Int → Prop
  | one {i j : Int} : E i j → Ch E i [] j
  | more {i a j : Int} {L : List Int} : E i a → Ch E a L j → Ch E i (a :: L) j
theorem Ch.join {E : Int → Int → Prop} {i k j : Int} {L M : List Int} (h : Ch E i L k) (h' : Ch E k M j) : Ch E i (L ++ k :: M) j := by
  induction h with
  | one e => exact .more e h'
  | more e _ ih => exact .more e (ih h')
theorem Ch.part {E : Int → Int → Prop} {k j : Int} {L M : List Int} : ∀ {i : Int}, Ch E i (L ++ k :: M) j → Ch E i L k ∧ Ch E k M j := by
  induction L with
  | nil => intro i h; cases h with | more e h => exact ⟨.one e, h⟩
  | cons a L ih => intro i h; cases h with | more e h => exact ⟨.more e (ih h).1, (ih h).2⟩
theorem Ch.nodup {E : Int → Int → Prop} {i j : Int} {L : List Int} (h : Ch E i L j) : ∃ M : List Int, Ch E i M j ∧ M.Nodup ∧ ∀ x ∈ M, x ∈ L := by
  induction h with
  | one e => exact ⟨[], .one e, List.nodup_nil, fun x h => h⟩
  | @more i a j L e _ ih =>
    obtain ⟨M, h1, h2, h3⟩ := ih
    by_cases c : a ∈ M
    · obtain ⟨s, t, rfl⟩ := List.append_of_mem c
      refine ⟨a :: t, .more e h1.part.2, (List.nodup_append.mp h2).2.1, fun x hx => ?_⟩
      rcases List.mem_cons.mp hx with rfl | hx
      · exact List.mem_cons_self
      · exact List.mem_cons_of_mem _ (h3 x (by simp [hx]))
    · refine ⟨a :: M, .more e h1, List.nodup_cons.mpr ⟨c, h2⟩, fun x hx => ?_⟩
      rcases List.mem_cons.mp hx with rfl | hx
      · exact List.mem_cons_self
      · exact List.mem_cons_of_mem _ (h3 x hx)
theorem short (k : Nat) : ∀ L : List Int, L.Nodup → (∀ x ∈ L, 0 ≤ x ∧ x < (k : Int)) → L.length ≤ k := by
  induction k with
  | zero =>
    intro L _ h
    cases L with
    | nil => simp
    | cons a L => have := h a (by simp); omega
  | succ k ih =>
    intro L nd h
    by_cases c : (k : Int) ∈ L
    · obtain ⟨s, t, rfl⟩ := List.append_of_mem c
      have n1 := List.nodup_append.mp nd
      have n2 := List.nodup_cons.mp n1.2.1
      have ks : (k : Int) ∉ s := fun q => (n1.2.2 _ q _ (by simp)) rfl
      have := ih (s ++ t) (List.nodup_append.mpr ⟨n1.1, n2.2, fun a ha b hb => n1.2.2 a ha b (by simp [hb])⟩) (fun x hx => by
        rcases List.mem_append.mp hx with hx | hx
        · have u := h x (by simp [hx])
          exact ⟨u.1, by by_cases e : x = (k : Int); exact absurd (e ▸ hx) ks; omega⟩
        · have u := h x (by simp [hx])
          exact ⟨u.1, by by_cases e : x = (k : Int); exact absurd (e ▸ hx) n2.1; omega⟩)
      simp only [List.length_append, List.length_cons] at this ⊢
      omega
    · have := ih L nd (fun x hx => ⟨(h x hx).1, by
        have u := (h x hx).2
        by_cases e : x = (k : Int)
        · exact absurd (e ▸ hx) c
        · omega⟩)
      omega

/-- What is told of a matrix after t rounds over a first one, none of whose finite bounds is above b. -/
structure After (n : Int) (b : Int) (d0 : List Int) (t : Int) (d : List Int) : Prop where
  way : LFnGapsClose.Way n d
  zero : ∀ i : Int, 0 ≤ i → i ≤ n → gat n d i i = 0
  low : ∀ i j : Int, 0 ≤ i → i ≤ n → 0 ≤ j → j ≤ n → -4294967296 ≤ gat n d i j
  chain : ∀ i j : Int, 0 ≤ i → i ≤ n → 0 ≤ j → j ≤ n → gat n d i j < 1099511627776 → ∃ L : List Int, Ch (fun x y => gat n d0 x y < 1099511627776) i L j ∧ ∀ x ∈ L, 0 ≤ x ∧ x < t
  up : ∀ (L : List Int) (i j : Int), 0 ≤ i → i ≤ n → 0 ≤ j → j ≤ n → Ch (fun x y => gat n d0 x y < 1099511627776) i L j → L.Nodup → (∀ x ∈ L, 0 ≤ x ∧ x < t) → gat n d i j ≤ ((L.length : Int) + 1) * b
  tri : ∀ m i j : Int, 0 ≤ m → m < t → 0 ≤ i → i ≤ n → 0 ≤ j → j ≤ n → gat n d i j ≤ tg (gat n d i m) (gat n d m j)
theorem After.fin {n b t : Int} {d0 d : List Int} (a : After n b d0 t d) (h : n ≤ 12) (ht0 : 0 ≤ t) (ht : t ≤ n + 1) (hb : 0 ≤ b) {i j : Int} (hi : 0 ≤ i) (hi' : i ≤ n) (hj : 0 ≤ j) (hj' : j ≤ n) (f : gat n d i j < 1099511627776) : gat n d i j ≤ 14 * b := by
  obtain ⟨L, h1, h2⟩ := a.chain i j hi hi' hj hj' f
  obtain ⟨M, m1, m2, m3⟩ := h1.nodup
  have s := short t.toNat M m2 (fun x hx => by have := h2 x (m3 x hx); omega)
  have u := a.up M i j hi hi' hj hj' m1 m2 (fun x hx => h2 x (m3 x hx))
  have v : ((M.length : Int) + 1) * b ≤ 14 * b := Int.mul_le_mul_of_nonneg_right (by omega) hb
  omega
theorem After.step {n b t : Int} {d0 d d' : List Int} (a : After n b d0 t d) (h0 : 0 ≤ n) (h : n ≤ 12) (ht0 : 0 ≤ t) (ht : t ≤ n) (hb : 0 ≤ b) (hb' : b ≤ 4294967306) (w' : LFnGapsClose.Way n d') (rn : Round n t d d')
    (low' : ∀ i j : Int, 0 ≤ i → i ≤ n → 0 ≤ j → j ≤ n → -4294967296 ≤ gat n d' i j) (nl : ¬ Loops n d') : After n b d0 (t + 1) d' := by
  have fin : ∀ i j : Int, 0 ≤ i → i ≤ n → 0 ≤ j → j ≤ n → gat n d i j < 1099511627776 → gat n d i j ≤ 60129542284 := fun i j a1 a2 a3 a4 f => by
    have := a.fin h ht0 (by omega) hb a1 a2 a3 a4 f
    omega
  have le : ∀ i j : Int, 0 ≤ i → i ≤ n → 0 ≤ j → j ≤ n → gat n d' i j ≤ gat n d i j := fun i j a1 a2 a3 a4 => by
    rw [rn i j a1 a2 a3 a4]; omega
  refine ⟨w', fun i a1 a2 => ?_, low', fun i j a1 a2 a3 a4 f => ?_, fun L i j a1 a2 a3 a4 c nd hx => ?_, fun m i j m1 m2 a1 a2 a3 a4 => ?_⟩
  · have u1 := le i i a1 a2 a1 a2
    have u2 := a.zero i a1 a2
    have u3 : ¬ gat n d' i i < 0 := fun q => nl ⟨i, a1, a2, q⟩
    omega
  · rw [rn i j a1 a2 a3 a4] at f
    by_cases q : gat n d i j < 1099511627776
    · obtain ⟨L, h1, h2⟩ := a.chain i j a1 a2 a3 a4 q
      exact ⟨L, h1, fun x hx => by have := h2 x hx; omega⟩
    · obtain ⟨f1, f2, _⟩ := tg_fin (show tg (gat n d i t) (gat n d t j) < 1099511627776 by omega)
      obtain ⟨L, h1, h2⟩ := a.chain i t a1 a2 ht0 ht f1
      obtain ⟨M, h3, h4⟩ := a.chain t j ht0 ht a3 a4 f2
      refine ⟨L ++ t :: M, h1.join h3, fun x hx => ?_⟩
      rcases List.mem_append.mp hx with hx | hx
      · have := h2 x hx; omega
      · rcases List.mem_cons.mp hx with rfl | hx
        · omega
        · have := h4 x hx; omega
  · by_cases q : t ∈ L
    · obtain ⟨s, r, rfl⟩ := List.append_of_mem q
      obtain ⟨c1, c2⟩ := c.part
      have n1 := List.nodup_append.mp nd
      have n2 := List.nodup_cons.mp n1.2.1
      have ks : t ∉ s := fun q => (n1.2.2 _ q _ (by simp)) rfl
      have u1 := a.up s i t a1 a2 ht0 ht c1 n1.1 (fun x hx' => by
        have u := hx x (by simp [hx'])
        exact ⟨u.1, by by_cases e : x = t; exact absurd (e ▸ hx') ks; omega⟩)
      have u2 := a.up r t j ht0 ht a3 a4 c2 n2.2 (fun x hx' => by
        have u := hx x (by simp [hx'])
        exact ⟨u.1, by by_cases e : x = t; exact absurd (e ▸ hx') n2.1; omega⟩)
      have s1 := short t.toNat s n1.1 (fun x hx' => by
        have u := hx x (by simp [hx'])
        exact ⟨u.1, by by_cases e : x = t; exact absurd (e ▸ hx') ks; omega⟩)
      have s2 := short t.toNat r n2.2 (fun x hx' => by
        have u := hx x (by simp [hx'])
        exact ⟨u.1, by by_cases e : x = t; exact absurd (e ▸ hx') n2.1; omega⟩)
      have v1 : ((s.length : Int) + 1) * b ≤ 14 * b := Int.mul_le_mul_of_nonneg_right (by omega) hb
      have v2 : ((r.length : Int) + 1) * b ≤ 14 * b := Int.mul_le_mul_of_nonneg_right (by omega) hb
      have e : (((s ++ t :: r).length : Int) + 1) * b = ((s.length : Int) + 1) * b + ((r.length : Int) + 1) * b := by
        rw [← Int.add_mul]; congr 1; simp only [List.length_append, List.length_cons]; omega
      rw [e, rn i j a1 a2 a3 a4]
      have := tg_le (a := gat n d i t) (b := gat n d t j) (by omega) (by omega) (by omega)
      omega
    · have u := a.up L i j a1 a2 a3 a4 c nd (fun x hx' => by
        have u := hx x hx'
        exact ⟨u.1, by by_cases e : x = t; exact absurd (e ▸ hx') q; omega⟩)
      have := le i j a1 a2 a3 a4
      omega
  · have fx : ∀ i j : Int, 0 ≤ i → i ≤ n → 0 ≤ j → j ≤ n → gat n d i j ≤ 1099511627776 := fun i j b1 b2 b3 b4 => way_le h0 h a.way b1 b2 b3 b4
    have zt := a.zero t ht0 ht
    have rowt : ∀ y : Int, 0 ≤ y → y ≤ n → gat n d' t y = gat n d t y := fun y y1 y2 => by
      rw [rn t y ht0 ht y1 y2, zt, tg_zero_left (fx t y ht0 ht y1 y2), Int.min_self]
    have colt : ∀ x : Int, 0 ≤ x → x ≤ n → gat n d' x t = gat n d x t := fun x x1 x2 => by
      rw [rn x t x1 x2 ht0 ht, zt, tg_zero_right (fx x t x1 x2 ht0 ht), Int.min_self]
    by_cases e : m = t
    · subst e
      rw [rowt j a3 a4, colt i a1 a2, rn i j a1 a2 a3 a4]; omega
    · have mn : m ≤ n := by omega
      by_cases q : tg (gat n d' i m) (gat n d' m j) < 1099511627776
      · obtain ⟨f1, f2, f3⟩ := tg_fin q
        rw [f3]
        have r1 := rn i m a1 a2 m1 mn
        have r2 := rn m j m1 mn a3 a4
        have r3 := rn i j a1 a2 a3 a4
        have t1 := a.tri m i j m1 (by omega) a1 a2 a3 a4
        have t2 := a.tri m t j m1 (by omega) ht0 ht a3 a4
        have t3 := a.tri m i t m1 (by omega) a1 a2 ht0 ht
        have t4 := a.tri m t t m1 (by omega) ht0 ht ht0 ht
        have l1 := a.low i t a1 a2 ht0 ht
        have l2 := a.low t m ht0 ht m1 mn
        have l3 := a.low m t m1 mn ht0 ht
        have l4 := a.low t j ht0 ht a3 a4
        have l5 := a.low i m a1 a2 m1 mn
        have l6 := a.low m j m1 mn a3 a4
        by_cases q1 : gat n d i m ≤ tg (gat n d i t) (gat n d t m)
        · have k1 : gat n d' i m = gat n d i m := by omega
          have b1 := fin i m a1 a2 m1 mn (by omega)
          by_cases q2 : gat n d m j ≤ tg (gat n d m t) (gat n d t j)
          · have k2 : gat n d' m j = gat n d m j := by omega
            have b2 := fin m j m1 mn a3 a4 (by omega)
            rw [tg_le (by omega) (by omega) (by omega)] at t1
            omega
          · have k2 : gat n d' m j = tg (gat n d m t) (gat n d t j) := by omega
            obtain ⟨g1, g2, g3⟩ := tg_fin (show tg (gat n d m t) (gat n d t j) < 1099511627776 by omega)
            have b2 := fin m t m1 mn ht0 ht g1
            have b3 := fin t j ht0 ht a3 a4 g2
            rw [tg_le (by omega) (by omega) (by omega)] at t3
            have := tg_le (a := gat n d i t) (b := gat n d t j) (by omega) (by omega) (by omega)
            omega
        · have k1 : gat n d' i m = tg (gat n d i t) (gat n d t m) := by omega
          obtain ⟨g1, g2, g3⟩ := tg_fin (show tg (gat n d i t) (gat n d t m) < 1099511627776 by omega)
          have b1 := fin i t a1 a2 ht0 ht g1
          have b2 := fin t m ht0 ht m1 mn g2
          by_cases q2 : gat n d m j ≤ tg (gat n d m t) (gat n d t j)
          · have k2 : gat n d' m j = gat n d m j := by omega
            have b3 := fin m j m1 mn a3 a4 (by omega)
            rw [tg_le (by omega) (by omega) (by omega)] at t2
            have := tg_le (a := gat n d i t) (b := gat n d t j) (by omega) (by omega) (by omega)
            omega
          · have k2 : gat n d' m j = tg (gat n d m t) (gat n d t j) := by omega
            obtain ⟨g4, g5, g6⟩ := tg_fin (show tg (gat n d m t) (gat n d t j) < 1099511627776 by omega)
            have b3 := fin m t m1 mn ht0 ht g4
            have b4 := fin t j ht0 ht a3 a4 g5
            rw [tg_le (by omega) (by omega) (by omega)] at t4
            have := tg_le (a := gat n d i t) (b := gat n d t j) (by omega) (by omega) (by omega)
            omega
      · have := way_le h0 h w' a1 a2 a3 a4
        omega

set_option maxRecDepth 20000 in
theorem low_of {n : Int} (h0 : 0 ≤ n) (h : n ≤ 12) {t : Int} {d : List Int} {K : Nat} (ht : 0 ≤ t) (ht' : t ≤ n + 1) (w : LFnGapsClose.Way n d) (nl : ¬ Loops n d) (hK : 20000 ≤ K) {r0 : Int} {r : List Int}
    (e : impl_GapsClose.l0 K (n + 1) (n + 1) t n d = some (r0, r, true)) : ∀ i j : Int, 0 ≤ i → i ≤ n → 0 ≤ j → j ≤ n → -4294967296 ≤ gat n d i j := by
  obtain ⟨q, _, q2, _, q4⟩ := close_l0 h0 h [] _ t d K K rfl ht ht' w (fun _ => nl) (by omega) (by omega)
  rw [e] at q2
  obtain rfl := Option.some.inj q2
  obtain ⟨_, w2, le, _, lo⟩ := q4 rfl
  intro i j a1 a2 a3 a4
  have u := le i j a1 a2 a3 a4
  have ix := idx_in h0 h a1 a2 a3 a4
  have v := lo (i * (n + 1) + j) ix.1 (by have := w2.1; omega)
  unfold gat at u ⊢
  omega
set_option maxRecDepth 20000 in
theorem ok_run {n : Int} (h0 : 0 ≤ n) (h : n ≤ 12) {b : Int} (hb : 0 ≤ b) (hb' : b ≤ 4294967306) (d0 : List Int) (m : Nat) : ∀ (t : Int) (d : List Int) (K : Nat) (r0 : Int) (r : List Int), (n + 1 - t).toNat = m → 0 ≤ t → t ≤ n + 1 → After n b d0 t d → 30000 + 1000 * m ≤ K →
    impl_GapsClose.l0 K (n + 1) (n + 1) t n d = some (r0, r, true) → r0 = n ∧ After n b d0 (n + 1) r := by
  induction m with
  | zero =>
    intro t d K r0 r hm ht ht' a hK e
    obtain ⟨K, rfl⟩ : ∃ K', K = K' + 1 := ⟨K - 1, by omega⟩
    have et : t = n + 1 := by omega
    subst et
    have sm := len_small h0 h a.way.1
    rw [impl_GapsClose.l0, if_neg (show ¬ n + 1 < n + 1 by omega), end_ok sm (fun q q0 q1 => by
      obtain ⟨i, j, a1, a2, a3, a4, rfl⟩ := idx_of h0 h q0 (by have := a.way.1; omega)
      exact a.low i j a1 a2 a3 a4) K (by omega)] at e
    obtain ⟨e1, e2⟩ := Prod.mk.inj (Option.some.inj e)
    obtain ⟨e3, _⟩ := Prod.mk.inj e2
    subst e1; subst e3
    exact ⟨rfl, a⟩
  | succ m ih =>
    intro t d K r0 r hm ht ht' a hK e
    obtain ⟨d', w', rn, F, hF, g⟩ := round_full h0 h t ht (by omega) d a.way (fun x b c => by
      have u1 := a.low x t b c ht (by omega)
      have u2 := a.low t x ht (by omega) b c
      constructor <;> omega) (a.zero t ht (by omega))
    obtain ⟨G, eK⟩ : ∃ G, K = (G + 14) + F := ⟨K - F - 14, by omega⟩
    rw [eK, g] at e
    have s3 := close_l3 h0 h t d' ht (by omega) w'.1 _ 0 rfl (by omega) (by omega) (fun x a b => absurd a (by omega)) (G + (14 - ((n + 1 - 0).toNat + 1)))
    have nl : ¬ Loops n d' := fun l => by
      have u := s3.1 l
      rw [show G + (14 - ((n + 1 - 0).toNat + 1)) + ((n + 1 - 0).toNat + 1) = G + 14 by omega, e] at u
      exact absurd (Prod.mk.inj (Prod.mk.inj (Option.some.inj u)).2).2 (by decide)
    rw [no_loop h0 h t ht (by omega) d' w' nl G] at e
    have low' := low_of h0 h (show 0 ≤ t + 1 by omega) (by omega) w' nl (by omega) e
    exact ih (t + 1) d' _ r0 r (by omega) (by omega) (by omega) (a.step h0 h ht (by omega) hb hb' w' rn low' nl) (by omega) e
theorem gat_ext {n : Int} (h0 : 0 ≤ n) (h : n ≤ 12) {d d' : List Int} (w : LFnGapsClose.Way n d) (w' : LFnGapsClose.Way n d') (e : ∀ i j : Int, 0 ≤ i → i ≤ n → 0 ≤ j → j ≤ n → gat n d' i j = gat n d i j) : d' = d := by
  apply List.ext_getElem?
  intro p
  have hl := w.1
  have hl' := w'.1
  by_cases c : p < d.length
  · obtain ⟨i, j, a1, a2, a3, a4, q⟩ := idx_of h0 h (show (0 : Int) ≤ (p : Int) by omega) (by omega)
    have u := e i j a1 a2 a3 a4
    unfold gat at u
    rw [← q] at u
    unfold rd at u
    rw [Int.toNat_natCast, List.getD_eq_getElem?_getD, List.getD_eq_getElem?_getD, List.getElem?_eq_getElem c, List.getElem?_eq_getElem (show p < d'.length by omega)] at u
    rw [List.getElem?_eq_getElem c, List.getElem?_eq_getElem (show p < d'.length by omega)]
    exact congrArg some u
  · rw [List.getElem?_eq_none (by omega), List.getElem?_eq_none (by omega)]
set_option maxRecDepth 20000 in
theorem id_run {n : Int} (h0 : 0 ≤ n) (h : n ≤ 12) {b : Int} (d0 r : List Int) (a : After n b d0 (n + 1) r) (m : Nat) : ∀ (t : Int) (K : Nat), (n + 1 - t).toNat = m → 0 ≤ t → t ≤ n + 1 → 3000 + 1000 * m ≤ K → impl_GapsClose.l0 K (n + 1) (n + 1) t n r = some (n, r, true) := by
  induction m with
  | zero =>
    intro t K hm ht ht' hK
    obtain ⟨K, rfl⟩ : ∃ K', K = K' + 1 := ⟨K - 1, by omega⟩
    have sm := len_small h0 h a.way.1
    rw [impl_GapsClose.l0, if_neg (show ¬ t < n + 1 by omega)]
    exact end_ok sm (fun q q0 q1 => by
      obtain ⟨i, j, a1, a2, a3, a4, rfl⟩ := idx_of h0 h q0 (by have := a.way.1; omega)
      exact a.low i j a1 a2 a3 a4) K (by omega)
  | succ m ih =>
    intro t K hm ht ht' hK
    obtain ⟨d', w', rn, F, hF, g⟩ := round_full h0 h t ht (by omega) r a.way (fun x b c => by
      have u1 := a.low x t b c ht (by omega)
      have u2 := a.low t x ht (by omega) b c
      constructor <;> omega) (a.zero t ht (by omega))
    have same : d' = r := gat_ext h0 h a.way w' fun i j a1 a2 a3 a4 => by
      have u := a.tri t i j ht (by omega) a1 a2 a3 a4
      rw [rn i j a1 a2 a3 a4]; omega
    subst same
    have nl : ¬ Loops n d' := fun ⟨i, a1, a2, a3⟩ => by have := a.zero i a1 a2; omega
    obtain ⟨G, eK⟩ : ∃ G, K = (G + 14) + F := ⟨K - F - 14, by omega⟩
    rw [eK, g, no_loop h0 h t ht (by omega) d' w' nl G]
    exact ih (t + 1) _ (by omega) (by omega) (by omega) (by omega)
theorem l4_false {n : Int} {d : List Int} (hd : d.length ≤ 169) {x : Int} {y : List Int} : ∀ (m k : Nat) (i : Int), ((d.length : Int) - i).toNat = m → 0 ≤ i → i ≤ (d.length : Int) → m < k → impl_GapsClose.l4 k d (d.length : Int) i n d = some (x, y, false) → y = [] := by
  intro m
  induction m with
  | zero =>
    intro k i hm a b hk e
    obtain ⟨k, rfl⟩ : ∃ j, k = j + 1 := ⟨k - 1, by omega⟩
    rw [impl_GapsClose.l4, if_neg (by omega)] at e
    exact absurd (Prod.mk.inj (Prod.mk.inj (Option.some.inj e)).2).2 (by decide)
  | succ m ih =>
    intro k i hm a b hk e
    obtain ⟨k, rfl⟩ : ∃ j, k = j + 1 := ⟨k - 1, by omega⟩
    rw [impl_GapsClose.l4, if_pos (by omega), if_pos a, if_pos (by omega), wrap64_id (x := i + 1) (by omega) (by omega)] at e
    by_cases c : rd d i < -4294967296
    · rw [if_pos c] at e
      exact (Prod.mk.inj (Prod.mk.inj (Option.some.inj e)).2).1.symm
    · rw [if_neg c] at e
      exact ih k (i + 1) (by omega) (by omega) (by omega) (by omega) e
set_option maxRecDepth 20000 in
theorem false_run {n : Int} (h0 : 0 ≤ n) (h : n ≤ 12) {x : Int} {y : List Int} (m : Nat) : ∀ (t : Int) (d : List Int) (K : Nat), (n + 1 - t).toNat = m → 0 ≤ t → t ≤ n + 1 → LFnGapsClose.Way n d → m * 1000 + 1000 ≤ K →
    impl_GapsClose.l0 K (n + 1) (n + 1) t n d = some (x, y, false) → y = [] := by
  induction m with
  | zero =>
    intro t d K hm ht ht' w hK e
    obtain ⟨K, rfl⟩ : ∃ K', K = K' + 1 := ⟨K - 1, by omega⟩
    have sm := len_small h0 h w.1
    rw [impl_GapsClose.l0, if_neg (show ¬ t < n + 1 by omega)] at e
    exact l4_false sm _ K 0 rfl (by omega) (by omega) (by omega) e
  | succ m ih =>
    intro t d K hm ht ht' w hK e
    obtain ⟨K, rfl⟩ : ∃ K', K = K' + 1 := ⟨K - 1, by omega⟩
    obtain ⟨d', w', le, F, hF, eq⟩ := close_l1 h0 h [] t ht (by omega) _ 0 d rfl (by omega) (by omega) w
    rw [impl_GapsClose.l0, if_pos (show t < n + 1 by omega)] at e
    obtain ⟨H, e'⟩ : ∃ H, K = (H + ((n + 1 - 0).toNat + 1)) + F := ⟨K - F - ((n + 1 - 0).toNat + 1), by omega⟩
    rw [e', (eq _).2] at e
    have s3 := close_l3 h0 h t d' ht (by omega) w'.1 _ 0 rfl (by omega) (by omega) (fun x a b => absurd a (by omega)) H
    by_cases lo : Loops n d'
    · rw [s3.1 lo] at e
      exact (Prod.mk.inj (Prod.mk.inj (Option.some.inj e)).2).1.symm
    · rw [s3.2 lo] at e
      exact ih (t + 1) d' H (by omega) (by omega) (by omega) w' (by omega) e
set_option maxRecDepth 20000 in
theorem close_false {n : Int} {d : List Int} {k : Nat} (hk : 100000 ≤ k) {x : Int} {y : List Int} (e : impl_GapsClose.f k n d = some (x, y, false)) : y = [] := by
  unfold impl_GapsClose.f at e
  by_cases g : GOk n d
  · have g' := g
    obtain ⟨h0, h, hl, hin, hz⟩ := g'
    have sm := len_small h0 h hl
    rw [gapsOk_yes g (by omega), Option.bind_some, if_pos rfl, clone_eq n d (by omega), Option.bind_some, wrap64_id (x := n + 1) (by omega) (by omega)] at e
    exact false_run h0 h _ 0 d k rfl (by omega) (by omega) ⟨hl, fun p a b => (hin p a b).2⟩ (by omega) e
  · rw [gapsOk_no g (by omega), Option.bind_some, if_neg (by decide)] at e
    exact (Prod.mk.inj (Prod.mk.inj (Option.some.inj e)).2).1.symm

/-- No finite bound is great. -/
def Bd (d : List Int) : Prop := ∀ p : Int, 0 ≤ p → p < (d.length : Int) → rd d p ≤ 4294967306 ∨ 1099511627776 ≤ rd d p
def Ba (d : List Int) : Prop := ∀ x ∈ d, x ≤ 4294967306 ∨ 1099511627776 ≤ x
theorem Ba.bd {d : List Int} (h : Ba d) : Bd d := fun p a b => by
  have := h (d[p.toNat]'(by omega)) (List.getElem_mem _)
  unfold rd
  rw [List.getD_eq_getElem?_getD, List.getElem?_eq_getElem (show p.toNat < d.length by omega)]
  exact this
theorem Ba.add {d : List Int} (h : Ba d) {v : Int} (hv : v ≤ 4294967306 ∨ 1099511627776 ≤ v) : Ba (d ++ [v]) := fun x hx => by
  rcases List.mem_append.mp hx with hx | hx
  · exact h x hx
  · rw [List.mem_singleton.mp hx]; exact hv
theorem Ba.put {d : List Int} (h : Ba d) {i : Nat} {v : Int} (hv : v ≤ 4294967306 ∨ 1099511627776 ≤ v) : Ba (d.set i v) := fun x hx => by
  rcases List.mem_or_eq_of_mem_set hx with hx | hx
  · exact h x hx
  · rw [hx]; exact hv
def Na (x : List Int) : Prop := ∀ v ∈ x, -2147483648 ≤ v ∧ v ≤ 2147483647
theorem Na.at_ {x : List Int} (h : Na x) {i : Int} (h0 : 0 ≤ i) (h1 : i < (x.length : Int)) : -2147483648 ≤ rd x i ∧ rd x i ≤ 2147483647 := by
  have := h (x[i.toNat]'(by omega)) (List.getElem_mem _)
  unfold rd
  rw [List.getD_eq_getElem?_getD, List.getElem?_eq_getElem (show i.toNat < x.length by omega)]
  exact this
theorem top_l1 (n i : Int) (hn0 : 0 ≤ n) (hn : n ≤ 12) (Q : Int × List Int → Prop) (G : Nat) (hi0 : 0 ≤ i) (hi : i ≤ 12) (rest : ∀ k acc, G ≤ k → Ba acc → (acc.length : Int) = (i + 1) * (n + 1) → Tot (spec_GapsTop.l0 k n (i + 1) n acc) Q) : ∀ (m k : Nat) (j : Int) (acc : List Int), (n + 1 - j).toNat = m → 0 ≤ j → j ≤ n + 1 → G + m < k → Ba acc → (acc.length : Int) = i * (n + 1) + j →
    Tot (spec_GapsTop.l1 k n i j n acc) Q
  | m, 0, _, _, _, _, _, h, _, _ => absurd h (by omega)
  | 0, k + 1, j, acc, hm, hj, hj', hk, ba, hl => by
    rw [spec_GapsTop.l1, if_neg (show ¬ j ≤ n by omega), wrap64_id (by omega) (by omega)]
    refine rest k acc (by omega) ba ?_
    rw [hl, Int.add_mul i 1 (n + 1), Int.one_mul]; omega
  | m + 1, k + 1, j, acc, hm, hj, hj', hk, ba, hl => by
    have small : acc.length < 17592186044416 := by
      rcases twelve hn0 hn with rfl | rfl | rfl | rfl | rfl | rfl | rfl | rfl | rfl | rfl | rfl | rfl | rfl <;> omega
    rw [spec_GapsTop.l1, if_pos (show j ≤ n by omega), if_pos small, if_pos small, wrap64_id (by omega) (by omega)]
    refine Tot.ite (fun _ => ?_) (fun _ => ?_)
    · exact top_l1 n i hn0 hn Q G hi0 hi rest m k (j + 1) _ (by omega) (by omega) (by omega) (by omega) (ba.add (.inl (by omega))) (by simp; omega)
    · exact top_l1 n i hn0 hn Q G hi0 hi rest m k (j + 1) _ (by omega) (by omega) (by omega) (by omega) (ba.add (.inr (by omega))) (by simp; omega)
theorem top_l0 (n : Int) (hn0 : 0 ≤ n) (hn : n ≤ 12) (m : Nat) : ∀ (k : Nat) (i : Int) (acc : List Int), (n + 1 - i).toNat = m → 0 ≤ i → i ≤ n + 1 → m * 20 < k → Ba acc → (acc.length : Int) = i * (n + 1) →
    Tot (spec_GapsTop.l0 k n i n acc) fun r => r.1 = n ∧ (r.2.length : Int) = (n + 1) * (n + 1) ∧ Ba r.2 := by
  induction m with
  | zero =>
    intro k i acc hm hi hi' hk ba hl
    obtain ⟨k, rfl⟩ : ∃ K, k = K + 1 := ⟨k - 1, by omega⟩
    rw [spec_GapsTop.l0, if_neg (show ¬ i ≤ n by omega)]
    have e : i = n + 1 := by omega
    subst e
    exact Tot.here ⟨rfl, hl, ba⟩
  | succ m ih =>
    intro k i acc hm hi hi' hk ba hl
    obtain ⟨k, rfl⟩ : ∃ K, k = K + 1 := ⟨k - 1, by omega⟩
    rw [spec_GapsTop.l0, if_pos (show i ≤ n by omega)]
    exact top_l1 n i hn0 hn _ (m * 20 + 1) hi (by omega) (fun k acc a c b => ih k (i + 1) acc (by omega) (by omega) (by omega) (by omega) c b) _ k 0 acc rfl (by omega) (by omega) (by omega) ba (by omega)
theorem top_tot {k : Nat} (n : Int) (hn0 : 0 ≤ n) (hn : n ≤ 12) (hk : 1000 ≤ k) : Tot (spec_GapsTop.f k n) fun r => r.1 = n ∧ (r.2.length : Int) = (n + 1) * (n + 1) ∧ Ba r.2 := by
  unfold spec_GapsTop.f
  rw [sin_eq, Option.bind_some, decide_eq_true (show 0 ≤ n ∧ n ≤ 12 from ⟨hn0, hn⟩), if_pos rfl]
  exact top_l0 n hn0 hn _ k 0 [] rfl (by omega) (by omega) (by omega) (fun x hx => by simp at hx) (by simp)
theorem num_in {x : List Int} {n i : Int} (na : Na x) (hl : (x.length : Int) = n) (hn : n ≤ 12) (h0 : 0 ≤ i) (h : i ≤ n) : Tot (spec_l11Num.f x i) fun r => -2147483648 ≤ r ∧ r ≤ 2147483647 := by
  unfold spec_l11Num.f
  refine Tot.ite (fun _ => Tot.here (by omega)) (fun c => ?_)
  rw [wrap64_id (x := i - 1) (by omega) (by omega), if_pos (by omega), if_pos (by omega)]
  exact Tot.here (na.at_ (by omega) (by omega))
theorem numbers_in {s : List Int} (hs : Bytes s) (n : Int) (hn : n ≤ 12) (m : Nat) : ∀ (k : Nat) (i p : Int) (acc : List Int), (n - i).toNat = m → 0 ≤ i → i ≤ n → m + 100 ≤ k → 0 ≤ p → p + 10 * m ≤ 1000000 → Na acc → (acc.length : Int) = i →
    Tot (spec_l11Numbers.l0 k n acc i s p) fun r => (r.1.length : Int) = n ∧ Na r.1 ∧ p ≤ r.2 ∧ r.2 ≤ p + 10 * m := by
  induction m with
  | zero =>
    intro k i p acc hm hi hi' hk hp hp' na hl
    obtain ⟨k, rfl⟩ : ∃ K, k = K + 1 := ⟨k - 1, by omega⟩
    rw [spec_l11Numbers.l0, if_neg (show ¬ i < n by omega)]
    exact Tot.here ⟨by dsimp only; omega, na, by dsimp only; omega, by dsimp only; omega⟩
  | succ m ih =>
    intro k i p acc hm hi hi' hk hp hp' na hl
    obtain ⟨k, rfl⟩ : ∃ K, k = K + 1 := ⟨k - 1, by omega⟩
    have add : ∀ v : Int, -2147483648 ≤ v ∧ v ≤ 2147483647 → Na (acc ++ [v]) := fun v hv x hx => by
      rcases List.mem_append.mp hx with hx | hx
      · exact na x hx
      · rw [List.mem_singleton.mp hx]; exact hv
    rw [spec_l11Numbers.l0, if_pos (show i < n by omega), wrap64_id (x := i + 1) (by omega) (by omega)]
    refine Tot.then (pick_tot k (by omega) hs hp (by omega)) ?_
    rintro ⟨a, q⟩ ⟨hq, ha, hb⟩
    dsimp only at hq ha hb ⊢
    refine Tot.ite (fun _ => ?_) (fun _ => ?_)
    · refine Tot.then (num_tot k (by omega) hs (by omega) (by omega)) ?_
      rintro ⟨a2, q2⟩ ⟨hq2, hq3, hq4⟩
      dsimp only at hq2 hq3 hq4 ⊢
      rw [if_pos (show acc.length < 17592186044416 by omega)]
      refine (ih k (i + 1) q2 (acc ++ [a2]) (by omega) (by omega) (by omega) (by omega) (by omega) (by omega) (add a2 hq4) (by simp; omega)).mono fun r hr => ⟨hr.1, hr.2.1, by omega, by omega⟩
    · refine Tot.then (pick_tot k (by omega) hs (by omega) (by omega)) ?_
      rintro ⟨a2, q2⟩ ⟨hq2, ha2, hb2⟩
      dsimp only at hq2 ha2 hb2 ⊢
      have := hb2 (by omega)
      rw [if_pos (show acc.length < 17592186044416 by omega)]
      refine (ih k (i + 1) q2 (acc ++ [wrap64 (a2 - 10)]) (by omega) (by omega) (by omega) (by omega) (by omega) (by omega) (add _ (by rw [wrap64_id (by omega) (by omega)]; omega)) (by simp; omega)).mono fun r hr => ⟨hr.1, hr.2.1, by omega, by omega⟩
theorem gaps_in {s : List Int} (hs : Bytes s) (n : Int) (hn0 : 0 ≤ n) (hn : n ≤ 12) (x : List Int) (na : Na x) (hx : (x.length : Int) = n) (m : Nat) : ∀ (k : Nat) (c p : Int) (d : List Int), c.toNat = m → 0 ≤ c → c ≤ 1000 → m + 100 ≤ k → 0 ≤ p → p + 10 * m ≤ 1000000 → Ba d → (d.length : Int) = (n + 1) * (n + 1) →
    Tot (spec_l11Gaps.l0 k n x c s p n d) fun r => r.1 = n ∧ (r.2.1.length : Int) = (n + 1) * (n + 1) ∧ Ba r.2.1 ∧ p ≤ r.2.2 ∧ r.2.2 ≤ p + 10 * m := by
  induction m with
  | zero =>
    intro k c p d hm hc hc' hk hp hp' ba hl
    obtain ⟨k, rfl⟩ : ∃ K, k = K + 1 := ⟨k - 1, by omega⟩
    rw [spec_l11Gaps.l0, if_neg (show ¬ c > 0 by omega)]
    exact Tot.here ⟨rfl, hl, ba, by dsimp only; omega, by dsimp only; omega⟩
  | succ m ih =>
    intro k c p d hm hc hc' hk hp hp' ba hl
    obtain ⟨k, rfl⟩ : ∃ K, k = K + 1 := ⟨k - 1, by omega⟩
    rw [spec_l11Gaps.l0, if_pos (show c > 0 by omega), wrap64_id (x := c - 1) (by omega) (by omega), wrap64_id (x := n + 1) (by omega) (by omega)]
    refine Tot.then (pick_tot k (by omega) hs hp (by omega)) ?_
    rintro ⟨i, q1⟩ ⟨e1, i0, i1⟩
    dsimp only at e1 i0 i1 ⊢
    refine Tot.then (pick_tot k (by omega) hs (by omega) (by omega)) ?_
    rintro ⟨j, q2⟩ ⟨e2, j0, j1⟩
    dsimp only at e2 j0 j1 ⊢
    have i2 := i1 (by omega)
    have j2 := j1 (by omega)
    refine Tot.ite (fun _ => ?_) (fun _ => ?_)
    · exact (ih k (c - 1) q2 d (by omega) (by omega) (by omega) (by omega) (by omega) (by omega) ba hl).mono fun r hr => ⟨hr.1, hr.2.1, hr.2.2.1, by omega, by omega⟩
    · refine Tot.then (num_in na hx hn i0 (by omega)) ?_
      intro t1 ⟨u1, u2⟩
      refine Tot.then (num_in na hx hn j0 (by omega)) ?_
      intro t2 ⟨u3, u4⟩
      refine Tot.then (pick_tot k (by omega) hs (by omega) (by omega)) ?_
      rintro ⟨a, q3⟩ ⟨e3, a0, a1⟩
      dsimp only at e3 a0 a1 ⊢
      have a2 := a1 (by omega)
      refine Tot.then (pick_tot k (by omega) hs (by omega) (by omega)) ?_
      rintro ⟨b, q4⟩ ⟨e4, b0, b1⟩
      dsimp only at e4 b0 b1 ⊢
      have next : ∀ v : Int, v ≤ 4294967306 → Tot (spec_l11Gaps.l0 k n x (c - 1) s q4 n (gput n d i j v)) fun r => r.1 = n ∧ (r.2.1.length : Int) = (n + 1) * (n + 1) ∧ Ba r.2.1 ∧ p ≤ r.2.2 ∧ r.2.2 ≤ p + 10 * (m + 1 : Nat) := fun v hv =>
        (ih k (c - 1) q4 (gput n d i j v) (by omega) (by omega) (by omega) (by omega) (by omega) (by omega) (ba.put (.inl hv)) (by rw [gput_len]; exact hl)).mono fun r hr => ⟨hr.1, hr.2.1, hr.2.2.1, by omega, by omega⟩
      rw [wrap64_id (x := t1 - t2) (by omega) (by omega), wrap64_id (x := t1 - t2 + a) (by omega) (by omega), wrap64_id (x := t1 - t2 + a - 4) (by omega) (by omega)]
      refine Tot.ite (fun _ => ?_) (fun _ => ?_)
      · rw [sl11Put_eq _ hn0 hn hl i0 (by omega) j0 (by omega)]; exact next _ (by omega)
      · rw [sl11Put_eq _ hn0 hn hl i0 (by omega) j0 (by omega)]; exact next _ (by omega)
theorem gaps_bd {k : Nat} {s : List Int} {p : Int} (hs : Bytes s) (hk : 3000 ≤ k) (h0 : 0 ≤ p) (h1 : p ≤ 500000) (n : Int) (hn0 : 0 ≤ n) (hn : n ≤ 12) (x : List Int) (na : Na x) (hx : (x.length : Int) = n) :
    Tot (spec_l11Gaps.f k s p n x) fun r => r.1 = n ∧ (r.2.1.length : Int) = (n + 1) * (n + 1) ∧ Ba r.2.1 ∧ p ≤ r.2.2 ∧ r.2.2 ≤ 600000 := by
  unfold spec_l11Gaps.f
  refine Tot.then (top_tot n hn0 hn (by omega)) ?_
  rintro ⟨n', d⟩ ⟨e, hl, ba⟩
  dsimp only at e hl ba ⊢
  subst e
  rw [wrap64_id (x := 3 * n') (by omega) (by omega), wrap64_id (x := 3 * n' + 3) (by omega) (by omega)]
  refine Tot.then (pick_tot k (by omega) hs h0 (by omega)) ?_
  rintro ⟨c, q⟩ ⟨e, c0, c1⟩
  dsimp only at e c0 c1 ⊢
  have := c1 (by omega)
  exact (gaps_in hs n' hn0 hn x na hx _ k c q d rfl c0 (by omega) (by omega) (by omega) (by omega) ba hl).mono fun r hr => ⟨hr.1, hr.2.1, hr.2.2.1, by omega, by omega⟩
theorem spoilt_bd {k : Nat} {s : List Int} {p : Int} (hs : Bytes s) (hk : 3000 ≤ k) (h0 : 0 ≤ p) (h1 : p ≤ 700000) (n : Int) (d : List Int) (hd : d.length ≤ 169) (ba : Ba d) :
    Tot (spec_l11Spoilt.f k s p n d) fun r => Ba r.2.1 := by
  obtain ⟨k, rfl⟩ : ∃ K, k = K + 1 + 1 + 1 := ⟨k - 3, by omega⟩
  unfold spec_l11Spoilt.f
  refine Tot.then (pick_tot _ (by omega) hs h0 (by omega)) ?_
  rintro ⟨c, q⟩ ⟨e, c0, c1⟩
  dsimp only at e c0 c1 ⊢
  have j2 : ∀ (b : Bool) (n : Int) (d : List Int), d.length ≤ 170 → Ba d → (b = true → 0 < d.length) → Tot (spec_l11Spoilt.j2 (k + 1) b s q n d) fun r => Ba r.2.1 := by
    intro b n d hd ba hb
    rw [spec_l11Spoilt.j2]
    refine Tot.ite (fun c => ?_) (fun _ => Tot.here ba)
    have pos := hb c
    refine Tot.then (pick_tot _ (by omega) hs (by omega) (by omega)) ?_
    rintro ⟨u, q2⟩ ⟨e2, u0, u1⟩
    dsimp only at e2 u0 u1 ⊢
    rw [Option.bind_some]
    refine Tot.then (pick_tot _ (by omega) hs (by omega) (by omega)) ?_
    rintro ⟨u', q3⟩ ⟨e3, v0, v1⟩
    dsimp only at e3 v0 v1 ⊢
    have w1 := u1 (by omega)
    have w2 := v1 (by omega)
    rw [if_pos v0, if_pos (show u' < (([1099511627776, 1099511627777, (-1099511627776), (-1099511627777), 1] : List Int).length : Int) from w2), if_pos u0, if_pos w1]
    refine Tot.here (ba.put ?_)
    have : u' = 0 ∨ u' = 1 ∨ u' = 2 ∨ u' = 3 ∨ u' = 4 := by omega
    rcases this with rfl | rfl | rfl | rfl | rfl
    · exact .inr (by decide)
    · exact .inr (by decide)
    · exact .inl (by decide)
    · exact .inl (by decide)
    · exact .inl (by decide)
  have j1 : ∀ (n : Int) (d : List Int), d.length ≤ 170 → Ba d → Tot (spec_l11Spoilt.j1 (k + 1 + 1) c s q n d) fun r => Ba r.2.1 := by
    intro n d hd ba
    rw [spec_l11Spoilt.j1]
    refine Tot.ite (fun _ => j2 _ n d hd ba fun b => ?_) (fun _ => j2 _ n d hd ba fun b => (nomatch b))
    have := of_decide_eq_true b
    omega
  have j0 : ∀ (n : Int), Tot (spec_l11Spoilt.j0 (k + 1 + 1 + 1) c s q n d) fun r => Ba r.2.1 := by
    intro n
    rw [spec_l11Spoilt.j0]
    refine Tot.ite (fun _ => ?_) (fun _ => j1 n d (by omega) ba)
    rw [if_pos (show d.length < 17592186044416 by omega)]
    exact j1 n _ (by simp; omega) (ba.add (.inl (by omega)))
  exact Tot.ite (fun _ => j0 _) (fun _ => j0 _)
theorem numbers_all {k : Nat} {s : List Int} {q n : Int} (hs : Bytes s) (hk : 1000 ≤ k) (a : 0 ≤ n) (b : n ≤ 12) (h0 : 0 ≤ q) (h1 : q ≤ 800000) : Tot (spec_l11Numbers.f k s q n) fun r => (r.1.length : Int) = n ∧ Na r.1 ∧ q ≤ r.2 ∧ r.2 ≤ q + 120 := by
  unfold spec_l11Numbers.f
  exact (numbers_in hs n b _ k 0 q [] rfl (by omega) (by omega) (by omega) (by omega) (by omega) (fun x hx => by simp at hx) rfl).mono fun r hr => ⟨hr.1, hr.2.1, hr.2.2.1, by have := hr.2.2.2; omega⟩
theorem drawGapsHas_bd {k : Nat} {l : List Int} (hl : Bytes l) (hk : 10000 ≤ k) : Tot (spec_DrawGapsHas.f k l) fun r => Bd r.2.1 := by
  unfold spec_DrawGapsHas.f
  refine Tot.then (open_tot hl) ?_
  rintro ⟨s, p⟩ ⟨hp, hs, -⟩
  dsimp only at hp hs ⊢
  refine Tot.then (l11Size_tot hs (by omega) (by omega) (by omega)) ?_
  rintro ⟨n, q⟩ ⟨a, b, c, d⟩
  dsimp only at a b c d ⊢
  refine Tot.then (numbers_all hs (by omega) a b (by omega) (by omega)) ?_
  rintro ⟨x, q2⟩ ⟨e, na, f, g⟩
  dsimp only at e na f g ⊢
  refine Tot.then (gaps_bd hs (by omega) (by omega) (by omega) n a b x na e) ?_
  rintro ⟨n', d', q3⟩ ⟨e1, e2, ba, e3, e4⟩
  dsimp only at e1 e2 ba e3 e4 ⊢
  have sm := len_small a b e2
  refine Tot.then (pick_tot k (by omega) hs (by omega) (by omega)) ?_
  rintro ⟨t, q4⟩ ⟨h1, h2, h3⟩
  dsimp only at h1 h2 h3 ⊢
  refine Tot.ite (fun _ => ?_) (fun _ => Tot.ite (fun _ => ?_) (fun _ => ?_))
  · refine Tot.then (numbers_all hs (by omega) a b (by omega) (by omega)) ?_
    rintro ⟨x2, q5⟩ -
    exact Tot.here ba.bd
  · rw [if_pos (show x.length < 17592186044416 by omega)]
    exact Tot.here ba.bd
  · refine Tot.then (spoilt_bd hs (by omega) (by omega) (by omega) n' d' sm ba) ?_
    rintro ⟨n2, d2, q5⟩ f1
    exact Tot.here (Ba.bd f1)
set_option maxRecDepth 20000 in
/-- Closed twice is closed once, where no finite bound is great. -/
theorem twice {n : Int} {d : List Int} (bd : Bd d) {k : Nat} (hk : 100000 ≤ k) {r0 : Int} {r : List Int} (e : impl_GapsClose.f k n d = some (r0, r, true)) :
    r0 = n ∧ ∀ k' : Nat, 100000 ≤ k' → impl_GapsClose.f k' n r = some (n, r, true) := by
  by_cases g : GOk n d
  · have g' := g
    obtain ⟨h0, h, hl, hin, hz⟩ := g'
    have sm := len_small h0 h hl
    have w : LFnGapsClose.Way n d := ⟨hl, fun p a b => (hin p a b).2⟩
    unfold impl_GapsClose.f at e
    rw [gapsOk_yes g (by omega), Option.bind_some, if_pos rfl, clone_eq n d (by omega), Option.bind_some, wrap64_id (x := n + 1) (by omega) (by omega)] at e
    have e : impl_GapsClose.l0 k (n + 1) (n + 1) 0 n d = some (r0, r, true) := e
    have nl : ¬ Loops n d := fun ⟨i, a1, a2, a3⟩ => by
      have : gat n d i i = 0 := hz i a1 a2
      omega
    have lo := low_of h0 h (Int.le_refl 0) (by omega) w nl (by omega) e
    have first : After n 4294967306 d 0 d := by
      refine ⟨w, fun i a b => hz i a b, lo, fun i j a1 a2 a3 a4 f => ⟨[], .one f, fun x hx => by simp at hx⟩, fun L i j a1 a2 a3 a4 c nd hx => ?_, fun m i j m0 m1 => absurd m0 (by omega)⟩
      cases L with
      | nil =>
        cases c with
        | one f =>
          have ix := idx_in h0 h a1 a2 a3 a4
          have u := bd _ ix.1 (by omega)
          unfold gat at f ⊢
          simp only [List.length_nil]
          omega
      | cons x L => have := hx x (by simp); omega
    obtain ⟨rfl, a⟩ := ok_run h0 h (by omega) (by omega) d _ 0 d k r0 r rfl (by omega) (by omega) first (by omega) e
    refine ⟨rfl, fun k' hk' => ?_⟩
    have gr : GOk r0 r := (GOk.of_all h0 h a.way.1).mpr fun i j a1 a2 a3 a4 => ⟨⟨by have := a.low i j a1 a2 a3 a4; omega, way_le h0 h a.way a1 a2 a3 a4⟩, fun e => by subst e; exact a.zero i a1 a2⟩
    have sm2 := len_small h0 h a.way.1
    unfold impl_GapsClose.f
    rw [gapsOk_yes gr (by omega), Option.bind_some, if_pos rfl, clone_eq r0 r (by omega), Option.bind_some, wrap64_id (x := r0 + 1) (by omega) (by omega)]
    exact id_run h0 h d r a _ 0 k' rfl (by omega) (by omega) (by omega)
  · unfold impl_GapsClose.f at e
    rw [gapsOk_no g (by omega), Option.bind_some, if_neg (by decide)] at e
    exact absurd (Prod.mk.inj (Prod.mk.inj (Option.some.inj e)).2).2 (by decide)

theorem kp_has {n : Int} {r l : List Int} (g : GOk n r) (ll : (l.length : Int) = n) (nl : Nums l) (k : Kp n (numAt l) r) : Has n r l := ⟨g, ll, nl, k⟩
set_option maxRecDepth 20000 in
theorem FnGapsClose : laws_FnGapsClose.Pure := by
  intro l0 _ _ hw
  have hl0 := Bytes.of hw
  obtain ⟨K, hK⟩ : ∃ K : Nat, 300000000000000000000 ≤ K := ⟨_, Nat.le_refl _⟩
  refine ⟨K + 1 + 1, ?_⟩
  refine Tot.out ?_
  unfold laws_FnGapsClose.f
  refine Tot.ite (fun _ => Tot.here rfl) fun _ => ?_
  refine Tot.then (drawGapsHas_bd hl0 (by omega)) ?_
  rintro ⟨n, d, l⟩ bd
  have bd : Bd d := bd
  dsimp only
  obtain ⟨⟨r0, r, ok⟩, e1, e2, e3, e4⟩ := close_full (k := K + 1 + 1) n d (by omega)
  have e3 : r.length ≤ 169 := e3
  rw [e2, Option.bind_some, e1, Option.bind_some]
  show Tot (if (ok != ok) = true then _ else if r0 = r0 then ((laws_sameInts.f (K + 1 + 1) r r).bind fun t332 => laws_FnGapsClose.j0 (K + 1 + 1) l ok (!t332) n d r0 r) else _) _
  rw [if_neg (show ¬ (ok != ok) = true by simp), if_pos rfl, sameInts_refl r (by omega) (by omega), Option.bind_some]
  show Tot (laws_FnGapsClose.j0 (K + 1 + 1) l ok false n d r0 r) _
  rw [laws_FnGapsClose.j0, if_neg (by decide)]
  refine Tot.then (has_tot n d l (by omega)) ?_
  intro b hb
  refine Tot.then (sHas_tot n d l (by omega)) ?_
  intro b' hb'
  have eb : b = b' := by cases b <;> cases b' <;> simp_all
  subst eb
  rw [if_neg (show ¬ (b != b) = true by simp)]
  cases ok with
  | true =>
    rw [if_pos rfl]
    obtain ⟨g, q1, g2, lo⟩ := e4 rfl
    have q1 : r0 = n := q1
    subst q1
    have g2 : GOk r0 r := g2
    obtain ⟨_, tw⟩ := twice bd (by omega) e2
    have g' := g
    obtain ⟨h0, h, hl, hin, hz⟩ := g'
    have le : ∀ p : Int, 0 ≤ p → p < (d.length : Int) → rd r p ≤ rd d p := by
      unfold impl_GapsClose.f at e2
      have sm := len_small h0 h hl
      rw [gapsOk_yes g (by omega), Option.bind_some, if_pos rfl, clone_eq r0 d (by omega), Option.bind_some, wrap64_id (x := r0 + 1) (by omega) (by omega)] at e2
      obtain ⟨q, _, q2, _, q4⟩ := close_l0 h0 h [] _ 0 d (K + 1 + 1) (K + 1 + 1) rfl (by omega) (by omega) ⟨hl, fun p a b => (hin p a b).2⟩ (fun e => absurd e (by omega)) (by omega) (by omega)
      have e2 : impl_GapsClose.l0 (K + 1 + 1) (r0 + 1) (r0 + 1) 0 r0 d = some (r0, r, true) := e2
      rw [e2] at q2
      obtain rfl := Option.some.inj q2
      have ls := (q4 rfl).2.2.1
      intro p p0 p1
      obtain ⟨i, j, a1, a2, a3, a4, rfl⟩ := idx_of h0 h p0 (by omega)
      exact ls i j a1 a2 a3 a4
    have same : Has r0 r l ↔ Has r0 d l := by
      constructor
      · intro ⟨_, x1, x2, x3⟩
        refine ⟨g, x1, x2, fun i j a1 a2 a3 a4 => ?_⟩
        have ix := idx_in h0 h a1 a2 a3 a4
        have u := x3 i j a1 a2 a3 a4
        have v := le (i * (r0 + 1) + j) ix.1 (by omega)
        unfold gat at u ⊢
        omega
      · intro hs
        obtain ⟨r', f1, f2⟩ := close_has hs (k := K + 1 + 1) (by omega)
        rw [e2] at f1
        obtain ⟨_, f3⟩ := Prod.mk.inj (Option.some.inj f1)
        obtain ⟨f4, _⟩ := Prod.mk.inj f3
        subst f4
        exact kp_has g2 hs.2.1 hs.2.2.1 f2
    refine Tot.then (has_tot r0 r l (by omega)) ?_
    intro b2 hb2
    have eb : b2 = b := by
      have := hb2.trans (same.trans hb.symm)
      cases b2 <;> cases b <;> simp_all
    subst eb
    rw [if_neg (show ¬ (b2 != b2) = true by simp), gapsIn_yes g2 g (fun p a c => le p a (by have := g.2.2.1; have := g2.2.2.1; omega)) (by omega), Option.bind_some, if_pos rfl, gapsOk_yes g2 (by omega), Option.bind_some]
    show Tot (laws_FnGapsClose.j1 (K + 1) false r0 r) _
    rw [laws_FnGapsClose.j1, if_neg (by decide)]
    rw [tw K (by omega), Option.bind_some, if_pos rfl]
    show Tot ((laws_sameInts.f K r r).bind _) _
    rw [sameInts_refl r (by omega) (by omega)]
    exact Tot.here rfl
  | false =>
    rw [if_neg (by decide)]
    have no : ¬ Has n d l := fun hs => by
      obtain ⟨r', f1, f2⟩ := close_has hs (k := K + 1 + 1) (by omega)
      rw [e2] at f1
      exact absurd (Prod.mk.inj (Prod.mk.inj (Option.some.inj f1)).2).2 (by decide)
    have eb : b = false := by
      cases b with
      | false => rfl
      | true => exact absurd (hb.mp rfl) no
    subst eb
    rw [if_neg (by decide)]
    have rn : r = [] := close_false (k := K + 1 + 1) (by omega) e2
    subst rn
    exact Tot.here rfl
end Go.Proofs.Ytkekcenlleebeaa.Pure
