/- What the small functions that the statement reaches tell, each by a plain law. Conditions: those in each law. -/
import Derived.Test.YtmdcgkkkfncieaaDFnExactGapsJoin
import Derived.Test.YtmdcgkkkfncieaaBits
import Derived.Test.YtmdcgkkkfncieaaRangeMath
import Derived.Test.YtmdcgkkkfncieaaGapsMath
import Derived.Test.YtmdcgkkkfncieaaGaps2Math
namespace Go.Proofs.Ytmdcgkkkfncieaa.LFnExactGapsJoin
open Go.RowKit Go.Proofs.Ytmdcgkkkfncieaa.PFnExactGapsJoin Go.Proofs.Ytmdcgkkkfncieaa.Base Go.Proofs.YtmdcgkkkfncieaaW.PrintWords Go.Proofs.YtmdcgkkkfncieaaW.PrintLast Go.Proofs.YtmdcgkkkfncieaaW.PrintMore
set_option linter.unusedVariables false
set_option linter.unusedSimpArgs false

/-! spec_l1In -/
theorem sin_eq (v a b : Int) : spec_l1In.f v a b = some (decide (a ≤ v ∧ v ≤ b)) := by
  unfold spec_l1In.f
  by_cases h : v ≥ a
  · rw [if_pos h]; exact dcl (by (try unfold NOk); omega)
  · rw [if_neg h]; exact dfl (by (try unfold NOk); omega)
/-! spec_l8Max -/
theorem smax_eq (a b : Int) : spec_l8Max.f a b = some (max a b) := by
  unfold spec_l8Max.f; split <;> congr 1 <;> omega
/-! laws_toIntS -/
theorem toIntS_loop (x : List Int) (hx : x.length ≤ 1099511627776) : ∀ (m : Nat) (k i : Nat) (acc : List Int), i + m = x.length → m < k → acc.length = x.length → (∀ j, j < i → acc[j]? = x[j]?) → laws_toIntS.l0 k x acc (i : Int) = some x
  | 0, 0, _, _, _, h, _, _ => absurd h (by omega)
  | 0, k + 1, i, acc, hm, _, hl, hj => by
    unfold laws_toIntS.l0
    rw [if_neg (by omega)]
    congr 1
    apply List.ext_getElem?
    intro j
    by_cases h : j < i
    · exact hj j h
    · rw [List.getElem?_eq_none (by omega), List.getElem?_eq_none (by omega)]
  | m + 1, 0, _, _, _, h, _, _ => absurd h (by omega)
  | m + 1, k + 1, i, acc, hm, hk, hl, hj => by
    unfold laws_toIntS.l0
    rw [if_pos (by omega), if_pos (by omega), if_pos (by omega), wrap64_id (by omega) (by omega)]
    have h2 := set_same x acc i (by omega) hl hj
    have e : ((i : Int) + 1) = ((i + 1 : Nat) : Int) := by omega
    rw [e, show (i : Int).toNat = i by omega]
    exact toIntS_loop x hx m k (i + 1) _ (by omega) (by omega) h2.1 h2.2
theorem toIntS_eq {k : Nat} (x : List Int) (hx : x.length ≤ 1048576) (hk : 2000000 ≤ k) : laws_toIntS.f k x = some x := by
  unfold laws_toIntS.f
  rw [if_pos (by omega), if_pos (by omega)]
  exact toIntS_loop x (by omega) x.length k 0 _ (by omega) (by omega) (by simp) (fun j h => absurd h (by omega))
/-! laws_toIntS laws_toGaps -/
theorem toGaps_eq {k : Nat} (n : Int) (x : List Int) (hx : x.length ≤ 1048576) (hk : 2000000 ≤ k) : laws_toGaps.f k n x = some (n, x) := by
  unfold laws_toGaps.f
  rw [toIntS_eq x hx hk]; rfl
/-! laws_szIntS -/
theorem szIntS_eq (x : List Int) (a : Int) (hx : x.length ≤ 17592186044416) (h0 : 0 ≤ a) (h : a ≤ 1048576) : laws_szIntS.f x a = some (if (x.length : Int) ≤ a then a - x.length else -1) := by
  unfold laws_szIntS.f
  rw [wrap64_id (by omega) (by omega)]
  by_cases c : (x.length : Int) ≤ a
  · rw [if_neg (by omega), if_pos c]
  · rw [if_pos (by omega), if_neg c]
/-! laws_szIntS laws_szGaps -/
theorem szGaps_eq (n : Int) (x : List Int) (a : Int) (hx : x.length ≤ 17592186044416) (h0 : 0 ≤ a) (h : a ≤ 1048576) : laws_szGaps.f n x a = some (if (x.length : Int) ≤ a then a - x.length else -1) := by
  unfold laws_szGaps.f
  rw [szIntS_eq x a hx h0 h]
  show (if (if (x.length : Int) ≤ a then a - x.length else -1) < 0 then (some (-1)) else some (if (x.length : Int) ≤ a then a - x.length else -1)) = _
  by_cases c : (x.length : Int) ≤ a
  · simp only [if_pos c]; rw [if_neg (by omega)]
  · simp only [if_neg c]; rw [if_pos (by omega)]
/-! laws_eqIntS -/
theorem eqIntS_loop (x : List Int) (hx : x.length ≤ 1099511627776) : ∀ (m : Nat) (k i : Nat), i + m = x.length → m < k → laws_eqIntS.l0 k x x (i : Int) = some true
  | 0, 0, _, _, h => absurd h (by omega)
  | 0, k + 1, i, hm, _ => by unfold laws_eqIntS.l0; rw [if_neg (by omega)]
  | m + 1, 0, _, _, h => absurd h (by omega)
  | m + 1, k + 1, i, hm, hk => by
    unfold laws_eqIntS.l0
    rw [if_pos (by omega), if_pos (by omega), if_pos (by omega), if_pos rfl, wrap64_id (by omega) (by omega)]
    exact eqIntS_loop x hx m k (i + 1) (by omega) (by omega)
theorem eqIntS_refl {k : Nat} (x : List Int) (hx : x.length ≤ 1048576) (hk : 2000000 ≤ k) : laws_eqIntS.f k x x = some true := by
  unfold laws_eqIntS.f
  rw [if_pos rfl]
  exact eqIntS_loop x (by omega) x.length k 0 (by omega) (by omega)
/-! laws_eqIntS laws_eqGaps -/
theorem eqGaps_refl {k : Nat} (n : Int) (x : List Int) (hx : x.length ≤ 1048576) (hk : 2000000 ≤ k) : laws_eqGaps.f k n x n x = some true := by
  unfold laws_eqGaps.f
  rw [if_pos rfl, eqIntS_refl x hx hk]; rfl
/-! spec_l11At -/
theorem sl11At_eq {n : Int} {d : List Int} {i j : Int} (h0 : 0 ≤ n) (h : n ≤ 12) (hl : (d.length : Int) = (n + 1) * (n + 1)) (hi0 : 0 ≤ i) (hi : i ≤ n) (hj0 : 0 ≤ j) (hj : j ≤ n) :
    spec_l11At.f n d i j = some (gat n d i j) := by
  have := idx_in h0 h hi0 hi hj0 hj
  unfold spec_l11At.f gat
  rw [idx_w h0 h hi0 hi hj0 hj, if_pos (by omega), if_pos (by omega)]
/-! impl_Gaps_at -/
theorem gapsAt_eq {n : Int} {d : List Int} {i j : Int} (h0 : 0 ≤ n) (h : n ≤ 12) (hi0 : 0 ≤ i) (hi : i ≤ n) (hj0 : 0 ≤ j) (hj : j ≤ n) :
    impl_Gaps_at.f n d i j = some (i * (n + 1) + j) := by
  unfold impl_Gaps_at.f
  rw [idx_w h0 h hi0 hi hj0 hj]
/-! spec_l1In spec_l11At spec_GapsOk -/
theorem sGapsOk_l1 {n : Int} {d : List Int} (h0 : 0 ≤ n) (h : n ≤ 12) (hl : (d.length : Int) = (n + 1) * (n + 1)) (i : Int) (hi0 : 0 ≤ i) (hi : i ≤ n) (K : Nat) (Q : Prop)
    (rest : ∀ k, K ≤ k → Tot (spec_GapsOk.l0 k (i + 1) n d) fun b => b = true ↔ Q) : ∀ (m : Nat) (k : Nat) (j : Int), (n + 1 - j).toNat = m → 0 ≤ j → j ≤ n + 1 → K + m < k →
    Tot (spec_GapsOk.l1 k i j n d) fun b => b = true ↔ (∀ j' : Int, j ≤ j' → j' ≤ n → DIn (gat n d i j') ∧ (i = j' → gat n d i j' = 0)) ∧ Q
  | m, 0, j, _, _, _, hk => absurd hk (by omega)
  | 0, k + 1, j, hm, hj, hj', hk => by
    unfold spec_GapsOk.l1
    rw [if_neg (by omega), wrap64_id (by omega) (by omega)]
    refine (rest k (by omega)).mono fun b hb => hb.trans ⟨fun q => ⟨fun j' a c => absurd a (by omega), q⟩, fun q => q.2⟩
  | m + 1, k + 1, j, hm, hj, hj', hk => by
    unfold spec_GapsOk.l1
    rw [if_pos (by omega), sl11At_eq h0 h hl hi0 hi hj (by omega)]
    show Tot ((spec_l1In.f (gat n d i j) (-1099511627776) 1099511627776).bind _) _
    rw [sin_eq]
    have next : DIn (gat n d i j) → (i = j → gat n d i j = 0) → Tot (spec_GapsOk.l1 k i (wrap64 (j + 1)) n d) fun b => b = true ↔ (∀ j' : Int, j ≤ j' → j' ≤ n → DIn (gat n d i j') ∧ (i = j' → gat n d i j' = 0)) ∧ Q := by
      intro a c
      rw [wrap64_id (by omega) (by omega)]
      refine (sGapsOk_l1 h0 h hl i hi0 hi K Q rest m k (j + 1) (by omega) (by omega) (by omega) (by omega)).mono fun b hb => hb.trans ⟨fun q => ⟨fun j' p p' => ?_, q.2⟩, fun q => ⟨fun j' p p' => q.1 j' (by omega) p', q.2⟩⟩
      by_cases e : j' = j
      · subst e; exact ⟨a, c⟩
      · exact q.1 j' (by omega) p'
    refine Tot.ite (fun c => ?_) (fun c => ?_)
    · have c' : DIn (gat n d i j) := (of_decide_eq_true c : -1099511627776 ≤ gat n d i j ∧ gat n d i j ≤ 1099511627776)
      refine Tot.ite (fun e => ?_) (fun e => next c' fun e' => absurd e' e)
      refine Tot.ite (fun z => next c' fun _ => z) (fun z => Tot.here ⟨fun f => (nomatch f), fun q => absurd ((q.1 j (by omega) (by omega)).2 e) z⟩)
    · refine Tot.here ⟨fun f => (nomatch f), fun q => ?_⟩
      have := (q.1 j (by omega) (by omega)).1
      exact absurd (decide_eq_true (show -1099511627776 ≤ gat n d i j ∧ gat n d i j ≤ 1099511627776 from this)) c
theorem sGapsOk_l0 {n : Int} {d : List Int} (h0 : 0 ≤ n) (h : n ≤ 12) (hl : (d.length : Int) = (n + 1) * (n + 1)) : ∀ (m : Nat) (k : Nat) (i : Int), (n + 1 - i).toNat = m → 0 ≤ i → i ≤ n + 1 → 20 * m < k →
    Tot (spec_GapsOk.l0 k i n d) fun b => b = true ↔ ∀ i' j : Int, i ≤ i' → i' ≤ n → 0 ≤ j → j ≤ n → DIn (gat n d i' j) ∧ (i' = j → gat n d i' j = 0)
  | m, 0, i, _, _, _, hk => absurd hk (by omega)
  | 0, k + 1, i, hm, hi, hi', hk => by
    unfold spec_GapsOk.l0
    rw [if_neg (by omega)]
    exact Tot.here ⟨fun _ i' j a b => absurd a (by omega), fun _ => rfl⟩
  | m + 1, k + 1, i, hm, hi, hi', hk => by
    unfold spec_GapsOk.l0
    rw [if_pos (by omega)]
    refine (sGapsOk_l1 h0 h hl i hi (by omega) (20 * m + 1) _ (fun k hk => sGapsOk_l0 h0 h hl m k (i + 1) (by omega) (by omega) (by omega) (by omega)) _ k 0 rfl (by omega) (by omega) (by omega)).mono fun b hb => hb.trans ⟨fun q i' j a b c e => ?_, fun q => ⟨fun j' a b => q i j' (by omega) (by omega) a b, fun i' j a b c e => q i' j (by omega) b c e⟩⟩
    by_cases e' : i' = i
    · subst e'; exact q.1 j c e
    · exact q.2 i' j (by omega) b c e
theorem sGapsOk_tot {k : Nat} (n : Int) (d : List Int) (hk : 1000 ≤ k) : Tot (spec_GapsOk.f k n d) fun b => b = true ↔ GOk n d := by
  obtain ⟨k, rfl⟩ : ∃ j, k = j + 1 := ⟨k - 1, by omega⟩
  unfold spec_GapsOk.f
  rw [sin_eq]
  show Tot (if decide (0 ≤ n ∧ n ≤ 12) = true then _ else _) _
  refine Tot.ite (fun c => ?_) (fun c => ?_)
  · have c := of_decide_eq_true c
    rw [sq_w c.1 c.2]
    rw [spec_GapsOk.j0]
    by_cases e : (d.length : Int) = (n + 1) * (n + 1)
    · have : ((d.length : Int) != (n + 1) * (n + 1)) = false := bne_eq_false_iff_eq.mpr e
      rw [this, if_neg (by simp)]
      exact (sGapsOk_l0 c.1 c.2 e _ k 0 rfl (by omega) (by omega) (by omega)).mono fun b hb => hb.trans (GOk.of_all c.1 c.2 e).symm
    · have : ((d.length : Int) != (n + 1) * (n + 1)) = true := bne_iff_ne.mpr e
      rw [this, if_pos rfl]
      exact Tot.here ⟨fun f => (nomatch f), fun q => absurd q.2.2.1 e⟩
  · rw [spec_GapsOk.j0]
    rw [if_pos rfl]
    exact Tot.here ⟨fun f => (nomatch f), fun q => absurd (decide_eq_true (show 0 ≤ n ∧ n ≤ 12 from ⟨q.1, q.2.1⟩)) c⟩
theorem sGapsOk_yes {k : Nat} {n : Int} {d : List Int} (h : GOk n d) (hk : 1000 ≤ k) : spec_GapsOk.f k n d = some true := by
  obtain ⟨b, e, hb⟩ := sGapsOk_tot (k := k) n d hk
  rw [e, hb.mpr h]
theorem sGapsOk_no {k : Nat} {n : Int} {d : List Int} (h : ¬ GOk n d) (hk : 1000 ≤ k) : spec_GapsOk.f k n d = some false := by
  obtain ⟨b, e, hb⟩ := sGapsOk_tot (k := k) n d hk
  rw [e]
  cases b with
  | false => rfl
  | true => exact absurd (hb.mp rfl) h
/-! impl_Gaps_at impl_GapsOk -/
theorem gapsOk_l1 (d : List Int) (hd : d.length ≤ 1000) : ∀ (m : Nat) (k : Nat) (p : Int), ((d.length : Int) - p).toNat = m → 0 ≤ p → p ≤ d.length → m < k →
    Tot (impl_GapsOk.l1 k d (d.length : Int) p) fun b => b = true ↔ ∀ q : Int, p ≤ q → q < (d.length : Int) → DIn (rd d q)
  | m, 0, p, _, _, _, hk => absurd hk (by omega)
  | 0, k + 1, p, hm, hp, hp', hk => by
    unfold impl_GapsOk.l1
    rw [if_neg (by omega)]
    exact Tot.here ⟨fun _ q a b => absurd a (by omega), fun _ => rfl⟩
  | m + 1, k + 1, p, hm, hp, hp', hk => by
    unfold impl_GapsOk.l1
    rw [if_pos (by omega), if_pos (by omega), if_pos (by omega)]
    refine Tot.ite (fun c => Tot.here ⟨fun f => (nomatch f), fun q => ?_⟩) (fun c => Tot.ite (fun c' => Tot.here ⟨fun f => (nomatch f), fun q => ?_⟩) (fun c' => ?_))
    · have := (q p (by omega) (by omega)).1; omega
    · have := (q p (by omega) (by omega)).2; omega
    · rw [wrap64_id (by omega) (by omega)]
      refine (gapsOk_l1 d hd m k (p + 1) (by omega) (by omega) (by omega) (by omega)).mono fun b hb => hb.trans ⟨fun q r a b => ?_, fun q r a b => q r (by omega) b⟩
      by_cases e : r = p
      · subst e; exact ⟨by omega, by omega⟩
      · exact q r (by omega) b
theorem gapsOk_l0 {n : Int} {d : List Int} (h0 : 0 ≤ n) (h : n ≤ 12) (hl : (d.length : Int) = (n + 1) * (n + 1)) (hd : d.length ≤ 1000) : ∀ (m : Nat) (k : Nat) (i : Int), (n + 1 - i).toNat = m → 0 ≤ i → i ≤ n + 1 → 1500 + m < k →
    Tot (impl_GapsOk.l0 k (n + 1) i n d) fun b => b = true ↔ (∀ i' : Int, i ≤ i' → i' ≤ n → rd d (i' * (n + 1) + i') = 0) ∧ ∀ q : Int, 0 ≤ q → q < (d.length : Int) → DIn (rd d q)
  | m, 0, p, _, _, _, hk => absurd hk (by omega)
  | 0, k + 1, i, hm, hi, hi', hk => by
    unfold impl_GapsOk.l0
    rw [if_neg (by omega)]
    refine (gapsOk_l1 d hd _ k 0 rfl (by omega) (by omega) (by omega)).mono fun b hb => hb.trans ⟨fun q => ⟨fun i' a b => absurd a (by omega), q⟩, fun q => q.2⟩
  | m + 1, k + 1, i, hm, hi, hi', hk => by
    unfold impl_GapsOk.l0
    have ix := idx_in h0 h hi (by omega : i ≤ n) hi (by omega)
    rw [if_pos (by omega), gapsAt_eq h0 h hi (by omega) hi (by omega)]
    show Tot (if 0 ≤ i * (n + 1) + i then _ else _) _
    rw [if_pos (by omega), if_pos (by omega)]
    refine Tot.ite (fun c => ?_) (fun c => Tot.here ⟨fun f => (nomatch f), fun q => absurd (q.1 i (by omega) (by omega)) c⟩)
    rw [wrap64_id (by omega) (by omega)]
    refine (gapsOk_l0 h0 h hl hd m k (i + 1) (by omega) (by omega) (by omega) (by omega)).mono fun b hb => hb.trans ⟨fun q => ⟨fun i' a b => ?_, q.2⟩, fun q => ⟨fun i' a b => q.1 i' (by omega) b, q.2⟩⟩
    by_cases e : i' = i
    · subst e; exact c
    · exact q.1 i' (by omega) b
theorem gapsOk_tot {k : Nat} (n : Int) (d : List Int) (hk : 2000 ≤ k) : Tot (impl_GapsOk.f k n d) fun b => b = true ↔ GOk n d := by
  obtain ⟨k, rfl⟩ : ∃ j, k = j + 1 := ⟨k - 1, by omega⟩
  unfold impl_GapsOk.f
  have no : ¬ GOk n d → Tot (impl_GapsOk.j0 (k + 1) true n d) fun b => b = true ↔ GOk n d := by
    intro hn
    rw [impl_GapsOk.j0]
    rw [if_pos rfl]
    exact Tot.here ⟨fun f => (nomatch f), fun q => absurd q hn⟩
  refine Tot.ite (fun c => no fun q => by have := q.1; omega) (fun c => Tot.ite (fun c' => no fun q => by have := q.2.1; omega) (fun c' => ?_))
  have a : 0 ≤ n := by omega
  have b : n ≤ 12 := by omega
  rw [sq_w a b]
  by_cases e : (d.length : Int) = (n + 1) * (n + 1)
  · have : ((d.length : Int) != (n + 1) * (n + 1)) = false := bne_eq_false_iff_eq.mpr e
    have ix := idx_in a b a (Int.le_refl n) a (Int.le_refl n)
    have big : d.length ≤ 1000 := by rcases twelve a b with rfl | rfl | rfl | rfl | rfl | rfl | rfl | rfl | rfl | rfl | rfl | rfl | rfl <;> omega
    rw [this]
    rw [impl_GapsOk.j0]
    rw [if_neg (by simp), wrap64_id (x := n + 1) (by omega) (by omega)]
    refine (gapsOk_l0 a b e big _ k 0 rfl (by omega) (by omega) (by omega)).mono fun r hr => hr.trans ⟨fun q => ⟨a, b, e, q.2, q.1⟩, fun q => ⟨q.2.2.2.2, q.2.2.2.1⟩⟩
  · have : ((d.length : Int) != (n + 1) * (n + 1)) = true := bne_iff_ne.mpr e
    rw [this]
    exact no fun q => e q.2.2.1
theorem gapsOk_yes {k : Nat} {n : Int} {d : List Int} (h : GOk n d) (hk : 2000 ≤ k) : impl_GapsOk.f k n d = some true := by
  obtain ⟨b, e, hb⟩ := gapsOk_tot (k := k) n d hk
  rw [e, hb.mpr h]
theorem gapsOk_no {k : Nat} {n : Int} {d : List Int} (h : ¬ GOk n d) (hk : 2000 ≤ k) : impl_GapsOk.f k n d = some false := by
  obtain ⟨b, e, hb⟩ := gapsOk_tot (k := k) n d hk
  rw [e]
  cases b with
  | false => rfl
  | true => exact absurd (hb.mp rfl) h
/-! laws_markIntS -/
theorem markIntS_loop : ∀ (m : Nat) (k i : Nat) (x : List Int) (a : Int), i + m = x.length → m < k → 0 ≤ a → a + m ≤ 1099511627776 → x.length ≤ 1048576 →
    Tot (laws_markIntS.l0 k x a (i : Int)) fun r => r.1 = a + m ∧ r.2.length = x.length ∧ (∀ p : Int, 0 ≤ p → p < i → rd r.2 p = rd x p) ∧ ∀ p : Int, (i : Int) ≤ p → p < (x.length : Int) → rd r.2 p = a + (p - i)
  | m, 0, _, _, _, _, h, _, _, _ => absurd h (by omega)
  | 0, k + 1, i, x, a, hm, hk, h0, h1, hx => by
    unfold laws_markIntS.l0
    rw [if_neg (by omega)]
    exact Tot.here ⟨by simp, rfl, fun _ _ _ => rfl, fun p h h' => absurd h (by omega)⟩
  | m + 1, k + 1, i, x, a, hm, hk, h0, h1, hx => by
    unfold laws_markIntS.l0
    rw [if_pos (by omega), if_pos (by omega), wrap64_id (x := a + 1) (by omega) (by omega), wrap64_id (x := (i : Int) + 1) (by omega) (by omega)]
    have e : (i : Int).toNat = i := by omega
    rw [e]
    refine (markIntS_loop m k (i + 1) (x.set i a) (a + 1) (by simp; omega) (by omega) (by omega) (by omega) (by simpa using hx)).mono fun r hr => ?_
    obtain ⟨r1, r2, r3, r4⟩ := hr
    refine ⟨by omega, by simpa using r2, fun p hp hp' => ?_, fun p hp hp' => ?_⟩
    · rw [r3 p hp (by omega), rd_set _ _ _ _ (by omega) hp, if_neg (by omega)]
    · by_cases q : p = (i : Int)
      · subst q
        rw [r3 _ (by omega) (by omega), rd_set _ _ _ _ (by omega) (by omega), if_pos rfl]; omega
      · rw [r4 p (by omega) (by simpa using hp')]; omega
/-! laws_heldIntS -/
theorem heldIntS_loop (x : List Int) (hx : x.length ≤ 1048576) : ∀ (m : Nat) (k i : Nat) (a : Int), i + m = x.length → m < k → 0 ≤ a → a + m ≤ 1099511627776 →
    (∀ p : Int, (i : Int) ≤ p → p < (x.length : Int) → rd x p = a + (p - i)) → laws_heldIntS.l0 k x a (i : Int) = some (a + m)
  | m, 0, _, _, _, h, _, _, _ => absurd h (by omega)
  | 0, k + 1, i, a, hm, hk, h0, h1, h => by
    unfold laws_heldIntS.l0
    rw [if_neg (by omega)]; simp
  | m + 1, k + 1, i, a, hm, hk, h0, h1, h => by
    unfold laws_heldIntS.l0
    rw [if_pos (by omega), if_pos (by omega), if_pos (by rw [h i (by omega) (by omega)]; omega), wrap64_id (x := a + 1) (by omega) (by omega), wrap64_id (x := (i : Int) + 1) (by omega) (by omega)]
    have e : ((i : Int) + 1) = ((i + 1 : Nat) : Int) := by omega
    rw [e, heldIntS_loop x hx m k (i + 1) (a + 1) (by omega) (by omega) (by omega) (by omega) (fun p hp hp' => by rw [h p (by omega) hp']; omega)]
    congr 1; omega
/-! laws_markIntS laws_heldIntS laws_markGaps laws_heldGaps -/
theorem mark_held {k : Nat} (n n' : Int) (x : List Int) (hx : x.length ≤ 1048576) (hk : 2000000 ≤ k) (a : Int) (ha : 0 ≤ a) (ha' : a ≤ 4194304) :
    ∃ y, laws_markGaps.f k n x a = some (a + x.length, y) ∧ laws_heldGaps.f k n' y a = some (a + x.length) := by
  obtain ⟨⟨r1, y⟩, e, h1, h2, _, h4⟩ := markIntS_loop x.length k 0 x a (by omega) (by omega) ha (by omega) hx
  have h1 : r1 = a + x.length := h1
  have h2 : y.length = x.length := h2
  subst h1
  refine ⟨y, ?_, ?_⟩
  · unfold laws_markGaps.f laws_markIntS.f
    rw [show (0 : Int) = ((0 : Nat) : Int) from rfl, e]; rfl
  · unfold laws_heldGaps.f laws_heldIntS.f
    have := heldIntS_loop y (by omega) x.length k 0 a (by omega) (by omega) ha (by omega) (fun p hp hp' => h4 p hp (by omega))
    rw [show (0 : Int) = ((0 : Nat) : Int) from rfl, this]
    show (if a + (x.length : Int) < 0 then _ else _) = _
    rw [if_neg (by omega)]
/-! impl_Gaps_clone -/
theorem clone_eq (n : Int) (x : List Int) (hx : x.length ≤ 1048576) : impl_Gaps_clone.f n x = some (n, x) := by
  unfold impl_Gaps_clone.f
  rw [if_pos (by simp; omega)]; rfl
/-! spec_l1In spec_GapsOk spec_l11Two -/
theorem sl11Two_eq {k : Nat} (n : Int) (d : List Int) (n' : Int) (d' : List Int) (hk : 2000000 ≤ k) : Tot (spec_l11Two.f k n d n' d') fun b => b = true ↔ GOk n d ∧ GOk n' d' ∧ n = n' := by
  unfold spec_l11Two.f
  by_cases g : GOk n d
  · rw [sGapsOk_yes g (by omega)]
    by_cases g' : GOk n' d'
    · rw [sGapsOk_yes g' (by omega)]
      exact ⟨_, rfl, by simp [g, g']⟩
    · rw [sGapsOk_no g' (by omega)]
      exact ⟨_, rfl, ⟨fun f => (nomatch f), fun q => absurd q.2.1 g'⟩⟩
  · rw [sGapsOk_no g (by omega)]
    exact ⟨_, rfl, ⟨fun f => (nomatch f), fun q => absurd q.1 g⟩⟩
/-! spec_GapsJoin impl_GapsJoin spec_l8Max -/
theorem join_loop (x y : List Int) (n : Int) (n' : Int) (hx : x.length ≤ 169) (hl : y.length = x.length) : ∀ (m : Nat) (K L i : Nat) (acc cur : List Int), i + m = x.length → m < K → m < L → acc.length = i → cur.length = x.length →
    (∀ j, j < i → acc[j]? = cur[j]?) → (∀ j, i ≤ j → cur[j]? = x[j]?) → ∃ r : List Int, spec_GapsJoin.l0 K (i : Int) n x n' y n acc = some (n, r) ∧ impl_GapsJoin.l0 L y (y.length : Int) (i : Int) n cur = some (n, r) ∧ r.length ≤ 169
  | m, 0, _, _, _, _, _, h, _, _, _, _, _ => absurd h (by omega)
  | m, _, 0, _, _, _, _, _, h, _, _, _, _ => absurd h (by omega)
  | 0, K + 1, L + 1, i, acc, cur, hm, hK, hL, ha, hc, he, hf => by
    rw [spec_GapsJoin.l0, impl_GapsJoin.l0, if_neg (show ¬ (i : Int) < (x.length : Int) by omega), if_neg (show ¬ (i : Int) < (y.length : Int) by omega)]
    have e : acc = cur := by
      apply List.ext_getElem?
      intro j
      by_cases h : j < i
      · exact he j h
      · rw [List.getElem?_eq_none (by omega), List.getElem?_eq_none (by omega)]
    rw [e]
    exact ⟨cur, rfl, rfl, by omega⟩
  | m + 1, K + 1, L + 1, i, acc, cur, hm, hK, hL, ha, hc, he, hf => by
    have hi : i < x.length := by omega
    have cx : rd cur (i : Int) = rd x (i : Int) := by
      unfold rd
      rw [List.getD_eq_getElem?_getD, List.getD_eq_getElem?_getD, show (i : Int).toNat = i by omega, hf i (Nat.le_refl i)]
    rw [spec_GapsJoin.l0, impl_GapsJoin.l0, if_pos (show (i : Int) < (x.length : Int) by omega), if_pos (show (i : Int) < (y.length : Int) by omega), if_pos (show 0 ≤ (i : Int) by omega), if_pos (show 0 ≤ (i : Int) by omega), if_pos (show (i : Int) < (y.length : Int) by omega), if_pos (show (i : Int) < (y.length : Int) by omega), if_pos (show (i : Int) < (cur.length : Int) by omega), cx, wrap64_id (x := (i : Int) + 1) (by omega) (by omega), smax_eq, Option.bind_some, mx_max]
    have e1 : ((i : Int) + 1) = ((i + 1 : Nat) : Int) := by omega
    have e2 : (i : Int).toNat = i := by omega
    rw [if_pos (show acc.length < 17592186044416 by omega), e1, e2]
    refine join_loop x y n n' hx hl m K L (i + 1) (acc ++ [max (rd x (i : Int)) (rd y (i : Int))]) (cur.set i (max (rd x (i : Int)) (rd y (i : Int)))) (by omega) (by omega) (by omega) (by simp [ha]) (by simpa using hc) (fun j hj => ?_) (fun j hj => ?_)
    · by_cases q : j = i
      · subst q
        rw [List.getElem?_set_self (by omega), List.getElem?_append_right (by omega)]; simp [ha]
      · rw [List.getElem?_set_ne (by omega), List.getElem?_append_left (by omega)]; exact he j (by omega)
    · rw [List.getElem?_set_ne (by omega)]; exact hf j (by omega)
end Go.Proofs.Ytmdcgkkkfncieaa.LFnExactGapsJoin
