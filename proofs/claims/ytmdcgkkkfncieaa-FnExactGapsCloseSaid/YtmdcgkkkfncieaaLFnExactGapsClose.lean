/- What the small functions that the statement reaches tell, each by a plain law. Conditions: those in each law. -/
import Derived.Test.YtmdcgkkkfncieaaDFnExactGapsClose
import Derived.Test.YtmdcgkkkfncieaaBits
import Derived.Test.YtmdcgkkkfncieaaGapsMath
import Derived.Test.YtmdcgkkkfncieaaGaps2Math
namespace Go.Proofs.Ytmdcgkkkfncieaa.LFnExactGapsClose
open Go.RowKit Go.Proofs.Ytmdcgkkkfncieaa.PFnExactGapsClose Go.Proofs.Ytmdcgkkkfncieaa.Base Go.Proofs.YtmdcgkkkfncieaaW.PrintWords Go.Proofs.YtmdcgkkkfncieaaW.PrintLast Go.Proofs.YtmdcgkkkfncieaaW.PrintMore
set_option linter.unusedVariables false
set_option linter.unusedSimpArgs false

/-! spec_l1In -/
theorem sin_eq (v a b : Int) : spec_l1In.f v a b = some (decide (a ≤ v ∧ v ≤ b)) := by
  unfold spec_l1In.f
  by_cases h : v ≥ a
  · rw [if_pos h]; exact dcl (by (try unfold NOk); omega)
  · rw [if_neg h]; exact dfl (by (try unfold NOk); omega)
/-! laws_toIntS -/
theorem toIntS_loop (x : List Int) (hx : x.length ≤ 1099511627776) : ∀ (m : Nat) (k i : Nat) (acc : List Int), i + m = x.length → m < k → acc.length = x.length → (∀ j, j < i → acc[j]? = x[j]?) → laws_toIntS.l0 k x acc (i : Int) = some x
  | 0, 0, _, _, _, h, _, _ => absurd h (by omega)
  | 0, k + 1, i, acc, hm, _, hl, hj => by
    unfold laws_toIntS.l0
    rw [if_neg (by omega)]
    congr 1
    apply List.ext_getElem?
    intro j
    by_cases h : j < i
    · exact hj j h
    · rw [List.getElem?_eq_none (by omega), List.getElem?_eq_none (by omega)]
  | m + 1, 0, _, _, _, h, _, _ => absurd h (by omega)
  | m + 1, k + 1, i, acc, hm, hk, hl, hj => by
    unfold laws_toIntS.l0
    rw [if_pos (by omega), if_pos (by omega), if_pos (by omega), wrap64_id (by omega) (by omega)]
    have h2 := set_same x acc i (by omega) hl hj
    have e : ((i : Int) + 1) = ((i + 1 : Nat) : Int) := by omega
    rw [e, show (i : Int).toNat = i by omega]
    exact toIntS_loop x hx m k (i + 1) _ (by omega) (by omega) h2.1 h2.2
theorem toIntS_eq {k : Nat} (x : List Int) (hx : x.length ≤ 1048576) (hk : 2000000 ≤ k) : laws_toIntS.f k x = some x := by
  unfold laws_toIntS.f
  rw [if_pos (by omega), if_pos (by omega)]
  exact toIntS_loop x (by omega) x.length k 0 _ (by omega) (by omega) (by simp) (fun j h => absurd h (by omega))
/-! laws_toIntS laws_toGaps -/
theorem toGaps_eq {k : Nat} (n : Int) (x : List Int) (hx : x.length ≤ 1048576) (hk : 2000000 ≤ k) : laws_toGaps.f k n x = some (n, x) := by
  unfold laws_toGaps.f
  rw [toIntS_eq x hx hk]; rfl
/-! laws_szIntS -/
theorem szIntS_eq (x : List Int) (a : Int) (hx : x.length ≤ 17592186044416) (h0 : 0 ≤ a) (h : a ≤ 1048576) : laws_szIntS.f x a = some (if (x.length : Int) ≤ a then a - x.length else -1) := by
  unfold laws_szIntS.f
  rw [wrap64_id (by omega) (by omega)]
  by_cases c : (x.length : Int) ≤ a
  · rw [if_neg (by omega), if_pos c]
  · rw [if_pos (by omega), if_neg c]
/-! laws_szIntS laws_szGaps -/
theorem szGaps_eq (n : Int) (x : List Int) (a : Int) (hx : x.length ≤ 17592186044416) (h0 : 0 ≤ a) (h : a ≤ 1048576) : laws_szGaps.f n x a = some (if (x.length : Int) ≤ a then a - x.length else -1) := by
  unfold laws_szGaps.f
  rw [szIntS_eq x a hx h0 h]
  show (if (if (x.length : Int) ≤ a then a - x.length else -1) < 0 then (some (-1)) else some (if (x.length : Int) ≤ a then a - x.length else -1)) = _
  by_cases c : (x.length : Int) ≤ a
  · simp only [if_pos c]; rw [if_neg (by omega)]
  · simp only [if_neg c]; rw [if_pos (by omega)]
/-! laws_eqIntS -/
theorem eqIntS_loop (x : List Int) (hx : x.length ≤ 1099511627776) : ∀ (m : Nat) (k i : Nat), i + m = x.length → m < k → laws_eqIntS.l0 k x x (i : Int) = some true
  | 0, 0, _, _, h => absurd h (by omega)
  | 0, k + 1, i, hm, _ => by unfold laws_eqIntS.l0; rw [if_neg (by omega)]
  | m + 1, 0, _, _, h => absurd h (by omega)
  | m + 1, k + 1, i, hm, hk => by
    unfold laws_eqIntS.l0
    rw [if_pos (by omega), if_pos (by omega), if_pos (by omega), if_pos rfl, wrap64_id (by omega) (by omega)]
    exact eqIntS_loop x hx m k (i + 1) (by omega) (by omega)
theorem eqIntS_refl {k : Nat} (x : List Int) (hx : x.length ≤ 1048576) (hk : 2000000 ≤ k) : laws_eqIntS.f k x x = some true := by
  unfold laws_eqIntS.f
  rw [if_pos rfl]
  exact eqIntS_loop x (by omega) x.length k 0 (by omega) (by omega)
/-! laws_eqIntS laws_eqGaps -/
theorem eqGaps_refl {k : Nat} (n : Int) (x : List Int) (hx : x.length ≤ 1048576) (hk : 2000000 ≤ k) : laws_eqGaps.f k n x n x = some true := by
  unfold laws_eqGaps.f
  rw [if_pos rfl, eqIntS_refl x hx hk]; rfl
/-! spec_l11At -/
theorem sl11At_eq {n : Int} {d : List Int} {i j : Int} (h0 : 0 ≤ n) (h : n ≤ 12) (hl : (d.length : Int) = (n + 1) * (n + 1)) (hi0 : 0 ≤ i) (hi : i ≤ n) (hj0 : 0 ≤ j) (hj : j ≤ n) :
    spec_l11At.f n d i j = some (gat n d i j) := by
  have := idx_in h0 h hi0 hi hj0 hj
  unfold spec_l11At.f gat
  rw [idx_w h0 h hi0 hi hj0 hj, if_pos (by omega), if_pos (by omega)]
/-! impl_Gaps_at -/
theorem gapsAt_eq {n : Int} {d : List Int} {i j : Int} (h0 : 0 ≤ n) (h : n ≤ 12) (hi0 : 0 ≤ i) (hi : i ≤ n) (hj0 : 0 ≤ j) (hj : j ≤ n) :
    impl_Gaps_at.f n d i j = some (i * (n + 1) + j) := by
  unfold impl_Gaps_at.f
  rw [idx_w h0 h hi0 hi hj0 hj]
/-! spec_l1In spec_l11At spec_GapsOk -/
theorem sGapsOk_l1 {n : Int} {d : List Int} (h0 : 0 ≤ n) (h : n ≤ 12) (hl : (d.length : Int) = (n + 1) * (n + 1)) (i : Int) (hi0 : 0 ≤ i) (hi : i ≤ n) (K : Nat) (Q : Prop)
    (rest : ∀ k, K ≤ k → Tot (spec_GapsOk.l0 k (i + 1) n d) fun b => b = true ↔ Q) : ∀ (m : Nat) (k : Nat) (j : Int), (n + 1 - j).toNat = m → 0 ≤ j → j ≤ n + 1 → K + m < k →
    Tot (spec_GapsOk.l1 k i j n d) fun b => b = true ↔ (∀ j' : Int, j ≤ j' → j' ≤ n → DIn (gat n d i j') ∧ (i = j' → gat n d i j' = 0)) ∧ Q
  | m, 0, j, _, _, _, hk => absurd hk (by omega)
  | 0, k + 1, j, hm, hj, hj', hk => by
    unfold spec_GapsOk.l1
    rw [if_neg (by omega), wrap64_id (by omega) (by omega)]
    refine (rest k (by omega)).mono fun b hb => hb.trans ⟨fun q => ⟨fun j' a c => absurd a (by omega), q⟩, fun q => q.2⟩
  | m + 1, k + 1, j, hm, hj, hj', hk => by
    unfold spec_GapsOk.l1
    rw [if_pos (by omega), sl11At_eq h0 h hl hi0 hi hj (by omega)]
    show Tot ((spec_l1In.f (gat n d i j) (-1099511627776) 1099511627776).bind _) _
    rw [sin_eq]
    have next : DIn (gat n d i j) → (i = j → gat n d i j = 0) → Tot (spec_GapsOk.l1 k i (wrap64 (j + 1)) n d) fun b => b = true ↔ (∀ j' : Int, j ≤ j' → j' ≤ n → DIn (gat n d i j') ∧ (i = j' → gat n d i j' = 0)) ∧ Q := by
      intro a c
      rw [wrap64_id (by omega) (by omega)]
      refine (sGapsOk_l1 h0 h hl i hi0 hi K Q rest m k (j + 1) (by omega) (by omega) (by omega) (by omega)).mono fun b hb => hb.trans ⟨fun q => ⟨fun j' p p' => ?_, q.2⟩, fun q => ⟨fun j' p p' => q.1 j' (by omega) p', q.2⟩⟩
      by_cases e : j' = j
      · subst e; exact ⟨a, c⟩
      · exact q.1 j' (by omega) p'
    refine Tot.ite (fun c => ?_) (fun c => ?_)
    · have c' : DIn (gat n d i j) := (of_decide_eq_true c : -1099511627776 ≤ gat n d i j ∧ gat n d i j ≤ 1099511627776)
      refine Tot.ite (fun e => ?_) (fun e => next c' fun e' => absurd e' e)
      refine Tot.ite (fun z => next c' fun _ => z) (fun z => Tot.here ⟨fun f => (nomatch f), fun q => absurd ((q.1 j (by omega) (by omega)).2 e) z⟩)
    · refine Tot.here ⟨fun f => (nomatch f), fun q => ?_⟩
      have := (q.1 j (by omega) (by omega)).1
      exact absurd (decide_eq_true (show -1099511627776 ≤ gat n d i j ∧ gat n d i j ≤ 1099511627776 from this)) c
theorem sGapsOk_l0 {n : Int} {d : List Int} (h0 : 0 ≤ n) (h : n ≤ 12) (hl : (d.length : Int) = (n + 1) * (n + 1)) : ∀ (m : Nat) (k : Nat) (i : Int), (n + 1 - i).toNat = m → 0 ≤ i → i ≤ n + 1 → 20 * m < k →
    Tot (spec_GapsOk.l0 k i n d) fun b => b = true ↔ ∀ i' j : Int, i ≤ i' → i' ≤ n → 0 ≤ j → j ≤ n → DIn (gat n d i' j) ∧ (i' = j → gat n d i' j = 0)
  | m, 0, i, _, _, _, hk => absurd hk (by omega)
  | 0, k + 1, i, hm, hi, hi', hk => by
    unfold spec_GapsOk.l0
    rw [if_neg (by omega)]
    exact Tot.here ⟨fun _ i' j a b => absurd a (by omega), fun _ => rfl⟩
  | m + 1, k + 1, i, hm, hi, hi', hk => by
    unfold spec_GapsOk.l0
    rw [if_pos (by omega)]
    refine (sGapsOk_l1 h0 h hl i hi (by omega) (20 * m + 1) _ (fun k hk => sGapsOk_l0 h0 h hl m k (i + 1) (by omega) (by omega) (by omega) (by omega)) _ k 0 rfl (by omega) (by omega) (by omega)).mono fun b hb => hb.trans ⟨fun q i' j a b c e => ?_, fun q => ⟨fun j' a b => q i j' (by omega) (by omega) a b, fun i' j a b c e => q i' j (by omega) b c e⟩⟩
    by_cases e' : i' = i
    · subst e'; exact q.1 j c e
    · exact q.2 i' j (by omega) b c e
theorem sGapsOk_tot {k : Nat} (n : Int) (d : List Int) (hk : 1000 ≤ k) : Tot (spec_GapsOk.f k n d) fun b => b = true ↔ GOk n d := by
  obtain ⟨k, rfl⟩ : ∃ j, k = j + 1 := ⟨k - 1, by omega⟩
  unfold spec_GapsOk.f
  rw [sin_eq]
  show Tot (if decide (0 ≤ n ∧ n ≤ 12) = true then _ else _) _
  refine Tot.ite (fun c => ?_) (fun c => ?_)
  · have c := of_decide_eq_true c
    rw [sq_w c.1 c.2]
    rw [spec_GapsOk.j0]
    by_cases e : (d.length : Int) = (n + 1) * (n + 1)
    · have : ((d.length : Int) != (n + 1) * (n + 1)) = false := bne_eq_false_iff_eq.mpr e
      rw [this, if_neg (by simp)]
      exact (sGapsOk_l0 c.1 c.2 e _ k 0 rfl (by omega) (by omega) (by omega)).mono fun b hb => hb.trans (GOk.of_all c.1 c.2 e).symm
    · have : ((d.length : Int) != (n + 1) * (n + 1)) = true := bne_iff_ne.mpr e
      rw [this, if_pos rfl]
      exact Tot.here ⟨fun f => (nomatch f), fun q => absurd q.2.2.1 e⟩
  · rw [spec_GapsOk.j0]
    rw [if_pos rfl]
    exact Tot.here ⟨fun f => (nomatch f), fun q => absurd (decide_eq_true (show 0 ≤ n ∧ n ≤ 12 from ⟨q.1, q.2.1⟩)) c⟩
theorem sGapsOk_yes {k : Nat} {n : Int} {d : List Int} (h : GOk n d) (hk : 1000 ≤ k) : spec_GapsOk.f k n d = some true := by
  obtain ⟨b, e, hb⟩ := sGapsOk_tot (k := k) n d hk
  rw [e, hb.mpr h]
theorem sGapsOk_no {k : Nat} {n : Int} {d : List Int} (h : ¬ GOk n d) (hk : 1000 ≤ k) : spec_GapsOk.f k n d = some false := by
  obtain ⟨b, e, hb⟩ := sGapsOk_tot (k := k) n d hk
  rw [e]
  cases b with
  | false => rfl
  | true => exact absurd (hb.mp rfl) h
/-! impl_Gaps_at impl_GapsOk -/
theorem gapsOk_l1 (d : List Int) (hd : d.length ≤ 1000) : ∀ (m : Nat) (k : Nat) (p : Int), ((d.length : Int) - p).toNat = m → 0 ≤ p → p ≤ d.length → m < k →
    Tot (impl_GapsOk.l1 k d (d.length : Int) p) fun b => b = true ↔ ∀ q : Int, p ≤ q → q < (d.length : Int) → DIn (rd d q)
  | m, 0, p, _, _, _, hk => absurd hk (by omega)
  | 0, k + 1, p, hm, hp, hp', hk => by
    unfold impl_GapsOk.l1
    rw [if_neg (by omega)]
    exact Tot.here ⟨fun _ q a b => absurd a (by omega), fun _ => rfl⟩
  | m + 1, k + 1, p, hm, hp, hp', hk => by
    unfold impl_GapsOk.l1
    rw [if_pos (by omega), if_pos (by omega), if_pos (by omega)]
    refine Tot.ite (fun c => Tot.here ⟨fun f => (nomatch f), fun q => ?_⟩) (fun c => Tot.ite (fun c' => Tot.here ⟨fun f => (nomatch f), fun q => ?_⟩) (fun c' => ?_))
    · have := (q p (by omega) (by omega)).1; omega
    · have := (q p (by omega) (by omega)).2; omega
    · rw [wrap64_id (by omega) (by omega)]
      refine (gapsOk_l1 d hd m k (p + 1) (by omega) (by omega) (by omega) (by omega)).mono fun b hb => hb.trans ⟨fun q r a b => ?_, fun q r a b => q r (by omega) b⟩
      by_cases e : r = p
      · subst e; exact ⟨by omega, by omega⟩
      · exact q r (by omega) b
theorem gapsOk_l0 {n : Int} {d : List Int} (h0 : 0 ≤ n) (h : n ≤ 12) (hl : (d.length : Int) = (n + 1) * (n + 1)) (hd : d.length ≤ 1000) : ∀ (m : Nat) (k : Nat) (i : Int), (n + 1 - i).toNat = m → 0 ≤ i → i ≤ n + 1 → 1500 + m < k →
    Tot (impl_GapsOk.l0 k (n + 1) i n d) fun b => b = true ↔ (∀ i' : Int, i ≤ i' → i' ≤ n → rd d (i' * (n + 1) + i') = 0) ∧ ∀ q : Int, 0 ≤ q → q < (d.length : Int) → DIn (rd d q)
  | m, 0, p, _, _, _, hk => absurd hk (by omega)
  | 0, k + 1, i, hm, hi, hi', hk => by
    unfold impl_GapsOk.l0
    rw [if_neg (by omega)]
    refine (gapsOk_l1 d hd _ k 0 rfl (by omega) (by omega) (by omega)).mono fun b hb => hb.trans ⟨fun q => ⟨fun i' a b => absurd a (by omega), q⟩, fun q => q.2⟩
  | m + 1, k + 1, i, hm, hi, hi', hk => by
    unfold impl_GapsOk.l0
    have ix := idx_in h0 h hi (by omega : i ≤ n) hi (by omega)
    rw [if_pos (by omega), gapsAt_eq h0 h hi (by omega) hi (by omega)]
    show Tot (if 0 ≤ i * (n + 1) + i then _ else _) _
    rw [if_pos (by omega), if_pos (by omega)]
    refine Tot.ite (fun c => ?_) (fun c => Tot.here ⟨fun f => (nomatch f), fun q => absurd (q.1 i (by omega) (by omega)) c⟩)
    rw [wrap64_id (by omega) (by omega)]
    refine (gapsOk_l0 h0 h hl hd m k (i + 1) (by omega) (by omega) (by omega) (by omega)).mono fun b hb => hb.trans ⟨fun q => ⟨fun i' a b => ?_, q.2⟩, fun q => ⟨fun i' a b => q.1 i' (by omega) b, q.2⟩⟩
    by_cases e : i' = i
    · subst e; exact c
    · exact q.1 i' (by omega) b
theorem gapsOk_tot {k : Nat} (n : Int) (d : List Int) (hk : 2000 ≤ k) : Tot (impl_GapsOk.f k n d) fun b => b = true ↔ GOk n d := by
  obtain ⟨k, rfl⟩ : ∃ j, k = j + 1 := ⟨k - 1, by omega⟩
  unfold impl_GapsOk.f
  have no : ¬ GOk n d → Tot (impl_GapsOk.j0 (k + 1) true n d) fun b => b = true ↔ GOk n d := by
    intro hn
    rw [impl_GapsOk.j0]
    rw [if_pos rfl]
    exact Tot.here ⟨fun f => (nomatch f), fun q => absurd q hn⟩
  refine Tot.ite (fun c => no fun q => by have := q.1; omega) (fun c => Tot.ite (fun c' => no fun q => by have := q.2.1; omega) (fun c' => ?_))
  have a : 0 ≤ n := by omega
  have b : n ≤ 12 := by omega
  rw [sq_w a b]
  by_cases e : (d.length : Int) = (n + 1) * (n + 1)
  · have : ((d.length : Int) != (n + 1) * (n + 1)) = false := bne_eq_false_iff_eq.mpr e
    have ix := idx_in a b a (Int.le_refl n) a (Int.le_refl n)
    have big : d.length ≤ 1000 := by rcases twelve a b with rfl | rfl | rfl | rfl | rfl | rfl | rfl | rfl | rfl | rfl | rfl | rfl | rfl <;> omega
    rw [this]
    rw [impl_GapsOk.j0]
    rw [if_neg (by simp), wrap64_id (x := n + 1) (by omega) (by omega)]
    refine (gapsOk_l0 a b e big _ k 0 rfl (by omega) (by omega) (by omega)).mono fun r hr => hr.trans ⟨fun q => ⟨a, b, e, q.2, q.1⟩, fun q => ⟨q.2.2.2.2, q.2.2.2.1⟩⟩
  · have : ((d.length : Int) != (n + 1) * (n + 1)) = true := bne_iff_ne.mpr e
    rw [this]
    exact no fun q => e q.2.2.1
theorem gapsOk_yes {k : Nat} {n : Int} {d : List Int} (h : GOk n d) (hk : 2000 ≤ k) : impl_GapsOk.f k n d = some true := by
  obtain ⟨b, e, hb⟩ := gapsOk_tot (k := k) n d hk
  rw [e, hb.mpr h]
theorem gapsOk_no {k : Nat} {n : Int} {d : List Int} (h : ¬ GOk n d) (hk : 2000 ≤ k) : impl_GapsOk.f k n d = some false := by
  obtain ⟨b, e, hb⟩ := gapsOk_tot (k := k) n d hk
  rw [e]
  cases b with
  | false => rfl
  | true => exact absurd (hb.mp rfl) h
/-! laws_markIntS -/
theorem markIntS_loop : ∀ (m : Nat) (k i : Nat) (x : List Int) (a : Int), i + m = x.length → m < k → 0 ≤ a → a + m ≤ 1099511627776 → x.length ≤ 1048576 →
    Tot (laws_markIntS.l0 k x a (i : Int)) fun r => r.1 = a + m ∧ r.2.length = x.length ∧ (∀ p : Int, 0 ≤ p → p < i → rd r.2 p = rd x p) ∧ ∀ p : Int, (i : Int) ≤ p → p < (x.length : Int) → rd r.2 p = a + (p - i)
  | m, 0, _, _, _, _, h, _, _, _ => absurd h (by omega)
  | 0, k + 1, i, x, a, hm, hk, h0, h1, hx => by
    unfold laws_markIntS.l0
    rw [if_neg (by omega)]
    exact Tot.here ⟨by simp, rfl, fun _ _ _ => rfl, fun p h h' => absurd h (by omega)⟩
  | m + 1, k + 1, i, x, a, hm, hk, h0, h1, hx => by
    unfold laws_markIntS.l0
    rw [if_pos (by omega), if_pos (by omega), wrap64_id (x := a + 1) (by omega) (by omega), wrap64_id (x := (i : Int) + 1) (by omega) (by omega)]
    have e : (i : Int).toNat = i := by omega
    rw [e]
    refine (markIntS_loop m k (i + 1) (x.set i a) (a + 1) (by simp; omega) (by omega) (by omega) (by omega) (by simpa using hx)).mono fun r hr => ?_
    obtain ⟨r1, r2, r3, r4⟩ := hr
    refine ⟨by omega, by simpa using r2, fun p hp hp' => ?_, fun p hp hp' => ?_⟩
    · rw [r3 p hp (by omega), rd_set _ _ _ _ (by omega) hp, if_neg (by omega)]
    · by_cases q : p = (i : Int)
      · subst q
        rw [r3 _ (by omega) (by omega), rd_set _ _ _ _ (by omega) (by omega), if_pos rfl]; omega
      · rw [r4 p (by omega) (by simpa using hp')]; omega
/-! laws_heldIntS -/
theorem heldIntS_loop (x : List Int) (hx : x.length ≤ 1048576) : ∀ (m : Nat) (k i : Nat) (a : Int), i + m = x.length → m < k → 0 ≤ a → a + m ≤ 1099511627776 →
    (∀ p : Int, (i : Int) ≤ p → p < (x.length : Int) → rd x p = a + (p - i)) → laws_heldIntS.l0 k x a (i : Int) = some (a + m)
  | m, 0, _, _, _, h, _, _, _ => absurd h (by omega)
  | 0, k + 1, i, a, hm, hk, h0, h1, h => by
    unfold laws_heldIntS.l0
    rw [if_neg (by omega)]; simp
  | m + 1, k + 1, i, a, hm, hk, h0, h1, h => by
    unfold laws_heldIntS.l0
    rw [if_pos (by omega), if_pos (by omega), if_pos (by rw [h i (by omega) (by omega)]; omega), wrap64_id (x := a + 1) (by omega) (by omega), wrap64_id (x := (i : Int) + 1) (by omega) (by omega)]
    have e : ((i : Int) + 1) = ((i + 1 : Nat) : Int) := by omega
    rw [e, heldIntS_loop x hx m k (i + 1) (a + 1) (by omega) (by omega) (by omega) (by omega) (fun p hp hp' => by rw [h p (by omega) hp']; omega)]
    congr 1; omega
/-! laws_markIntS laws_heldIntS laws_markGaps laws_heldGaps -/
theorem mark_held {k : Nat} (n n' : Int) (x : List Int) (hx : x.length ≤ 1048576) (hk : 2000000 ≤ k) (a : Int) (ha : 0 ≤ a) (ha' : a ≤ 4194304) :
    ∃ y, laws_markGaps.f k n x a = some (a + x.length, y) ∧ laws_heldGaps.f k n' y a = some (a + x.length) := by
  obtain ⟨⟨r1, y⟩, e, h1, h2, _, h4⟩ := markIntS_loop x.length k 0 x a (by omega) (by omega) ha (by omega) hx
  have h1 : r1 = a + x.length := h1
  have h2 : y.length = x.length := h2
  subst h1
  refine ⟨y, ?_, ?_⟩
  · unfold laws_markGaps.f laws_markIntS.f
    rw [show (0 : Int) = ((0 : Nat) : Int) from rfl, e]; rfl
  · unfold laws_heldGaps.f laws_heldIntS.f
    have := heldIntS_loop y (by omega) x.length k 0 a (by omega) (by omega) ha (by omega) (fun p hp hp' => h4 p hp (by omega))
    rw [show (0 : Int) = ((0 : Nat) : Int) from rfl, this]
    show (if a + (x.length : Int) < 0 then _ else _) = _
    rw [if_neg (by omega)]
/-! spec_l11Copy -/
theorem sl11Copy_loop (n : Int) (x : List Int) (hx : x.length ≤ 1048576) : ∀ (m : Nat) (k i : Nat) (acc : List Int), i + m = x.length → m < k → acc = x.take i → spec_l11Copy.l0 k (i : Int) n x n acc = some (n, x)
  | m, 0, _, _, _, h, _ => absurd h (by omega)
  | 0, k + 1, i, acc, hm, hk, h => by
    unfold spec_l11Copy.l0
    rw [if_neg (by omega), h, List.take_of_length_le (by omega)]
  | m + 1, k + 1, i, acc, hm, hk, h => by
    unfold spec_l11Copy.l0
    have hl : acc.length = i := by rw [h, List.length_take]; omega
    rw [if_pos (by omega), if_pos (by omega), if_pos (by omega), wrap64_id (by omega) (by omega)]
    refine sl11Copy_loop n x hx m k (i + 1) _ (by omega) (by omega) ?_
    have hi : i < x.length := by omega
    rw [h, List.take_add_one, List.getElem?_eq_getElem hi]
    simp [rd, List.getD_eq_getElem?_getD, List.getElem?_eq_getElem hi]
theorem sl11Copy_eq {k : Nat} (n : Int) (x : List Int) (hx : x.length ≤ 1048576) (hk : 2000000 ≤ k) : spec_l11Copy.f k n x = some (n, x) := by
  unfold spec_l11Copy.f
  exact sl11Copy_loop n x hx x.length k 0 [] (by omega) (by omega) (by simp)
/-! impl_Gaps_clone -/
theorem clone_eq (n : Int) (x : List Int) (hx : x.length ≤ 1048576) : impl_Gaps_clone.f n x = some (n, x) := by
  unfold impl_Gaps_clone.f
  rw [if_pos (by simp; omega)]; rfl
/-! spec_l11Put -/
theorem sl11Put_eq {n : Int} {d : List Int} {i j : Int} (v : Int) (h0 : 0 ≤ n) (h : n ≤ 12) (hl : (d.length : Int) = (n + 1) * (n + 1)) (hi0 : 0 ≤ i) (hi : i ≤ n) (hj0 : 0 ≤ j) (hj : j ≤ n) :
    spec_l11Put.f n d i j v = some (gput n d i j v) := by
  have := idx_in h0 h hi0 hi hj0 hj
  unfold spec_l11Put.f gput
  rw [idx_w h0 h hi0 hi hj0 hj, if_pos (by omega), if_pos (by omega)]
/-! spec_l11Add -/
theorem sl11Add_eq (a b : Int) : spec_l11Add.f a b = some (if a ≥ 1099511627776 ∨ b ≥ 1099511627776 ∨ wrap64 (a + b) ≥ 1099511627776 then 1099511627776 else wrap64 (a + b)) := by
  unfold spec_l11Add.f
  by_cases c : a ≥ 1099511627776
  · rw [if_pos c, if_pos (.inl c)]
  · rw [if_neg c]
    by_cases c2 : b ≥ 1099511627776
    · rw [if_pos c2, if_pos (.inr (.inl c2))]
    · rw [if_neg c2]
      by_cases c3 : wrap64 (a + b) ≥ 1099511627776
      · rw [if_pos c3, if_pos (.inr (.inr c3))]
      · rw [if_neg c3, if_neg (by omega)]
/-! spec_l11Add impl_gapsTogether -/
theorem together_eq {a b : Int} (ha : a ≤ 1099511627776) (hb : b ≤ 1099511627776) : impl_gapsTogether.f a b = spec_l11Add.f a b := by
  unfold impl_gapsTogether.f spec_l11Add.f
  by_cases c : a ≥ 1099511627776
  · rw [if_pos (by omega : a = 1099511627776), if_pos c]
  · rw [if_neg (by omega : ¬ a = 1099511627776), if_neg c]
    by_cases c2 : b ≥ 1099511627776
    · rw [if_pos (by omega : b = 1099511627776), if_pos c2]
    · rw [if_neg (by omega : ¬ b = 1099511627776), if_neg c2]
/-! spec_GapsClose impl_GapsClose spec_l11Add impl_gapsTogether -/
theorem idx_w2 {n i j : Int} (h0 : 0 ≤ n) (h : n ≤ 12) (hi0 : 0 ≤ i) (hi : i ≤ n) (hj0 : 0 ≤ j) (hj : j ≤ n) : wrap64 (wrap64 (i * (n + 1)) + j) = i * (n + 1) + j := by
  have := idx_w h0 h hi0 hi hj0 hj
  rwa [wrap64_id (x := n + 1) (by omega) (by omega)] at this
/-- A matrix on the way to be closed. -/
def Way (n : Int) (d : List Int) : Prop := (d.length : Int) = (n + 1) * (n + 1) ∧ ∀ p : Int, 0 ≤ p → p < (d.length : Int) → rd d p ≤ 1099511627776
def Less (n : Int) (d' d : List Int) : Prop := ∀ i j : Int, 0 ≤ i → i ≤ n → 0 ≤ j → j ≤ n → gat n d' i j ≤ gat n d i j
theorem close_l2 {n : Int} (h0 : 0 ≤ n) (h : n ≤ 12) (d0 : List Int) (t i : Int) (ht0 : 0 ≤ t) (ht : t ≤ n) (hi0 : 0 ≤ i) (hi : i ≤ n) : ∀ (m : Nat) (j : Int) (d : List Int), (n + 1 - j).toNat = m → 0 ≤ j → j ≤ n + 1 → Way n d →
    ∃ d', Way n d' ∧ Less n d' d ∧ ∀ K : Nat, spec_GapsClose.l2 (K + (m + 1)) t i j n d0 n d = spec_GapsClose.l1 K t (i + 1) n d0 n d' ∧
      impl_GapsClose.l2 (K + (m + 1)) (n + 1) t i (n + 1) t (n + 1) i (n + 1) j n d = impl_GapsClose.l1 K (n + 1) t (n + 1) t (n + 1) (i + 1) n d'
  | 0, j, d, hm, hj, hj', w => by
    refine ⟨d, w, fun _ _ _ _ _ _ => Int.le_refl _, fun K => ⟨?_, ?_⟩⟩
    · show spec_GapsClose.l2 (K + 1) t i j n d0 n d = _
      rw [spec_GapsClose.l2, if_neg (show ¬ j ≤ n by omega), wrap64_id (by omega) (by omega)]
    · show impl_GapsClose.l2 (K + 1) _ _ _ _ _ _ _ _ _ _ _ = _
      rw [impl_GapsClose.l2, if_neg (show ¬ j < n + 1 by omega), wrap64_id (by omega) (by omega)]
  | m + 1, j, d, hm, hj, hj', w => by
    have w' := w
    obtain ⟨hl, ub⟩ := w'
    have a := idx_in h0 h hi0 hi ht0 ht
    have b := idx_in h0 h ht0 ht hj (by omega : j ≤ n)
    have c := idx_in h0 h hi0 hi hj (by omega : j ≤ n)
    have ua := ub (i * (n + 1) + t) (by omega) (by omega)
    have ub' := ub (t * (n + 1) + j) (by omega) (by omega)
    obtain ⟨s, hs, hsu⟩ : ∃ s, spec_l11Add.f (rd d (i * (n + 1) + t)) (rd d (t * (n + 1) + j)) = some s ∧ s ≤ 1099511627776 := ⟨_, sl11Add_eq _ _, by split <;> omega⟩
    have gs : impl_gapsTogether.f (rd d (i * (n + 1) + t)) (rd d (t * (n + 1) + j)) = some s := by rw [together_eq (by omega) (by omega), hs]
    have nw : Way n (gput n d i j s) := by
      refine ⟨by rw [gput_len]; exact hl, fun p hp hp' => ?_⟩
      rw [gput_len] at hp'
      unfold gput
      rw [rd_set _ _ _ _ (by omega) hp]
      split
      · exact hsu
      · exact ub p hp hp'
    by_cases q : s < rd d (i * (n + 1) + j)
    · obtain ⟨d', w2, le, eq⟩ := close_l2 h0 h d0 t i ht0 ht hi0 hi m (j + 1) (gput n d i j s) (by omega) (by omega) (by omega) nw
      refine ⟨d', w2, fun x y hx hx' hy hy' => ?_, fun K => ⟨?_, ?_⟩⟩
      · have := le x y hx hx' hy hy'
        rw [gat_put h0 h hl hi0 hi hj (by omega) hx hx' hy hy'] at this
        split at this
        · rename_i e; obtain ⟨rfl, rfl⟩ := e
          have q' : s < gat n d x y := q
          omega
        · exact this
      · show spec_GapsClose.l2 ((K + (m + 1)) + 1) t i j n d0 n d = _
        rw [spec_GapsClose.l2, if_pos (show j ≤ n by omega), sl11At_eq h0 h hl hi0 hi ht0 ht, sl11At_eq h0 h hl ht0 ht hj (by omega), sl11At_eq h0 h hl hi0 hi hj (by omega), Option.bind_some, Option.bind_some]
        show (spec_l11Add.f (rd d (i * (n + 1) + t)) (rd d (t * (n + 1) + j))).bind _ = _
        rw [hs, Option.bind_some, Option.bind_some, if_pos (show s < gat n d i j from q), sl11Put_eq _ h0 h hl hi0 hi hj (by omega), Option.bind_some, wrap64_id (by omega) (by omega)]
        exact (eq K).1
      · show impl_GapsClose.l2 ((K + (m + 1)) + 1) _ _ _ _ _ _ _ _ _ _ _ = _
        rw [impl_GapsClose.l2, if_pos (show j < n + 1 by omega), idx_w2 h0 h hi0 hi ht0 ht, idx_w2 h0 h ht0 ht hj (by omega), idx_w2 h0 h hi0 hi hj (by omega)]
        rw [if_pos a.1, if_pos (show i * (n + 1) + t < (d.length : Int) by omega), if_pos b.1, if_pos (show t * (n + 1) + j < (d.length : Int) by omega), gs, Option.bind_some, if_pos c.1, if_pos (show i * (n + 1) + j < (d.length : Int) by omega), if_pos q, wrap64_id (by omega) (by omega)]
        exact (eq K).2
    · obtain ⟨d', w2, le, eq⟩ := close_l2 h0 h d0 t i ht0 ht hi0 hi m (j + 1) d (by omega) (by omega) (by omega) w
      refine ⟨d', w2, le, fun K => ⟨?_, ?_⟩⟩
      · show spec_GapsClose.l2 ((K + (m + 1)) + 1) t i j n d0 n d = _
        rw [spec_GapsClose.l2, if_pos (show j ≤ n by omega), sl11At_eq h0 h hl hi0 hi ht0 ht, sl11At_eq h0 h hl ht0 ht hj (by omega), sl11At_eq h0 h hl hi0 hi hj (by omega), Option.bind_some, Option.bind_some]
        show (spec_l11Add.f (rd d (i * (n + 1) + t)) (rd d (t * (n + 1) + j))).bind _ = _
        rw [hs, Option.bind_some, Option.bind_some, if_neg (show ¬ s < gat n d i j from q), wrap64_id (by omega) (by omega)]
        exact (eq K).1
      · show impl_GapsClose.l2 ((K + (m + 1)) + 1) _ _ _ _ _ _ _ _ _ _ _ = _
        rw [impl_GapsClose.l2, if_pos (show j < n + 1 by omega), idx_w2 h0 h hi0 hi ht0 ht, idx_w2 h0 h ht0 ht hj (by omega), idx_w2 h0 h hi0 hi hj (by omega)]
        rw [if_pos a.1, if_pos (show i * (n + 1) + t < (d.length : Int) by omega), if_pos b.1, if_pos (show t * (n + 1) + j < (d.length : Int) by omega), gs, Option.bind_some, if_pos c.1, if_pos (show i * (n + 1) + j < (d.length : Int) by omega), if_neg q, wrap64_id (by omega) (by omega)]
        exact (eq K).2
theorem close_l1 {n : Int} (h0 : 0 ≤ n) (h : n ≤ 12) (d0 : List Int) (t : Int) (ht0 : 0 ≤ t) (ht : t ≤ n) : ∀ (m : Nat) (i : Int) (d : List Int), (n + 1 - i).toNat = m → 0 ≤ i → i ≤ n + 1 → Way n d →
    ∃ d', Way n d' ∧ Less n d' d ∧ ∃ F : Nat, F ≤ m * 25 + 1 ∧ ∀ K : Nat, spec_GapsClose.l1 (K + F) t i n d0 n d = spec_GapsClose.l0 K (t + 1) n d0 n d' ∧
      impl_GapsClose.l1 (K + F) (n + 1) t (n + 1) t (n + 1) i n d = impl_GapsClose.l3 K (n + 1) (n + 1) t (n + 1) 0 n d'
  | 0, i, d, hm, hi, hi', w => by
    refine ⟨d, w, fun _ _ _ _ _ _ => Int.le_refl _, 1, by omega, fun K => ⟨?_, ?_⟩⟩
    · rw [spec_GapsClose.l1, if_neg (show ¬ i ≤ n by omega), wrap64_id (by omega) (by omega)]
    · rw [impl_GapsClose.l1, if_neg (show ¬ i < n + 1 by omega)]
  | m + 1, i, d, hm, hi, hi', w => by
    obtain ⟨d1, w1, le1, eq1⟩ := close_l2 h0 h d0 t i ht0 ht hi (by omega) _ 0 d rfl (by omega) (by omega) w
    obtain ⟨d2, w2, le2, F, hF, eq2⟩ := close_l1 h0 h d0 t ht0 ht m (i + 1) d1 (by omega) (by omega) (by omega) w1
    refine ⟨d2, w2, fun x y a b c e => Int.le_trans (le2 x y a b c e) (le1 x y a b c e), F + ((n + 1 - 0).toNat + 1) + 1, by omega, fun K => ⟨?_, ?_⟩⟩
    · rw [show K + (F + ((n + 1 - 0).toNat + 1) + 1) = (K + F + ((n + 1 - 0).toNat + 1)) + 1 by omega]
      rw [spec_GapsClose.l1, if_pos (show i ≤ n by omega), (eq1 (K + F)).1, (eq2 K).1]
    · rw [show K + (F + ((n + 1 - 0).toNat + 1) + 1) = (K + F + ((n + 1 - 0).toNat + 1)) + 1 by omega]
      rw [impl_GapsClose.l1, if_pos (show i < n + 1 by omega), (eq1 (K + F)).2, (eq2 K).2]
/-- A number that is below itself. -/
def Loops (n : Int) (d : List Int) : Prop := ∃ i : Int, 0 ≤ i ∧ i ≤ n ∧ gat n d i i < 0
theorem close_l3 {n : Int} (h0 : 0 ≤ n) (h : n ≤ 12) (t : Int) (d : List Int) (ht0 : 0 ≤ t) (ht : t ≤ n) (hl : (d.length : Int) = (n + 1) * (n + 1)) : ∀ (m : Nat) (i : Int), (n + 1 - i).toNat = m → 0 ≤ i → i ≤ n + 1 →
    (∀ x : Int, 0 ≤ x → x < i → ¬ gat n d x x < 0) → ∀ K : Nat, (Loops n d → impl_GapsClose.l3 (K + (m + 1)) (n + 1) (n + 1) t (n + 1) i n d = some (0, [], false)) ∧
      (¬ Loops n d → impl_GapsClose.l3 (K + (m + 1)) (n + 1) (n + 1) t (n + 1) i n d = impl_GapsClose.l0 K (n + 1) (n + 1) (t + 1) n d)
  | 0, i, hm, hi, hi', hx, K => by
    refine ⟨fun l => ?_, fun l => ?_⟩
    · obtain ⟨x, a, b, c⟩ := l
      exact absurd c (hx x a (by omega))
    · show impl_GapsClose.l3 (K + 1) _ _ _ _ _ _ _ = _
      rw [impl_GapsClose.l3, if_neg (show ¬ i < n + 1 by omega), wrap64_id (by omega) (by omega)]
  | m + 1, i, hm, hi, hi', hx, K => by
    have a := idx_in h0 h hi (by omega : i ≤ n) hi (by omega)
    have step : impl_GapsClose.l3 (K + (m + 1 + 1)) (n + 1) (n + 1) t (n + 1) i n d = if gat n d i i < 0 then some (0, [], false) else impl_GapsClose.l3 (K + (m + 1)) (n + 1) (n + 1) t (n + 1) (i + 1) n d := by
      show impl_GapsClose.l3 ((K + (m + 1)) + 1) _ _ _ _ _ _ _ = _
      rw [impl_GapsClose.l3, if_pos (show i < n + 1 by omega), idx_w2 h0 h hi (by omega) hi (by omega), if_pos a.1, if_pos (show i * (n + 1) + i < (d.length : Int) by omega), wrap64_id (x := i + 1) (by omega) (by omega)]
      rfl
    rw [step]
    by_cases c : gat n d i i < 0
    · rw [if_pos c]
      exact ⟨fun _ => rfl, fun l => absurd ⟨i, hi, by omega, c⟩ l⟩
    · rw [if_neg c]
      refine close_l3 h0 h t d ht0 ht hl m (i + 1) (by omega) (by omega) (by omega) (fun x p q => ?_) K
      by_cases e : x = i
      · subst e; exact c
      · exact hx x p (by omega)
theorem diag_pos {n p : Int} (h0 : 0 ≤ n) (h : n ≤ 12) (hp : 0 ≤ p) (hp' : p < (n + 1) * (n + 1)) (e : Int.tmod p (n + 2) = 0) : ∃ i : Int, 0 ≤ i ∧ i ≤ n ∧ p = i * (n + 1) + i := by
  rw [Int.tmod_eq_emod_of_nonneg hp] at e
  refine ⟨p / (n + 2), ?_⟩
  rcases twelve h0 h with rfl | rfl | rfl | rfl | rfl | rfl | rfl | rfl | rfl | rfl | rfl | rfl | rfl <;> omega
theorem pos_diag {n i : Int} (h0 : 0 ≤ n) (h : n ≤ 12) (hi : 0 ≤ i) (hi' : i ≤ n) : Int.tmod (i * (n + 1) + i) (n + 2) = 0 := by
  have a := idx_in h0 h hi hi' hi hi'
  rw [Int.tmod_eq_emod_of_nonneg a.1]
  rcases twelve h0 h with rfl | rfl | rfl | rfl | rfl | rfl | rfl | rfl | rfl | rfl | rfl | rfl | rfl <;> omega
theorem close_neg3 {n : Int} (h0 : 0 ≤ n) (h : n ≤ 12) (d0 d : List Int) (hl : (d.length : Int) = (n + 1) * (n + 1)) (i : Int) (hi : 0 ≤ i) (hi' : i ≤ n) (c : gat n d i i < 0) : ∀ (m : Nat) (p : Int) (K : Nat), (i * (n + 1) + i - p).toNat = m → 0 ≤ p → p ≤ i * (n + 1) + i → m < K →
    spec_GapsClose.l3 K p n d0 n d = some (0, [], false)
  | m, p, 0, _, _, _, h => absurd h (by omega)
  | m, p, K + 1, hm, hp, hp', hK => by
    have a := idx_in h0 h hi hi' hi hi'
    rw [spec_GapsClose.l3, if_pos (show p < (d.length : Int) by omega), if_pos hp]
    by_cases q : rd d p < -4294967296
    · rw [if_pos q]
    · rw [if_neg q, wrap64_id (x := n + 2) (by omega) (by omega), if_neg (show ¬ n + 2 = 0 by omega), wrap64_id (x := p + 1) (by omega) (by omega)]
      match m, hm with
      | 0, hm =>
        obtain rfl : p = i * (n + 1) + i := by omega
        rw [if_pos (pos_diag h0 h hi hi'), if_pos (show rd d (i * (n + 1) + i) < 0 from c)]
      | m + 1, hm =>
        have next := close_neg3 h0 h d0 d hl i hi hi' c m (p + 1) K (by omega) (by omega) (by omega) (by omega)
        by_cases e : Int.tmod p (n + 2) = 0
        · rw [if_pos e]
          by_cases z : rd d p < 0
          · rw [if_pos z]
          · rw [if_neg z]; exact next
        · rw [if_neg e]; exact next
set_option maxRecDepth 20000 in
theorem close_neg {n : Int} (h0 : 0 ≤ n) (h : n ≤ 12) (d0 : List Int) (m : Nat) : ∀ (t : Int) (d : List Int) (K : Nat), (n + 1 - t).toNat = m → 0 ≤ t → t ≤ n + 1 → Way n d → Loops n d → m * 500 + 500 ≤ K → spec_GapsClose.l0 K t n d0 n d = some (0, [], false) := by
  induction m with
  | zero =>
    intro t d K hm ht ht' w l hK
    obtain ⟨K, rfl⟩ : ∃ K', K = K' + 1 := ⟨K - 1, by omega⟩
    obtain ⟨i, a, b, c⟩ := l
    have ix := idx_in h0 h a b a b
    rw [spec_GapsClose.l0, if_neg (show ¬ t ≤ n by omega)]
    exact close_neg3 h0 h d0 d w.1 i a b c _ 0 K rfl (by omega) (by omega) (by omega)
  | succ m ih =>
    intro t d K hm ht ht' w l hK
    obtain ⟨K, rfl⟩ : ∃ K', K = K' + 1 := ⟨K - 1, by omega⟩
    obtain ⟨d', w', le, F, hF, eq⟩ := close_l1 h0 h d0 t ht (by omega) _ 0 d rfl (by omega) (by omega) w
    rw [spec_GapsClose.l0, if_pos (show t ≤ n by omega)]
    obtain ⟨G, e⟩ : ∃ G, K = G + F := ⟨K - F, by omega⟩
    rw [e, (eq G).1]
    obtain ⟨i, a, b, c⟩ := l
    exact ih (t + 1) d' G (by omega) (by omega) (by omega) w' ⟨i, a, b, Int.lt_of_le_of_lt (le i i a b a b) c⟩ (by omega)
theorem close_end {n : Int} (h0 : 0 ≤ n) (h : n ≤ 12) (d0 d : List Int) (hl : (d.length : Int) = (n + 1) * (n + 1)) (nl : ¬ Loops n d) : ∀ (m : Nat) (p : Int) (K L : Nat), ((d.length : Int) - p).toNat = m → 0 ≤ p → p ≤ (d.length : Int) → m < K → m < L →
    ∃ r, spec_GapsClose.l3 K p n d0 n d = some r ∧ impl_GapsClose.l4 L d (d.length : Int) p n d = some r ∧ r.2.1.length ≤ 169
  | m, p, 0, _, _, _, _, h, _ => absurd h (by omega)
  | m, p, _, 0, _, _, _, _, h => absurd h (by omega)
  | 0, p, K + 1, L + 1, hm, hp, hp', hK, hL => by
    rw [spec_GapsClose.l3, impl_GapsClose.l4, if_neg (show ¬ p < (d.length : Int) by omega), if_neg (show ¬ p < (d.length : Int) by omega)]
    exact ⟨_, rfl, rfl, len_small h0 h hl⟩
  | m + 1, p, K + 1, L + 1, hm, hp, hp', hK, hL => by
    have sm := len_small h0 h hl
    rw [spec_GapsClose.l3, impl_GapsClose.l4, if_pos (show p < (d.length : Int) by omega), if_pos (show p < (d.length : Int) by omega), if_pos (show 0 ≤ p by omega), if_pos (show 0 ≤ p by omega), if_pos (show p < (d.length : Int) by omega)]
    by_cases q : rd d p < -4294967296
    · rw [if_pos q, if_pos q]
      exact ⟨_, rfl, rfl, by simp⟩
    · rw [if_neg q, if_neg q, wrap64_id (x := n + 2) (by omega) (by omega), if_neg (show ¬ n + 2 = 0 by omega), wrap64_id (x := p + 1) (by omega) (by omega)]
      have next := close_end h0 h d0 d hl nl m (p + 1) K L (by omega) (by omega) (by omega) (by omega) (by omega)
      by_cases e : Int.tmod p (n + 2) = 0
      · obtain ⟨i, a, b, c⟩ := diag_pos h0 h hp (by omega) e
        have z : ¬ rd d p < 0 := fun z => nl ⟨i, a, b, by unfold gat; rw [← c]; exact z⟩
        rw [if_pos e, if_neg z]; exact next
      · rw [if_neg e]; exact next
set_option maxRecDepth 20000 in
theorem close_l0 {n : Int} (h0 : 0 ≤ n) (h : n ≤ 12) (d0 : List Int) (m : Nat) : ∀ (t : Int) (d : List Int) (K L : Nat), (n + 1 - t).toNat = m → 0 ≤ t → t ≤ n + 1 → Way n d → (m = 0 → ¬ Loops n d) → m * 1000 + 1000 ≤ K → m * 1000 + 1000 ≤ L →
    ∃ r, spec_GapsClose.l0 K t n d0 n d = some r ∧ impl_GapsClose.l0 L (n + 1) (n + 1) t n d = some r ∧ r.2.1.length ≤ 169 := by
  induction m with
  | zero =>
    intro t d K L hm ht ht' w l hK hL
    obtain ⟨K, rfl⟩ : ∃ K', K = K' + 1 := ⟨K - 1, by omega⟩
    obtain ⟨L, rfl⟩ : ∃ K', L = K' + 1 := ⟨L - 1, by omega⟩
    have sm := len_small h0 h w.1
    rw [spec_GapsClose.l0, impl_GapsClose.l0, if_neg (show ¬ t ≤ n by omega), if_neg (show ¬ t < n + 1 by omega)]
    exact close_end h0 h d0 d w.1 (l rfl) _ 0 K L rfl (by omega) (by omega) (by omega) (by omega)
  | succ m ih =>
    intro t d K L hm ht ht' w l hK hL
    obtain ⟨K, rfl⟩ : ∃ K', K = K' + 1 := ⟨K - 1, by omega⟩
    obtain ⟨L, rfl⟩ : ∃ K', L = K' + 1 := ⟨L - 1, by omega⟩
    obtain ⟨d', w', le, F, hF, eq⟩ := close_l1 h0 h d0 t ht (by omega) _ 0 d rfl (by omega) (by omega) w
    rw [spec_GapsClose.l0, impl_GapsClose.l0, if_pos (show t ≤ n by omega), if_pos (show t < n + 1 by omega)]
    obtain ⟨G, e⟩ : ∃ G, K = G + F := ⟨K - F, by omega⟩
    obtain ⟨H, e'⟩ : ∃ H, L = (H + ((n + 1 - 0).toNat + 1)) + F := ⟨L - F - ((n + 1 - 0).toNat + 1), by omega⟩
    rw [e, (eq G).1, e', (eq _).2]
    have s3 := close_l3 h0 h t d' ht (by omega) w'.1 _ 0 rfl (by omega) (by omega) (fun x a b => absurd a (by omega)) H
    by_cases lo : Loops n d'
    · rw [s3.1 lo, close_neg h0 h d0 m (t + 1) d' G (by omega) (by omega) (by omega) w' lo (by omega)]
      exact ⟨_, rfl, rfl, by simp⟩
    · rw [s3.2 lo]
      exact ih (t + 1) d' G H (by omega) (by omega) (by omega) w' (fun _ => lo) (by omega) (by omega)
theorem close_both {k : Nat} (n : Int) (d : List Int) (hk : 3000000 ≤ k) : ∃ r, spec_GapsClose.f k n d = some r ∧ impl_GapsClose.f k n d = some r ∧ r.2.1.length ≤ 169 := by
  unfold spec_GapsClose.f impl_GapsClose.f
  by_cases g : GOk n d
  · have g' := g
    obtain ⟨h0, h, hl, hin, _⟩ := g'
    have sm := len_small h0 h hl
    rw [sGapsOk_yes g (by omega), gapsOk_yes g (by omega), Option.bind_some, Option.bind_some, if_pos rfl, if_pos rfl, sl11Copy_eq n d (by omega) (by omega), clone_eq n d (by omega), Option.bind_some, Option.bind_some, wrap64_id (x := n + 1) (by omega) (by omega)]
    exact close_l0 h0 h d _ 0 d k k rfl (by omega) (by omega) ⟨hl, fun p a b => (hin p a b).2⟩ (fun e => absurd e (by omega)) (by omega) (by omega)
  · rw [sGapsOk_no g (by omega), gapsOk_no g (by omega)]
    exact ⟨_, rfl, rfl, by simp⟩
end Go.Proofs.Ytmdcgkkkfncieaa.LFnExactGapsClose
