/- For every code the law FnGapsJoin answers true: joined or widened, no numbers are lost. Conditions: none beyond those of the given statement. -/
import Derived.Test.YtkekcenlleebeaaLFnGapsJoin
namespace Go.Proofs.Ytkekcenlleebeaa.Pure
set_option linter.unusedVariables false
set_option linter.unusedSimpArgs false
open Go.RowKit Go.Proofs.Ytkekcenlleebeaa.PFnGapsJoin Go.Proofs.Ytkekcenlleebeaa.LFnGapsJoin Go.Proofs.Ytkekcenlleebeaa.Base Go.Proofs.YtkekcenlleebeaaW.PrintWords Go.Proofs.YtkekcenlleebeaaW.PrintLast Go.Proofs.YtkekcenlleebeaaW.PrintMore

theorem jboth {k : Nat} (n : Int) (d : List Int) (n' : Int) (d' : List Int) (hk : 3000000 ≤ k) : ∃ r, spec_GapsJoin.f k n d n' d' = some r ∧ impl_GapsJoin.f k n d n' d' = some r ∧ r.2.length ≤ 169 ∧
    (¬ (GOk n d ∧ GOk n' d' ∧ n = n') → r = (0, [])) ∧ (GOk n d → GOk n' d' → n = n' → r.1 = n ∧ r.2.length = d.length ∧ ∀ p : Int, 0 ≤ p → p < (d.length : Int) → rd r.2 p = max (rd d p) (rd d' p)) := by
  obtain ⟨k, rfl⟩ : ∃ j, k = j + 1 := ⟨k - 1, by omega⟩
  have ino : impl_GapsJoin.j0 (k + 1) true n d n' d' = some (0, []) := by rw [impl_GapsJoin.j0]; rfl
  unfold spec_GapsJoin.f impl_GapsJoin.f
  obtain ⟨b, hb, hb'⟩ := sl11Two_eq (k := k + 1) n d n' d' (by omega)
  rw [hb, Option.bind_some]
  by_cases g : GOk n d
  · rw [gapsOk_yes g (by omega), Option.bind_some, if_pos (show true = true from rfl)]
    by_cases g' : GOk n' d'
    · rw [gapsOk_yes g' (by omega), Option.bind_some, if_pos (show true = true from rfl)]
      by_cases e : n = n'
      · subst e
        have ne : (n != n) = false := by simp
        have hbt : b = true := hb'.mpr ⟨g, g', rfl⟩
        have sm := len_small g.1 g.2.1 g.2.2.1
        have sm' := len_small g'.1 g'.2.1 g'.2.2.1
        have l1 := g.2.2.1
        have l2 := g'.2.2.1
        rw [hbt, ne, if_pos (show true = true from rfl), impl_GapsJoin.j0, if_neg (show ¬ (false = true) by decide), clone_eq n d (by omega), Option.bind_some]
        obtain ⟨r, e1, e2, e3⟩ := join_loop d d' n n sm (by omega) d.length (k + 1) k 0 [] d (by omega) (by omega) (by omega) rfl rfl (fun j h => absurd h (by omega)) (fun j _ => rfl)
        obtain ⟨r', f1, f2, f3⟩ := joined_l0 d' n d'.length k 0 d (by omega) (by omega) (by omega) sm'
        have same : r' = r := by
          have h1 : some (n, r') = some (n, r) := f1.symm.trans e2
          exact (Prod.mk.inj (Option.some.inj h1)).2
        subst same
        refine ⟨(n, r'), e1, e2, e3, fun z => absurd ⟨g, g', rfl⟩ z, fun _ _ _ => ⟨rfl, f2, fun p a c => ?_⟩⟩
        have := f3 p a (by omega)
        rw [if_neg (show ¬ p < ((0 : Nat) : Int) by omega)] at this
        exact this
      · have ne : (n != n') = true := by simp [e]
        have hbf : b = false := by cases b with | false => rfl | true => exact absurd (hb'.mp rfl).2.2 e
        rw [hbf, ne, if_neg (show ¬ (false = true) by decide)]
        exact ⟨_, rfl, ino, by simp, fun _ => rfl, fun _ _ z => absurd z e⟩
    · have hbf : b = false := by cases b with | false => rfl | true => exact absurd (hb'.mp rfl).2.1 g'
      rw [gapsOk_no g' (by omega), Option.bind_some, hbf, if_neg (show ¬ (false = true) by decide), if_neg (show ¬ (false = true) by decide)]
      exact ⟨_, rfl, ino, by simp, fun _ => rfl, fun _ z => absurd z g'⟩
  · have hbf : b = false := by cases b with | false => rfl | true => exact absurd (hb'.mp rfl).1 g
    rw [gapsOk_no g (by omega), Option.bind_some, hbf, if_neg (show ¬ (false = true) by decide), if_neg (show ¬ (false = true) by decide)]
    exact ⟨_, rfl, ino, by simp, fun _ => rfl, fun z => absurd z g⟩

theorem wboth {k : Nat} (n : Int) (d : List Int) (n' : Int) (d' : List Int) (hk : 3000000 ≤ k) : ∃ r, spec_GapsWiden.f k n d n' d' = some r ∧ impl_GapsWiden.f k n d n' d' = some r ∧ r.2.length ≤ 169 ∧
    (¬ (GOk n d ∧ GOk n' d' ∧ n = n') → r = (0, [])) ∧ (GOk n d → GOk n' d' → n = n' → r.1 = n ∧ r.2.length = d.length ∧ ∀ p : Int, 0 ≤ p → p < (d.length : Int) → rd r.2 p = if rd d' p > rd d p then 1099511627776 else rd d p) := by
  obtain ⟨k, rfl⟩ : ∃ j, k = j + 1 := ⟨k - 1, by omega⟩
  have ino : impl_GapsWiden.j0 (k + 1) true n d n' d' = some (0, []) := by rw [impl_GapsWiden.j0]; rfl
  unfold spec_GapsWiden.f impl_GapsWiden.f
  obtain ⟨b, hb, hb'⟩ := sl11Two_eq (k := k + 1) n d n' d' (by omega)
  rw [hb, Option.bind_some]
  by_cases g : GOk n d
  · rw [gapsOk_yes g (by omega), Option.bind_some, if_pos (show true = true from rfl)]
    by_cases g' : GOk n' d'
    · rw [gapsOk_yes g' (by omega), Option.bind_some, if_pos (show true = true from rfl)]
      by_cases e : n = n'
      · subst e
        have ne : (n != n) = false := by simp
        have hbt : b = true := hb'.mpr ⟨g, g', rfl⟩
        have sm := len_small g.1 g.2.1 g.2.2.1
        have sm' := len_small g'.1 g'.2.1 g'.2.2.1
        have l1 := g.2.2.1
        have l2 := g'.2.2.1
        rw [hbt, ne, if_pos (show true = true from rfl), impl_GapsWiden.j0, if_neg (show ¬ (false = true) by decide), clone_eq n d (by omega), Option.bind_some]
        obtain ⟨r, e1, e2, e3⟩ := widen_loop d d' n n sm (by omega) d.length (k + 1) k 0 [] d (by omega) (by omega) (by omega) rfl rfl (fun j h => absurd h (by omega)) (fun j _ => rfl)
        obtain ⟨r', f1, f2, f3⟩ := widened_l0 d' n d'.length k 0 d (by omega) (by omega) (by omega) sm'
        have same : r' = r := by
          have h1 : some (n, r') = some (n, r) := f1.symm.trans e2
          exact (Prod.mk.inj (Option.some.inj h1)).2
        subst same
        refine ⟨(n, r'), e1, e2, e3, fun z => absurd ⟨g, g', rfl⟩ z, fun _ _ _ => ⟨rfl, f2, fun p a c => ?_⟩⟩
        have := f3 p a (by omega)
        rw [if_neg (show ¬ p < ((0 : Nat) : Int) by omega)] at this
        exact this
      · have ne : (n != n') = true := by simp [e]
        have hbf : b = false := by cases b with | false => rfl | true => exact absurd (hb'.mp rfl).2.2 e
        rw [hbf, ne, if_neg (show ¬ (false = true) by decide)]
        exact ⟨_, rfl, ino, by simp, fun _ => rfl, fun _ _ z => absurd z e⟩
    · have hbf : b = false := by cases b with | false => rfl | true => exact absurd (hb'.mp rfl).2.1 g'
      rw [gapsOk_no g' (by omega), Option.bind_some, hbf, if_neg (show ¬ (false = true) by decide), if_neg (show ¬ (false = true) by decide)]
      exact ⟨_, rfl, ino, by simp, fun _ => rfl, fun _ z => absurd z g'⟩
  · have hbf : b = false := by cases b with | false => rfl | true => exact absurd (hb'.mp rfl).1 g
    rw [gapsOk_no g (by omega), Option.bind_some, hbf, if_neg (show ¬ (false = true) by decide), if_neg (show ¬ (false = true) by decide)]
    exact ⟨_, rfl, ino, by simp, fun _ => rfl, fun z => absurd z g⟩

/-- A matrix none of whose bounds is less, and that is one, keeps what is kept. -/
theorem Has.more {n : Int} {d r l : List Int} (g : GOk n r) (hl : r.length = d.length) (le : ∀ p : Int, 0 ≤ p → p < (d.length : Int) → rd d p ≤ rd r p) (h : Has n d l) : Has n r l := by
  obtain ⟨gd, a, b, c⟩ := h
  refine ⟨g, a, b, fun i j x1 x2 y1 y2 => ?_⟩
  have ix := idx_in g.1 g.2.1 x1 x2 y1 y2
  have := c i j x1 x2 y1 y2
  have e := le (i * (n + 1) + j) ix.1 (by have := gd.2.2.1; omega)
  unfold gat at this ⊢
  omega
theorem more_ok {n : Int} {d r : List Int} (g : GOk n d) (hl : r.length = d.length) (h : ∀ p : Int, 0 ≤ p → p < (d.length : Int) → DIn (rd r p)) (z : ∀ i : Int, 0 ≤ i → i ≤ n → rd r (i * (n + 1) + i) = 0) : GOk n r :=
  ⟨g.1, g.2.1, by rw [hl]; exact g.2.2.1, fun p a b => h p a (by omega), z⟩

theorem tail_loop {k0 : Nat} {l : List Int} (hl : Bytes l) (n : Int) (d d' j w : List Int) (g : GOk n d) (g' : GOk n d') (gj : GOk n j) (gw : GOk n w)
    (lj : ∀ p : Int, 0 ≤ p → p < (d.length : Int) → rd d p ≤ rd j p) (lj' : ∀ p : Int, 0 ≤ p → p < (d.length : Int) → rd d' p ≤ rd j p) (lw : ∀ p : Int, 0 ≤ p → p < (d.length : Int) → rd j p ≤ rd w p) : ∀ (m : Nat) (k : Nat) (x : List Int), (n - (x.length : Int)).toNat = m → x.length ≤ 100 → 10000 + m ≤ k →
    Tot (laws_FnGapsJoin.l0 k l x n d n d' n j n w) fun r => r = true := by
  have e0 := g.2.2.1
  have e1 := g'.2.2.1
  have e2 := gj.2.2.1
  have e3 := gw.2.2.1
  have h0 := g.1
  have h12 := g.2.1
  have fin : ∀ k, 5000 ≤ k → Tot (laws_FnGapsJoin.j3 (k + 1) false n d n d' n j n w) fun r => r = true := by
    intro k hk
    rw [laws_FnGapsJoin.j3, if_neg (show ¬ (false = true) by decide), gapsIn_yes g gj lj (by omega), Option.bind_some, if_pos rfl, gapsIn_yes g' gj (fun p a b => lj' p a (by omega)) (by omega), Option.bind_some, if_pos rfl, gapsIn_yes gj gw (fun p a b => lw p a (by omega)) (by omega)]
    exact Tot.here rfl
  intro m
  induction m with
  | zero =>
    intro k x hm hx hk
    obtain ⟨k, rfl⟩ : ∃ K, k = K + 1 + 1 := ⟨k - 2, by omega⟩
    rw [laws_FnGapsJoin.l0, if_neg (show ¬ (x.length : Int) < n by omega), if_pos h0, if_pos (show n ≤ (x.length : Int) by omega), Option.bind_some]
    have up : ∀ y : List Int, (Has n d y ∨ Has n d' y) → Has n j y ∧ Has n w y := by
      intro y hy
      have hj : Has n j y := by
        rcases hy with hy | hy
        · exact Has.more gj (by omega) lj hy
        · exact Has.more gj (by omega) (fun p a b => lj' p a (by omega)) hy
      exact ⟨hj, Has.more gw (by omega) (fun p a b => lw p a (by omega)) hj⟩
    have go : ∀ y : List Int, (Has n d y ∨ Has n d' y) → Tot ((impl_GapsHas.f (k + 1) n j y).bind fun t445 => (if t445 = true then ((impl_GapsHas.f (k + 1) n w y).bind fun t446 => (laws_FnGapsJoin.j3 (k + 1) (!t446) n d n d' n j n w)) else (laws_FnGapsJoin.j3 (k + 1) true n d n d' n j n w))) fun r => r = true := by
      intro y hy
      have u := up y hy
      obtain ⟨b1, f1, f2⟩ := has_tot (k := k + 1) n j y (by omega)
      obtain ⟨b2, f3, f4⟩ := has_tot (k := k + 1) n w y (by omega)
      rw [f1, f2.mpr u.1, Option.bind_some, if_pos rfl, f3, f4.mpr u.2, Option.bind_some]
      exact fin k (by omega)
    refine Tot.then (sHas_tot n d _ (by omega)) ?_
    intro b hb
    refine Tot.ite (fun z => go _ (.inl (hb.mp z))) (fun z => ?_)
    refine Tot.then (sHas_tot n d' _ (by omega)) ?_
    intro b' hb'
    exact Tot.ite (fun z => go _ (.inr (hb'.mp z))) (fun z => fin k (by omega))
  | succ m ih =>
    intro k x hm hx hk
    obtain ⟨k, rfl⟩ : ∃ K, k = K + 1 := ⟨k - 1, by omega⟩
    rw [laws_FnGapsJoin.l0, if_pos (show (x.length : Int) < n by omega)]
    refine Tot.then (at_tot hl (by omega) (by omega)) ?_
    intro t _
    rw [if_pos (show x.length < 17592186044416 by omega)]
    exact ih k _ (by simp; omega) (by simp; omega) (by omega)

theorem FnGapsJoin : laws_FnGapsJoin.Pure := by
  intro l _ _ hw
  have hl := Bytes.of hw
  obtain ⟨K, hK⟩ : ∃ K : Nat, 300000000000000000000 ≤ K := ⟨_, Nat.le_refl _⟩
  refine ⟨K + 1 + 1, ?_⟩
  refine Tot.out ?_
  unfold laws_FnGapsJoin.f
  refine Tot.ite (fun _ => Tot.here rfl) fun _ => ?_
  refine Tot.then (drawGapsWiden_tot hl (by omega)) ?_
  rintro ⟨n, d, n', d'⟩ -
  obtain ⟨⟨j1, j2⟩, a1, a2, a3, a4, a5⟩ := jboth (k := K + 1 + 1) n d n' d' (by omega)
  obtain ⟨⟨w1, w2⟩, b1, b2, b3, b4, b5⟩ := wboth (k := K + 1 + 1) n d n' d' (by omega)
  have a3 : j2.length ≤ 169 := a3
  have b3 : w2.length ≤ 169 := b3
  show Tot ((impl_GapsJoin.f (K + 1 + 1) n d n' d').bind _) _
  rw [a2, Option.bind_some]
  show Tot ((impl_GapsWiden.f (K + 1 + 1) n d n' d').bind _) _
  rw [b2, Option.bind_some]
  show Tot ((spec_GapsJoin.f (K + 1 + 1) n d n' d').bind _) _
  rw [a1, Option.bind_some]
  show Tot ((laws_sameInts.f (K + 1 + 1) j2 j2).bind _) _
  rw [sameInts_refl j2 (by omega) (by omega), Option.bind_some, if_pos rfl]
  show Tot ((spec_GapsWiden.f (K + 1 + 1) n d n' d').bind _) _
  rw [b1, Option.bind_some]
  show Tot ((laws_sameInts.f (K + 1 + 1) w2 w2).bind _) _
  rw [sameInts_refl w2 (by omega) (by omega), Option.bind_some]
  show Tot (laws_FnGapsJoin.j0 (K + 1 + 1) l false n d n' d' j1 j2 w1 w2) _
  rw [laws_FnGapsJoin.j0, if_neg (show ¬ (false = true) by decide)]
  have bad : ¬ (GOk n d ∧ GOk n' d' ∧ n = n') → Tot (laws_FnGapsJoin.j1 (K + 1) l true n d n' d' j1 j2 w1 w2) fun r => r = true := by
    intro z
    have x1 := (Prod.mk.inj (a4 z)).2
    have x2 := (Prod.mk.inj (b4 z)).2
    rw [laws_FnGapsJoin.j1, if_pos rfl, x1, x2]
    exact Tot.here rfl
  by_cases g : GOk n d
  · rw [sGapsOk_yes g (by omega), Option.bind_some, if_pos rfl]
    by_cases g' : GOk n' d'
    · rw [sGapsOk_yes g' (by omega), Option.bind_some, if_pos rfl]
      by_cases e : n = n'
      · subst e
        have ne : (n != n) = false := by simp
        obtain ⟨c1, c2, c3⟩ := a5 g g' rfl
        obtain ⟨d1, d2, d3⟩ := b5 g g' rfl
        have c1 : j1 = n := c1
        have c2 : j2.length = d.length := c2
        have d1 : w1 = n := d1
        have d2 : w2.length = d.length := d2
        subst c1
        subst d1
        have ll := g.2.2.1
        have ll' := g'.2.2.1
        have c3 : ∀ p : Int, 0 ≤ p → p < (d.length : Int) → rd j2 p = max (rd d p) (rd d' p) := c3
        have d3 : ∀ p : Int, 0 ≤ p → p < (d.length : Int) → rd w2 p = if rd d' p > rd d p then 1099511627776 else rd d p := d3
        have vj : ∀ p : Int, 0 ≤ p → p < (d.length : Int) → DIn (rd j2 p) := fun p x y => by
          have u := g.2.2.2.1 p x y
          have v := g'.2.2.2.1 p x (by omega)
          unfold DIn at u v ⊢
          rw [c3 p x y, Int.max_def]; split <;> omega
        have vw : ∀ p : Int, 0 ≤ p → p < (d.length : Int) → DIn (rd w2 p) := fun p x y => by
          have u := g.2.2.2.1 p x y
          unfold DIn at u ⊢
          rw [d3 p x y]; split <;> omega
        have zj : ∀ i : Int, 0 ≤ i → i ≤ w1 → rd j2 (i * (w1 + 1) + i) = 0 := fun i x y => by
          have ix := idx_in g.1 g.2.1 x y x y
          rw [c3 _ ix.1 (by omega), g.2.2.2.2 i x y, g'.2.2.2.2 i x y]; rfl
        have zw : ∀ i : Int, 0 ≤ i → i ≤ w1 → rd w2 (i * (w1 + 1) + i) = 0 := fun i x y => by
          have ix := idx_in g.1 g.2.1 x y x y
          rw [d3 _ ix.1 (by omega), g.2.2.2.2 i x y, g'.2.2.2.2 i x y]; rfl
        have gj := more_ok g c2 vj zj
        have gw := more_ok g d2 vw zw
        rw [ne, laws_FnGapsJoin.j1, if_neg (show ¬ (false = true) by decide)]
        refine Tot.then (drawGapsHas_tot hl (by omega)) ?_
        rintro ⟨h1, h2, h3⟩ ⟨-, h4⟩
        dsimp only at h4 ⊢
        refine tail_loop (k0 := 0) hl w1 d d' j2 w2 g g' gj gw (fun p x y => ?_) (fun p x y => ?_) (fun p x y => ?_) _ _ h3 rfl (by omega) (by have := g.2.1; have := g.1; omega)
        · rw [c3 p x y]; exact Int.le_max_left _ _
        · rw [c3 p x y]; exact Int.le_max_right _ _
        · have v := vj p x y
          unfold DIn at v
          rw [c3 p x y] at v ⊢
          rw [d3 p x y]
          rw [Int.max_def] at v ⊢
          split <;> split <;> omega
      · have ne : (n != n') = true := by simp [e]
        rw [ne]; exact bad fun q => e q.2.2
    · rw [sGapsOk_no g' (by omega), Option.bind_some, if_neg (show ¬ (false = true) by decide)]
      exact bad fun q => g' q.2.1
  · rw [sGapsOk_no g (by omega), Option.bind_some, if_neg (show ¬ (false = true) by decide)]
    exact bad fun q => g q.1
end Go.Proofs.Ytkekcenlleebeaa.Pure
