/- What an operator makes of two ranges: plain definitions and their laws. Conditions: those in each law. -/
import Derived.Test.YtlbheepfmjbpnaaRangeMath
namespace Go.Proofs.Ytlbheepfmjbpnaa.Base
set_option linter.unusedVariables false
set_option linter.unusedSimpArgs false
open Go.RowKit Go.Proofs.YtlbheepfmjbpnaaW.PrintWords Go.Proofs.YtlbheepfmjbpnaaW.PrintMore

/-- The least and the greatest that f makes of the ends. -/
def CLo (f : Int → Int → Int) (al ah bl bh : Int) : Int := min (min (min (f al bl) (f al bh)) (f ah bl)) (f ah bh)
def CHi (f : Int → Int → Int) (al ah bl bh : Int) : Int := max (max (max (f al bl) (f al bh)) (f ah bl)) (f ah bh)
/-- Between p and q, f goes one way. -/
def OneWay (f : Int → Int) (p q : Int) : Prop := (∀ x y, p ≤ x → x ≤ y → y ≤ q → f x ≤ f y) ∨ (∀ x y, p ≤ x → x ≤ y → y ≤ q → f y ≤ f x)
theorem OneWay.mid {f : Int → Int} {p q x : Int} (h : OneWay f p q) (a : p ≤ x) (b : x ≤ q) : min (f p) (f q) ≤ f x ∧ f x ≤ max (f p) (f q) := by
  rcases h with h | h
  · have := h p x (by omega) a b
    have := h x q a b (by omega)
    omega
  · have := h p x (by omega) a b
    have := h x q a b (by omega)
    omega
theorem corner {f : Int → Int → Int} {al ah bl bh u v : Int} (hu : OneWay (fun u => f u v) al ah) (hv : OneWay (f al) bl bh) (hv' : OneWay (f ah) bl bh)
    (a : al ≤ u) (b : u ≤ ah) (c : bl ≤ v) (d : v ≤ bh) : CLo f al ah bl bh ≤ f u v ∧ f u v ≤ CHi f al ah bl bh := by
  have x := hu.mid a b
  have y := hv.mid c d
  have z := hv'.mid c d
  unfold CLo CHi
  omega

theorem oneway_mul (a p q : Int) : OneWay (fun x => a * x) p q := by
  by_cases h : 0 ≤ a
  · exact Or.inl fun x y _ e _ => Int.mul_le_mul_of_nonneg_left e h
  · exact Or.inr fun x y _ e _ => Int.mul_le_mul_of_nonpos_left (by omega) e
theorem oneway_mul' (a p q : Int) : OneWay (fun x => x * a) p q := by
  have := oneway_mul a p q
  simpa only [Int.mul_comm] using this
theorem oneway_pow {p q : Int} (a : Int) : OneWay (fun x => a * 2 ^ x.toNat) p q := by
  have m : ∀ x y : Int, x ≤ y → (2 : Int) ^ x.toNat ≤ 2 ^ y.toNat := fun x y e => pow_le' (by omega)
  by_cases h : 0 ≤ a
  · exact Or.inl fun x y _ e _ => Int.mul_le_mul_of_nonneg_left (m x y e) h
  · exact Or.inr fun x y _ e _ => Int.mul_le_mul_of_nonpos_left (by omega) (m x y e)
theorem oneway_shr (a : Int) {p q : Int} : OneWay (fun x => a / 2 ^ x.toNat) p q := by
  have m : ∀ x y : Int, x ≤ y → ∃ k : Int, 1 ≤ k ∧ a / 2 ^ y.toNat = a / 2 ^ x.toNat / k := fun x y e => by
    refine ⟨2 ^ (y.toNat - x.toNat), ?_, ?_⟩
    · have := pow_pos' (y.toNat - x.toNat); omega
    · rw [Int.ediv_ediv_of_nonneg (Int.le_of_lt (pow_pos' _)), ← Int.pow_add]
      congr 2; omega
  by_cases h : 0 ≤ a
  · refine Or.inr fun x y _ e _ => ?_
    obtain ⟨k, hk, e⟩ := m x y e
    dsimp only
    rw [e]
    exact Int.ediv_le_self _ (Int.ediv_nonneg h (Int.le_of_lt (pow_pos' _)))
  · refine Or.inl fun x y _ e _ => ?_
    obtain ⟨k, hk, e⟩ := m x y e
    dsimp only
    rw [e]
    have n : a / 2 ^ x.toNat < 0 := Int.ediv_neg_of_neg_of_pos (by omega) (pow_pos' _)
    refine Int.le_ediv_of_mul_le (by omega) ?_
    have := Int.mul_le_mul_of_nonpos_left (a := a / 2 ^ x.toNat) (b := k) (c := 1) (by omega) hk
    omega
theorem tdiv_mono_pos {a b c : Int} (h : 0 < c) (e : a ≤ b) : Int.tdiv a c ≤ Int.tdiv b c := Int.tdiv_le_tdiv h e
theorem oneway_tdiv_left (v : Int) (p q : Int) : OneWay (fun u => Int.tdiv u v) p q := by
  by_cases h : 0 < v
  · exact Or.inl fun x y _ e _ => Int.tdiv_le_tdiv h e
  · by_cases h' : v = 0
    · subst h'; exact Or.inl fun x y _ _ _ => by simp
    · refine Or.inr fun x y _ e _ => ?_
      have := Int.tdiv_le_tdiv (a := x) (b := y) (c := -v) (by omega) e
      rw [Int.tdiv_neg, Int.tdiv_neg] at this
      dsimp only
      omega
theorem tdiv_anti {u x y : Int} (h : 0 ≤ u) (hx : 0 < x) (e : x ≤ y) : Int.tdiv u y ≤ Int.tdiv u x := by
  rw [Int.tdiv_eq_ediv_of_nonneg h, Int.tdiv_eq_ediv_of_nonneg h]
  refine Int.le_ediv_of_mul_le hx ?_
  have n : 0 ≤ u / y := Int.ediv_nonneg h (by omega)
  have := Int.mul_le_mul_of_nonneg_left e n
  have := Int.ediv_mul_le u (b := y) (by omega)
  omega
theorem oneway_tdiv_pos (u : Int) {p q : Int} (hp : 0 < p) : OneWay (Int.tdiv u) p q := by
  by_cases h : 0 ≤ u
  · exact Or.inr fun x y a e _ => tdiv_anti h (by omega) e
  · refine Or.inl fun x y a e _ => ?_
    have := tdiv_anti (u := -u) (x := x) (y := y) (by omega) (by omega) e
    rw [Int.neg_tdiv, Int.neg_tdiv] at this
    omega
theorem oneway_tdiv_neg (u : Int) {p q : Int} (hq : q < 0) : OneWay (Int.tdiv u) p q := by
  have n : ∀ z, Int.tdiv u z = - Int.tdiv u (-z) := fun z => by rw [Int.tdiv_neg]; omega
  rcases oneway_tdiv_pos u (p := -q) (q := -p) (by omega) with h | h
  · refine Or.inl fun x y a e b => ?_
    have := h (-y) (-x) (by omega) (by omega) (by omega)
    have := n x; have := n y; omega
  · refine Or.inr fun x y a e b => ?_
    have := h (-y) (-x) (by omega) (by omega) (by omega)
    have := n x; have := n y; omega

/-- What is made of numbers of two ranges lies between what is made of their ends. -/
theorem corners {op al ah bl bh u v : Int} (hop : op = 1 ∨ op = 2 ∨ op = 3 ∨ op = 4 ∧ (0 < bl ∨ bh < 0) ∨ op = 9 ∨ op = 10 ∨ op = 11 ∨ op = 12 ∨ op = 13)
    (a : al ≤ u) (b : u ≤ ah) (c : bl ≤ v) (d : v ≤ bh) : CLo (Exact op) al ah bl bh ≤ Exact op u v ∧ Exact op u v ≤ CHi (Exact op) al ah bl bh := by
  have add : ∀ k : Int, k = 1 ∨ k = 11 → Exact k = fun a b => a + b := fun k h => by
    funext a b; unfold Exact; rw [if_pos h]
  have sub : ∀ k : Int, k = 2 ∨ k = 12 → Exact k = fun a b => a - b := fun k h => by
    funext a b; unfold Exact; rw [if_neg (by omega), if_pos h]
  have mul : ∀ k : Int, k = 3 ∨ k = 13 → Exact k = fun a b => a * b := fun k h => by
    funext a b; unfold Exact; rw [if_neg (by omega), if_neg (by omega), if_pos h]
  have A : ∀ k : Int, k = 1 ∨ k = 11 → CLo (Exact k) al ah bl bh ≤ Exact k u v ∧ Exact k u v ≤ CHi (Exact k) al ah bl bh := fun k h => by
    rw [add k h]
    exact corner (f := fun a b => a + b) (Or.inl fun x y _ _ _ => by dsimp only; omega) (Or.inl fun x y _ _ _ => by dsimp only; omega) (Or.inl fun x y _ _ _ => by dsimp only; omega) a b c d
  have S : ∀ k : Int, k = 2 ∨ k = 12 → CLo (Exact k) al ah bl bh ≤ Exact k u v ∧ Exact k u v ≤ CHi (Exact k) al ah bl bh := fun k h => by
    rw [sub k h]
    exact corner (f := fun a b => a - b) (Or.inl fun x y _ _ _ => by dsimp only; omega) (Or.inr fun x y _ _ _ => by dsimp only; omega) (Or.inr fun x y _ _ _ => by dsimp only; omega) a b c d
  have M : ∀ k : Int, k = 3 ∨ k = 13 → CLo (Exact k) al ah bl bh ≤ Exact k u v ∧ Exact k u v ≤ CHi (Exact k) al ah bl bh := fun k h => by
    rw [mul k h]
    exact corner (f := fun a b => a * b) (oneway_mul' _ _ _) (oneway_mul _ _ _) (oneway_mul _ _ _) a b c d
  rcases hop with h | h | h | ⟨h, k⟩ | h | h | h | h | h
  · exact A _ (Or.inl h)
  · exact S _ (Or.inl h)
  · exact M _ (Or.inl h)
  · have e : Exact op = Int.tdiv := by subst h; funext a b; simp [Exact]
    rw [e]
    rcases k with k | k
    · exact corner (oneway_tdiv_left _ _ _) (oneway_tdiv_pos _ k) (oneway_tdiv_pos _ k) a b c d
    · exact corner (oneway_tdiv_left _ _ _) (oneway_tdiv_neg _ k) (oneway_tdiv_neg _ k) a b c d
  · have e : Exact op = fun a b => a * 2 ^ b.toNat := by subst h; funext a b; simp [Exact]
    rw [e]
    exact corner (f := fun a b => a * 2 ^ b.toNat) (oneway_mul' _ _ _) (oneway_pow _) (oneway_pow _) a b c d
  · have e : Exact op = fun a b => a / 2 ^ b.toNat := by subst h; funext a b; simp [Exact]
    rw [e]
    exact corner (f := fun a b => a / 2 ^ b.toNat) (Or.inl fun x y _ h _ => Int.ediv_le_ediv (pow_pos' _) h) (oneway_shr _) (oneway_shr _) a b c d
  · exact A _ (Or.inr h)
  · exact S _ (Or.inr h)
  · exact M _ (Or.inr h)

/-- Wrapped, numbers that lie near keep their order. -/
def RWrap (lo hi : Int) : Int × Int := if hi - lo > 4294967295 ∨ wrap32 lo > wrap32 hi then (-2147483648, 2147483647) else (wrap32 lo, wrap32 hi)
theorem RWrap_has {lo hi w : Int} (a : lo ≤ w) (b : w ≤ hi) : RHas (RWrap lo hi).1 (RWrap lo hi).2 (wrap32 w) := by
  have i1 := wrap32_in lo
  have i2 := wrap32_in hi
  have i3 := wrap32_in w
  unfold RWrap
  by_cases c : hi - lo > 4294967295 ∨ wrap32 lo > wrap32 hi
  · rw [if_pos c]
    exact ⟨Or.inr (by unfold NOk; omega), i3⟩
  · rw [if_neg c]
    refine ⟨Or.inr (by unfold NOk; omega), ?_⟩
    unfold wrap32 at *
    dsimp only
    omega
theorem RWrap_ok (lo hi : Int) : ROk (RWrap lo hi).1 (RWrap lo hi).2 := by
  have i1 := wrap32_in lo
  have i2 := wrap32_in hi
  unfold RWrap
  split
  · exact Or.inr (by unfold NOk; omega)
  · exact Or.inr (by unfold NOk; omega)

/-- A range's numbers below 0, and above. -/
def RNeg (l h : Int) : Int × Int := RMeet l h (-2147483648) (-1)
def RPos (l h : Int) : Int × Int := RMeet l h 1 2147483647
theorem rneg_has {l h v : Int} : RHas (RNeg l h).1 (RNeg l h).2 v ↔ RHas l h v ∧ v < 0 := by
  unfold RNeg
  rw [RMeet_has]
  constructor
  · rintro ⟨a, b⟩; exact ⟨a, by have := b.2.2; omega⟩
  · rintro ⟨a, b⟩; have := a.nok.1; unfold NOk at this; exact ⟨a, Or.inr (by unfold NOk; omega), by omega, by omega⟩
theorem rpos_has {l h v : Int} : RHas (RPos l h).1 (RPos l h).2 v ↔ RHas l h v ∧ 0 < v := by
  unfold RPos
  rw [RMeet_has]
  constructor
  · rintro ⟨a, b⟩; exact ⟨a, by have := b.2.1; omega⟩
  · rintro ⟨a, b⟩; have := a.nok.1; unfold NOk at this; exact ⟨a, Or.inr (by unfold NOk; omega), by omega, by omega⟩
theorem RNeg_ok (l h : Int) : ROk (RNeg l h).1 (RNeg l h).2 := RMeet_ok _ _ _ _
theorem RPos_ok (l h : Int) : ROk (RPos l h).1 (RPos l h).2 := RMeet_ok _ _ _ _
/-- The ends of what a range has below 0 are below 0; of what it has above, above. -/
theorem RNeg_ends {l h : Int} (e : ¬ (RNeg l h).1 > (RNeg l h).2) : NOk (RNeg l h).1 ∧ (RNeg l h).2 < 0 ∧ (RNeg l h).1 ≤ (RNeg l h).2 := by
  have o := RNeg_ok l h
  have := (rneg_has (l := l) (h := h) (v := (RNeg l h).2)).mp ⟨o, by omega, by omega⟩
  have := o.some e
  exact ⟨this.1, by omega, by omega⟩
theorem RPos_ends {l h : Int} (e : ¬ (RPos l h).1 > (RPos l h).2) : 0 < (RPos l h).1 ∧ NOk (RPos l h).2 ∧ (RPos l h).1 ≤ (RPos l h).2 := by
  have o := RPos_ok l h
  have := (rpos_has (l := l) (h := h) (v := (RPos l h).1)).mp ⟨o, by omega, by omega⟩
  have := o.some e
  exact ⟨by omega, this.2.1, by omega⟩

def RDiv (al ah bl bh : Int) : Int × Int :=
  let n := RNeg bl bh
  let p := RPos bl bh
  if n.1 > n.2 then if p.1 > p.2 then (1, 0) else RFrom (CLo Int.tdiv al ah p.1 p.2) (CHi Int.tdiv al ah p.1 p.2)
  else if p.1 > p.2 then RFrom (CLo Int.tdiv al ah n.1 n.2) (CHi Int.tdiv al ah n.1 n.2)
  else RFrom (min (CLo Int.tdiv al ah p.1 p.2) (CLo Int.tdiv al ah n.1 n.2)) (max (CHi Int.tdiv al ah p.1 p.2) (CHi Int.tdiv al ah n.1 n.2))
def RRemBy (al ah l h : Int) : Int × Int :=
  if al > -l ∧ ah < l then (al, ah) else (if al < 0 then max al (1 - h) else 0, if ah > 0 then min ah (h - 1) else 0)
def RRem (al ah bl bh : Int) : Int × Int :=
  if al = ah ∧ bl = bh ∧ bl ≠ 0 then (Int.tmod al bl, Int.tmod al bl)
  else
    let n := RNeg bl bh
    let p := RPos bl bh
    let o := if n.1 > n.2 then (1, 0) else RJoin 1 0 (RRemBy al ah (-n.2) (-n.1)).1 (RRemBy al ah (-n.2) (-n.1)).2
    if p.1 > p.2 then o else RJoin o.1 o.2 (RRemBy al ah p.1 p.2).1 (RRemBy al ah p.1 p.2).2
/-- The least number of ones, in bits, from x on, that is at least m. -/
def maskF : Nat → Int → Int → Int
  | 0, x, _ => x
  | k + 1, x, m => if x < m then maskF k (2 * x + 1) m else x
def RBits (op al ah bl bh : Int) : Int × Int :=
  if al = ah ∧ bl = bh then (Exact op al bl, Exact op al bl)
  else if op = 6 then
    if 0 ≤ al ∧ 0 ≤ bl then (0, min ah bh) else if 0 ≤ al then (0, ah) else if 0 ≤ bl then (0, bh) else (-2147483648, 2147483647)
  else if al < 0 ∨ bl < 0 then (-2147483648, 2147483647)
  else (if op = 7 then max al bl else 0, maskF 31 0 (max ah bh))
def RShift (op al ah bl bh : Int) : Int × Int :=
  let c := RMeet bl bh 0 31
  if c.1 > c.2 then (1, 0) else RFrom (CLo (Exact op) al ah c.1 c.2) (CHi (Exact op) al ah c.1 c.2)
/-- The range and the faults that RangeDo tells. -/
def RDo (op al ah bl bh : Int) : Int × Int :=
  if ¬ (1 ≤ op ∧ op ≤ 13) ∨ ¬ ROk al ah ∨ ¬ ROk bl bh ∨ al > ah ∨ bl > bh then (1, 0)
  else if op ≤ 3 then RFrom (CLo (Exact op) al ah bl bh) (CHi (Exact op) al ah bl bh)
  else if 11 ≤ op then RWrap (CLo (Exact op) al ah bl bh) (CHi (Exact op) al ah bl bh)
  else if op = 9 ∨ op = 10 then RShift op al ah bl bh
  else if op = 4 then RDiv al ah bl bh
  else if op = 5 then RRem al ah bl bh
  else RBits op al ah bl bh
def Over (lo hi : Int) : Prop := lo < -2147483648 ∨ hi > 2147483647
instance (l h : Int) : Decidable (Over l h) := inferInstanceAs (Decidable (_ ∨ _))
def RFaults (op al ah bl bh : Int) : List Int :=
  if ¬ (1 ≤ op ∧ op ≤ 13) ∨ ¬ ROk al ah ∨ ¬ ROk bl bh ∨ al > ah ∨ bl > bh then []
  else if op ≤ 3 then if Over (CLo (Exact op) al ah bl bh) (CHi (Exact op) al ah bl bh) then [1] else []
  else if op = 9 ∨ op = 10 then
    (if ¬ (RMeet bl bh 0 31).1 > (RMeet bl bh 0 31).2 ∧ Over (CLo (Exact op) al ah (RMeet bl bh 0 31).1 (RMeet bl bh 0 31).2) (CHi (Exact op) al ah (RMeet bl bh 0 31).1 (RMeet bl bh 0 31).2) then [1] else []) ++
    (if (RMeet bl bh 0 31) = (bl, bh) then [] else [3])
  else if op = 4 then (if RHas al ah (-2147483648) ∧ RHas bl bh (-1) then [1] else []) ++ (if RHas bl bh 0 then [2] else [])
  else if op = 5 then if al = ah ∧ bl = bh ∧ bl ≠ 0 then [] else if RHas bl bh 0 then [2] else []
  else []

theorem tdiv_bad {u v : Int} (hu : NOk u) (hv : v ≠ 0) (h : ¬ NOk (Int.tdiv u v)) : u = -2147483648 ∧ v = -1 := by
  have e : (Int.tdiv u v).natAbs = u.natAbs / v.natAbs := Int.natAbs_tdiv u v
  have le : u.natAbs / v.natAbs ≤ u.natAbs := Nat.div_le_self _ _
  unfold NOk at *
  by_cases c : v.natAbs = 1
  · have : v = 1 ∨ v = -1 := by omega
    rcases this with rfl | rfl
    · simp only [Int.tdiv_one] at h; omega
    · simp only [Int.tdiv_neg, Int.tdiv_one] at h; omega
  · have : u.natAbs / v.natAbs ≤ u.natAbs / 2 := Nat.div_le_div_left (by omega) (by omega)
    omega
theorem RRemBy_has {al ah l h u v : Int} (a : al ≤ u) (b : u ≤ ah) (c : 0 < l) (d : l ≤ v.natAbs) (e : (v.natAbs : Int) ≤ h) :
    (RRemBy al ah l h).1 ≤ Int.tmod u v ∧ Int.tmod u v ≤ (RRemBy al ah l h).2 := by
  have m : (Int.tmod u v).natAbs = u.natAbs % v.natAbs := Int.natAbs_tmod u v
  have m1 : u.natAbs % v.natAbs < v.natAbs := Nat.mod_lt _ (by omega)
  have m2 : u.natAbs % v.natAbs ≤ u.natAbs := Nat.mod_le _ _
  have s1 : 0 ≤ u → 0 ≤ Int.tmod u v := fun h => Int.tmod_nonneg v h
  have s2 : u ≤ 0 → Int.tmod u v ≤ 0 := fun h => by
    have := Int.tmod_nonneg (a := -u) v (by omega)
    rw [Int.neg_tmod] at this; omega
  unfold RRemBy
  by_cases k : al > -l ∧ ah < l
  · rw [if_pos k]
    have : u.natAbs % v.natAbs = u.natAbs := Nat.mod_eq_of_lt (by omega)
    dsimp only
    omega
  · rw [if_neg k]
    dsimp only
    constructor
    · by_cases z : al < 0
      · rw [if_pos z]; omega
      · rw [if_neg z]; omega
    · by_cases z : ah > 0
      · rw [if_pos z]; omega
      · rw [if_neg z]; omega
theorem RRemBy_ok {al ah l h : Int} (a : NOk al) (b : NOk ah) (e : al ≤ ah) (c : 0 < l) (d : l ≤ h) : ROk (RRemBy al ah l h).1 (RRemBy al ah l h).2 := by
  right
  unfold RRemBy
  unfold NOk at *
  split
  · dsimp only; omega
  · dsimp only
    split <;> split <;> omega
theorem RJoin_has_left {l h l' h' v : Int} (o : ROk l h) (o' : ROk l' h') (x : RHas l h v) : RHas (RJoin l h l' h').1 (RJoin l h l' h').2 v := (RIn_join_left o o').has x
theorem RJoin_has_right {l h l' h' v : Int} (o : ROk l h) (o' : ROk l' h') (x : RHas l' h' v) : RHas (RJoin l h l' h').1 (RJoin l h l' h').2 v := (RIn_join_right o o').has x

theorem RRem_ok {al ah bl bh : Int} (oa : ROk al ah) (ea : ¬ al > ah) : ROk (RRem al ah bl bh).1 (RRem al ah bl bh).2 := by
  have A := oa.some ea
  unfold RRem
  by_cases c : al = ah ∧ bl = bh ∧ bl ≠ 0
  · rw [if_pos c]
    have : -2147483648 ≤ Int.tmod al bl ∧ Int.tmod al bl ≤ 2147483647 := by
      have h2 : (Int.tmod al bl).natAbs ≤ al.natAbs := by rw [Int.natAbs_tmod]; exact Nat.mod_le _ _
      have s1 : 0 ≤ al → 0 ≤ Int.tmod al bl := fun h => Int.tmod_nonneg bl h
      have := A.1; unfold NOk at this
      by_cases z : 0 ≤ al
      · have := s1 z; omega
      · have := Int.tmod_nonneg (a := -al) bl (by omega)
        rw [Int.neg_tmod] at this; omega
    exact Or.inr (by unfold NOk; omega)
  · rw [if_neg c]
    dsimp only
    split
    · split
      · exact rok_none
      · exact RJoin_ok _ _ _ _
    · exact RJoin_ok _ _ _ _
theorem RRem_has {al ah bl bh u v : Int} (oa : ROk al ah) (ob : ROk bl bh) (hu : RHas al ah u) (hv : RHas bl bh v) (nz : v ≠ 0) :
    RHas (RRem al ah bl bh).1 (RRem al ah bl bh).2 (Int.tmod u v) := by
  have ea := hu.nok.2
  have A := oa.some ea
  have K := RRem_ok (bl := bl) (bh := bh) oa ea
  unfold RRem at K ⊢
  by_cases c : al = ah ∧ bl = bh ∧ bl ≠ 0
  · rw [if_pos c] at K ⊢
    obtain ⟨rfl, rfl, -⟩ := c
    have e1 : u = al := by have := hu.2; omega
    have e2 : v = bl := by have := hv.2; omega
    subst e1; subst e2
    exact ⟨K, Int.le_refl _, Int.le_refl _⟩
  · rw [if_neg c] at K ⊢
    dsimp only at K ⊢
    have NOK : ROk (if (RNeg bl bh).1 > (RNeg bl bh).2 then ((1 : Int), (0 : Int)) else RJoin 1 0 (RRemBy al ah (-(RNeg bl bh).2) (-(RNeg bl bh).1)).1 (RRemBy al ah (-(RNeg bl bh).2) (-(RNeg bl bh).1)).2).1 (if (RNeg bl bh).1 > (RNeg bl bh).2 then ((1 : Int), (0 : Int)) else RJoin 1 0 (RRemBy al ah (-(RNeg bl bh).2) (-(RNeg bl bh).1)).1 (RRemBy al ah (-(RNeg bl bh).2) (-(RNeg bl bh).1)).2).2 := by
      split
      · exact rok_none
      · exact RJoin_ok _ _ _ _
    by_cases s : v < 0
    · have hn := rneg_has.mpr ⟨hv, s⟩
      have en : ¬ (RNeg bl bh).1 > (RNeg bl bh).2 := hn.nok.2
      have E := RNeg_ends en
      have B := RRemBy_has (al := al) (ah := ah) (l := -(RNeg bl bh).2) (h := -(RNeg bl bh).1) (u := u) (v := v) hu.2.1 hu.2.2 (by omega) (by have := hn.2; omega) (by have := hn.2; omega)
      have O := RRemBy_ok A.1 A.2.1 A.2.2 (l := -(RNeg bl bh).2) (h := -(RNeg bl bh).1) (by omega) (by omega)
      rw [if_neg en] at NOK ⊢
      have X : RHas _ _ (Int.tmod u v) := RJoin_has_right (l := 1) (h := 0) rok_none O ⟨O, B.1, B.2⟩
      by_cases ep : (RPos bl bh).1 > (RPos bl bh).2
      · rw [if_pos ep]; exact X
      · rw [if_neg ep]
        have F := RPos_ends ep
        exact RJoin_has_left NOK (RRemBy_ok A.1 A.2.1 A.2.2 F.1 F.2.2) X
    · have hp := rpos_has.mpr ⟨hv, by omega⟩
      have ep : ¬ (RPos bl bh).1 > (RPos bl bh).2 := hp.nok.2
      have E := RPos_ends ep
      have B := RRemBy_has (al := al) (ah := ah) (l := (RPos bl bh).1) (h := (RPos bl bh).2) (u := u) (v := v) hu.2.1 hu.2.2 E.1 (by have := hp.2; omega) (by have := hp.2; omega)
      have O := RRemBy_ok A.1 A.2.1 A.2.2 E.1 E.2.2
      rw [if_neg ep]
      exact RJoin_has_right NOK O ⟨O, B.1, B.2⟩

theorem low_nonneg {x : Int} (h : NOk x) (h0 : 0 ≤ x) : low x = x.toNat := by
  unfold low; unfold NOk at h; congr 1; omega
theorem bits_in {op a b : Int} (hop : op = 6 ∨ op = 7 ∨ op = 8) (ha : NOk a) (hb : NOk b) : NOk (Exact op a b) := by
  rcases hop with rfl | rfl | rfl
  · rw [show Exact 6 a b = Go.bits .and .i64 a b by simp [Exact], bits_and32 ha hb]; exact wrap32_in _
  · rw [show Exact 7 a b = Go.bits .or .i64 a b by simp [Exact], bits_or32 ha hb]; exact wrap32_in _
  · rw [show Exact 8 a b = Go.bits .xor .i64 a b by simp [Exact], bits_xor32 ha hb]; exact wrap32_in _
theorem and_left {a b : Int} (ha : NOk a) (hb : NOk b) (h0 : 0 ≤ a) : 0 ≤ Exact 6 a b ∧ Exact 6 a b ≤ a := by
  rw [show Exact 6 a b = Go.bits .and .i64 a b by simp [Exact], bits_and32 ha hb, low_nonneg ha h0]
  have : a.toNat &&& low b ≤ a.toNat := Nat.and_le_left
  unfold NOk at ha
  rw [wrap32_id (by omega) (by omega)]
  omega
theorem and_right {a b : Int} (ha : NOk a) (hb : NOk b) (h0 : 0 ≤ b) : 0 ≤ Exact 6 a b ∧ Exact 6 a b ≤ b := by
  rw [show Exact 6 a b = Go.bits .and .i64 a b by simp [Exact], bits_and32 ha hb, low_nonneg hb h0]
  have : low a &&& b.toNat ≤ b.toNat := Nat.and_le_right
  unfold NOk at hb
  rw [wrap32_id (by omega) (by omega)]
  omega
theorem or_in {a b : Int} {n : Nat} (ha : NOk a) (hb : NOk b) (h0 : 0 ≤ a) (h1 : 0 ≤ b) (hn : n ≤ 31) (ha' : a < 2 ^ n) (hb' : b < 2 ^ n) : a ≤ Exact 7 a b ∧ b ≤ Exact 7 a b ∧ Exact 7 a b < 2 ^ n := by
  have e : ((2 ^ n : Nat) : Int) = 2 ^ n := by push_cast; rfl
  have p : (2 : Int) ^ n ≤ 2147483648 := by
    have := pow_le' hn
    have e : (2 : Int) ^ 31 = 2147483648 := by decide
    omega
  rw [show Exact 7 a b = Go.bits .or .i64 a b by simp [Exact], bits_or32 ha hb, low_nonneg ha h0, low_nonneg hb h1]
  have h : a.toNat ||| b.toNat < 2 ^ n := Nat.or_lt_two_pow (by omega) (by omega)
  have l1 : a.toNat ≤ a.toNat ||| b.toNat := Nat.left_le_or
  have l2 : b.toNat ≤ a.toNat ||| b.toNat := Nat.right_le_or
  rw [wrap32_id (by omega) (by omega)]
  omega
theorem xor_in {a b : Int} {n : Nat} (ha : NOk a) (hb : NOk b) (h0 : 0 ≤ a) (h1 : 0 ≤ b) (hn : n ≤ 31) (ha' : a < 2 ^ n) (hb' : b < 2 ^ n) : 0 ≤ Exact 8 a b ∧ Exact 8 a b < 2 ^ n := by
  have e : ((2 ^ n : Nat) : Int) = 2 ^ n := by push_cast; rfl
  have p : (2 : Int) ^ n ≤ 2147483648 := by
    have := pow_le' hn
    have e : (2 : Int) ^ 31 = 2147483648 := by decide
    omega
  rw [show Exact 8 a b = Go.bits .xor .i64 a b by simp [Exact], bits_xor32 ha hb, low_nonneg ha h0, low_nonneg hb h1]
  have h : a.toNat ^^^ b.toNat < 2 ^ n := Nat.xor_lt_two_pow (by omega) (by omega)
  rw [wrap32_id (by omega) (by omega)]
  omega
theorem maskF_spec : ∀ (k j : Nat) (m : Int), j + k = 31 → m ≤ 2147483647 → ∃ n : Nat, n ≤ 31 ∧ maskF k (2 ^ j - 1) m = 2 ^ n - 1 ∧ m ≤ 2 ^ n - 1
  | 0, j, m, h, hm => ⟨31, by omega, by rw [show j = 31 by omega]; rfl, by have e : (2 : Int) ^ 31 = 2147483648 := by decide
                                                                           omega⟩
  | k + 1, j, m, h, hm => by
    unfold maskF
    by_cases c : (2 : Int) ^ j - 1 < m
    · rw [if_pos c]
      have e : 2 * ((2 : Int) ^ j - 1) + 1 = 2 ^ (j + 1) - 1 := by rw [Int.pow_succ]; omega
      rw [e]
      exact maskF_spec k (j + 1) m (by omega) hm
    · rw [if_neg c]
      exact ⟨j, by omega, rfl, by omega⟩
theorem mask_spec {m : Int} (hm : m ≤ 2147483647) : ∃ n : Nat, n ≤ 31 ∧ maskF 31 0 m = 2 ^ n - 1 ∧ m ≤ 2 ^ n - 1 := by
  have := maskF_spec 31 0 m (by omega) hm
  simpa using this

theorem RBits_has {op al ah bl bh u v : Int} (hop : op = 6 ∨ op = 7 ∨ op = 8) (oa : ROk al ah) (ob : ROk bl bh) (hu : RHas al ah u) (hv : RHas bl bh v) :
    RHas (RBits op al ah bl bh).1 (RBits op al ah bl bh).2 (Exact op u v) := by
  have A := oa.some hu.nok.2
  have B := ob.some hv.nok.2
  have U := hu.nok.1
  have V := hv.nok.1
  have X := bits_in hop U V
  have hu2 := hu.2
  have hv2 := hv.2
  have full : RHas (-2147483648) 2147483647 (Exact op u v) := ⟨Or.inr (by unfold NOk; omega), X⟩
  unfold RBits
  by_cases c : al = ah ∧ bl = bh
  · rw [if_pos c]
    obtain ⟨rfl, rfl⟩ := c
    have e1 : u = al := by omega
    have e2 : v = bl := by omega
    subst e1; subst e2
    exact ⟨Or.inr ⟨X, X, Int.le_refl _⟩, Int.le_refl _, Int.le_refl _⟩
  rw [if_neg c]
  by_cases c6 : op = 6
  · subst c6
    rw [if_pos rfl]
    have L := and_left U V
    have R := and_right U V
    unfold NOk at A B
    by_cases h1 : 0 ≤ al ∧ 0 ≤ bl
    · rw [if_pos h1]
      have := L (by omega)
      have := R (by omega)
      exact ⟨Or.inr (by unfold NOk; dsimp only; omega), by dsimp only; omega, by dsimp only; omega⟩
    rw [if_neg h1]
    by_cases h2 : 0 ≤ al
    · rw [if_pos h2]
      have := L (by omega)
      exact ⟨Or.inr (by unfold NOk; dsimp only; omega), by dsimp only; omega, by dsimp only; omega⟩
    rw [if_neg h2]
    by_cases h3 : 0 ≤ bl
    · rw [if_pos h3]
      have := R (by omega)
      exact ⟨Or.inr (by unfold NOk; dsimp only; omega), by dsimp only; omega, by dsimp only; omega⟩
    rw [if_neg h3]
    exact full
  rw [if_neg c6]
  by_cases c0 : al < 0 ∨ bl < 0
  · rw [if_pos c0]; exact full
  rw [if_neg c0]
  unfold NOk at A B
  obtain ⟨n, hn, e, le⟩ := mask_spec (m := max ah bh) (by omega)
  rw [e]
  have p : (2 : Int) ^ n ≤ 2147483648 := by
    have := pow_le' hn
    have e : (2 : Int) ^ 31 = 2147483648 := by decide
    omega
  rcases hop with rfl | rfl | rfl
  · exact absurd rfl c6
  · rw [if_pos rfl]
    have := or_in U V (by omega) (by omega) hn (by omega) (by omega)
    exact ⟨Or.inr (by unfold NOk; dsimp only; omega), by dsimp only; omega, by dsimp only; omega⟩
  · rw [if_neg (by decide)]
    have := xor_in U V (by omega) (by omega) hn (by omega) (by omega)
    exact ⟨Or.inr (by unfold NOk; dsimp only; omega), by dsimp only; omega, by dsimp only; omega⟩

theorem RDiv_ok (al ah bl bh : Int) : ROk (RDiv al ah bl bh).1 (RDiv al ah bl bh).2 := by
  unfold RDiv
  dsimp only
  split
  · split
    · exact rok_none
    · exact RFrom_ok _ _
  · split
    · exact RFrom_ok _ _
    · exact RFrom_ok _ _
theorem RDiv_has {al ah bl bh u v : Int} (hu : RHas al ah u) (hv : RHas bl bh v) (nz : v ≠ 0) (k : NOk (Int.tdiv u v)) :
    RHas (RDiv al ah bl bh).1 (RDiv al ah bl bh).2 (Int.tdiv u v) := by
  have ex : Exact 4 = Int.tdiv := by funext a b; simp [Exact]
  have hu2 := hu.2
  unfold RDiv
  dsimp only
  by_cases s : v < 0
  · have hn := rneg_has.mpr ⟨hv, s⟩
    have en : ¬ (RNeg bl bh).1 > (RNeg bl bh).2 := hn.nok.2
    have C := corners (op := 4) (al := al) (ah := ah) (bl := (RNeg bl bh).1) (bh := (RNeg bl bh).2) (u := u) (v := v) (Or.inr (Or.inr (Or.inr (Or.inl ⟨rfl, Or.inr (RNeg_ends en).2.1⟩)))) hu2.1 hu2.2 hn.2.1 hn.2.2
    rw [ex] at C
    rw [if_neg en]
    split
    · rw [RFrom_has]; exact ⟨k, C⟩
    · rw [RFrom_has]; exact ⟨k, by omega, by omega⟩
  · have hp := rpos_has.mpr ⟨hv, by omega⟩
    have ep : ¬ (RPos bl bh).1 > (RPos bl bh).2 := hp.nok.2
    have C := corners (op := 4) (al := al) (ah := ah) (bl := (RPos bl bh).1) (bh := (RPos bl bh).2) (u := u) (v := v) (Or.inr (Or.inr (Or.inr (Or.inl ⟨rfl, Or.inl (RPos_ends ep).1⟩)))) hu2.1 hu2.2 hp.2.1 hp.2.2
    rw [ex] at C
    rw [if_neg ep, if_neg ep]
    split
    · rw [RFrom_has]; exact ⟨k, C⟩
    · rw [RFrom_has]; exact ⟨k, by omega, by omega⟩

/-- What an operator makes of numbers of two ranges is in the range that is told, or its fault is. -/
theorem RDo_has {op al ah bl bh u v : Int} (h1 : 1 ≤ op) (h2 : op ≤ 13) (hu : RHas al ah u) (hv : RHas bl bh v) :
    ((NumDo op u v).2 = 0 → RHas (RDo op al ah bl bh).1 (RDo op al ah bl bh).2 (NumDo op u v).1) ∧ ((NumDo op u v).2 ≠ 0 → (NumDo op u v).2 ∈ RFaults op al ah bl bh) := by
  have U := hu.nok
  have V := hv.nok
  have hu2 := hu.2
  have hv2 := hv.2
  have g : ¬ (¬ (1 ≤ op ∧ op ≤ 13) ∨ ¬ ROk al ah ∨ ¬ ROk bl bh ∨ al > ah ∨ bl > bh) := by
    simp only [not_or, Decidable.not_not]
    exact ⟨⟨h1, h2⟩, hu.1, hv.1, U.2, V.2⟩
  unfold RDo RFaults NumDo
  rw [if_neg g, if_neg g, if_neg (by simp only [not_or, Decidable.not_not]; exact ⟨⟨h1, h2⟩, U.1, V.1⟩)]
  by_cases a : op ≤ 3
  · rw [if_pos a, if_pos a, if_neg (by omega), if_neg (by omega), if_neg (by omega)]
    have C := corners (op := op) (by omega) hu2.1 hu2.2 hv2.1 hv2.2
    by_cases k : NOk (Exact op u v)
    · rw [if_pos k, RFrom_has]; exact ⟨fun _ => ⟨k, C⟩, fun h => absurd rfl h⟩
    · rw [if_neg k]
      refine ⟨fun h => absurd h (by decide), fun _ => ?_⟩
      rw [if_pos (by unfold Over; unfold NOk at k; omega)]
      exact List.mem_cons_self ..
  rw [if_neg a, if_neg a]
  by_cases b : 11 ≤ op
  · rw [if_pos b, if_neg (by omega), if_neg (by omega), if_pos b]
    have C := corners (op := op) (by omega) hu2.1 hu2.2 hv2.1 hv2.2
    exact ⟨fun _ => RWrap_has C.1 C.2, fun h => absurd rfl h⟩
  rw [if_neg b, if_neg b]
  by_cases c : op = 9 ∨ op = 10
  · rw [if_pos c, if_pos c, if_neg (by omega)]
    by_cases s : v < 0 ∨ v > 31
    · rw [if_pos ⟨c, s⟩]
      refine ⟨fun h => absurd h (by decide), fun _ => ?_⟩
      rw [if_neg (c := RMeet bl bh 0 31 = (bl, bh))]
      · simp
      · intro e
        have h := RMeet_has bl bh 0 31 v
        rw [e] at h
        have := (h.mp hv).2.2
        omega
    · rw [if_neg (by omega)]
      have hc := (RMeet_has bl bh 0 31 v).mpr ⟨hv, Or.inr (by unfold NOk; omega), by omega, by omega⟩
      have C := corners (op := op) (bl := (RMeet bl bh 0 31).1) (bh := (RMeet bl bh 0 31).2) (by omega) hu2.1 hu2.2 hc.2.1 hc.2.2
      unfold RShift
      dsimp only
      rw [if_neg hc.nok.2]
      by_cases k : NOk (Exact op u v)
      · rw [if_pos k, RFrom_has]; exact ⟨fun _ => ⟨k, C⟩, fun h => absurd rfl h⟩
      · rw [if_neg k]
        refine ⟨fun h => absurd h (by decide), fun _ => ?_⟩
        rw [if_pos ⟨hc.nok.2, by unfold Over; unfold NOk at k; omega⟩]
        simp
  rw [if_neg c, if_neg c]
  by_cases d : op = 4
  · rw [if_pos d, if_pos d]
    have ex : Exact op u v = Int.tdiv u v := by subst d; simp [Exact]
    by_cases z : v = 0
    · rw [if_pos ⟨Or.inl d, z⟩]
      subst z
      refine ⟨fun h => absurd h (by decide), fun _ => ?_⟩
      rw [if_pos hv]; simp
    · rw [if_neg (by omega), if_neg (by omega), ex]
      by_cases k : NOk (Int.tdiv u v)
      · rw [if_pos k]; exact ⟨fun _ => RDiv_has hu hv z k, fun h => absurd rfl h⟩
      · rw [if_neg k]
        obtain ⟨rfl, rfl⟩ := tdiv_bad U.1 z k
        refine ⟨fun h => absurd h (by decide), fun _ => ?_⟩
        rw [if_pos ⟨hu, hv⟩]; simp
  rw [if_neg d, if_neg d]
  by_cases e : op = 5
  · rw [if_pos e, if_pos e]
    have ex : Exact op u v = Int.tmod u v := by subst e; simp [Exact]
    by_cases z : v = 0
    · rw [if_pos ⟨Or.inr e, z⟩]
      subst z
      refine ⟨fun h => absurd h (by decide), fun _ => ?_⟩
      rw [if_neg (by rintro ⟨-, rfl, n⟩; omega), if_pos hv]; simp
    · rw [if_neg (by omega), if_neg (by omega), ex]
      have X := RRem_has hu.1 hv.1 hu hv z
      rw [if_pos X.nok.1]
      exact ⟨fun _ => X, fun h => absurd rfl h⟩
  rw [if_neg e, if_neg e, if_neg (by omega), if_neg (by omega)]
  have X := RBits_has (op := op) (by omega) hu.1 hv.1 hu hv
  rw [if_pos X.nok.1]
  exact ⟨fun _ => X, fun h => absurd rfl h⟩
theorem RDo_ok (op al ah bl bh : Int) : ROk (RDo op al ah bl bh).1 (RDo op al ah bl bh).2 := by
  unfold RDo
  by_cases g : ¬ (1 ≤ op ∧ op ≤ 13) ∨ ¬ ROk al ah ∨ ¬ ROk bl bh ∨ al > ah ∨ bl > bh
  · rw [if_pos g]; exact rok_none
  rw [if_neg g]
  have oa : ROk al ah := Decidable.byContradiction fun n => g (Or.inr (Or.inl n))
  have ob : ROk bl bh := Decidable.byContradiction fun n => g (Or.inr (Or.inr (Or.inl n)))
  have hu : RHas al ah al := ⟨oa, by omega, by omega⟩
  have hv : RHas bl bh bl := ⟨ob, by omega, by omega⟩
  by_cases a : op ≤ 3
  · rw [if_pos a]; exact RFrom_ok _ _
  rw [if_neg a]
  by_cases b : 11 ≤ op
  · rw [if_pos b]; exact RWrap_ok _ _
  rw [if_neg b]
  by_cases c : op = 9 ∨ op = 10
  · rw [if_pos c]; unfold RShift; dsimp only; split
    · exact rok_none
    · exact RFrom_ok _ _
  rw [if_neg c]
  by_cases d : op = 4
  · rw [if_pos d]; exact RDiv_ok _ _ _ _
  rw [if_neg d]
  by_cases e : op = 5
  · rw [if_pos e]; exact RRem_ok oa hu.nok.2
  rw [if_neg e]
  exact (RBits_has (op := op) (by omega) oa ob hu hv).1

/-- An operator, and two ranges that have numbers. -/
def RGood (op al ah bl bh : Int) : Prop := (1 ≤ op ∧ op ≤ 13) ∧ ROk al ah ∧ ROk bl bh ∧ ¬ al > ah ∧ ¬ bl > bh
theorem RGood.not {op al ah bl bh : Int} (g : RGood op al ah bl bh) : ¬ (¬ (1 ≤ op ∧ op ≤ 13) ∨ ¬ ROk al ah ∨ ¬ ROk bl bh ∨ al > ah ∨ bl > bh) := by
  simp only [not_or, Decidable.not_not]; exact g
theorem RGood.a {op al ah bl bh : Int} (g : RGood op al ah bl bh) : NOk al ∧ NOk ah ∧ al ≤ ah := g.2.1.some g.2.2.2.1
theorem RGood.b {op al ah bl bh : Int} (g : RGood op al ah bl bh) : NOk bl ∧ NOk bh ∧ bl ≤ bh := g.2.2.1.some g.2.2.2.2
theorem RDo_bad {op al ah bl bh : Int} (g : ¬ (1 ≤ op ∧ op ≤ 13) ∨ ¬ ROk al ah ∨ ¬ ROk bl bh ∨ al > ah ∨ bl > bh) : RDo op al ah bl bh = (1, 0) := by unfold RDo; rw [if_pos g]
theorem RFaults_bad {op al ah bl bh : Int} (g : ¬ (1 ≤ op ∧ op ≤ 13) ∨ ¬ ROk al ah ∨ ¬ ROk bl bh ∨ al > ah ∨ bl > bh) : RFaults op al ah bl bh = [] := by unfold RFaults; rw [if_pos g]
theorem RDo_low {op al ah bl bh : Int} (g : RGood op al ah bl bh) (h : op ≤ 3) : RDo op al ah bl bh = RFrom (CLo (Exact op) al ah bl bh) (CHi (Exact op) al ah bl bh) := by
  unfold RDo; rw [if_neg g.not, if_pos h]
theorem RFaults_low {op al ah bl bh : Int} (g : RGood op al ah bl bh) (h : op ≤ 3) : RFaults op al ah bl bh = if Over (CLo (Exact op) al ah bl bh) (CHi (Exact op) al ah bl bh) then [1] else [] := by
  unfold RFaults; rw [if_neg g.not, if_pos h]
theorem RDo_wrap {op al ah bl bh : Int} (g : RGood op al ah bl bh) (h : 11 ≤ op) : RDo op al ah bl bh = RWrap (CLo (Exact op) al ah bl bh) (CHi (Exact op) al ah bl bh) := by
  unfold RDo; rw [if_neg g.not, if_neg (by omega), if_pos h]
theorem RFaults_wrap {op al ah bl bh : Int} (g : RGood op al ah bl bh) (h : 11 ≤ op) : RFaults op al ah bl bh = [] := by
  unfold RFaults; rw [if_neg g.not, if_neg (by omega), if_neg (by omega), if_neg (by omega), if_neg (by omega)]
theorem RDo_shift {op al ah bl bh : Int} (g : RGood op al ah bl bh) (h : op = 9 ∨ op = 10) : RDo op al ah bl bh = RShift op al ah bl bh := by
  unfold RDo; rw [if_neg g.not, if_neg (by omega), if_neg (by omega), if_pos h]
theorem RFaults_shift {op al ah bl bh : Int} (g : RGood op al ah bl bh) (h : op = 9 ∨ op = 10) : RFaults op al ah bl bh =
    (if ¬ (RMeet bl bh 0 31).1 > (RMeet bl bh 0 31).2 ∧ Over (CLo (Exact op) al ah (RMeet bl bh 0 31).1 (RMeet bl bh 0 31).2) (CHi (Exact op) al ah (RMeet bl bh 0 31).1 (RMeet bl bh 0 31).2) then [1] else []) ++
    (if (RMeet bl bh 0 31) = (bl, bh) then [] else [3]) := by
  unfold RFaults; rw [if_neg g.not, if_neg (by omega), if_pos h]
theorem RDo_div {al ah bl bh : Int} (g : RGood 4 al ah bl bh) : RDo 4 al ah bl bh = RDiv al ah bl bh := by
  unfold RDo; rw [if_neg g.not, if_neg (by omega), if_neg (by omega), if_neg (by omega), if_pos rfl]
theorem RFaults_div {al ah bl bh : Int} (g : RGood 4 al ah bl bh) : RFaults 4 al ah bl bh = (if RHas al ah (-2147483648) ∧ RHas bl bh (-1) then [1] else []) ++ (if RHas bl bh 0 then [2] else []) := by
  unfold RFaults; rw [if_neg g.not, if_neg (by omega), if_neg (by omega), if_pos rfl]
theorem RDo_rem {al ah bl bh : Int} (g : RGood 5 al ah bl bh) : RDo 5 al ah bl bh = RRem al ah bl bh := by
  unfold RDo; rw [if_neg g.not, if_neg (by omega), if_neg (by omega), if_neg (by omega), if_neg (by omega), if_pos rfl]
theorem RFaults_rem {al ah bl bh : Int} (g : RGood 5 al ah bl bh) : RFaults 5 al ah bl bh = if al = ah ∧ bl = bh ∧ bl ≠ 0 then [] else if RHas bl bh 0 then [2] else [] := by
  unfold RFaults; rw [if_neg g.not, if_neg (by omega), if_neg (by omega), if_neg (by omega), if_pos rfl]
theorem RDo_bits {op al ah bl bh : Int} (g : RGood op al ah bl bh) (h : op = 6 ∨ op = 7 ∨ op = 8) : RDo op al ah bl bh = RBits op al ah bl bh := by
  unfold RDo; rw [if_neg g.not, if_neg (by omega), if_neg (by omega), if_neg (by omega), if_neg (by omega), if_neg (by omega)]
theorem RFaults_bits {op al ah bl bh : Int} (g : RGood op al ah bl bh) (h : op = 6 ∨ op = 7 ∨ op = 8) : RFaults op al ah bl bh = [] := by
  unfold RFaults; rw [if_neg g.not, if_neg (by omega), if_neg (by omega), if_neg (by omega), if_neg (by omega)]
theorem RFaults_len (op al ah bl bh : Int) : (RFaults op al ah bl bh).length ≤ 2 := by
  unfold RFaults
  have e : ∀ (p q : Prop) [Decidable p] [Decidable q] (x y : Int), ((if p then [x] else []) ++ (if q then [] else [y])).length ≤ 2 := fun p q _ _ x y => by
    split <;> split <;> simp
  have e' : ∀ (p q : Prop) [Decidable p] [Decidable q] (x y : Int), ((if p then [x] else []) ++ (if q then [y] else [])).length ≤ 2 := fun p q _ _ x y => by
    split <;> split <;> simp
  split
  · simp
  · split
    · split <;> simp
    · split
      · exact e _ _ _ _
      · split
        · exact e' _ _ _ _
        · split
          · split
            · simp
            · split <;> simp
          · simp
theorem RFrom_id {a b : Int} (ha : NOk a) (hb : NOk b) (h : a ≤ b) : RFrom a b = (a, b) := by
  unfold NOk at ha hb
  unfold RFrom
  rw [if_neg (by omega), Prod.mk.injEq]
  exact ⟨by omega, by omega⟩
theorem exact_wrap_in {op a b : Int} (h : 11 ≤ op) (h' : op ≤ 13) (ha : NOk a) (hb : NOk b) : -4611686016279904256 ≤ Exact op a b ∧ Exact op a b ≤ 4611686018427387904 := by
  have m := mul_in32 ha hb
  have m' : -4611686016279904256 ≤ a * b := by
    unfold NOk at ha hb
    by_cases x : 0 ≤ a <;> by_cases y : 0 ≤ b
    · have := Int.mul_nonneg x y; omega
    · have := mul_in (a := a) (b := b) (A := 2147483647) (B := 2147483648) (by omega) (by omega) (by omega) (by omega); omega
    · have := mul_in (a := a) (b := b) (A := 2147483648) (B := 2147483647) (by omega) (by omega) (by omega) (by omega); omega
    · have := Int.mul_nonneg_of_nonpos_of_nonpos (a := a) (b := b) (by omega) (by omega); omega
  unfold NOk at ha hb
  have k : op = 11 ∨ op = 12 ∨ op = 13 := by omega
  rcases k with rfl | rfl | rfl
  · rw [show Exact 11 a b = a + b by simp [Exact]]; omega
  · rw [show Exact 12 a b = a - b by simp [Exact]]; omega
  · rw [show Exact 13 a b = a * b by simp [Exact]]; omega
/-- An ok range is not none where it has a number. -/
theorem ROk.ne_none {l h : Int} (o : ROk l h) : ((!(l == 1) || (!(h == 0))) = true) ↔ ¬ l > h := by
  have := o.empty_iff
  simp only [Bool.or_eq_true, Bool.not_eq_true', beq_eq_false_iff_ne, ne_eq]
  omega
theorem ROk.is_none {l h : Int} (o : ROk l h) : ((l == 1 && (h == 0)) = true) ↔ l > h := by
  have := o.empty_iff
  simp only [Bool.and_eq_true, beq_iff_eq]
  omega
theorem RMeet_ends {l h p q : Int} (e : ¬ (RMeet l h p q).1 > (RMeet l h p q).2) : p ≤ (RMeet l h p q).1 ∧ (RMeet l h p q).2 ≤ q ∧ l ≤ (RMeet l h p q).1 ∧ (RMeet l h p q).2 ≤ h ∧ NOk (RMeet l h p q).1 ∧ NOk (RMeet l h p q).2 := by
  have o := RMeet_ok l h p q
  have a := (RMeet_has l h p q (RMeet l h p q).1).mp ⟨o, by omega, by omega⟩
  have b := (RMeet_has l h p q (RMeet l h p q).2).mp ⟨o, by omega, by omega⟩
  have := o.some e
  exact ⟨a.2.2.1, b.2.2.2, a.1.2.1, b.1.2.2, this.1, this.2.1⟩
end Go.Proofs.Ytlbheepfmjbpnaa.Base
