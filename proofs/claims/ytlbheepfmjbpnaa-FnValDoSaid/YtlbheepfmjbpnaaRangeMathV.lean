/- Ranges of numbers of 32 bits: plain definitions and their laws. Conditions: those in each law. -/
import Derived.Test.YtlbheepfmjbpnaaBitsV
namespace Go.Proofs.Ytlbheepfmjbpnaa.Base
set_option linter.unusedVariables false
set_option linter.unusedSimpArgs false
open Go.RowKit Go.Proofs.YtlbheepfmjbpnaaW.PrintWords Go.Proofs.YtlbheepfmjbpnaaW.PrintMore

def ROk (l h : Int) : Prop := (l = 1 ∧ h = 0) ∨ (NOk l ∧ NOk h ∧ l ≤ h)
instance (l h : Int) : Decidable (ROk l h) := inferInstanceAs (Decidable (_ ∨ _))
def RFrom (a b : Int) : Int × Int := if max a (-2147483648) > min b 2147483647 then (1, 0) else (max a (-2147483648), min b 2147483647)
def RJoin (l h l' h' : Int) : Int × Int := if ¬ ROk l h ∨ ¬ ROk l' h' then (1, 0) else if l > h then (l', h') else if l' > h' then (l, h) else (min l l', max h h')
def RMeet (l h l' h' : Int) : Int × Int := if ¬ ROk l h ∨ ¬ ROk l' h' ∨ l > h ∨ l' > h' then (1, 0) else RFrom (max l l') (min h h')
def RIn (l h l' h' : Int) : Prop := ROk l h ∧ ROk l' h' ∧ (l > h ∨ (l' ≤ l ∧ h ≤ h'))
instance (l h l' h' : Int) : Decidable (RIn l h l' h') := inferInstanceAs (Decidable (_ ∧ _))
def RHas (l h v : Int) : Prop := ROk l h ∧ l ≤ v ∧ v ≤ h
instance (l h v : Int) : Decidable (RHas l h v) := inferInstanceAs (Decidable (_ ∧ _))
theorem mn_eq (a b : Int) : mn a b = min a b := by unfold mn; split <;> omega
theorem mx_eq (a b : Int) : mx a b = max a b := by unfold mx; split <;> omega
theorem ROk.none {l h : Int} (k : ROk l h) (e : l > h) : l = 1 ∧ h = 0 := by
  rcases k with k | k
  · exact k
  · omega
theorem ROk.empty_iff {l h : Int} (k : ROk l h) : l > h ↔ (l = 1 ∧ h = 0) := ⟨k.none, fun e => by omega⟩
theorem ROk.some {l h : Int} (k : ROk l h) (e : ¬ l > h) : NOk l ∧ NOk h ∧ l ≤ h := by
  rcases k with k | k
  · omega
  · exact k
theorem rok_none : ROk 1 0 := Or.inl ⟨rfl, rfl⟩
theorem RFrom_ok (a b : Int) : ROk (RFrom a b).1 (RFrom a b).2 := by
  unfold RFrom
  split
  · exact rok_none
  · right; dsimp only; unfold NOk; omega
theorem RJoin_ok (l h l' h' : Int) : ROk (RJoin l h l' h').1 (RJoin l h l' h').2 := by
  unfold RJoin
  by_cases a : ROk l h
  case neg => rw [if_pos (Or.inl a)]; exact rok_none
  by_cases b : ROk l' h'
  case neg => rw [if_pos (Or.inr b)]; exact rok_none
  rw [if_neg (by simp [a, b])]
  by_cases e : l > h
  · rw [if_pos e]; exact b
  · rw [if_neg e]
    by_cases e' : l' > h'
    · rw [if_pos e']; exact a
    · rw [if_neg e']
      have x := a.some e
      have y := b.some e'
      unfold NOk at x y
      right; unfold NOk; dsimp only; omega
theorem RMeet_ok (l h l' h' : Int) : ROk (RMeet l h l' h').1 (RMeet l h l' h').2 := by
  unfold RMeet
  split
  · exact rok_none
  · exact RFrom_ok _ _

theorem RFrom_has (a b v : Int) : RHas (RFrom a b).1 (RFrom a b).2 v ↔ NOk v ∧ a ≤ v ∧ v ≤ b := by
  unfold RHas
  have o := RFrom_ok a b
  unfold RFrom at *
  unfold NOk
  split at o
  · rename_i c
    rw [if_pos c]; dsimp only at *; omega
  · rename_i c
    rw [if_neg c]; dsimp only at *
    constructor
    · intro h; omega
    · intro h; exact ⟨o, by omega⟩
theorem RHas.nok {l h v : Int} (k : RHas l h v) : NOk v ∧ ¬ l > h := by
  obtain ⟨o, a, b⟩ := k
  have e : ¬ l > h := by omega
  have x := o.some e
  unfold NOk at *
  omega
theorem RMeet_has (l h l' h' v : Int) : RHas (RMeet l h l' h').1 (RMeet l h l' h').2 v ↔ RHas l h v ∧ RHas l' h' v := by
  unfold RMeet
  by_cases c : ¬ ROk l h ∨ ¬ ROk l' h' ∨ l > h ∨ l' > h'
  · rw [if_pos c]
    constructor
    · intro k; have := k.nok; omega
    · rintro ⟨k, k'⟩
      have a := k.nok
      have b := k'.nok
      rcases c with c | c | c | c
      · exact absurd k.1 c
      · exact absurd k'.1 c
      · exact absurd c a.2
      · exact absurd c b.2
  · rw [if_neg c, RFrom_has]
    have a : ROk l h := Decidable.byContradiction fun n => c (Or.inl n)
    have b : ROk l' h' := Decidable.byContradiction fun n => c (Or.inr (Or.inl n))
    constructor
    · intro k; exact ⟨⟨a, by omega, by omega⟩, ⟨b, by omega, by omega⟩⟩
    · rintro ⟨k, k'⟩
      have := k.nok
      obtain ⟨-, k1, k2⟩ := k
      obtain ⟨-, k3, k4⟩ := k'
      exact ⟨this.1, by omega, by omega⟩
theorem RIn.refl {l h : Int} (o : ROk l h) : RIn l h l h := ⟨o, o, Or.inr ⟨Int.le_refl _, Int.le_refl _⟩⟩
theorem RIn_join_left {l h l' h' : Int} (o : ROk l h) (o' : ROk l' h') : RIn l h (RJoin l h l' h').1 (RJoin l h l' h').2 := by
  refine ⟨o, RJoin_ok _ _ _ _, ?_⟩
  unfold RJoin
  rw [if_neg (by simp [o, o'])]
  by_cases e : l > h
  · exact Or.inl e
  · rw [if_neg e]
    by_cases e' : l' > h'
    · rw [if_pos e']; exact Or.inr ⟨Int.le_refl _, Int.le_refl _⟩
    · rw [if_neg e']; dsimp only; omega
theorem RIn_join_right {l h l' h' : Int} (o : ROk l h) (o' : ROk l' h') : RIn l' h' (RJoin l h l' h').1 (RJoin l h l' h').2 := by
  refine ⟨o', RJoin_ok _ _ _ _, ?_⟩
  unfold RJoin
  rw [if_neg (by simp [o, o'])]
  by_cases e : l > h
  · rw [if_pos e]; exact Or.inr ⟨Int.le_refl _, Int.le_refl _⟩
  · rw [if_neg e]
    by_cases e' : l' > h'
    · exact Or.inl e'
    · rw [if_neg e']; dsimp only; omega
theorem RIn.has {l h l' h' v : Int} (k : RIn l h l' h') (x : RHas l h v) : RHas l' h' v := by
  obtain ⟨-, o, k⟩ := k
  obtain ⟨-, a, b⟩ := x
  exact ⟨o, by omega, by omega⟩

theorem drop_rd {xs : List Int} {i : Int} (h0 : 0 ≤ i) (h : i < xs.length) : xs.drop i.toNat = rd xs i :: xs.drop (i.toNat + 1) := by
  have hi : i.toNat < xs.length := by omega
  rw [List.drop_eq_getElem_cons hi]
  unfold rd
  rw [List.getD_eq_getElem?_getD, List.getElem?_eq_getElem hi]
  rfl

theorem bits_or_nonneg {x y : Int} {n : Nat} (hn : n ≤ 62) (hx : 0 ≤ x) (hx' : x < 2 ^ n) (hy : 0 ≤ y) (hy' : y < 2 ^ n) :
    0 ≤ Go.bits .or .i64 x y ∧ Go.bits .or .i64 x y < 2 ^ n := by
  have p : (2 : Int) ^ n ≤ 4611686018427387904 := by
    have := pow_le' hn
    have e : (2 : Int) ^ 62 = 4611686018427387904 := by decide
    omega
  have e : ((2 ^ n : Nat) : Int) = 2 ^ n := by push_cast; rfl
  have h : x.toNat ||| y.toNat < 2 ^ n := Nat.or_lt_two_pow (by omega) (by omega)
  have b : (BitVec.ofInt 64 x ||| BitVec.ofInt 64 y).toNat = x.toNat ||| y.toNat := by
    rw [BitVec.toNat_or, BitVec.toNat_ofInt, BitVec.toNat_ofInt]
    congr 1 <;> omega
  have : Go.bits .or .i64 x y = wrap64 ((BitVec.ofInt 64 x ||| BitVec.ofInt 64 y).toNat : Int) := by rw [← i64_wrap]; rfl
  rw [this, b, wrap64_id (by omega) (by omega)]
  omega
end Go.Proofs.Ytlbheepfmjbpnaa.Base
