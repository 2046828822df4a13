/- Ranges of numbers of 32 bits: plain definitions and their laws. Conditions: those in each law. -/
import Derived.Test.YtlbheepfmjbpnaaBits
namespace Go.Proofs.Ytlbheepfmjbpnaa.Base
set_option linter.unusedVariables false
set_option linter.unusedSimpArgs false
open Go.RowKit Go.Proofs.YtlbheepfmjbpnaaW.PrintWords Go.Proofs.YtlbheepfmjbpnaaW.PrintMore

def ROk (l h : Int) : Prop := (l = 1 ∧ h = 0) ∨ (NOk l ∧ NOk h ∧ l ≤ h)
instance (l h : Int) : Decidable (ROk l h) := inferInstanceAs (Decidable (_ ∨ _))
def RFrom (a b : Int) : Int × Int := if max a (-2147483648) > min b 2147483647 then (1, 0) else (max a (-2147483648), min b 2147483647)
def RJoin (l h l' h' : Int) : Int × Int := if ¬ ROk l h ∨ ¬ ROk l' h' then (1, 0) else if l > h then (l', h') else if l' > h' then (l, h) else (min l l', max h h')
def RMeet (l h l' h' : Int) : Int × Int := if ¬ ROk l h ∨ ¬ ROk l' h' ∨ l > h ∨ l' > h' then (1, 0) else RFrom (max l l') (min h h')
def RIn (l h l' h' : Int) : Prop := ROk l h ∧ ROk l' h' ∧ (l > h ∨ (l' ≤ l ∧ h ≤ h'))
instance (l h l' h' : Int) : Decidable (RIn l h l' h') := inferInstanceAs (Decidable (_ ∧ _))
def RHas (l h v : Int) : Prop := ROk l h ∧ l ≤ v ∧ v ≤ h
instance (l h v : Int) : Decidable (RHas l h v) := inferInstanceAs (Decidable (_ ∧ _))
def downs (v : Int) (o : Int) (l : List Int) : Int := l.foldl (fun o s => if s ≤ v ∧ o < s then s else o) o
def ups (v : Int) (o : Int) (l : List Int) : Int := l.foldl (fun o s => if v ≤ s ∧ s < o then s else o) o
def RWiden (l h l' h' : Int) (steps : List Int) : Int × Int :=
  if ¬ ROk l h ∨ ¬ ROk l' h' ∨ l > h ∨ l' > h' then RJoin l h l' h'
  else (if min l l' < l then downs (min l l') (-2147483648) steps else min l l', if h < max h h' then ups (max h h') 2147483647 steps else max h h')

theorem mn_eq (a b : Int) : mn a b = min a b := by unfold mn; split <;> omega
theorem mx_eq (a b : Int) : mx a b = max a b := by unfold mx; split <;> omega
theorem ROk.none {l h : Int} (k : ROk l h) (e : l > h) : l = 1 ∧ h = 0 := by
  rcases k with k | k
  · exact k
  · omega
theorem ROk.empty_iff {l h : Int} (k : ROk l h) : l > h ↔ (l = 1 ∧ h = 0) := ⟨k.none, fun e => by omega⟩
theorem ROk.some {l h : Int} (k : ROk l h) (e : ¬ l > h) : NOk l ∧ NOk h ∧ l ≤ h := by
  rcases k with k | k
  · omega
  · exact k
theorem rok_none : ROk 1 0 := Or.inl ⟨rfl, rfl⟩
theorem RFrom_ok (a b : Int) : ROk (RFrom a b).1 (RFrom a b).2 := by
  unfold RFrom
  split
  · exact rok_none
  · right; dsimp only; unfold NOk; omega
theorem RJoin_ok (l h l' h' : Int) : ROk (RJoin l h l' h').1 (RJoin l h l' h').2 := by
  unfold RJoin
  by_cases a : ROk l h
  case neg => rw [if_pos (Or.inl a)]; exact rok_none
  by_cases b : ROk l' h'
  case neg => rw [if_pos (Or.inr b)]; exact rok_none
  rw [if_neg (by simp [a, b])]
  by_cases e : l > h
  · rw [if_pos e]; exact b
  · rw [if_neg e]
    by_cases e' : l' > h'
    · rw [if_pos e']; exact a
    · rw [if_neg e']
      have x := a.some e
      have y := b.some e'
      unfold NOk at x y
      right; unfold NOk; dsimp only; omega
theorem RMeet_ok (l h l' h' : Int) : ROk (RMeet l h l' h').1 (RMeet l h l' h').2 := by
  unfold RMeet
  split
  · exact rok_none
  · exact RFrom_ok _ _

theorem downs_in (v : Int) : ∀ (l : List Int) (o : Int), o ≤ v → o ≤ downs v o l ∧ downs v o l ≤ v ∧ (downs v o l = o ∨ downs v o l ∈ l)
  | [], o, h => ⟨Int.le_refl _, h, Or.inl rfl⟩
  | s :: l, o, h => by
    simp only [downs, List.foldl_cons]
    by_cases c : s ≤ v ∧ o < s
    · rw [if_pos c]
      have := downs_in v l s c.1
      simp only [downs] at this
      refine ⟨by omega, this.2.1, Or.inr ?_⟩
      rcases this.2.2 with e | e
      · rw [e]; exact List.mem_cons_self ..
      · exact List.mem_cons_of_mem _ e
    · rw [if_neg c]
      have := downs_in v l o h
      simp only [downs] at this
      refine ⟨this.1, this.2.1, ?_⟩
      rcases this.2.2 with e | e
      · exact Or.inl e
      · exact Or.inr (List.mem_cons_of_mem _ e)
theorem ups_in (v : Int) : ∀ (l : List Int) (o : Int), v ≤ o → ups v o l ≤ o ∧ v ≤ ups v o l ∧ (ups v o l = o ∨ ups v o l ∈ l)
  | [], o, h => ⟨Int.le_refl _, h, Or.inl rfl⟩
  | s :: l, o, h => by
    simp only [ups, List.foldl_cons]
    by_cases c : v ≤ s ∧ s < o
    · rw [if_pos c]
      have := ups_in v l s c.1
      simp only [ups] at this
      refine ⟨by omega, this.2.1, Or.inr ?_⟩
      rcases this.2.2 with e | e
      · rw [e]; exact List.mem_cons_self ..
      · exact List.mem_cons_of_mem _ e
    · rw [if_neg c]
      have := ups_in v l o h
      simp only [ups] at this
      refine ⟨this.1, this.2.1, ?_⟩
      rcases this.2.2 with e | e
      · exact Or.inl e
      · exact Or.inr (List.mem_cons_of_mem _ e)
/-- What widening tells: a join, its ends moved outward to steps alone. -/
theorem RWiden_spec {l h l' h' : Int} (steps : List Int) (a : ROk l h) (b : ROk l' h') (e : ¬ l > h) (e' : ¬ l' > h') :
    let r := RWiden l h l' h' steps
    NOk r.1 ∧ NOk r.2 ∧ r.1 ≤ min l l' ∧ max h h' ≤ r.2 ∧ (r.1 = l ∨ r.1 = -2147483648 ∨ r.1 ∈ steps) ∧ (r.2 = h ∨ r.2 = 2147483647 ∨ r.2 ∈ steps) := by
  have x := a.some e
  have y := b.some e'
  unfold NOk at x y
  have D := downs_in (min l l') steps (-2147483648) (by omega)
  have U := ups_in (max h h') steps 2147483647 (by omega)
  simp only [RWiden]
  rw [if_neg (by simp [a, b]; omega)]
  unfold NOk
  dsimp only
  have d1 : ∀ c : Prop, [Decidable c] → True := fun _ => trivial
  by_cases c1 : min l l' < l <;> by_cases c2 : h < max h h'
  · rw [if_pos c1, if_pos c2]
    exact ⟨by omega, by omega, by omega, by omega, Or.inr D.2.2, Or.inr U.2.2⟩
  · rw [if_pos c1, if_neg c2]
    exact ⟨by omega, by omega, by omega, by omega, Or.inr D.2.2, Or.inl (by omega)⟩
  · rw [if_neg c1, if_pos c2]
    exact ⟨by omega, by omega, by omega, by omega, Or.inl (by omega), Or.inr U.2.2⟩
  · rw [if_neg c1, if_neg c2]
    exact ⟨by omega, by omega, by omega, by omega, Or.inl (by omega), Or.inl (by omega)⟩
theorem RWiden_ok (l h l' h' : Int) (steps : List Int) : ROk (RWiden l h l' h' steps).1 (RWiden l h l' h' steps).2 := by
  by_cases c : ¬ ROk l h ∨ ¬ ROk l' h' ∨ l > h ∨ l' > h'
  · unfold RWiden; rw [if_pos c]; exact RJoin_ok _ _ _ _
  · have a : ROk l h := Decidable.byContradiction fun n => c (Or.inl n)
    have b : ROk l' h' := Decidable.byContradiction fun n => c (Or.inr (Or.inl n))
    have := RWiden_spec steps a b (fun n => c (Or.inr (Or.inr (Or.inl n)))) (fun n => c (Or.inr (Or.inr (Or.inr n))))
    have x := a.some (fun n => c (Or.inr (Or.inr (Or.inl n))))
    right
    exact ⟨this.1, this.2.1, by omega⟩

theorem RFrom_has (a b v : Int) : RHas (RFrom a b).1 (RFrom a b).2 v ↔ NOk v ∧ a ≤ v ∧ v ≤ b := by
  unfold RHas
  have o := RFrom_ok a b
  unfold RFrom at *
  unfold NOk
  split at o
  · rename_i c
    rw [if_pos c]; dsimp only at *; omega
  · rename_i c
    rw [if_neg c]; dsimp only at *
    constructor
    · intro h; omega
    · intro h; exact ⟨o, by omega⟩
theorem RHas.nok {l h v : Int} (k : RHas l h v) : NOk v ∧ ¬ l > h := by
  obtain ⟨o, a, b⟩ := k
  have e : ¬ l > h := by omega
  have x := o.some e
  unfold NOk at *
  omega
theorem RMeet_has (l h l' h' v : Int) : RHas (RMeet l h l' h').1 (RMeet l h l' h').2 v ↔ RHas l h v ∧ RHas l' h' v := by
  unfold RMeet
  by_cases c : ¬ ROk l h ∨ ¬ ROk l' h' ∨ l > h ∨ l' > h'
  · rw [if_pos c]
    constructor
    · intro k; have := k.nok; omega
    · rintro ⟨k, k'⟩
      have a := k.nok
      have b := k'.nok
      rcases c with c | c | c | c
      · exact absurd k.1 c
      · exact absurd k'.1 c
      · exact absurd c a.2
      · exact absurd c b.2
  · rw [if_neg c, RFrom_has]
    have a : ROk l h := Decidable.byContradiction fun n => c (Or.inl n)
    have b : ROk l' h' := Decidable.byContradiction fun n => c (Or.inr (Or.inl n))
    constructor
    · intro k; exact ⟨⟨a, by omega, by omega⟩, ⟨b, by omega, by omega⟩⟩
    · rintro ⟨k, k'⟩
      have := k.nok
      obtain ⟨-, k1, k2⟩ := k
      obtain ⟨-, k3, k4⟩ := k'
      exact ⟨this.1, by omega, by omega⟩
theorem RIn.refl {l h : Int} (o : ROk l h) : RIn l h l h := ⟨o, o, Or.inr ⟨Int.le_refl _, Int.le_refl _⟩⟩
theorem RIn_join_left {l h l' h' : Int} (o : ROk l h) (o' : ROk l' h') : RIn l h (RJoin l h l' h').1 (RJoin l h l' h').2 := by
  refine ⟨o, RJoin_ok _ _ _ _, ?_⟩
  unfold RJoin
  rw [if_neg (by simp [o, o'])]
  by_cases e : l > h
  · exact Or.inl e
  · rw [if_neg e]
    by_cases e' : l' > h'
    · rw [if_pos e']; exact Or.inr ⟨Int.le_refl _, Int.le_refl _⟩
    · rw [if_neg e']; dsimp only; omega
theorem RIn_join_right {l h l' h' : Int} (o : ROk l h) (o' : ROk l' h') : RIn l' h' (RJoin l h l' h').1 (RJoin l h l' h').2 := by
  refine ⟨o', RJoin_ok _ _ _ _, ?_⟩
  unfold RJoin
  rw [if_neg (by simp [o, o'])]
  by_cases e : l > h
  · rw [if_pos e]; exact Or.inr ⟨Int.le_refl _, Int.le_refl _⟩
  · rw [if_neg e]
    by_cases e' : l' > h'
    · exact Or.inl e'
    · rw [if_neg e']; dsimp only; omega
theorem RIn_meet_left {l h l' h' : Int} (o : ROk l h) (o' : ROk l' h') : RIn (RMeet l h l' h').1 (RMeet l h l' h').2 l h := by
  refine ⟨RMeet_ok _ _ _ _, o, ?_⟩
  have a := RMeet_has l h l' h' (RMeet l h l' h').1
  have b := RMeet_has l h l' h' (RMeet l h l' h').2
  have k := RMeet_ok l h l' h'
  by_cases e : (RMeet l h l' h').1 > (RMeet l h l' h').2
  · exact Or.inl e
  · have a' := (a.mp ⟨k, Int.le_refl _, by omega⟩).1
    have b' := (b.mp ⟨k, by omega, Int.le_refl _⟩).1
    exact Or.inr ⟨a'.2.1, b'.2.2⟩
theorem RIn_meet_right {l h l' h' : Int} (o : ROk l h) (o' : ROk l' h') : RIn (RMeet l h l' h').1 (RMeet l h l' h').2 l' h' := by
  refine ⟨RMeet_ok _ _ _ _, o', ?_⟩
  have a := RMeet_has l h l' h' (RMeet l h l' h').1
  have b := RMeet_has l h l' h' (RMeet l h l' h').2
  have k := RMeet_ok l h l' h'
  by_cases e : (RMeet l h l' h').1 > (RMeet l h l' h').2
  · exact Or.inl e
  · have a' := (a.mp ⟨k, Int.le_refl _, by omega⟩).2
    have b' := (b.mp ⟨k, by omega, Int.le_refl _⟩).2
    exact Or.inr ⟨a'.2.1, b'.2.2⟩
theorem RWiden_none {l h l' h' : Int} (steps : List Int) (c : ¬ ROk l h ∨ ¬ ROk l' h' ∨ l > h ∨ l' > h') : RWiden l h l' h' steps = RJoin l h l' h' := by
  unfold RWiden; rw [if_pos c]
theorem RIn_join_widen {l h l' h' : Int} (steps : List Int) (o : ROk l h) (o' : ROk l' h') : RIn (RJoin l h l' h').1 (RJoin l h l' h').2 (RWiden l h l' h' steps).1 (RWiden l h l' h' steps).2 := by
  by_cases e : l > h
  · rw [RWiden_none steps (Or.inr (Or.inr (Or.inl e)))]; exact RIn.refl (RJoin_ok _ _ _ _)
  by_cases e' : l' > h'
  · rw [RWiden_none steps (Or.inr (Or.inr (Or.inr e')))]; exact RIn.refl (RJoin_ok _ _ _ _)
  have s := RWiden_spec steps o o' e e'
  refine ⟨RJoin_ok _ _ _ _, RWiden_ok _ _ _ _ _, Or.inr ?_⟩
  have j : RJoin l h l' h' = (min l l', max h h') := by
    unfold RJoin; rw [if_neg (by simp [o, o']), if_neg e, if_neg e']
  rw [j]
  exact ⟨s.2.2.1, s.2.2.2.1⟩
theorem RIn.has {l h l' h' v : Int} (k : RIn l h l' h') (x : RHas l h v) : RHas l' h' v := by
  obtain ⟨-, o, k⟩ := k
  obtain ⟨-, a, b⟩ := x
  exact ⟨o, by omega, by omega⟩

/-- A list from one place on. -/
theorem drop_rd {xs : List Int} {i : Int} (h0 : 0 ≤ i) (h : i < xs.length) : xs.drop i.toNat = rd xs i :: xs.drop (i.toNat + 1) := by
  have hi : i.toNat < xs.length := by omega
  rw [List.drop_eq_getElem_cons hi]
  unfold rd
  rw [List.getD_eq_getElem?_getD, List.getElem?_eq_getElem hi]
  rfl

theorem bits_or_nonneg {x y : Int} {n : Nat} (hn : n ≤ 62) (hx : 0 ≤ x) (hx' : x < 2 ^ n) (hy : 0 ≤ y) (hy' : y < 2 ^ n) :
    0 ≤ Go.bits .or .i64 x y ∧ Go.bits .or .i64 x y < 2 ^ n := by
  have p : (2 : Int) ^ n ≤ 4611686018427387904 := by
    have := pow_le' hn
    have e : (2 : Int) ^ 62 = 4611686018427387904 := by decide
    omega
  have e : ((2 ^ n : Nat) : Int) = 2 ^ n := by push_cast; rfl
  have h : x.toNat ||| y.toNat < 2 ^ n := Nat.or_lt_two_pow (by omega) (by omega)
  have b : (BitVec.ofInt 64 x ||| BitVec.ofInt 64 y).toNat = x.toNat ||| y.toNat := by
    rw [BitVec.toNat_or, BitVec.toNat_ofInt, BitVec.toNat_ofInt]
    congr 1 <;> omega
  have : Go.bits .or .i64 x y = wrap64 ((BitVec.ofInt 64 x ||| BitVec.ofInt 64 y).toNat : Int) := by rw [← i64_wrap]; rfl
  rw [this, b, wrap64_id (by omega) (by omega)]
  omega
end Go.Proofs.Ytlbheepfmjbpnaa.Base
