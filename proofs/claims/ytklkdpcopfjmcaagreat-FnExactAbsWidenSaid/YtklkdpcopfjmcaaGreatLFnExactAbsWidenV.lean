/- What the small functions that the statement reaches tell, each by a plain law. Conditions: those in each law. -/
import Derived.Test.YtklkdpcopfjmcaaGreatDFnExactAbsWidenV
import Derived.Test.YtklkdpcopfjmcaaGreatBaseV
import Derived.Test.YtklkdpcopfjmcaaGreatBitsV
import Derived.Test.YtklkdpcopfjmcaaGreatRangeMathV
import Derived.Test.YtklkdpcopfjmcaaGreatRestMathV
import Derived.Test.YtklkdpcopfjmcaaGreatValMathV
import Derived.Test.YtklkdpcopfjmcaaGreatGapsMathV
import Derived.Test.YtklkdpcopfjmcaaGreatGaps2MathV
import Derived.Test.YtklkdpcopfjmcaaGreatAbsMathV
namespace Go.Proofs.YtklkdpcopfjmcaaGreat.LFnExactAbsWiden
open Go.RowKit Go.Proofs.YtklkdpcopfjmcaaGreat.PFnExactAbsWiden Go.Proofs.YtklkdpcopfjmcaaGreat.Base Go.Proofs.YtklkdpcopfjmcaaGreatW.PrintWords Go.Proofs.YtklkdpcopfjmcaaGreatW.PrintLast Go.Proofs.YtklkdpcopfjmcaaGreatW.PrintMore
set_option linter.unusedVariables false
set_option linter.unusedSimpArgs false
theorem mod_eq {a b : Int} (hb : 0 < b) (h : b ≤ 9223372036854775807) : lY.f a b = some (a % b):=by
  unfold lY.f
  rw [if_neg (by omega)]
  have e:=Int.emod_emod_of_dvd a (Int.dvd_refl b)
  have h1 : Int.tmod a b < b:=Int.tmod_lt_of_pos a hb
  have h2 : -b < Int.tmod a b:=Int.lt_tmod_of_pos a hb
  have h3:=Int.mul_tdiv_add_tmod a b
  have h4 : a % b = Int.tmod a b % b:=by
    conv=>lhs;rw [← h3]
    rw [Int.add_comm,Int.add_mul_emod_self_left]
  by_cases hn : Int.tmod a b < 0
  · rw [if_pos hn,aV (by omega) (by omega),h4,← Int.add_emod_right,Int.emod_eq_of_lt (by omega) (by omega)]
  · rw [if_neg hn,h4,Int.emod_eq_of_lt (by omega) (by omega)]
theorem vN (v : Int) : iD.f v = some (decide (uk v)):=by
  unfold iD.f
  by_cases h : v ≥ -2147483648
  · rw [if_pos h];exact FC (by (try unfold uk);omega)
  · rw [if_neg h];exact F6 (by (try unfold uk);omega)
theorem vZ (v a b : Int) : iV.f v a b = some (decide (a ≤ v∧v ≤ b)):=by
  unfold iV.f
  by_cases h : v ≥ a
  · rw [if_pos h];exact FC (by (try unfold uk);omega)
  · rw [if_neg h];exact F6 (by (try unfold uk);omega)
theorem yL (v : Int) : mQ.f v = some (decide (uk v)):=by
  unfold mQ.f
  rw [vZ];exact FC Iff.rfl
theorem vO : lH.f = some (1,0):=rfl
theorem uB : fH.f = some (1,0):=rfl
theorem qU (l h : Int) : bO.f l h = some (decide (sM l h)):=by
  unfold bO.f lH.f sM
  simp only [Option.bind_some,vN,Bool.and_eq_true,beq_iff_eq]
  by_cases c : l = 1∧h = 0
  · simp [c]
  · by_cases c1 : uk l <;> by_cases c2 : uk h <;> simp [c,c1,c2]
theorem qj (l h : Int) : bT.f l h = some (decide (sM l h)):=by
  unfold bT.f fH.f sM
  simp only [Option.bind_some,yL,Bool.and_eq_true,beq_iff_eq]
  by_cases c : l = 1∧h = 0
  · simp [c]
  · by_cases c1 : uk l <;> by_cases c2 : uk h <;> simp [c,c1,c2]
theorem sO (l h : Int) : eF.f l h = some (decide (l > h)):=rfl
theorem Ew (a b : Int) : qH.f a b = some (min a b):=by
  unfold qH.f;split <;> congr 1 <;> omega
theorem Cj (a b : Int) : pR.f a b = some (max a b):=by
  unfold pR.f;split <;> congr 1 <;> omega
theorem AL (l h v : Int) : l6.f l h v = some (decide (yf l h v)):=by
  unfold l6.f yf
  rw [qU]
  simp only [Option.bind_some]
  by_cases c : sM l h <;> by_cases c1 : l ≤ v <;> simp [c,c1]
theorem yU (l h v : Int) : om.f l h v = some (decide (yf l h v)):=by
  unfold om.f yf
  rw [qj,vZ]
  simp only [Option.bind_some]
  by_cases c : sM l h <;> simp [c]
theorem vI (k : Nat) (hk : 1 ≤ k) (l h l' h' : Int) : fJ.f k l h l' h' = some (vY l h l' h'):=by
  obtain ⟨k,rfl⟩ : ∃ m,k = m + 1:=⟨k - 1,by omega⟩
  unfold fJ.f vY
  rw [qU,qU]
  simp only [Option.bind_some]
  by_cases c : sM l h
  case neg=>simp [c,fJ.j0,vO]
  by_cases c1 : sM l' h'
  case neg=>simp [c,c1,fJ.j0,vO]
  simp only [c,c1,decide_true,if_true,Bool.not_true,fJ.j0,Bool.false_eq_true,if_false,sO,Option.bind_some,EY,EU,decide_eq_true_eq,not_true,or_self]
  by_cases c2 : l > h
  · simp only [c2,if_true]
  · by_cases c3 : l' > h' <;> simp only [c2,c3,if_true,if_false]
theorem uR (k : Nat) (hk : 1 ≤ k) (l h l' h' : Int) : dJ.f k l h l' h' = some (vY l h l' h'):=by
  obtain ⟨k,rfl⟩ : ∃ m,k = m + 1:=⟨k - 1,by omega⟩
  unfold dJ.f vY
  rw [qj,qj]
  simp only [Option.bind_some]
  by_cases c : sM l h
  case neg=>simp [c,dJ.j0,uB]
  by_cases c1 : sM l' h'
  case neg=>simp [c,c1,dJ.j0,uB]
  simp only [c,c1,decide_true,if_true,Bool.not_true,dJ.j0,Bool.false_eq_true,if_false,uB,Option.bind_some,Ew,Cj,Bool.and_eq_true,beq_iff_eq,not_true,or_self,c.rJ,c1.rJ]
  by_cases c2 : l = 1∧h = 0
  · simp only [c2,and_self,if_true]
  · by_cases c3 : l' = 1∧h' = 0 <;> simp only [c2,c3,and_self,if_true,if_false]
theorem Dv (xs : List Int) (lo hi : Int) (hh : -2147483648 ≤ hi) : ∀ (d k : Nat) (o i : Int),0 ≤ i→i ≤ xs.length→((xs.length : Int) - i = d)→d < k→xs.length < 9223372036854775807→o ≤ 2147483647→
    aQ.l1 k o xs (xs.length : Int) i lo hi = some (lo,ups hi o (xs.drop i.toNat)):=by
  intro d
  induction d with
  | zero =>
    intro k o i h0 h1 hd hk hx ho
    obtain ⟨k,rfl⟩ : ∃ m,k = m + 1:=⟨k - 1,by omega⟩
    simp only [aQ.l1]
    rw [if_neg (by omega),List.drop_of_length_le (by omega)]
    rfl
  | succ d ih =>
    intro k o i h0 h1 hd hk hx ho
    obtain ⟨k,rfl⟩ : ∃ m,k = m + 1:=⟨k - 1,by omega⟩
    simp only [aQ.l1]
    rw [if_pos (by omega),if_pos h0,if_pos (by omega),vN,uI h0 (by omega)]
    simp only [Option.bind_some,decide_eq_true_eq]
    generalize rd xs i = s
    have e : (i + 1).toNat = i.toNat + 1:=by omega
    have st : ∀ o',o' ≤ 2147483647→aQ.l1 k o' xs (xs.length : Int) (wrap64 (i + 1)) lo hi = some (lo,ups hi o' (xs.drop (i.toNat + 1))):=fun o' ho'=>by
      rw [aV (by omega) (by omega),← e]
      exact ih k o' (i + 1) (by omega) (by omega) (by omega) (by omega) hx ho'
    have cons : ups hi o (s :: xs.drop (i.toNat + 1)) = ups hi (if hi ≤ s∧s < o then s else o) (xs.drop (i.toNat + 1)):=rfl
    rw [cons,EY]
    by_cases c' : uk s <;> have c:=c' <;> unfold uk at c
    · rw [if_pos c']
      by_cases c2 : s ≥ hi
      · rw [if_pos c2,st _ (by omega)]
        by_cases c3 : s < o
        · rw [if_pos ⟨c2,c3⟩];congr 2;congr 1;omega
        · rw [if_neg (by omega)];congr 2;congr 1;omega
      · rw [if_neg c2,st _ ho,if_neg (by omega)]
    · rw [if_neg c',st _ ho,if_neg (by omega)]
theorem AY (xs : List Int) (k : Nat) (hk : xs.length + 2 ≤ k) (hx : xs.length < 9223372036854775807) (a0 a1 lo hi : Int) (hh : -2147483648 ≤ hi) :
    aQ.j2 k xs a0 a1 lo hi = some (lo,if a1 < hi then ups hi 2147483647 xs else hi):=by
  obtain ⟨k,rfl⟩ : ∃ m,k = m + 1:=⟨k - 1,by omega⟩
  simp only [aQ.j2]
  by_cases c : hi > a1
  · rw [if_pos c,Dv xs lo hi hh xs.length k _ 0 (by omega) (by omega) (by omega) (by omega) hx (by omega),if_pos (by omega)]
    simp
  · rw [if_neg c,if_neg (by omega)]
theorem Dy (xs : List Int) (a0 a1 lo hi : Int) (hl : lo ≤ 2147483647) (hh : -2147483648 ≤ hi) : ∀ (d k : Nat) (o i : Int),0 ≤ i→i ≤ xs.length→((xs.length : Int) - i = d)→d + xs.length + 3 ≤ k→xs.length < 9223372036854775807→-2147483648 ≤ o→
    aQ.l0 k xs o xs (xs.length : Int) i a0 a1 lo hi = some (uX lo o (xs.drop i.toNat),if a1 < hi then ups hi 2147483647 xs else hi):=by
  intro d
  induction d with
  | zero =>
    intro k o i h0 h1 hd hk hx ho
    obtain ⟨k,rfl⟩ : ∃ m,k = m + 1:=⟨k - 1,by omega⟩
    simp only [aQ.l0]
    rw [if_neg (by omega),List.drop_of_length_le (by omega),AY xs k (by omega) hx a0 a1 o hi hh]
    rfl
  | succ d ih =>
    intro k o i h0 h1 hd hk hx ho
    obtain ⟨k,rfl⟩ : ∃ m,k = m + 1:=⟨k - 1,by omega⟩
    simp only [aQ.l0]
    rw [if_pos (by omega),if_pos h0,if_pos (by omega),vN,uI h0 (by omega)]
    simp only [Option.bind_some,decide_eq_true_eq]
    generalize rd xs i = s
    have e : (i + 1).toNat = i.toNat + 1:=by omega
    have st : ∀ o',-2147483648 ≤ o'→aQ.l0 k xs o' xs (xs.length : Int) (wrap64 (i + 1)) a0 a1 lo hi = some (uX lo o' (xs.drop (i.toNat + 1)),if a1 < hi then ups hi 2147483647 xs else hi):=fun o' ho'=>by
      rw [aV (by omega) (by omega),← e]
      exact ih k o' (i + 1) (by omega) (by omega) (by omega) (by omega) hx ho'
    have cons : uX lo o (s :: xs.drop (i.toNat + 1)) = uX lo (if s ≤ lo∧o < s then s else o) (xs.drop (i.toNat + 1)):=rfl
    rw [cons,EU]
    by_cases c' : uk s <;> have c:=c' <;> unfold uk at c
    · rw [if_pos c']
      by_cases c2 : s ≤ lo
      · rw [if_pos c2,st _ (by omega)]
        by_cases c3 : o < s
        · rw [if_pos (⟨c2,c3⟩ : s ≤ lo∧o < s)];congr 2;congr 1;omega
        · rw [if_neg (by omega : ¬ (s ≤ lo∧o < s))];congr 2;congr 1;omega
      · rw [if_neg c2,st _ ho,if_neg (by omega : ¬ (s ≤ lo∧o < s))]
    · rw [if_neg c',st _ ho,if_neg (by omega : ¬ (s ≤ lo∧o < s))]
theorem yj (k : Nat) (l h l' h' : Int) (steps : List Int) (hk : 2 * steps.length + 6 ≤ k) (hx : steps.length < 9223372036854775807) : aQ.f k l h l' h' steps = some (wJ l h l' h' steps):=by
  obtain ⟨k,rfl⟩ : ∃ m,k = m + 1:=⟨k - 1,by omega⟩
  unfold aQ.f wJ
  rw [vI _ (by omega),qU,qU]
  simp only [Option.bind_some,sO]
  by_cases c : sM l h
  case neg=>simp [c,aQ.j0]
  by_cases c1 : sM l' h'
  case neg=>simp [c,c1,aQ.j0]
  by_cases c2 : l > h
  · simp [c,c1,c2,aQ.j0]
  by_cases c3 : l' > h'
  · simp [c,c1,c2,c3,aQ.j0]
  have x:=c.some c2
  have y:=c1.some c3
  unfold uk at x y
  simp only [c,c1,c2,c3,decide_true,decide_false,if_true,aQ.j0,Bool.false_eq_true,if_false,not_true,or_self,vY]
  by_cases c4 : min l l' < l
  · rw [if_pos c4,if_pos c4,Dy steps l h (min l l') (max h h') (by omega) (by omega) steps.length k _ 0 (by omega) (by omega) (by omega) (by omega) hx (by omega)]
    simp
  · rw [if_neg c4,if_neg c4,AY steps k (by omega) hx _ _ _ _ (by omega)]
theorem Ef (xs : List Int) (v : Int) : ∀ (d k : Nat) (o i : Int),0 ≤ i→i ≤ xs.length→((xs.length : Int) - i = d)→d < k→xs.length < 9223372036854775807→
    iB.l0 k xs v o i = some (uX v o (xs.drop i.toNat)):=by
  intro d
  induction d with
  | zero =>
    intro k o i h0 h1 hd hk hx
    obtain ⟨k,rfl⟩ : ∃ m,k = m + 1:=⟨k - 1,by omega⟩
    simp only [iB.l0]
    rw [if_neg (by omega),List.drop_of_length_le (by omega)]
    rfl
  | succ d ih =>
    intro k o i h0 h1 hd hk hx
    obtain ⟨k,rfl⟩ : ∃ m,k = m + 1:=⟨k - 1,by omega⟩
    simp only [iB.l0]
    rw [if_pos (by omega),if_pos h0,uI h0 (by omega)]
    generalize rd xs i = s
    have e : (i + 1).toNat = i.toNat + 1:=by omega
    have st : ∀ o',iB.l0 k xs v o' (wrap64 (i + 1)) = some (uX v o' (xs.drop (i.toNat + 1))):=fun o'=>by
      rw [aV (by omega) (by omega),← e]
      exact ih k o' (i + 1) (by omega) (by omega) (by omega) (by omega) hx
    have cons : uX v o (s :: xs.drop (i.toNat + 1)) = uX v (if s ≤ v∧o < s then s else o) (xs.drop (i.toNat + 1)):=rfl
    rw [cons,st,st]
    by_cases c : s ≤ v
    · by_cases c2 : s > o
      · rw [if_pos c,if_pos c2,if_pos ⟨c,c2⟩]
      · rw [if_pos c,if_neg c2,if_neg (by omega)]
    · rw [if_neg c,if_neg (by omega)]
theorem Dm (k : Nat) (xs : List Int) (v : Int) (hk : xs.length < k) (hx : xs.length < 9223372036854775807) : iB.f k xs v = some (uX v (-2147483648) xs):=by
  unfold iB.f
  rw [Ef xs v xs.length k _ 0 (by omega) (by omega) (by omega) hk hx];simp
theorem FR (xs : List Int) (v : Int) : ∀ (d k : Nat) (o i : Int),0 ≤ i→i ≤ xs.length→((xs.length : Int) - i = d)→d < k→xs.length < 9223372036854775807→
    lK.l0 k xs v o i = some (ups v o (xs.drop i.toNat)):=by
  intro d
  induction d with
  | zero =>
    intro k o i h0 h1 hd hk hx
    obtain ⟨k,rfl⟩ : ∃ m,k = m + 1:=⟨k - 1,by omega⟩
    simp only [lK.l0]
    rw [if_neg (by omega),List.drop_of_length_le (by omega)]
    rfl
  | succ d ih =>
    intro k o i h0 h1 hd hk hx
    obtain ⟨k,rfl⟩ : ∃ m,k = m + 1:=⟨k - 1,by omega⟩
    simp only [lK.l0]
    rw [if_pos (by omega),if_pos h0,uI h0 (by omega)]
    generalize rd xs i = s
    have e : (i + 1).toNat = i.toNat + 1:=by omega
    have st : ∀ o',lK.l0 k xs v o' (wrap64 (i + 1)) = some (ups v o' (xs.drop (i.toNat + 1))):=fun o'=>by
      rw [aV (by omega) (by omega),← e]
      exact ih k o' (i + 1) (by omega) (by omega) (by omega) (by omega) hx
    have cons : ups v o (s :: xs.drop (i.toNat + 1)) = ups v (if v ≤ s∧s < o then s else o) (xs.drop (i.toNat + 1)):=rfl
    rw [cons,st,st]
    by_cases c : s ≥ v
    · by_cases c2 : s < o
      · rw [if_pos c,if_pos c2,if_pos ⟨c,c2⟩]
      · rw [if_pos c,if_neg c2,if_neg (by omega)]
    · rw [if_neg c,if_neg (by omega)]
theorem FJ (k : Nat) (xs : List Int) (v : Int) (hk : xs.length < k) (hx : xs.length < 9223372036854775807) : lK.f k xs v = some (ups v 2147483647 xs):=by
  unfold lK.f
  rw [FR xs v xs.length k _ 0 (by omega) (by omega) (by omega) hk hx];simp
theorem xz (k : Nat) (l h l' h' : Int) (steps : List Int) (hk : steps.length + 3 ≤ k) (hx : steps.length < 9223372036854775807) : bQ.f k l h l' h' steps = some (wJ l h l' h' steps):=by
  obtain ⟨k,rfl⟩ : ∃ m,k = m + 1:=⟨k - 1,by omega⟩
  unfold bQ.f wJ
  rw [uR _ (by omega),qj,qj]
  simp only [Option.bind_some,uB,Bool.and_eq_true,beq_iff_eq]
  by_cases c : sM l h
  case neg=>simp [c,bQ.j0]
  by_cases c1 : sM l' h'
  case neg=>simp [c,c1,bQ.j0]
  by_cases c2 : l = 1∧h = 0
  · have : l > h:=c.rJ.mpr c2
    simp [c,c1,c2,bQ.j0]
  by_cases c3 : l' = 1∧h' = 0
  · have : l' > h':=c1.rJ.mpr c3
    simp [c,c1,c2,c3,bQ.j0]
  have e2 : ¬ l > h:=fun n=>c2 (c.rJ.mp n)
  have e3 : ¬ l' > h':=fun n=>c3 (c1.rJ.mp n)
  have e : (l' == 1 && h' == 0) = false:=by
    rw [Bool.eq_false_iff];simpa using c3
  have hd:=Dm k steps (min l l') (by omega) hx
  have hu:=FJ k steps (max h h') (by omega) hx
  simp only [c,c1,c2,e2,e3,e,decide_true,decide_false,if_true,bQ.j0,Bool.false_eq_true,if_false,not_true,or_self,vY,hd,hu,Option.bind_some]
  by_cases c4 : min l l' < l <;> by_cases c5 : h < max h h' <;> simp [c4,c5] <;> omega
theorem wH (m a : Int) : lu.f m a = some (decide (uj m a)):=by
  unfold lu.f
  rw [vN]
  simp only [Option.bind_some]
  by_cases c : m = 0
  · rw [if_pos c];exact FC ⟨fun h=>Or.inl ⟨c,h⟩,fun h=>h.zero c⟩
  · rw [if_neg c]
    have e : uj m a↔(1 ≤ m∧m ≤ 65536∧0 ≤ a∧a < m):=by
      unfold uj;constructor
      · intro h;rcases h with h | h
        · exact absurd h.1 c
        · exact h.2
      · intro h;exact Or.inr ⟨c,h⟩
    by_cases c1 : m ≥ 1
    · rw [if_pos c1]
      by_cases c2 : m ≤ 65536
      · rw [if_pos c2]
        by_cases c3 : a ≥ 0
        · rw [if_pos c3];exact FC (by rw [e];omega)
        · rw [if_neg c3];exact F6 (by rw [e];omega)
      · rw [if_neg c2];exact F6 (by rw [e];omega)
    · rw [if_neg c1];exact F6 (by rw [e];omega)
theorem tX (m a : Int) : lv.f m a = some (decide (uj m a)):=by
  unfold lv.f
  rw [yL,vZ,vZ]
  simp only [Option.bind_some]
  by_cases c : m = 0
  · rw [if_pos c];exact FC ⟨fun h=>Or.inl ⟨c,h⟩,fun h=>h.zero c⟩
  · rw [if_neg c]
    have e : uj m a↔(1 ≤ m∧m ≤ 65536∧0 ≤ a∧a < m):=by
      unfold uj;constructor
      · intro h;rcases h with h | h
        · exact absurd h.1 c
        · exact h.2
      · intro h;exact Or.inr ⟨c,h⟩
    by_cases c1 : 1 ≤ m∧m ≤ 65536
    · simp only [c1,decide_true,if_true,and_self]
      rw [aV (by omega) (by omega)];exact FC (by rw [e];omega)
    · simp only [c1,decide_false,Bool.false_eq_true,if_false];exact F6 (by rw [e];omega)
theorem xJ : qx.f = some (1,0):=rfl
theorem wK : qO.f = some (1,0):=rfl
theorem tN {n m : Int} (hm : 0 < m) (h : m ≤ 9223372036854775807) : dZ.f n m = some (n % m):=mod_eq hm h
theorem D6 (g n : Int) : Int.gcd n (Int.tmod g n) = Int.gcd g n:=by
  rw [Int.gcd_eq_natAbs_gcd_natAbs,Int.gcd_eq_natAbs_gcd_natAbs,Int.natAbs_tmod,Nat.gcd_comm g.natAbs,Nat.gcd_comm n.natAbs (g.natAbs % n.natAbs),← Nat.gcd_rec]
theorem Fy {xs : List Int} {len i r : Int} (K : Nat) : ∀ (d k : Nat) (g n : Int),n.natAbs ≤ d→K + d + 1 ≤ k→
    (∀ (k' : Nat) (g' : Int),K ≤ k'→g'.natAbs = Int.gcd g n→dL.l0 k' g' xs len (wrap64 (i + 1)) = some r)→dL.l1 k g n xs len i = some r:=by
  intro d
  induction d with
  | zero =>
    intro k g n hn hk h
    obtain ⟨k,rfl⟩ : ∃ m,k = m + 1:=⟨k - 1,by omega⟩
    have : n = 0:=by omega
    subst this
    simp only [dL.l1,if_true]
    exact h k g (by omega) (by simp)
  | succ d ih =>
    intro k g n hn hk h
    obtain ⟨k,rfl⟩ : ∃ m,k = m + 1:=⟨k - 1,by omega⟩
    simp only [dL.l1]
    by_cases c : n = 0
    · subst c
      rw [if_pos rfl]
      exact h k g (by omega) (by simp)
    · rw [if_neg c]
      have : (Int.tmod g n).natAbs < n.natAbs:=by rw [Int.natAbs_tmod];exact Nat.mod_lt _ (by omega)
      refine ih k n (Int.tmod g n) (by omega) (by omega) ?_
      rw [D6];exact fun k' g'=>h k' g'
def Ee (g : Nat) (xs : List Int) : Nat:=xs.foldl (fun g n=>Nat.gcd g n.natAbs) g
theorem FH (xs : List Int) (hx : ∀ x ∈ xs,x.natAbs ≤ 9223372036854775807) (hl : xs.length ≤ 1000) : ∀ (d k : Nat) (g i : Int),0 ≤ i→i ≤ xs.length→((xs.length : Int) - i = d)→d * 9223372036854775900 + 2 ≤ k→g.natAbs ≤ 9223372036854775807→
    dL.l0 k g xs (xs.length : Int) i = some ((Ee g.natAbs (xs.drop i.toNat) : Nat) : Int):=by
  intro d
  induction d with
  | zero =>
    intro k g i h0 h1 hd hk hg
    obtain ⟨k,rfl⟩ : ∃ m,k = m + 1:=⟨k - 1,by omega⟩
    simp only [dL.l0]
    rw [if_neg (by omega),List.drop_of_length_le (by omega)]
    simp only [Ee,List.foldl_nil]
    by_cases c : g < 0
    · rw [if_pos c,aV (by omega) (by omega)];congr 1;omega
    · rw [if_neg c];congr 1;omega
  | succ d ih =>
    intro k g i h0 h1 hd hk hg
    obtain ⟨k,rfl⟩ : ∃ m,k = m + 1:=⟨k - 1,by omega⟩
    simp only [dL.l0]
    rw [if_pos (by omega),if_pos h0,if_pos (by omega),uI h0 (by omega)]
    have hm : rd xs i ∈ xs:=by
      have:=uI (xs:=xs) h0 (by omega)
      exact List.mem_of_mem_drop (by rw [this];exact List.mem_cons_self ..)
    have hn:=hx _ hm
    generalize rd xs i = n at *
    have e : (i + 1).toNat = i.toNat + 1:=by omega
    refine Fy (d * 9223372036854775900 + 2) n.natAbs k g n (Nat.le_refl _) (by omega) ?_
    intro k' g' hk' hg'
    have le : g'.natAbs ≤ 9223372036854775807:=by
      rw [hg',Int.gcd_eq_natAbs_gcd_natAbs]
      rcases Nat.eq_zero_or_pos g.natAbs with z | z
      · rw [z,Nat.gcd_zero_left];exact hn
      · exact Nat.le_trans (Nat.gcd_le_left _ z) hg
    rw [aV (by omega) (by omega),ih k' g' (i + 1) (by omega) (by omega) (by omega) hk' le,e,hg']
    rfl
theorem xU (k : Nat) (xs : List Int) (hk : xs.length * 9223372036854775900 + 2 ≤ k) (hx : ∀ x ∈ xs,x.natAbs ≤ 9223372036854775807) (hl : xs.length ≤ 1000) : dL.f k xs = some ((Ee 0 xs : Nat) : Int):=by
  unfold dL.f
  rw [FH xs hx hl xs.length k 0 0 (by omega) (by omega) (by omega) hk (by decide)]
  simp
theorem D7 (k : Nat) (hk : 100000000000000000000 ≤ k) {a b : Int} (ha : a.natAbs ≤ 9223372036854775807) (hb : b.natAbs ≤ 9223372036854775807) : dL.f k [a,b] = some ((Int.gcd a b : Nat) : Int):=by
  rw [xU k _ (by simp;omega) (by intro x hx;simp at hx;rcases hx with rfl | rfl <;> assumption) (by simp)]
  simp [Ee,Int.gcd_eq_natAbs_gcd_natAbs]
theorem Dn (k : Nat) (hk : 100000000000000000000 ≤ k) {a b c : Int} (ha : a.natAbs ≤ 9223372036854775807) (hb : b.natAbs ≤ 9223372036854775807) (hc : c.natAbs ≤ 9223372036854775807) :
    dL.f k [a,b,c] = some ((Int.gcd (Int.gcd a b : Int) c : Nat) : Int):=by
  rw [xU k _ (by simp;omega) (by intro x hx;simp at hx;rcases hx with rfl | rfl | rfl <;> assumption) (by simp)]
  simp [Ee,Int.gcd_eq_natAbs_gcd_natAbs]
theorem C9 (k : Nat) (hk : 100000000000000000000 ≤ k) (n : Int) {m : Int} (h0 : 0 ≤ m) (h1 : m ≤ 9223372036854775807) : pK.f k n m = some (Gn n m):=by
  unfold pK.f Gn DD
  by_cases c : m > 65536
  · have g:=vH c
    simp only [if_pos c]
    rw [D7 k hk (by omega) (by omega)]
    simp only [Option.bind_some]
    rw [if_neg (by omega),if_neg (by omega),tN (by omega) (by omega)]
    rfl
  · simp only [if_neg c]
    by_cases c0 : m = 0
    · rw [if_pos c0,if_pos c0]
    · rw [if_neg c0,if_neg c0,tN (by omega) (by omega)]
      rfl
theorem wL (k : Nat) (hk : 200000000000000000000 ≤ k) (m a m' a' : Int) : dP.f k m a m' a' = some (wW m a m' a'):=by
  obtain ⟨k,rfl⟩ : ∃ m,k = m + 1:=⟨k - 1,by omega⟩
  unfold dP.f wW
  rw [wH,wH]
  simp only [Option.bind_some]
  by_cases c : uj m a
  case neg=>simp [c,dP.j0,xJ]
  by_cases c1 : uj m' a'
  case neg=>simp [c,c1,dP.j0,xJ]
  simp only [c,c1,decide_true,if_true,Bool.not_true,dP.j0,Bool.false_eq_true,if_false,not_true,or_self]
  have q:=c.FL
  have q':=c1.FL
  unfold uk at q q'
  rw [aV (by omega) (by omega),Dn k (by omega) (by omega) (by omega) (by omega)]
  simp only [Option.bind_some]
  have le : (Int.gcd (Int.gcd m m' : Int) (a - a') : Int) ≤ 9223372036854775807:=by
    by_cases z : a - a' = 0
    · rw [z,Int.gcd_zero]
      by_cases y : m = 0
      · rw [y,Int.zero_gcd];omega
      · have:=Int.gcd_le_left (a:=m) m' (by omega);omega
    · have:=Int.gcd_le_natAbs_right (b:=a - a') (Int.gcd m m' : Int) z;omega
  rw [C9 k (by omega) _ (by omega) le]
  rfl
theorem EA : ∀ (d k : Nat) (a b : Int),0 ≤ a→0 ≤ b→b.toNat ≤ d→d < k→eD.l0 k a b = some ((Int.gcd a b : Nat) : Int):=by
  intro d
  induction d with
  | zero =>
    intro k a b h0 h1 hd hk
    obtain ⟨k,rfl⟩ : ∃ m,k = m + 1:=⟨k - 1,by omega⟩
    have : b = 0:=by omega
    subst this
    simp only [eD.l0,if_true,Int.gcd_zero];congr 1;omega
  | succ d ih =>
    intro k a b h0 h1 hd hk
    obtain ⟨k,rfl⟩ : ∃ m,k = m + 1:=⟨k - 1,by omega⟩
    simp only [eD.l0]
    by_cases c : b = 0
    · subst c
      rw [if_pos rfl,Int.gcd_zero];congr 1;omega
    · rw [if_neg c]
      have t0:=tmod_nonneg (b:=b) h0
      have t1:=EI (a:=a) (b:=b) (by omega)
      rw [ih k b (Int.tmod a b) h1 t0 (by omega) (by omega)]
      congr 2
      rw [Int.gcd_eq_natAbs_gcd_natAbs,Int.gcd_eq_natAbs_gcd_natAbs,Int.natAbs_tmod,Nat.gcd_comm a.natAbs,Nat.gcd_comm b.natAbs (a.natAbs % b.natAbs),← Nat.gcd_rec]
theorem Ac (k : Nat) (hk : 100000000000000000000 ≤ k) {a b : Int} (ha : a.natAbs ≤ 9223372036854775807) (hb : b.natAbs ≤ 9223372036854775807) : eD.f k a b = some ((Int.gcd a b : Nat) : Int):=by
  obtain ⟨k,rfl⟩ : ∃ m,k = m + 2:=⟨k - 2,by omega⟩
  have L : ∀ x y : Int,0 ≤ x→0 ≤ y→y ≤ 9223372036854775807→eD.l0 k x y = some ((Int.gcd x y : Nat) : Int):=fun x y h h' h''=>EA y.toNat k x y h h' (Nat.le_refl _) (by omega)
  unfold eD.f
  simp only [eD.j0,eD.j1]
  by_cases c : a < 0
  · rw [if_pos c,aV (x:=-a) (by omega) (by omega)]
    by_cases c1 : b < 0
    · rw [if_pos c1,aV (by omega) (by omega),L _ _ (by omega) (by omega) (by omega)];simp
    · rw [if_neg c1,L _ _ (by omega) (by omega) (by omega)];simp
  · rw [if_neg c]
    by_cases c1 : b < 0
    · rw [if_pos c1,aV (by omega) (by omega),L _ _ (by omega) (by omega) (by omega)];simp
    · rw [if_neg c1,L _ _ (by omega) (by omega) (by omega)]
theorem Dl (k : Nat) (hk : 100000000000000000000 ≤ k) (n : Int) {m : Int} (h0 : 0 ≤ m) (h1 : m ≤ 9223372036854775807) : qi.f k m n = some (Gn n m):=by
  unfold qi.f Gn DD
  by_cases c : m > 65536
  · have g:=vH c
    simp only [if_pos c]
    rw [Ac k hk (by omega) (by omega)]
    simp only [Option.bind_some]
    rw [if_neg (by omega),if_neg (by omega),mod_eq (by omega) (by omega)]
    rfl
  · simp only [if_neg c]
    by_cases c0 : m = 0
    · rw [if_pos c0,if_pos c0]
    · rw [if_neg c0,if_neg c0,mod_eq (by omega) (by omega)]
      rfl
theorem vJ (k : Nat) (hk : 200000000000000000000 ≤ k) (m a m' a' : Int) : dO.f k m a m' a' = some (wW m a m' a'):=by
  obtain ⟨k,rfl⟩ : ∃ m,k = m + 1:=⟨k - 1,by omega⟩
  unfold dO.f wW
  rw [tX,tX]
  simp only [Option.bind_some]
  by_cases c : uj m a
  case neg=>simp [c,dO.j0,wK]
  by_cases c1 : uj m' a'
  case neg=>simp [c,c1,dO.j0,wK]
  simp only [c,c1,decide_true,if_true,Bool.not_true,dO.j0,Bool.false_eq_true,if_false,not_true,or_self]
  have q:=c.FL
  have q':=c1.FL
  unfold uk at q q'
  have le0 : (Int.gcd m m' : Int) ≤ 65536:=by
    by_cases y : m = 0
    · rw [y,Int.zero_gcd];omega
    · have:=Int.gcd_le_left (a:=m) m' (by omega);omega
  rw [Ac k (by omega) (by omega) (by omega)]
  simp only [Option.bind_some]
  rw [aV (by omega) (by omega),Ac k (by omega) (by omega) (by omega)]
  simp only [Option.bind_some]
  have le : (Int.gcd (Int.gcd m m' : Int) (a - a') : Int) ≤ 9223372036854775807:=by
    by_cases z : a - a' = 0
    · rw [z,Int.gcd_zero];omega
    · have:=Int.gcd_le_natAbs_right (b:=a - a') (Int.gcd m m' : Int) z;omega
  rw [Dl k (by omega) _ (by omega) le]
  rfl
theorem vC : gJ.f = some (1,0,0,0):=rfl
theorem Da (v : Int) : mY.f v = some (v,v,0,v):=rfl
theorem pJ : dw.f = some (1,0,0,0):=rfl
theorem BJ (v : Int) : pI.f v = some (v,v,0,v):=rfl
theorem vo (k : Nat) (hk : 1 ≤ k) (l h m a : Int) : gB.f k l h m a = some (uU l h m a):=by
  obtain ⟨k,rfl⟩ : ∃ m,k = m + 1:=⟨k - 1,by omega⟩
  unfold gB.f
  rw [qU,wH,sO]
  simp only [Option.bind_some]
  by_cases c : ¬ sM l h∨¬ uj m a∨l > h
  · rw [tY c]
    have N : gB.j0 (k + 1) true l h m a = some (1,0,0,0):=by simp only [gB.j0,if_true,vC,Option.bind_some]
    by_cases c1 : sM l h
    case neg=>simp only [c1,decide_false,Bool.false_eq_true,if_false];exact N
    by_cases c2 : uj m a
    case neg=>simp only [c1,c2,decide_true,decide_false,if_true,Bool.false_eq_true,if_false];exact N
    have c3 : l > h:=by
      rcases c with c | c | c
      · exact absurd c1 c
      · exact absurd c2 c
      · exact c
    simp only [c1,c2,c3,decide_true,if_true];exact N
  have o : sM l h:=Decidable.byContradiction fun n=>c (Or.inl n)
  have s : uj m a:=Decidable.byContradiction fun n=>c (Or.inr (Or.inl n))
  have e : ¬ l > h:=fun n=>c (Or.inr (Or.inr n))
  have on:=o.some e
  have sn:=s.FL
  unfold uk at on sn
  unfold uU
  rw [if_neg c]
  simp only [o,s,e,decide_true,decide_false,if_true,gB.j0,Bool.false_eq_true,if_false]
  rw [AL,vC]
  simp only [Option.bind_some,decide_eq_true_eq,Da]
  by_cases hm : m = 0
  · rw [if_pos hm,if_pos hm];split <;> rfl
  rw [if_neg hm,if_neg hm]
  have p:=s.pos hm
  rw [aV (x:=a - l) (by omega) (by omega),aV (x:=h - a) (by omega) (by omega),tN (by omega) (by omega),tN (by omega) (by omega)]
  simp only [Option.bind_some]
  have e1:=Int.emod_nonneg (a - l) hm
  have e2:=Int.emod_nonneg (h - a) hm
  have e3:=Int.emod_lt_of_pos (a - l) (b:=m) (by omega)
  have e4:=Int.emod_lt_of_pos (h - a) (b:=m) (by omega)
  rw [aV (x:=l + (a - l) % m) (by omega) (by omega),aV (x:=h - (h - a) % m) (by omega) (by omega)]
  split
  · rfl
  · split <;> rfl
theorem uA (k : Nat) (hk : 1 ≤ k) (l h m a : Int) : bq.f k l h m a = some (uU l h m a):=by
  obtain ⟨k,rfl⟩ : ∃ m,k = m + 1:=⟨k - 1,by omega⟩
  unfold bq.f
  rw [qj,tX,uB]
  simp only [Option.bind_some]
  by_cases c : ¬ sM l h∨¬ uj m a∨l > h
  · rw [tY c]
    have N : bq.j0 (k + 1) true l h m a = some (1,0,0,0):=by simp only [bq.j0,if_true,pJ,Option.bind_some]
    by_cases c1 : sM l h
    case neg=>simp only [c1,decide_false,Bool.false_eq_true,if_false];exact N
    by_cases c2 : uj m a
    case neg=>simp only [c1,c2,decide_true,decide_false,if_true,Bool.false_eq_true,if_false];exact N
    have c3 : l > h:=by
      rcases c with c | c | c
      · exact absurd c1 c
      · exact absurd c2 c
      · exact c
    have c4:=c1.none c3
    have c5 : (l == 1 && h == 0) = true:=by simp [c4]
    simp only [c1,c2,c5,decide_true,if_true];exact N
  have o : sM l h:=Decidable.byContradiction fun n=>c (Or.inl n)
  have s : uj m a:=Decidable.byContradiction fun n=>c (Or.inr (Or.inl n))
  have e : ¬ l > h:=fun n=>c (Or.inr (Or.inr n))
  have on:=o.some e
  have sn:=s.FL
  unfold uk at on sn
  have c5 : (l == 1 && h == 0) = false:=by
    rw [Bool.eq_false_iff];simp only [ne_eq,Bool.and_eq_true,beq_iff_eq];omega
  unfold uU
  rw [if_neg c]
  simp only [o,s,c5,decide_true,decide_false,if_true,bq.j0,Bool.false_eq_true,if_false]
  rw [yU,pJ]
  simp only [Option.bind_some,decide_eq_true_eq,BJ]
  by_cases hm : m = 0
  · rw [if_pos hm,if_pos hm];split <;> rfl
  rw [if_neg hm,if_neg hm]
  have p:=s.pos hm
  rw [aV (x:=a - l) (by omega) (by omega),aV (x:=h - a) (by omega) (by omega),mod_eq (by omega) (by omega),mod_eq (by omega) (by omega)]
  simp only [Option.bind_some]
  have e1:=Int.emod_nonneg (a - l) hm
  have e2:=Int.emod_nonneg (h - a) hm
  have e3:=Int.emod_lt_of_pos (a - l) (b:=m) (by omega)
  have e4:=Int.emod_lt_of_pos (h - a) (b:=m) (by omega)
  rw [aV (x:=l + (a - l) % m) (by omega) (by omega),aV (x:=h - (h - a) % m) (by omega) (by omega)]
  split
  · rfl
  · split <;> rfl
theorem rR (k : Nat) (hk : 1 ≤ k) (l h m a : Int) : dY.f k l h m a = some (decide (r9 l h m a)):=by
  unfold dY.f iZ.f iY.f
  simp only [Option.bind_some]
  rw [vo k hk]
  simp only [Option.bind_some]
  congr 1
  rw [Bool.eq_iff_iff]
  simp only [Bool.and_eq_true,beq_iff_eq,decide_eq_true_eq]
  unfold r9
  constructor
  · rintro ⟨a1,a2,a3,a4⟩;rw [Prod.ext_iff,Prod.ext_iff,Prod.ext_iff];exact ⟨a1.symm,a2.symm,a3.symm,a4.symm⟩
  · intro e;rw [e];exact ⟨rfl,rfl,rfl,rfl⟩
theorem rM (k : Nat) (hk : 1 ≤ k) (l h m a : Int) : dG.f k l h m a = some (decide (r9 l h m a)):=by
  unfold dG.f
  rw [pJ,Option.bind_some]
  show (if (l == 1 && (h == 0 && (m == 0 && (a == 0)))) = true then some true else _) = _
  by_cases z : (l == 1 && (h == 0 && (m == 0 && (a == 0)))) = true
  · rw [if_pos z]
    simp only [Bool.and_eq_true,beq_iff_eq] at z
    obtain ⟨rfl,rfl,rfl,rfl⟩:=z
    rw [decide_eq_true DT]
  · rw [if_neg z]
    have no : (¬ sM l h∨¬ uj m a∨l > h)→¬ r9 l h m a:=fun c q=>by
      unfold r9 at q
      rw [tY c,Prod.mk.injEq,Prod.mk.injEq,Prod.mk.injEq] at q
      obtain ⟨rfl,rfl,rfl,rfl⟩:=q
      exact z rfl
    show (bT.f l h).bind _ = _
    rw [qj,Option.bind_some]
    by_cases o : sM l h
    · rw [decide_eq_true o,if_pos rfl]
      show (lv.f m a).bind _ = _
      rw [tX,Option.bind_some]
      by_cases s : uj m a
      · rw [decide_eq_true s,if_pos rfl]
        show (bq.f k l h m a).bind _ = _
        rw [uA k hk,Option.bind_some]
        congr 1
        rw [Bool.eq_iff_iff]
        simp only [Bool.and_eq_true,beq_iff_eq,decide_eq_true_eq]
        unfold r9
        constructor
        · rintro ⟨a1,a2,a3,a4⟩;rw [Prod.ext_iff,Prod.ext_iff,Prod.ext_iff];exact ⟨a1.symm,a2.symm,a3.symm,a4.symm⟩
        · intro e;rw [e];exact ⟨rfl,rfl,rfl,rfl⟩
      · rw [decide_eq_false s,if_neg (by decide),decide_eq_false (no (.inr (.inl s)))]
    · rw [decide_eq_false o,if_neg (by decide),decide_eq_false (no (.inl o))]
theorem wP (x : List Int) (hx : x.length ≤ 1099511627776) : ∀ (m : Nat) (k i : Nat) (acc : List Int),i + m = x.length→m < k→acc.length = x.length→(∀ j,j < i→acc[j]? = x[j]?)→ek.l0 k x acc (i : Int) = some x
  | 0,0,_,_,_,h,_,_=>absurd h (by omega)
  | 0,k + 1,i,acc,hm,_,hl,hj=>by
    unfold ek.l0
    rw [if_neg (by omega)]
    congr 1
    apply List.ext_getElem?
    intro j
    by_cases h : j < i
    · exact hj j h
    · rw [List.getElem?_eq_none (by omega),List.getElem?_eq_none (by omega)]
  | m + 1,0,_,_,_,h,_,_=>absurd h (by omega)
  | m + 1,k + 1,i,acc,hm,hk,hl,hj=>by
    unfold ek.l0
    rw [if_pos (by omega),if_pos (by omega),if_pos (by omega),aV (by omega) (by omega)]
    have h2:=DV x acc i (by omega) hl hj
    have e : ((i : Int) + 1) = ((i + 1 : Nat) : Int):=by omega
    rw [e,show (i : Int).toNat = i by omega]
    exact wP x hx m k (i + 1) _ (by omega) (by omega) h2.1 h2.2
theorem wm {k : Nat} (x : List Int) (hx : x.length ≤ 1048576) (hk : 2000000 ≤ k) : ek.f k x = some x:=by
  unfold ek.f
  rw [if_pos (by omega),if_pos (by omega)]
  exact wP x (by omega) x.length k 0 _ (by omega) (by omega) (by simp) (fun j h=>absurd h (by omega))
theorem CS {k : Nat} (n : Int) (x : List Int) (hx : x.length ≤ 1048576) (hk : 2000000 ≤ k) : ql.f k n x = some (n,x):=by
  unfold ql.f
  rw [wm x hx hk];rfl
theorem CJ (x : List Int) (a : Int) (hx : x.length ≤ 9223372036854775807) (h0 : 0 ≤ a) (h : a ≤ 1048576) : mX.f x a = some (if (x.length : Int) ≤ a then a - x.length else -1):=by
  unfold mX.f
  rw [aV (by omega) (by omega)]
  by_cases c : (x.length : Int) ≤ a
  · rw [if_neg (by omega),if_pos c]
  · rw [if_pos (by omega),if_neg c]
theorem CW (n : Int) (x : List Int) (a : Int) (hx : x.length ≤ 9223372036854775807) (h0 : 0 ≤ a) (h : a ≤ 1048576) : pG.f n x a = some (if (x.length : Int) ≤ a then a - x.length else -1):=by
  unfold pG.f
  rw [CJ x a hx h0 h]
  show (if (if (x.length : Int) ≤ a then a - x.length else -1) < 0 then (some (-1)) else some (if (x.length : Int) ≤ a then a - x.length else -1)) = _
  by_cases c : (x.length : Int) ≤ a
  · simp only [if_pos c];rw [if_neg (by omega)]
  · simp only [if_neg c];rw [if_pos (by omega)]
theorem wQ (x : List Int) (hx : x.length ≤ 1099511627776) : ∀ (m : Nat) (k i : Nat),i + m = x.length→m < k→fB.l0 k x x (i : Int) = some true
  | 0,0,_,_,h=>absurd h (by omega)
  | 0,k + 1,i,hm,_=>by unfold fB.l0;rw [if_neg (by omega)]
  | m + 1,0,_,_,h=>absurd h (by omega)
  | m + 1,k + 1,i,hm,hk=>by
    unfold fB.l0
    rw [if_pos (by omega),if_pos (by omega),if_pos (by omega),if_pos rfl,aV (by omega) (by omega)]
    exact wQ x hx m k (i + 1) (by omega) (by omega)
theorem uq {k : Nat} (x : List Int) (hx : x.length ≤ 1048576) (hk : 2000000 ≤ k) : fB.f k x x = some true:=by
  unfold fB.f
  rw [if_pos rfl]
  exact wQ x (by omega) x.length k 0 (by omega) (by omega)
theorem Am {k : Nat} (n : Int) (x : List Int) (hx : x.length ≤ 1048576) (hk : 2000000 ≤ k) : pM.f k n x n x = some true:=by
  unfold pM.f
  rw [if_pos rfl,uq x hx hk];rfl
theorem CU {n : Int} {d : List Int} {i j : Int} (h0 : 0 ≤ n) (h : n ≤ 12) (hl : (d.length : Int) = (n + 1) * (n + 1)) (hi0 : 0 ≤ i) (hi : i ≤ n) (hj0 : 0 ≤ j) (hj : j ≤ n) :
    oZ.f n d i j = some (Ag n d i j):=by
  have:=wu h0 h hi0 hi hj0 hj
  unfold oZ.f Ag
  rw [ER h0 h hi0 hi hj0 hj,if_pos (by omega),if_pos (by omega)]
theorem CO {n : Int} {d : List Int} {i j : Int} (h0 : 0 ≤ n) (h : n ≤ 12) (hi0 : 0 ≤ i) (hi : i ≤ n) (hj0 : 0 ≤ j) (hj : j ≤ n) :
    oO.f n d i j = some (i * (n + 1) + j):=by
  unfold oO.f
  rw [ER h0 h hi0 hi hj0 hj]
theorem xO {n : Int} {d : List Int} (h0 : 0 ≤ n) (h : n ≤ 12) (hl : (d.length : Int) = (n + 1) * (n + 1)) (i : Int) (hi0 : 0 ≤ i) (hi : i ≤ n) (K : Nat) (Q : Prop)
    (rest : ∀ k,K ≤ k→Tot (cz.l0 k (i + 1) n d) fun b=>b = true↔Q) : ∀ (m : Nat) (k : Nat) (j : Int),(n + 1 - j).toNat = m→0 ≤ j→j ≤ n + 1→K + m < k→
    Tot (cz.l1 k i j n d) fun b=>b = true↔(∀ j' : Int,j ≤ j'→j' ≤ n→EM (Ag n d i j')∧(i = j'→Ag n d i j' = 0))∧Q
  | m,0,j,_,_,_,hk=>absurd hk (by omega)
  | 0,k + 1,j,hm,hj,hj',hk=>by
    unfold cz.l1
    rw [if_neg (by omega),aV (by omega) (by omega)]
    refine (rest k (by omega)).mono fun b hb=>hb.trans ⟨fun q=>⟨fun j' a c=>absurd a (by omega),q⟩,fun q=>q.2⟩
  | m + 1,k + 1,j,hm,hj,hj',hk=>by
    unfold cz.l1
    rw [if_pos (by omega),CU h0 h hl hi0 hi hj (by omega)]
    show Tot ((iV.f (Ag n d i j) (-1099511627776) 1099511627776).bind _) _
    rw [vZ]
    have next : EM (Ag n d i j)→(i = j→Ag n d i j = 0)→Tot (cz.l1 k i (wrap64 (j + 1)) n d) fun b=>b = true↔(∀ j' : Int,j ≤ j'→j' ≤ n→EM (Ag n d i j')∧(i = j'→Ag n d i j' = 0))∧Q:=by
      intro a c
      rw [aV (by omega) (by omega)]
      refine (xO h0 h hl i hi0 hi K Q rest m k (j + 1) (by omega) (by omega) (by omega) (by omega)).mono fun b hb=>hb.trans ⟨fun q=>⟨fun j' p p'=>?_,q.2⟩,fun q=>⟨fun j' p p'=>q.1 j' (by omega) p',q.2⟩⟩
      by_cases e : j' = j
      · subst e;exact ⟨a,c⟩
      · exact q.1 j' (by omega) p'
    refine Tot.ite (fun c=>?_) (fun c=>?_)
    · have c' : EM (Ag n d i j):=(of_decide_eq_true c : -1099511627776 ≤ Ag n d i j∧Ag n d i j ≤ 1099511627776)
      refine Tot.ite (fun e=>?_) (fun e=>next c' fun e'=>absurd e' e)
      refine Tot.ite (fun z=>next c' fun _=>z) (fun z=>Tot.here ⟨fun f=>(nomatch f),fun q=>absurd ((q.1 j (by omega) (by omega)).2 e) z⟩)
    · refine Tot.here ⟨fun f=>(nomatch f),fun q=>?_⟩
      have:=(q.1 j (by omega) (by omega)).1
      exact absurd (decide_eq_true (show -1099511627776 ≤ Ag n d i j∧Ag n d i j ≤ 1099511627776 from this)) c
theorem xY {n : Int} {d : List Int} (h0 : 0 ≤ n) (h : n ≤ 12) (hl : (d.length : Int) = (n + 1) * (n + 1)) : ∀ (m : Nat) (k : Nat) (i : Int),(n + 1 - i).toNat = m→0 ≤ i→i ≤ n + 1→20 * m < k→
    Tot (cz.l0 k i n d) fun b=>b = true↔∀ i' j : Int,i ≤ i'→i' ≤ n→0 ≤ j→j ≤ n→EM (Ag n d i' j)∧(i' = j→Ag n d i' j = 0)
  | m,0,i,_,_,_,hk=>absurd hk (by omega)
  | 0,k + 1,i,hm,hi,hi',hk=>by
    unfold cz.l0
    rw [if_neg (by omega)]
    exact Tot.here ⟨fun _ i' j a b=>absurd a (by omega),fun _=>rfl⟩
  | m + 1,k + 1,i,hm,hi,hi',hk=>by
    unfold cz.l0
    rw [if_pos (by omega)]
    refine (xO h0 h hl i hi (by omega) (20 * m + 1) _ (fun k hk=>xY h0 h hl m k (i + 1) (by omega) (by omega) (by omega) (by omega)) _ k 0 rfl (by omega) (by omega) (by omega)).mono fun b hb=>hb.trans ⟨fun q i' j a b c e=>?_,fun q=>⟨fun j' a b=>q i j' (by omega) (by omega) a b,fun i' j a b c e=>q i' j (by omega) b c e⟩⟩
    by_cases e' : i' = i
    · subst e';exact q.1 j c e
    · exact q.2 i' j (by omega) b c e
theorem uz {k : Nat} (n : Int) (d : List Int) (hk : 1000 ≤ k) : Tot (cz.f k n d) fun b=>b = true↔yg n d:=by
  obtain ⟨k,rfl⟩ : ∃ j,k = j + 1:=⟨k - 1,by omega⟩
  unfold cz.f
  rw [vZ]
  show Tot (if decide (0 ≤ n∧n ≤ 12) = true then _ else _) _
  refine Tot.ite (fun c=>?_) (fun c=>?_)
  · have c:=of_decide_eq_true c
    rw [GK c.1 c.2]
    rw [cz.j0]
    by_cases e : (d.length : Int) = (n + 1) * (n + 1)
    · have : ((d.length : Int) != (n + 1) * (n + 1)) = false:=bne_eq_false_iff_eq.mpr e
      rw [this,if_neg (by simp)]
      exact (xY c.1 c.2 e _ k 0 rfl (by omega) (by omega) (by omega)).mono fun b hb=>hb.trans (yg.Fu c.1 c.2 e).symm
    · have : ((d.length : Int) != (n + 1) * (n + 1)) = true:=bne_iff_ne.mpr e
      rw [this,if_pos rfl]
      exact Tot.here ⟨fun f=>(nomatch f),fun q=>absurd q.2.2.1 e⟩
  · rw [cz.j0]
    rw [if_pos rfl]
    exact Tot.here ⟨fun f=>(nomatch f),fun q=>absurd (decide_eq_true (show 0 ≤ n∧n ≤ 12 from ⟨q.1,q.2.1⟩)) c⟩
theorem wU {k : Nat} {n : Int} {d : List Int} (h : yg n d) (hk : 1000 ≤ k) : cz.f k n d = some true:=by
  obtain ⟨b,e,hb⟩:=uz (k:=k) n d hk
  rw [e,hb.mpr h]
theorem xM {k : Nat} {n : Int} {d : List Int} (h : ¬ yg n d) (hk : 1000 ≤ k) : cz.f k n d = some false:=by
  obtain ⟨b,e,hb⟩:=uz (k:=k) n d hk
  rw [e]
  cases b with
  | false=>rfl
  | true=>exact absurd (hb.mp rfl) h
theorem yz (d : List Int) (hd : d.length ≤ 1000) : ∀ (m : Nat) (k : Nat) (p : Int),((d.length : Int) - p).toNat = m→0 ≤ p→p ≤ d.length→m < k→
    Tot (bI.l1 k d (d.length : Int) p) fun b=>b = true↔∀ q : Int,p ≤ q→q < (d.length : Int)→EM (rd d q)
  | m,0,p,_,_,_,hk=>absurd hk (by omega)
  | 0,k + 1,p,hm,hp,hp',hk=>by
    unfold bI.l1
    rw [if_neg (by omega)]
    exact Tot.here ⟨fun _ q a b=>absurd a (by omega),fun _=>rfl⟩
  | m + 1,k + 1,p,hm,hp,hp',hk=>by
    unfold bI.l1
    rw [if_pos (by omega),if_pos (by omega),if_pos (by omega)]
    refine Tot.ite (fun c=>Tot.here ⟨fun f=>(nomatch f),fun q=>?_⟩) (fun c=>Tot.ite (fun c'=>Tot.here ⟨fun f=>(nomatch f),fun q=>?_⟩) (fun c'=>?_))
    · have:=(q p (by omega) (by omega)).1;omega
    · have:=(q p (by omega) (by omega)).2;omega
    · rw [aV (by omega) (by omega)]
      refine (yz d hd m k (p + 1) (by omega) (by omega) (by omega) (by omega)).mono fun b hb=>hb.trans ⟨fun q r a b=>?_,fun q r a b=>q r (by omega) b⟩
      by_cases e : r = p
      · subst e;exact ⟨by omega,by omega⟩
      · exact q r (by omega) b
theorem yA {n : Int} {d : List Int} (h0 : 0 ≤ n) (h : n ≤ 12) (hl : (d.length : Int) = (n + 1) * (n + 1)) (hd : d.length ≤ 1000) : ∀ (m : Nat) (k : Nat) (i : Int),(n + 1 - i).toNat = m→0 ≤ i→i ≤ n + 1→1500 + m < k→
    Tot (bI.l0 k (n + 1) i n d) fun b=>b = true↔(∀ i' : Int,i ≤ i'→i' ≤ n→rd d (i' * (n + 1) + i') = 0)∧∀ q : Int,0 ≤ q→q < (d.length : Int)→EM (rd d q)
  | m,0,p,_,_,_,hk=>absurd hk (by omega)
  | 0,k + 1,i,hm,hi,hi',hk=>by
    unfold bI.l0
    rw [if_neg (by omega)]
    refine (yz d hd _ k 0 rfl (by omega) (by omega) (by omega)).mono fun b hb=>hb.trans ⟨fun q=>⟨fun i' a b=>absurd a (by omega),q⟩,fun q=>q.2⟩
  | m + 1,k + 1,i,hm,hi,hi',hk=>by
    unfold bI.l0
    have ix:=wu h0 h hi (by omega : i ≤ n) hi (by omega)
    rw [if_pos (by omega),CO h0 h hi (by omega) hi (by omega)]
    show Tot (if 0 ≤ i * (n + 1) + i then _ else _) _
    rw [if_pos (by omega),if_pos (by omega)]
    refine Tot.ite (fun c=>?_) (fun c=>Tot.here ⟨fun f=>(nomatch f),fun q=>absurd (q.1 i (by omega) (by omega)) c⟩)
    rw [aV (by omega) (by omega)]
    refine (yA h0 h hl hd m k (i + 1) (by omega) (by omega) (by omega) (by omega)).mono fun b hb=>hb.trans ⟨fun q=>⟨fun i' a b=>?_,q.2⟩,fun q=>⟨fun i' a b=>q.1 i' (by omega) b,q.2⟩⟩
    by_cases e : i' = i
    · subst e;exact c
    · exact q.1 i' (by omega) b
theorem uY {k : Nat} (n : Int) (d : List Int) (hk : 2000 ≤ k) : Tot (bI.f k n d) fun b=>b = true↔yg n d:=by
  obtain ⟨k,rfl⟩ : ∃ j,k = j + 1:=⟨k - 1,by omega⟩
  unfold bI.f
  have no : ¬ yg n d→Tot (bI.j0 (k + 1) true n d) fun b=>b = true↔yg n d:=by
    intro hn
    rw [bI.j0]
    rw [if_pos rfl]
    exact Tot.here ⟨fun f=>(nomatch f),fun q=>absurd q hn⟩
  refine Tot.ite (fun c=>no fun q=>by have:=q.1;omega) (fun c=>Tot.ite (fun c'=>no fun q=>by have:=q.2.1;omega) (fun c'=>?_))
  have a : 0 ≤ n:=by omega
  have b : n ≤ 12:=by omega
  rw [GK a b]
  by_cases e : (d.length : Int) = (n + 1) * (n + 1)
  · have : ((d.length : Int) != (n + 1) * (n + 1)) = false:=bne_eq_false_iff_eq.mpr e
    have ix:=wu a b a (Int.le_refl n) a (Int.le_refl n)
    have big : d.length ≤ 1000:=by rcases twelve a b with rfl | rfl | rfl | rfl | rfl | rfl | rfl | rfl | rfl | rfl | rfl | rfl | rfl <;> omega
    rw [this]
    rw [bI.j0]
    rw [if_neg (by simp),aV (x:=n + 1) (by omega) (by omega)]
    refine (yA a b e big _ k 0 rfl (by omega) (by omega) (by omega)).mono fun r hr=>hr.trans ⟨fun q=>⟨a,b,e,q.2,q.1⟩,fun q=>⟨q.2.2.2.2,q.2.2.2.1⟩⟩
  · have : ((d.length : Int) != (n + 1) * (n + 1)) = true:=bne_iff_ne.mpr e
    rw [this]
    exact no fun q=>e q.2.2.1
theorem xI {k : Nat} {n : Int} {d : List Int} (h : yg n d) (hk : 2000 ≤ k) : bI.f k n d = some true:=by
  obtain ⟨b,e,hb⟩:=uY (k:=k) n d hk
  rw [e,hb.mpr h]
theorem F8 {k : Nat} {n : Int} {d : List Int} (h : ¬ yg n d) (hk : 2000 ≤ k) : bI.f k n d = some false:=by
  obtain ⟨b,e,hb⟩:=uY (k:=k) n d hk
  rw [e]
  cases b with
  | false=>rfl
  | true=>exact absurd (hb.mp rfl) h
theorem sU : ∀ (m : Nat) (k i : Nat) (x : List Int) (a : Int),i + m = x.length→m < k→0 ≤ a→a + m ≤ 9007199254740992→x.length ≤ 1048576→
    Tot (fq.l0 k x a (i : Int)) fun r=>r.1 = a + m∧r.2.length = x.length∧(∀ p : Int,0 ≤ p→p < i→rd r.2 p = rd x p)∧∀ p : Int,(i : Int) ≤ p→p < (x.length : Int)→rd r.2 p = a + (p - i)
  | m,0,_,_,_,_,h,_,_,_=>absurd h (by omega)
  | 0,k + 1,i,x,a,hm,hk,h0,h1,hx=>by
    unfold fq.l0
    rw [if_neg (by omega)]
    exact Tot.here ⟨by simp,rfl,fun _ _ _=>rfl,fun p h h'=>absurd h (by omega)⟩
  | m + 1,k + 1,i,x,a,hm,hk,h0,h1,hx=>by
    unfold fq.l0
    rw [if_pos (by omega),if_pos (by omega),aV (x:=a + 1) (by omega) (by omega),aV (x:=(i : Int) + 1) (by omega) (by omega)]
    have e : (i : Int).toNat = i:=by omega
    rw [e]
    refine (sU m k (i + 1) (x.set i a) (a + 1) (by simp;omega) (by omega) (by omega) (by omega) (by simpa using hx)).mono fun r hr=>?_
    obtain ⟨r1,r2,r3,r4⟩:=hr
    refine ⟨by omega,by simpa using r2,fun p hp hp'=>?_,fun p hp hp'=>?_⟩
    · rw [r3 p hp (by omega),BH _ _ _ _ (by omega) hp,if_neg (by omega)]
    · by_cases q : p = (i : Int)
      · subst q
        rw [r3 _ (by omega) (by omega),BH _ _ _ _ (by omega) (by omega),if_pos rfl];omega
      · rw [r4 p (by omega) (by simpa using hp')];omega
theorem sP (x : List Int) (hx : x.length ≤ 1048576) : ∀ (m : Nat) (k i : Nat) (a : Int),i + m = x.length→m < k→0 ≤ a→a + m ≤ 9007199254740992→
    (∀ p : Int,(i : Int) ≤ p→p < (x.length : Int)→rd x p = a + (p - i))→eH.l0 k x a (i : Int) = some (a + m)
  | m,0,_,_,_,h,_,_,_=>absurd h (by omega)
  | 0,k + 1,i,a,hm,hk,h0,h1,h=>by
    unfold eH.l0
    rw [if_neg (by omega)];simp
  | m + 1,k + 1,i,a,hm,hk,h0,h1,h=>by
    unfold eH.l0
    rw [if_pos (by omega),if_pos (by omega),if_pos (by rw [h i (by omega) (by omega)];omega),aV (x:=a + 1) (by omega) (by omega),aV (x:=(i : Int) + 1) (by omega) (by omega)]
    have e : ((i : Int) + 1) = ((i + 1 : Nat) : Int):=by omega
    rw [e,sP x hx m k (i + 1) (a + 1) (by omega) (by omega) (by omega) (by omega) (fun p hp hp'=>by rw [h p (by omega) hp'];omega)]
    congr 1;omega
theorem CV {k : Nat} (n n' : Int) (x : List Int) (hx : x.length ≤ 1048576) (hk : 2000000 ≤ k) (a : Int) (ha : 0 ≤ a) (ha' : a ≤ 4503599627370496) :
    ∃ y,oQ.f k n x a = some (a + x.length,y)∧nZ.f k n' y a = some (a + x.length):=by
  obtain ⟨⟨r1,y⟩,e,h1,h2,_,h4⟩:=sU x.length k 0 x a (by omega) (by omega) ha (by omega) hx
  have h1 : r1 = a + x.length:=h1
  have h2 : y.length = x.length:=h2
  subst h1
  refine ⟨y,?_,?_⟩
  · unfold oQ.f fq.f
    rw [show (0 : Int) = ((0 : Nat) : Int) from rfl,e];rfl
  · unfold nZ.f eH.f
    have:=sP y (by omega) x.length k 0 a (by omega) (by omega) ha (by omega) (fun p hp hp'=>h4 p hp (by omega))
    rw [show (0 : Int) = ((0 : Nat) : Int) from rfl,this]
    show (if a + (x.length : Int) < 0 then _ else _) = _
    rw [if_neg (by omega)]
theorem uW (n : Int) (x : List Int) (hx : x.length ≤ 1048576) : ∀ (m : Nat) (k i : Nat) (acc : List Int),i + m = x.length→m < k→acc = x.take i→eQ.l0 k (i : Int) n x n acc = some (n,x)
  | m,0,_,_,_,h,_=>absurd h (by omega)
  | 0,k + 1,i,acc,hm,hk,h=>by
    unfold eQ.l0
    rw [if_neg (by omega),h,List.take_of_length_le (by omega)]
  | m + 1,k + 1,i,acc,hm,hk,h=>by
    unfold eQ.l0
    have hl : acc.length = i:=by rw [h,List.length_take];omega
    rw [if_pos (by omega),if_pos (by omega),if_pos (by omega),aV (by omega) (by omega)]
    refine uW n x hx m k (i + 1) _ (by omega) (by omega) ?_
    have hi : i < x.length:=by omega
    rw [h,List.take_add_one,List.getElem?_eq_getElem hi]
    simp [rd,List.getD_eq_getElem?_getD,List.getElem?_eq_getElem hi]
theorem Bg {k : Nat} (n : Int) (x : List Int) (hx : x.length ≤ 1048576) (hk : 2000000 ≤ k) : eQ.f k n x = some (n,x):=by
  unfold eQ.f
  exact uW n x hx x.length k 0 [] (by omega) (by omega) (by simp)
theorem AB (n : Int) (x : List Int) (hx : x.length ≤ 1048576) : ic.f n x = some (n,x):=by
  unfold ic.f
  rw [if_pos (by simp;omega)];rfl
theorem Bw {k : Nat} (n : Int) (d : List Int) (n' : Int) (d' : List Int) (hk : 2000000 ≤ k) : Tot (nN.f k n d n' d') fun b=>b = true↔yg n d∧yg n' d'∧n = n':=by
  unfold nN.f
  by_cases g : yg n d
  · rw [wU g (by omega)]
    by_cases g' : yg n' d'
    · rw [wU g' (by omega)]
      exact ⟨_,rfl,by simp [g,g']⟩
    · rw [xM g' (by omega)]
      exact ⟨_,rfl,⟨fun f=>(nomatch f),fun q=>absurd q.2.1 g'⟩⟩
  · rw [xM g (by omega)]
    exact ⟨_,rfl,⟨fun f=>(nomatch f),fun q=>absurd q.1 g⟩⟩
theorem vk (x y : List Int) (n : Int) (n' : Int) (hx : x.length ≤ 169) (hl : y.length = x.length) : ∀ (m : Nat) (K L i : Nat) (acc cur : List Int),i + m = x.length→m < K→m < L→acc.length = i→cur.length = x.length→
    (∀ j,j < i→acc[j]? = cur[j]?)→(∀ j,i ≤ j→cur[j]? = x[j]?)→∃ r : List Int,fP.l0 K (i : Int) n x n' y n acc = some (n,r)∧dA.l0 L y (y.length : Int) (i : Int) n cur = some (n,r)∧r.length ≤ 169
  | m,0,_,_,_,_,_,h,_,_,_,_,_=>absurd h (by omega)
  | m,_,0,_,_,_,_,_,h,_,_,_,_=>absurd h (by omega)
  | 0,K + 1,L + 1,i,acc,cur,hm,hK,hL,ha,hc,he,hf=>by
    rw [fP.l0,dA.l0,if_neg (show ¬ (i : Int) < (x.length : Int) by omega),if_neg (show ¬ (i : Int) < (y.length : Int) by omega)]
    have e : acc = cur:=by
      apply List.ext_getElem?
      intro j
      by_cases h : j < i
      · exact he j h
      · rw [List.getElem?_eq_none (by omega),List.getElem?_eq_none (by omega)]
    rw [e]
    exact ⟨cur,rfl,rfl,by omega⟩
  | m + 1,K + 1,L + 1,i,acc,cur,hm,hK,hL,ha,hc,he,hf=>by
    have hi : i < x.length:=by omega
    have cx : rd cur (i : Int) = rd x (i : Int):=by
      unfold rd
      rw [List.getD_eq_getElem?_getD,List.getD_eq_getElem?_getD,show (i : Int).toNat = i by omega,hf i (Nat.le_refl i)]
    rw [fP.l0,dA.l0,if_pos (show (i : Int) < (x.length : Int) by omega),if_pos (show (i : Int) < (y.length : Int) by omega),if_pos (show 0 ≤ (i : Int) by omega),if_pos (show 0 ≤ (i : Int) by omega),if_pos (show (i : Int) < (y.length : Int) by omega),if_pos (show (i : Int) < (y.length : Int) by omega),if_pos (show (i : Int) < (cur.length : Int) by omega),cx,aV (x:=(i : Int) + 1) (by omega) (by omega)]
    have e1 : ((i : Int) + 1) = ((i + 1 : Nat) : Int):=by omega
    have e2 : (i : Int).toNat = i:=by omega
    by_cases c : rd y (i : Int) > rd x (i : Int)
    · rw [if_pos c,if_pos c,if_pos (show acc.length < 17592186044416 by omega),e1,e2]
      refine vk x y n n' hx hl m K L (i + 1) (acc ++ [1099511627776]) (cur.set i 1099511627776) (by omega) (by omega) (by omega) (by simp [ha]) (by simpa using hc) (fun j hj=>?_) (fun j hj=>?_)
      · by_cases q : j = i
        · subst q
          rw [List.getElem?_set_self (by omega),List.getElem?_append_right (by omega)];simp [ha]
        · rw [List.getElem?_set_ne (by omega),List.getElem?_append_left (by omega)];exact he j (by omega)
      · rw [List.getElem?_set_ne (by omega)];exact hf j (by omega)
    · rw [if_neg c,if_neg c,if_pos (show acc.length < 17592186044416 by omega),e1]
      refine vk x y n n' hx hl m K L (i + 1) (acc ++ [rd x (i : Int)]) cur (by omega) (by omega) (by omega) (by simp [ha]) hc (fun j hj=>?_) (fun j hj=>hf j (by omega))
      by_cases q : j = i
      · subst q
        rw [List.getElem?_append_right (by omega),hf j (Nat.le_refl j),List.getElem?_eq_getElem hi]
        simp [ha,rd,List.getD_eq_getElem?_getD,List.getElem?_eq_getElem hi]
      · rw [List.getElem?_append_left (by omega)];exact he j (by omega)
theorem xV (y : List Int) (n : Int) : ∀ (m L i : Nat) (cur : List Int),i + m = y.length→m < L→cur.length = y.length→y.length ≤ 169→
    ∃ r : List Int,dA.l0 L y (y.length : Int) (i : Int) n cur = some (n,r)∧r.length = cur.length∧∀ p : Int,0 ≤ p→p < (y.length : Int)→rd r p = if p < (i : Int) then rd cur p else if rd y p > rd cur p then 1099511627776 else rd cur p
  | m,0,_,_,_,h,_,_=>absurd h (by omega)
  | 0,L + 1,i,cur,hm,hL,hc,hy=>by
    rw [dA.l0,if_neg (show ¬ (i : Int) < (y.length : Int) by omega)]
    exact ⟨cur,rfl,rfl,fun p a b=>by rw [if_pos (by omega)]⟩
  | m + 1,L + 1,i,cur,hm,hL,hc,hy=>by
    rw [dA.l0,if_pos (show (i : Int) < (y.length : Int) by omega),if_pos (show 0 ≤ (i : Int) by omega),if_pos (show (i : Int) < (y.length : Int) by omega),if_pos (show (i : Int) < (cur.length : Int) by omega),aV (x:=(i : Int) + 1) (by omega) (by omega),show (i : Int).toNat = i by omega,show ((i : Int) + 1) = ((i + 1 : Nat) : Int) by omega]
    by_cases c : rd y (i : Int) > rd cur (i : Int)
    · rw [if_pos c]
      obtain ⟨r,e1,e2,e3⟩:=xV y n m L (i + 1) (cur.set i 1099511627776) (by omega) (by omega) (by simpa using hc) hy
      refine ⟨r,e1,by rw [e2,List.length_set],fun p a b=>?_⟩
      rw [e3 p a b,BH _ _ _ _ (by omega) a]
      by_cases z : p = (i : Int)
      · subst z
        rw [if_pos (by omega),if_pos rfl,if_neg (by omega),if_pos c]
      · rw [if_neg z]
        by_cases q : p < (i : Int)
        · rw [if_pos (by omega),if_pos q]
        · rw [if_neg (by omega),if_neg q]
    · rw [if_neg c]
      obtain ⟨r,e1,e2,e3⟩:=xV y n m L (i + 1) cur (by omega) (by omega) hc hy
      refine ⟨r,e1,e2,fun p a b=>?_⟩
      rw [e3 p a b]
      by_cases z : p = (i : Int)
      · subst z
        rw [if_pos (by omega),if_neg (by omega),if_neg c]
      · by_cases q : p < (i : Int)
        · rw [if_pos (by omega),if_pos q]
        · rw [if_neg (by omega),if_neg q]
theorem qR (a b c d : Int) : ed.f a b c d = some (a == 1 && (b == 0 && (c == 0 && (d == 0)))):=rfl
def Ci (null : Bool) (x : List Int) (a b c d : Int) : Prop:=r9 a b c d∧(VN a b c d↔x = [])∧Asc x∧(null = true∨x≠[])
def lastOf (x : List Int) (i : Int) : Int:=if i = 0 then -1 else rd x (i - 1)
theorem ne_iff {p q : Prop} {b b' : Bool} (h : b = true↔p) (h' : b' = true↔q) : (b != b') = false↔(p↔q):=by
  cases b <;> cases b' <;> simp_all
theorem tJ (x : List Int) : ((x.length : Int) == 0) = true↔x = []:=by
  cases x with
  | nil=>simp
  | cons a l=>simp;omega
theorem DN {k : Nat} (null : Bool) (x : List Int) (a b c d : Int) (hx : x.length ≤ 1048576) (hk : 2000000 ≤ k) : Tot (dV.l0 k (-1) x (x.length : Int) 0 null x a b c d) fun r=>r = true↔Asc x∧(null = true∨x≠[]):=by
  have h : Tot (dV.l0 k (lastOf x 0) x (x.length : Int) 0 null x a b c d) fun r=>r = true↔(∀ j : Int,0 ≤ j→j < (x.length : Int)→lastOf x j < rd x j)∧(null = true∨x≠[]):=by
    refine scan (g:=fun k i=>dV.l0 k (lastOf x i) x (x.length : Int) i null x a b c d) (n:=(x.length : Int)) 0 (fun k i R _ h0 h1 yes no=>?_) (fun k _=>?_) _ k 0 rfl (by omega) (by omega) (by omega)
    · try dsimp only at yes ⊢
      rw [dV.l0,if_pos h1,if_pos h0,if_pos h1,aV (x:=i + 1) (by omega) (by omega)]
      refine Tot.ite (fun z=>Tot.here (no (by omega))) (fun z=>?_)
      have e : lastOf x (i + 1) = rd x i:=by
        unfold lastOf
        rw [if_neg (by omega),show i + 1 - 1 = i by omega]
      rw [← e]
      exact yes (by omega)
    · try dsimp only
      rw [dV.l0,if_neg (by omega)]
      refine Tot.ite (fun z=>Tot.here ⟨fun _=>.inl z,fun _=>rfl⟩) (fun z=>Tot.here ?_)
      rw [decide_eq_true_iff]
      cases x with
      | nil=>simp [z]
      | cons a l=>simp
  obtain ⟨r,h1,h2⟩:=h
  exact ⟨r,h1,h2.trans (by rw [ED];exact Iff.rfl)⟩
theorem Df {k : Nat} (null : Bool) (x : List Int) (a b c d : Int) (hx : x.length ≤ 1048576) (hk : 3000000 ≤ k) : Tot (dV.f k null x a b c d) fun r=>r = true↔Ci null x a b c d:=by
  obtain ⟨k,rfl⟩ : ∃ j,k = j + 1:=⟨k - 1,by omega⟩
  unfold dV.f
  rw [rR (k + 1) (by omega),Option.bind_some]
  by_cases o : r9 a b c d
  · rw [decide_eq_true o,if_pos rfl,qR,Option.bind_some,dV.j0]
    by_cases e : VN a b c d↔x = []
    · rw [(ne_iff (rX a b c d) (tJ x)).mpr e,if_neg (show ¬ (false = true) by decide)]
      exact (DN null x a b c d hx (by omega)).mono fun r hr=>hr.trans ⟨fun q=>⟨o,e,q.1,q.2⟩,fun q=>⟨q.2.2.1,q.2.2.2⟩⟩
    · have ne : ((a == 1 && (b == 0 && (c == 0 && (d == 0)))) != ((x.length : Int) == 0)) = true:=by
        rw [← Bool.not_eq_false];exact fun z=>e ((ne_iff (rX a b c d) (tJ x)).mp z)
      rw [ne,if_pos rfl]
      exact Tot.here ⟨fun f=>(nomatch f),fun q=>absurd q.2.1 e⟩
  · rw [decide_eq_false o,if_neg (show ¬ (false = true) by decide),dV.j0,if_pos rfl]
    exact Tot.here ⟨fun f=>(nomatch f),fun q=>absurd q.1 o⟩
theorem CL {k : Nat} (null : Bool) (x : List Int) (a b c d : Int) (hx : x.length ≤ 1048576) (hk : 2000000 ≤ k) : Tot (aT.l0 k 0 null x a b c d) fun r=>r = true↔Asc x:=by
  have h : Tot (aT.l0 k 0 null x a b c d) fun r=>r = true↔(∀ j : Int,0 ≤ j→j < (x.length : Int)→0 ≤ rd x j∧(0 < j→rd x (j - 1) < rd x j))∧True:=by
    refine scan (g:=fun k i=>aT.l0 k i null x a b c d) (n:=(x.length : Int)) 0 (fun k i R _ h0 h1 yes no=>?_) (fun k _=>?_) _ k 0 rfl (by omega) (by omega) (by omega)
    · try dsimp only at yes ⊢
      rw [aT.l0,if_pos h1,if_pos h0,aV (x:=i + 1) (by omega) (by omega)]
      refine Tot.ite (fun z=>Tot.here (no (by omega))) (fun z=>?_)
      refine Tot.ite (fun z2=>?_) (fun z2=>yes ⟨by omega,fun h=>absurd h (by omega)⟩)
      rw [aV (x:=i - 1) (by omega) (by omega),if_pos (by omega),if_pos (by omega)]
      refine Tot.ite (fun z3=>Tot.here (no (fun q=>by have:=q.2 (by omega);omega))) (fun z3=>yes ⟨by omega,fun _=>by omega⟩)
    · try dsimp only
      rw [aT.l0,if_neg (by omega)]
      exact Tot.here ⟨fun _=>trivial,fun _=>rfl⟩
  obtain ⟨r,h1,h2⟩:=h
  exact ⟨r,h1,h2.trans ⟨fun q=>q.1,fun q=>⟨q,trivial⟩⟩⟩
theorem Br {k : Nat} (null : Bool) (x : List Int) (a b c d : Int) (hx : x.length ≤ 1048576) (hk : 3000000 ≤ k) : Tot (aT.f k null x a b c d) fun r=>r = true↔Ci null x a b c d:=by
  obtain ⟨k,rfl⟩ : ∃ j,k = j + 1:=⟨k - 1,by omega⟩
  unfold aT.f
  rw [rM (k + 1) (by omega),Option.bind_some]
  by_cases o : r9 a b c d
  · rw [decide_eq_true o,if_pos rfl,pJ,Option.bind_some]
    show Tot (if (((x.length : Int) == 0) != (a == 1 && (b == 0 && (c == 0 && (d == 0))))) = true then _ else _) _
    by_cases e : VN a b c d↔x = []
    · rw [(ne_iff (tJ x) (rX a b c d)).mpr e.symm,if_neg (show ¬ (false = true) by decide)]
      have fin : (null = true∨x≠[])→Tot (aT.j0 (k + 1) false null x a b c d) fun r=>r = true↔Ci null x a b c d:=fun z=>by
        rw [aT.j0,if_neg (show ¬ (false = true) by decide)]
        exact (CL null x a b c d hx (by omega)).mono fun r hr=>hr.trans ⟨fun q=>⟨o,e,q,z⟩,fun q=>q.2.2.1⟩
      refine Tot.ite (fun z=>fin (.inl z)) (fun z=>?_)
      by_cases y : x = []
      · rw [(tJ x).mpr y,aT.j0,if_pos rfl]
        exact Tot.here ⟨fun f=>(nomatch f),fun q=>q.2.2.2.elim (fun n=>absurd n z) (fun n=>absurd y n)⟩
      · have : ((x.length : Int) == 0) = false:=by rw [← Bool.not_eq_true];exact fun h=>y ((tJ x).mp h)
        rw [this]
        exact fin (.inr y)
    · have ne : (((x.length : Int) == 0) != (a == 1 && (b == 0 && (c == 0 && (d == 0))))) = true:=by
        rw [← Bool.not_eq_false];exact fun z=>e ((ne_iff (tJ x) (rX a b c d)).mp z).symm
      rw [ne,if_pos rfl,aT.j0,if_pos rfl]
      exact Tot.here ⟨fun f=>(nomatch f),fun q=>absurd q.2.1 e⟩
  · rw [decide_eq_false o,if_neg (show ¬ (false = true) by decide),aT.j0,if_pos rfl]
    exact Tot.here ⟨fun f=>(nomatch f),fun q=>absurd q.1 o⟩
def tC (v : bV) : Prop:=r9 v.f0 v.f1 v.f2 v.f3∧¬ VN v.f0 v.f1 v.f2 v.f3
def uf (r : fT) : Prop:=Ci r.f0 r.f1 r.f2.f0 r.f2.f1 r.f2.f2 r.f2.f3
def GA (live : Bool) (ints : List bV) (refs : List fT) (cells : List bV) (n : Int) (d : List Int) : Prop :=
  (live = true∧(∀ v ∈ ints,tC v)∧(∀ v ∈ cells,tC v)∧(∀ r ∈ refs,uf r)∧yg n d∧n = (ints.length : Int))∨
  (live = false∧ints = []∧refs = []∧cells = []∧n = 0∧d = [])
/-- How long the rows may be. -/
def qC (ints : List bV) (refs : List fT) (cells : List bV) : Prop:=ints.length ≤ 1048576∧refs.length ≤ 1048576∧cells.length ≤ 1048576∧∀ r ∈ refs,r.f1.length ≤ 1048576
theorem qa {refs : List fT} (h : ∀ r ∈ refs,r.f1.length ≤ 1048576) {i : Int} (h0 : 0 ≤ i) (h1 : i < (refs.length : Int)) : (ag refs i).f1.length ≤ 1048576 :=
  (qY refs z84 (fun r=>r.f1.length ≤ 1048576)).mpr h i h0 h1
theorem vP {k : Nat} (x : List bV) (hx : x.length ≤ 1048576) (hk : 2000000 ≤ k) : Tot (dh.f k x) fun r=>r = true↔∀ v ∈ x,tC v:=by
  unfold dh.f
  have h : Tot (dh.l0 k x 0) fun r=>r = true↔(∀ j : Int,0 ≤ j→j < (x.length : Int)→tC (ak x j))∧True:=by
    refine scan (g:=fun k i=>dh.l0 k x i) (n:=(x.length : Int)) 10 (fun k i R hk h0 h1 yes no=>?_) (fun k _=>?_) _ k 0 rfl (by omega) (by omega) (by omega)
    · try dsimp only at yes ⊢
      rw [dh.l0,if_pos h1,if_pos h0,aV (x:=i + 1) (by omega) (by omega),rM k (by omega),Option.bind_some]
      by_cases o : r9 (ak x i).f0 (ak x i).f1 (ak x i).f2 (ak x i).f3
      · rw [decide_eq_true o,if_pos rfl,pJ,Option.bind_some]
        refine Tot.ite (fun z=>Tot.here (no fun q=>q.2 ((rX _ _ _ _).mp z))) (fun z=>yes ⟨o,fun q=>z ((rX _ _ _ _).mpr q)⟩)
      · rw [decide_eq_false o,if_neg (show ¬ (false = true) by decide)]
        exact Tot.here (no fun q=>o q.1)
    · try dsimp only
      rw [dh.l0,if_neg (by omega)]
      exact Tot.here ⟨fun _=>trivial,fun _=>rfl⟩
  obtain ⟨r,h1,h2⟩:=h
  exact ⟨r,h1,h2.trans ⟨fun q=>(qY x z58 tC).mp q.1,fun q=>⟨(qY x z58 tC).mpr q,trivial⟩⟩⟩
theorem Be {k : Nat} {f : Option Bool} (ints : List bV) (refs : List fT) (cells : List bV) (n : Int) (d : List Int)
    (e : f = if (ints.length : Int) = 0 then (if (refs.length : Int) = 0 then (if (cells.length : Int) = 0 then (if n = 0 then (some ((d.length : Int) == 0)) else (some false)) else (some false)) else (some false)) else (some false)) :
    Tot f fun b=>b = true↔GA false ints refs cells n d:=by
  subst e
  have len : ∀ {α : Type} (l : List α),(l.length : Int) = 0↔l = []:=fun l=>by cases l <;> simp;omega
  have red : GA false ints refs cells n d↔ints = []∧refs = []∧cells = []∧n = 0∧d = []:=by simp [GA]
  refine Tot.ite (fun c1=>?_) (fun c1=>Tot.here ⟨fun f=>(nomatch f),fun q=>absurd ((len _).mpr (red.mp q).1) c1⟩)
  refine Tot.ite (fun c2=>?_) (fun c2=>Tot.here ⟨fun f=>(nomatch f),fun q=>absurd ((len _).mpr (red.mp q).2.1) c2⟩)
  refine Tot.ite (fun c3=>?_) (fun c3=>Tot.here ⟨fun f=>(nomatch f),fun q=>absurd ((len _).mpr (red.mp q).2.2.1) c3⟩)
  refine Tot.ite (fun c4=>?_) (fun c4=>Tot.here ⟨fun f=>(nomatch f),fun q=>absurd (red.mp q).2.2.2.1 c4⟩)
  exact Tot.here (((tJ d).trans ⟨fun q=>⟨(len _).mp c1,(len _).mp c2,(len _).mp c3,c4,q⟩,fun q=>q.2.2.2.2⟩).trans red.symm)
theorem yt {k : Nat} {live : Bool} {ints : List bV} {refs : List fT} {cells : List bV} {n : Int} {d : List Int} (sm : qC ints refs cells) (hk : 20000000 ≤ k) :
    Tot (dQ.f k live ints refs cells n d) fun b=>b = true↔GA live ints refs cells n d:=by
  obtain ⟨hi,hr,hc,ha⟩:=sm
  unfold dQ.f
  cases live with
  | false =>
    rw [if_neg (show ¬ (false = true) by decide)]
    exact Be (k:=k) ints refs cells n d rfl
  | true =>
    rw [if_pos rfl]
    have h2 : ∀ k,8000000 ≤ k→Tot (dQ.l2 k refs (refs.length : Int) 0 true ints refs cells n d) fun b=>b = true↔(∀ j : Int,0 ≤ j→j < (refs.length : Int)→uf (ag refs j))∧yg n d∧n = (ints.length : Int):=by
      intro k hk
      refine scan (g:=fun k i=>dQ.l2 k refs (refs.length : Int) i true ints refs cells n d) (n:=(refs.length : Int)) 4000000 (fun k i R hk h0 h1 yes no=>?_) (fun k hk=>?_) _ k 0 rfl (by omega) (by omega) (by omega)
      · try dsimp only at yes ⊢
        rw [dQ.l2,if_pos h1,if_pos h0,if_pos h1,aV (x:=i + 1) (by omega) (by omega)]
        refine Tot.then (Df _ _ _ _ _ _ (qa ha h0 h1) (by omega)) ?_
        intro b hb
        exact Tot.ite (fun z=>yes (hb.mp z)) (fun z=>Tot.here (no fun q=>z (hb.mpr q)))
      · try dsimp only
        rw [dQ.l2,if_neg (by omega)]
        refine Tot.then (uY n d (by omega)) ?_
        intro b hb
        refine Tot.ite (fun z=>Tot.here ?_) (fun z=>Tot.here ⟨fun f=>(nomatch f),fun q=>absurd (hb.mpr q.1) z⟩)
        rw [beq_iff_eq]
        exact ⟨fun q=>⟨hb.mp z,q⟩,fun q=>q.2⟩
    have h1 : ∀ k,10000000 ≤ k→Tot (dQ.l1 k cells (cells.length : Int) 0 true ints refs cells n d) fun b=>b = true↔(∀ j : Int,0 ≤ j→j < (cells.length : Int)→tC (ak cells j))∧(∀ j : Int,0 ≤ j→j < (refs.length : Int)→uf (ag refs j))∧yg n d∧n = (ints.length : Int):=by
      intro k hk
      refine scan (g:=fun k i=>dQ.l1 k cells (cells.length : Int) i true ints refs cells n d) (n:=(cells.length : Int)) 8000000 (fun k i R hk h0 h1 yes no=>?_) (fun k hk=>?_) _ k 0 rfl (by omega) (by omega) (by omega)
      · try dsimp only at yes ⊢
        rw [dQ.l1,if_pos h1,if_pos h0,if_pos h1,aV (x:=i + 1) (by omega) (by omega),qR,Option.bind_some]
        refine Tot.ite (fun z=>Tot.here (no fun q=>q.2 ((rX _ _ _ _).mp z))) (fun z=>?_)
        rw [rR k (by omega),Option.bind_some]
        exact Tot.ite (fun z2=>yes ⟨of_decide_eq_true z2,fun q=>z ((rX _ _ _ _).mpr q)⟩) (fun z2=>Tot.here (no fun q=>z2 (decide_eq_true q.1)))
      · try dsimp only
        rw [dQ.l1,if_neg (by omega)]
        exact h2 k (by omega)
    have h0 : Tot (dQ.l0 k ints (ints.length : Int) 0 true ints refs cells n d) fun b=>b = true↔(∀ j : Int,0 ≤ j→j < (ints.length : Int)→tC (ak ints j))∧(∀ j : Int,0 ≤ j→j < (cells.length : Int)→tC (ak cells j))∧(∀ j : Int,0 ≤ j→j < (refs.length : Int)→uf (ag refs j))∧yg n d∧n = (ints.length : Int):=by
      refine scan (g:=fun k i=>dQ.l0 k ints (ints.length : Int) i true ints refs cells n d) (n:=(ints.length : Int)) 12000000 (fun k i R hk h0 h1 yes no=>?_) (fun k hk=>?_) _ k 0 rfl (by omega) (by omega) (by omega)
      · try dsimp only at yes ⊢
        rw [dQ.l0,if_pos h1,if_pos h0,if_pos h1,aV (x:=i + 1) (by omega) (by omega),qR,Option.bind_some]
        refine Tot.ite (fun z=>Tot.here (no fun q=>q.2 ((rX _ _ _ _).mp z))) (fun z=>?_)
        rw [rR k (by omega),Option.bind_some]
        exact Tot.ite (fun z2=>yes ⟨of_decide_eq_true z2,fun q=>z ((rX _ _ _ _).mpr q)⟩) (fun z2=>Tot.here (no fun q=>z2 (decide_eq_true q.1)))
      · try dsimp only
        rw [dQ.l0,if_neg (by omega)]
        exact h1 k (by omega)
    obtain ⟨r,e1,e2⟩:=h0
    have a1:=qY ints z58 tC
    have a2:=qY cells z58 tC
    have a3:=qY refs z84 uf
    refine ⟨r,e1,e2.trans ⟨fun q=>.inl ⟨rfl,a1.mp q.1,a2.mp q.2.1,a3.mp q.2.2.1,q.2.2.2.1,q.2.2.2.2⟩,fun q=>?_⟩⟩
    rcases q with q | q
    · exact ⟨a1.mpr q.2.1,a2.mpr q.2.2.1,a3.mpr q.2.2.2.1,q.2.2.2.2.1,q.2.2.2.2.2⟩
    · exact absurd q.1 (by decide)
theorem xy {k : Nat} {live : Bool} {ints : List bV} {refs : List fT} {cells : List bV} {n : Int} {d : List Int} (sm : qC ints refs cells) (hk : 20000000 ≤ k) :
    Tot (gF.f k live ints refs cells n d) fun b=>b = true↔GA live ints refs cells n d:=by
  obtain ⟨hi,hr,hc,ha⟩:=sm
  unfold gF.f
  cases live with
  | false =>
    rw [if_neg (show ¬ (false = true) by decide)]
    exact Be (k:=k) ints refs cells n d rfl
  | true =>
    rw [if_pos rfl]
    have h0 : Tot (gF.l0 k 0 true ints refs cells n d) fun b=>b = true↔(∀ j : Int,0 ≤ j→j < (refs.length : Int)→uf (ag refs j))∧(∀ v ∈ ints,tC v)∧(∀ v ∈ cells,tC v)∧yg n d∧n = (ints.length : Int):=by
      refine scan (g:=fun k i=>gF.l0 k i true ints refs cells n d) (n:=(refs.length : Int)) 8000000 (fun k i R hk h0 h1 yes no=>?_) (fun k hk=>?_) _ k 0 rfl (by omega) (by omega) (by omega)
      · try dsimp only at yes ⊢
        rw [gF.l0,if_pos h1,if_pos h0,aV (x:=i + 1) (by omega) (by omega)]
        refine Tot.then (Br _ _ _ _ _ _ (qa ha h0 h1) (by omega)) ?_
        intro b hb
        exact Tot.ite (fun z=>yes (hb.mp z)) (fun z=>Tot.here (no fun q=>z (hb.mpr q)))
      · try dsimp only
        rw [gF.l0,if_neg (by omega)]
        refine Tot.then (vP ints hi (by omega)) ?_
        intro b1 hb1
        refine Tot.ite (fun z1=>?_) (fun z1=>Tot.here ⟨fun f=>(nomatch f),fun q=>absurd (hb1.mpr q.1) z1⟩)
        refine Tot.then (vP cells hc (by omega)) ?_
        intro b2 hb2
        refine Tot.ite (fun z2=>?_) (fun z2=>Tot.here ⟨fun f=>(nomatch f),fun q=>absurd (hb2.mpr q.2.1) z2⟩)
        refine Tot.then (uz n d (by omega)) ?_
        intro b hb
        refine Tot.ite (fun z=>Tot.here ?_) (fun z=>Tot.here ⟨fun f=>(nomatch f),fun q=>absurd (hb.mpr q.2.2.1) z⟩)
        rw [beq_iff_eq]
        exact ⟨fun q=>⟨hb1.mp z1,hb2.mp z2,hb.mp z,q⟩,fun q=>q.2.2.2⟩
    obtain ⟨r,e1,e2⟩:=h0
    have a3:=qY refs z84 uf
    refine ⟨r,e1,e2.trans ⟨fun q=>.inl ⟨rfl,q.2.1,q.2.2.1,a3.mp q.1,q.2.2.2.1,q.2.2.2.2⟩,fun q=>?_⟩⟩
    rcases q with q | q
    · exact ⟨a3.mpr q.2.2.2.1,q.2.1,q.2.2.1,q.2.2.2.2.1,q.2.2.2.2.2⟩
    · exact absurd q.1 (by decide)
def cv (x : mF) : bV:=⟨x.f0,x.f1,x.f2,x.f3⟩
theorem yu {k : Nat} (x : List mF) (hx : x.length ≤ 1048576) (hk : 2000000 ≤ k) : iA.f k x = some (x.map cv):=by
  have hl : (x.map cv).length = x.length:=List.length_map _
  unfold iA.f
  rw [if_pos (show 0 ≤ (x.length : Int) by omega),if_pos (show ((x.length : Int)).toNat ≤ 8796093022208 by omega)]
  refine fill (g:=fun k acc i=>iA.l0 k x acc i) (x.map cv) (fun i=>cv (qX x i)) 0 (fun i h0 h1=>?_) (fun k acc i _ h0 h1 ha=>?_) (fun k acc _=>?_) _ k 0 _ rfl (by omega) (by omega) (by omega) (by simp) (fun j hj=>absurd hj (by omega))
  · rw [List.getElem?_map]
    unfold qX
    rw [List.getD_eq_getElem?_getD,List.getElem?_eq_getElem (show i.toNat < x.length by omega)];rfl
  · try dsimp only
    rw [iA.l0,if_pos (show i < (x.length : Int) by omega),if_pos h0]
    show (if i < (acc.length : Int) then _ else _) = _
    rw [if_pos (by omega),aV (x:=i + 1) (by omega) (by omega)]
    rfl
  · try dsimp only
    rw [iA.l0,if_neg (by omega)]
def cr (x : oN) : fT:=⟨x.f0,x.f1,cv x.f2⟩
theorem yZ {k : Nat} (x : List oN) (hx : x.length ≤ 1048576) (ha : ∀ r ∈ x,r.f1.length ≤ 1048576) (hk : 4000000 ≤ k) : fZ.f k x = some (x.map cr):=by
  have hl : (x.map cr).length = x.length:=List.length_map _
  unfold fZ.f
  rw [if_pos (show 0 ≤ (x.length : Int) by omega),if_pos (show ((x.length : Int)).toNat ≤ 4398046511104 by omega)]
  refine fill (g:=fun k acc i=>fZ.l0 k x acc i) (x.map cr) (fun i=>cr (gK x i)) 2000000 (fun i h0 h1=>?_) (fun k acc i hk h0 h1 hl'=>?_) (fun k acc _=>?_) _ k 0 _ rfl (by omega) (by omega) (by omega) (by simp) (fun j hj=>absurd hj (by omega))
  · rw [List.getElem?_map]
    unfold gK
    rw [List.getD_eq_getElem?_getD,List.getElem?_eq_getElem (show i.toNat < x.length by omega)];rfl
  · try dsimp only
    have sm : (gK x i).f1.length ≤ 1048576:=(qY x Du (fun r=>r.f1.length ≤ 1048576)).mpr ha i h0 (by omega)
    have e : o6.f k ((gK x i).f0) ((gK x i).f1) ((gK x i).f2.f0) ((gK x i).f2.f1) ((gK x i).f2.f2) ((gK x i).f2.f3) = some ((gK x i).f0,(gK x i).f1,(gK x i).f2.f0,(gK x i).f2.f1,(gK x i).f2.f2,(gK x i).f2.f3):=by
      unfold o6.f
      rw [wm _ sm hk];rfl
    rw [fZ.l0,if_pos (show i < (x.length : Int) by omega),if_pos h0,e,Option.bind_some,if_pos (show i < (acc.length : Int) by omega),aV (x:=i + 1) (by omega) (by omega)]
    rfl
  · try dsimp only
    rw [fZ.l0,if_neg (by omega)]
theorem Aw {k : Nat} (live : Bool) (ints : List mF) (refs : List oN) (cells : List mF) (n : Int) (d : List Int) (hi : ints.length ≤ 1048576) (hr : refs.length ≤ 1048576) (hc : cells.length ≤ 1048576) (ha : ∀ r ∈ refs,r.f1.length ≤ 1048576) (hd : d.length ≤ 1048576) (hk : 4000000 ≤ k) :
    iq.f k live ints refs cells n d = some (live,ints.map cv,refs.map cr,cells.map cv,n,d):=by
  unfold iq.f
  rw [yu ints hi (by omega),Option.bind_some,yZ refs hr ha hk,Option.bind_some,yu cells hc (by omega),Option.bind_some,CS n d hd (by omega)]
  rfl
theorem yI {ints : List mF} {refs : List oN} {cells : List mF} (hi : ints.length ≤ 1048576) (hr : refs.length ≤ 1048576) (hc : cells.length ≤ 1048576) (ha : ∀ r ∈ refs,r.f1.length ≤ 1048576) : qC (ints.map cv) (refs.map cr) (cells.map cv):=by
  refine ⟨by simpa using hi,by simpa using hr,by simpa using hc,fun r h=>?_⟩
  obtain ⟨x,hx,rfl⟩:=List.mem_map.mp h
  exact ha x hx
theorem yM (x : List mF) (a : Int) (hx : x.length ≤ 9223372036854775807) (h0 : 0 ≤ a) (h : a ≤ 1048576) : lZ.f x a = some (if (x.length : Int) ≤ a then a - x.length else -1):=by
  unfold lZ.f
  rw [aV (by omega) (by omega)]
  by_cases c : (x.length : Int) ≤ a
  · rw [if_pos c,if_neg (by omega)]
  · rw [if_neg c,if_pos (by omega)]
theorem ym {k : Nat} (x : List oN) (a : Int) (hx : x.length ≤ 9223372036854775807) (ha : ∀ r ∈ x,r.f1.length ≤ 9223372036854775807) (h0 : 0 ≤ a) (h : a ≤ 1048576) (hk : 4000000 ≤ k) :
    Tot (fK.f k x a) fun t=>t < 0∨(0 ≤ t∧t ≤ a∧x.length ≤ 1048576∧∀ r ∈ x,(r.f1.length : Int) + t ≤ a):=by
  unfold fK.f
  rw [aV (by omega) (by omega)]
  refine Tot.ite (fun _=>Tot.here (.inl (by omega))) (fun c=>?_)
  have go : ∀ (m k : Nat) (i t : Int),((x.length : Int) - i).toNat = m→0 ≤ i→i ≤ (x.length : Int)→m < k→0 ≤ t→t ≤ a→(∀ j : Int,0 ≤ j→j < i→((gK x j).f1.length : Int) + t ≤ a)→
      Tot (fK.l0 k x t i) fun t=>t < 0∨(0 ≤ t∧t ≤ a∧∀ j : Int,0 ≤ j→j < (x.length : Int)→((gK x j).f1.length : Int) + t ≤ a):=by
    intro m
    induction m with
    | zero =>
      intro k i t hm hi hi' hk ht ht' q
      obtain ⟨k,rfl⟩ : ∃ j,k = j + 1:=⟨k - 1,by omega⟩
      rw [fK.l0,if_neg (by omega)]
      exact Tot.here (.inr ⟨ht,ht',fun j a b=>q j a (by omega)⟩)
    | succ m ih =>
      intro k i t hm hi hi' hk ht ht' q
      obtain ⟨k,rfl⟩ : ∃ j,k = j + 1:=⟨k - 1,by omega⟩
      have la : (gK x i).f1.length ≤ 9223372036854775807:=(qY x Du (fun r=>r.f1.length ≤ 9223372036854775807)).mpr ha i hi (by omega)
      rw [fK.l0,if_pos (show i < (x.length : Int) by omega),if_pos hi]
      unfold oW.f mX.f
      rw [aV (x:=t - ((gK x i).f1.length : Int)) (by omega) (by omega)]
      by_cases c1 : t - ((gK x i).f1.length : Int) < 0
      · rw [if_pos c1]
        exact Tot.here (.inl (by decide))
      · rw [if_neg c1,Option.bind_some,if_neg c1,Option.bind_some,if_neg c1,aV (x:=i + 1) (by omega) (by omega)]
        refine ih k (i + 1) _ (by omega) (by omega) (by omega) (by omega) (by omega) (by omega) fun j a b=>?_
        by_cases e : j = i
        · subst e;omega
        · have:=q j a (by omega);omega
  refine (go _ k 0 _ rfl (by omega) (by omega) (by omega) (by omega) (by omega) (fun j a b=>absurd a (by omega))).mono fun t ht=>?_
  rcases ht with ht | ⟨t0,t1,q⟩
  · exact .inl ht
  · exact .inr ⟨t0,by omega,by omega,(qY x Du (fun r=>(r.f1.length : Int) + t ≤ a)).mp q⟩
theorem wI {k : Nat} (live : Bool) (ints : List mF) (refs : List oN) (cells : List mF) (n : Int) (d : List Int) (a : Int) (hi : ints.length ≤ 9223372036854775807) (hr : refs.length ≤ 9223372036854775807) (hc : cells.length ≤ 9223372036854775807) (hd : d.length ≤ 9223372036854775807)
    (ha : ∀ r ∈ refs,r.f1.length ≤ 9223372036854775807) (h0 : 0 ≤ a) (h : a ≤ 1048576) (hk : 4000000 ≤ k) :
    Tot (lM.f k live ints refs cells n d a) fun t=>t < 0∨(0 ≤ t∧t ≤ a∧ints.length ≤ 1048576∧refs.length ≤ 1048576∧cells.length ≤ 1048576∧d.length ≤ 1048576∧∀ r ∈ refs,(r.f1.length : Int) + t ≤ a):=by
  unfold lM.f
  rw [yM ints a hi h0 h,Option.bind_some]
  refine Tot.ite (fun _=>Tot.here (.inl (by decide))) (fun c1=>?_)
  have c1' : (ints.length : Int) ≤ a:=by
    by_cases q : (ints.length : Int) ≤ a
    · exact q
    · rw [if_neg q] at c1;omega
  rw [if_pos c1']
  refine Tot.then (ym refs _ hr ha (by omega) (by omega) hk) ?_
  intro t ht
  refine Tot.ite (fun _=>Tot.here (.inl (by decide))) (fun c2=>?_)
  obtain ⟨t0,t1,r1,r2⟩:=ht.resolve_left c2
  rw [yM cells t hc t0 (by omega),Option.bind_some]
  refine Tot.ite (fun _=>Tot.here (.inl (by decide))) (fun c3=>?_)
  have c3' : (cells.length : Int) ≤ t:=by
    by_cases q : (cells.length : Int) ≤ t
    · exact q
    · rw [if_neg q] at c3;omega
  rw [if_pos c3',CW n d _ hd (by omega) (by omega),Option.bind_some]
  refine Tot.ite (fun _=>Tot.here (.inl (by decide))) (fun c4=>?_)
  have c4' : (d.length : Int) ≤ t - cells.length:=by
    by_cases q : (d.length : Int) ≤ t - cells.length
    · exact q
    · rw [if_neg q] at c4;omega
  rw [if_pos c4']
  exact Tot.here (.inr ⟨by omega,by omega,by omega,r1,by omega,by omega,fun r hr=>by have:=r2 r hr;omega⟩)
theorem F3 {k : Nat} (live : Bool) (ints : List mF) (refs : List oN) (cells : List mF) (n : Int) (d : List Int) (a : Int) (hi : ints.length ≤ 9223372036854775807) (hr : refs.length ≤ 9223372036854775807) (hc : cells.length ≤ 9223372036854775807) (hd : d.length ≤ 9223372036854775807)
    (ha : ∀ r ∈ refs,r.f1.length ≤ 9223372036854775807) (h0 : 0 ≤ a) (h : a ≤ 1048576) (hk : 4000000 ≤ k) :
    Tot (lM.f k live ints refs cells n d a) fun t=>t < 0∨(0 ≤ t∧t ≤ a∧ints.length ≤ 1048576∧refs.length ≤ 1048576∧cells.length ≤ 1048576∧d.length ≤ 1048576∧∀ r ∈ refs,r.f1.length ≤ 1048576):=by
  refine (wI live ints refs cells n d a hi hr hc hd ha h0 h hk).mono fun t ht=>?_
  rcases ht with ht | ⟨t0,t1,x1,x2,x3,x4,x5⟩
  · exact .inl ht
  · exact .inr ⟨t0,t1,x1,x2,x3,x4,fun r hr=>by have:=x5 r hr;omega⟩
theorem xS (a b c d : Int) : oC.f a b c d a b c d = some true:=by
  unfold oC.f
  rw [if_pos rfl,if_pos rfl,if_pos rfl,if_pos rfl]
theorem wM {k : Nat} (x : List bV) (hx : x.length ≤ 1048576) (hk : 2000000 ≤ k) : dR.f k x x = some true:=by
  unfold dR.f
  rw [if_pos rfl]
  refine BU (g:=fun k i=>dR.l0 k x x i) (n:=(x.length : Int)) 0 (fun k i _ h0 h1=>?_) (fun k _=>?_) _ k 0 rfl (by omega) (by omega) (by omega)
  · try dsimp only
    rw [dR.l0,if_pos h1,if_pos h0,if_pos h1,xS,Option.bind_some,if_pos rfl,aV (x:=i + 1) (by omega) (by omega)]
  · try dsimp only
    rw [dR.l0,if_neg (by omega)]
theorem xR {k : Nat} (x : List fT) (hx : x.length ≤ 1048576) (ha : ∀ r ∈ x,r.f1.length ≤ 1048576) (hk : 4000000 ≤ k) : dn.f k x x = some true:=by
  unfold dn.f
  rw [if_pos rfl]
  refine BU (g:=fun k i=>dn.l0 k x x i) (n:=(x.length : Int)) 2000000 (fun k i hk h0 h1=>?_) (fun k _=>?_) _ k 0 rfl (by omega) (by omega) (by omega)
  · try dsimp only
    have e : oo.f k ((ag x i).f0) ((ag x i).f1) ((ag x i).f2.f0) ((ag x i).f2.f1) ((ag x i).f2.f2) ((ag x i).f2.f3) ((ag x i).f0) ((ag x i).f1) ((ag x i).f2.f0) ((ag x i).f2.f1) ((ag x i).f2.f2) ((ag x i).f2.f3) = some true:=by
      unfold oo.f
      rw [if_neg (by simp),uq _ (qa ha h0 h1) hk,Option.bind_some,if_pos rfl,xS,Option.bind_some,if_pos rfl]
    rw [dn.l0,if_pos h1,if_pos h0,if_pos h1,e,Option.bind_some,if_pos rfl,aV (x:=i + 1) (by omega) (by omega)]
  · try dsimp only
    rw [dn.l0,if_neg (by omega)]
theorem vB {k : Nat} {live : Bool} {ints : List bV} {refs : List fT} {cells : List bV} {n : Int} {d : List Int} (sm : qC ints refs cells) (hd : d.length ≤ 1048576) (hk : 4000000 ≤ k) :
    mq.f k live ints refs cells n d live ints refs cells n d = some true:=by
  unfold mq.f
  rw [if_neg (by simp),wM ints sm.1 (by omega),Option.bind_some,if_pos rfl,xR refs sm.2.1 sm.2.2.2 hk,Option.bind_some,if_pos rfl,wM cells sm.2.2.1 (by omega),Option.bind_some,if_pos rfl,Am n d hd (by omega),Option.bind_some,if_pos rfl]
instance (a b c d : Int) : Decidable (VN a b c d):=inferInstanceAs (Decidable (_∧_))
theorem Al (a b c d : Int) : (a == 1 && (b == 0 && (c == 0 && (d == 0)))) = decide (VN a b c d):=by
  rw [Bool.eq_iff_iff,decide_eq_true_iff];exact rX a b c d
theorem F5 {a b c d : Int} (o : r9 a b c d) (n : ¬ VN a b c d) : sM a b∧¬ a > b∧uj c d:=by
  have h : ¬ (¬ sM a b∨¬ uj c d∨a > b):=fun q=>by
    unfold r9 at o
    rw [tY q,Prod.mk.injEq,Prod.mk.injEq,Prod.mk.injEq] at o
    exact n ⟨o.1.symm,o.2.1.symm,o.2.2.1.symm,o.2.2.2.symm⟩
  exact ⟨Decidable.byContradiction fun q=>h (.inl q),fun q=>h (.inr (.inr q)),Decidable.byContradiction fun q=>h (.inr (.inl q))⟩
def tq (a b c d a' b' c' d' : Int) : Int × Int × Int × Int :=
  if ¬ r9 a b c d∨¬ r9 a' b' c' d' then (1,0,0,0) else if VN a b c d then (a',b',c',d') else if VN a' b' c' d' then (a,b,c,d)
  else uU (vY a b a' b').1 (vY a b a' b').2 (wW c d c' d').1 (wW c d c' d').2
theorem BI (k : Nat) (hk : 200000000000000000001 ≤ k) (a b c d a' b' c' d' : Int) : fu.f k a b c d a' b' c' d' = some (tq a b c d a' b' c' d'):=by
  obtain ⟨k,rfl⟩ : ∃ m,k = m + 1:=⟨k - 1,by omega⟩
  have N : ¬ r9 a b c d∨¬ r9 a' b' c' d'→fu.j0 (k + 1) true a b c d a' b' c' d' = some (tq a b c d a' b' c' d'):=fun h=>by
    rw [fu.j0,if_pos rfl,vC]
    unfold tq;rw [if_pos h];rfl
  unfold fu.f
  rw [rR _ (by omega),Option.bind_some]
  by_cases o : r9 a b c d
  case neg=>rw [decide_eq_false o,if_neg (by decide)];exact N (.inl o)
  rw [decide_eq_true o,if_pos rfl,rR _ (by omega),Option.bind_some]
  by_cases o' : r9 a' b' c' d'
  case neg=>rw [decide_eq_false o'];exact N (.inr o')
  rw [decide_eq_true o',fu.j0,if_neg (by decide),qR,Option.bind_some,Al]
  have e0 : ¬ (¬ r9 a b c d∨¬ r9 a' b' c' d'):=by simp [o,o']
  unfold tq
  rw [if_neg e0]
  by_cases z : VN a b c d
  · rw [decide_eq_true z,if_pos rfl,if_pos z]
  rw [decide_eq_false z,if_neg (by decide),if_neg z,qR,Option.bind_some,Al]
  by_cases z' : VN a' b' c' d'
  · rw [decide_eq_true z',if_pos rfl,if_pos z']
  rw [decide_eq_false z',if_neg (by decide),if_neg z']
  show (fJ.f k a b a' b').bind _ = _
  rw [vI _ (by omega),Option.bind_some]
  show (dP.f k c d c' d').bind _ = _
  rw [wL _ (by omega),Option.bind_some,vo _ (by omega)]
  rfl
theorem Bf (k : Nat) (hk : 200000000000000000001 ≤ k) (a b c d a' b' c' d' : Int) : eP.f k a b c d a' b' c' d' = some (tq a b c d a' b' c' d'):=by
  obtain ⟨k,rfl⟩ : ∃ m,k = m + 1:=⟨k - 1,by omega⟩
  have N : ¬ r9 a b c d∨¬ r9 a' b' c' d'→eP.j0 (k + 1) true a b c d a' b' c' d' = some (tq a b c d a' b' c' d'):=fun h=>by
    rw [eP.j0,if_pos rfl,pJ]
    unfold tq;rw [if_pos h];rfl
  unfold eP.f
  rw [rM _ (by omega),Option.bind_some]
  by_cases o : r9 a b c d
  case neg=>rw [decide_eq_false o,if_neg (by decide)];exact N (.inl o)
  rw [decide_eq_true o,if_pos rfl,rM _ (by omega),Option.bind_some]
  by_cases o' : r9 a' b' c' d'
  case neg=>rw [decide_eq_false o'];exact N (.inr o')
  rw [decide_eq_true o',eP.j0,if_neg (by decide),pJ,Option.bind_some]
  dsimp only
  rw [Al]
  have e0 : ¬ (¬ r9 a b c d∨¬ r9 a' b' c' d'):=by simp [o,o']
  unfold tq
  rw [if_neg e0]
  by_cases z : VN a b c d
  · rw [decide_eq_true z,if_pos rfl,if_pos z]
  rw [decide_eq_false z,if_neg (by decide),if_neg z,Option.bind_some]
  dsimp only
  rw [Al]
  by_cases z' : VN a' b' c' d'
  · rw [decide_eq_true z',if_pos rfl,if_pos z']
  rw [decide_eq_false z',if_neg (by decide),if_neg z']
  show (dJ.f k a b a' b').bind _ = _
  rw [uR _ (by omega),Option.bind_some]
  show (dO.f k c d c' d').bind _ = _
  rw [vJ _ (by omega),Option.bind_some,uA _ (by omega)]
  rfl
def qQ (a b c d a' b' c' d' : Int) (xs : List Int) : Int × Int × Int × Int :=
  if ¬ r9 a b c d∨¬ r9 a' b' c' d'∨VN a b c d∨VN a' b' c' d' then tq a b c d a' b' c' d'
  else uU (wJ a b a' b' xs).1 (wJ a b a' b' xs).2 (wW c d c' d').1 (wW c d c' d').2
theorem sI (k : Nat) (hk : 200000000000000000003 ≤ k) (a b c d a' b' c' d' : Int) (xs : List Int) (hx : xs.length ≤ 1048576) : di.f k a b c d a' b' c' d' xs = some (qQ a b c d a' b' c' d' xs):=by
  obtain ⟨k,rfl⟩ : ∃ m,k = m + 1:=⟨k - 1,by omega⟩
  have N : ¬ r9 a b c d∨¬ r9 a' b' c' d'∨VN a b c d∨VN a' b' c' d'→di.j0 (k + 1) xs true a b c d a' b' c' d' = some (qQ a b c d a' b' c' d' xs):=fun h=>by
    rw [di.j0,if_pos rfl,BI _ (by omega)]
    unfold qQ;rw [if_pos h];rfl
  unfold di.f
  rw [rR _ (by omega),Option.bind_some]
  by_cases o : r9 a b c d
  case neg=>rw [decide_eq_false o,if_neg (by decide)];exact N (.inl o)
  rw [decide_eq_true o,if_pos rfl,rR _ (by omega),Option.bind_some]
  by_cases o' : r9 a' b' c' d'
  case neg=>rw [decide_eq_false o',if_neg (by decide)];exact N (.inr (.inl o'))
  rw [decide_eq_true o',if_pos rfl,qR,Option.bind_some,Al]
  by_cases z : VN a b c d
  · rw [decide_eq_true z,if_pos rfl];exact N (.inr (.inr (.inl z)))
  rw [decide_eq_false z,if_neg (by decide),qR,Option.bind_some,Al]
  by_cases z' : VN a' b' c' d'
  · rw [decide_eq_true z'];exact N (.inr (.inr (.inr z')))
  rw [decide_eq_false z',di.j0,if_neg (by decide)]
  have e0 : ¬ (¬ r9 a b c d∨¬ r9 a' b' c' d'∨VN a b c d∨VN a' b' c' d'):=by simp [o,o',z,z']
  unfold qQ
  rw [if_neg e0]
  show (aQ.f k a b a' b' xs).bind _ = _
  rw [yj _ _ _ _ _ _ (by omega) (by omega),Option.bind_some]
  show (dP.f k c d c' d').bind _ = _
  rw [wL _ (by omega),Option.bind_some,vo _ (by omega)]
  rfl
theorem yT (k : Nat) (hk : 200000000000000000003 ≤ k) (a b c d a' b' c' d' : Int) (xs : List Int) (hx : xs.length ≤ 1048576) : bS.f k a b c d a' b' c' d' xs = some (qQ a b c d a' b' c' d' xs):=by
  obtain ⟨k,rfl⟩ : ∃ m,k = m + 1:=⟨k - 1,by omega⟩
  have N : ¬ r9 a b c d∨¬ r9 a' b' c' d'∨VN a b c d∨VN a' b' c' d'→bS.j0 (k + 1) xs true a b c d a' b' c' d' (tq a b c d a' b' c' d').1 (tq a b c d a' b' c' d').2.1 (tq a b c d a' b' c' d').2.2.1 (tq a b c d a' b' c' d').2.2.2 = some (qQ a b c d a' b' c' d' xs):=fun h=>by
    rw [bS.j0,if_pos rfl]
    unfold qQ;rw [if_pos h]
  unfold bS.f
  rw [Bf _ (by omega),Option.bind_some,rM _ (by omega),Option.bind_some]
  by_cases o : r9 a b c d
  case neg=>rw [decide_eq_false o,if_neg (by decide)];exact N (.inl o)
  rw [decide_eq_true o,if_pos rfl,rM _ (by omega),Option.bind_some]
  by_cases o' : r9 a' b' c' d'
  case neg=>rw [decide_eq_false o',if_neg (by decide)];exact N (.inr (.inl o'))
  rw [decide_eq_true o',if_pos rfl,pJ,Option.bind_some]
  dsimp only
  rw [Al]
  by_cases z : VN a b c d
  · rw [decide_eq_true z,if_pos rfl];exact N (.inr (.inr (.inl z)))
  rw [decide_eq_false z,if_neg (by decide),Option.bind_some]
  dsimp only
  rw [Al]
  by_cases z' : VN a' b' c' d'
  · rw [decide_eq_true z'];exact N (.inr (.inr (.inr z')))
  rw [decide_eq_false z',bS.j0,if_neg (by decide)]
  have e0 : ¬ (¬ r9 a b c d∨¬ r9 a' b' c' d'∨VN a b c d∨VN a' b' c' d'):=by simp [o,o',z,z']
  unfold qQ
  rw [if_neg e0]
  show (bQ.f k a b a' b' xs).bind _ = _
  rw [xz _ _ _ _ _ _ (by omega) (by omega),Option.bind_some]
  show (dO.f k c d c' d').bind _ = _
  rw [vJ _ (by omega),Option.bind_some,uA _ (by omega)]
  rfl
end Go.Proofs.YtklkdpcopfjmcaaGreat.LFnExactAbsWiden
