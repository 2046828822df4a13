/- What the small functions that the statement reaches tell, each by a plain law. Conditions: those in each law. -/
import Derived.Test.YtklkdpcopfjmcaaGreatDFnExactAbsJoinV
import Derived.Test.YtklkdpcopfjmcaaGreatBaseV
import Derived.Test.YtklkdpcopfjmcaaGreatBitsV
import Derived.Test.YtklkdpcopfjmcaaGreatRangeMathV
import Derived.Test.YtklkdpcopfjmcaaGreatRestMathV
import Derived.Test.YtklkdpcopfjmcaaGreatValMathV
import Derived.Test.YtklkdpcopfjmcaaGreatGapsMathV
import Derived.Test.YtklkdpcopfjmcaaGreatGaps2MathV
import Derived.Test.YtklkdpcopfjmcaaGreatAbsMathV
namespace Go.Proofs.YtklkdpcopfjmcaaGreat.LFnExactAbsJoin
open Go.RowKit Go.Proofs.YtklkdpcopfjmcaaGreat.PFnExactAbsJoin Go.Proofs.YtklkdpcopfjmcaaGreat.Base Go.Proofs.YtklkdpcopfjmcaaGreatW.PrintWords Go.Proofs.YtklkdpcopfjmcaaGreatW.PrintLast Go.Proofs.YtklkdpcopfjmcaaGreatW.PrintMore
set_option linter.unusedVariables false
set_option linter.unusedSimpArgs false

/-! spec_l1Mod -/
theorem mod_eq {a b : Int} (hb : 0 < b) (h : b ≤ 9223372036854775807) : spec_l1Mod.f a b = some (a % b):=by
  unfold spec_l1Mod.f
  rw [if_neg (by omega)]
  have e:=Int.emod_emod_of_dvd a (Int.dvd_refl b)
  have h1 : Int.tmod a b < b:=Int.tmod_lt_of_pos a hb
  have h2 : -b < Int.tmod a b:=Int.lt_tmod_of_pos a hb
  have h3:=Int.mul_tdiv_add_tmod a b
  have h4 : a % b = Int.tmod a b % b:=by
    conv=>lhs;rw [← h3]
    rw [Int.add_comm,Int.add_mul_emod_self_left]
  by_cases hn : Int.tmod a b < 0
  · rw [if_pos hn,wrap64_id (by omega) (by omega),h4,← Int.add_emod_right,Int.emod_eq_of_lt (by omega) (by omega)]
  · rw [if_neg hn,h4,Int.emod_eq_of_lt (by omega) (by omega)]
/-! impl_NumOk -/
theorem numOk_eq (v : Int) : impl_NumOk.f v = some (decide (NOk v)):=by
  unfold impl_NumOk.f
  by_cases h : v ≥ -2147483648
  · rw [if_pos h];exact dcl (by (try unfold NOk);omega)
  · rw [if_neg h];exact dfl (by (try unfold NOk);omega)
/-! spec_l1In -/
theorem sin_eq (v a b : Int) : spec_l1In.f v a b = some (decide (a ≤ v∧v ≤ b)):=by
  unfold spec_l1In.f
  by_cases h : v ≥ a
  · rw [if_pos h];exact dcl (by (try unfold NOk);omega)
  · rw [if_neg h];exact dfl (by (try unfold NOk);omega)
/-! spec_NumOk -/
theorem snumOk_eq (v : Int) : spec_NumOk.f v = some (decide (NOk v)):=by
  unfold spec_NumOk.f
  rw [sin_eq];exact dcl Iff.rfl
/-! impl_rangeNone -/
theorem rangeNone_eq : impl_rangeNone.f = some (1,0):=rfl
/-! spec_l8None -/
theorem snone_eq : spec_l8None.f = some (1,0):=rfl
/-! impl_RangeOk -/
theorem rangeOk_eq (l h : Int) : impl_RangeOk.f l h = some (decide (ROk l h)):=by
  unfold impl_RangeOk.f impl_rangeNone.f ROk
  simp only [Option.bind_some,numOk_eq,Bool.and_eq_true,beq_iff_eq]
  by_cases c : l = 1∧h = 0
  · simp [c]
  · by_cases c1 : NOk l <;> by_cases c2 : NOk h <;> simp [c,c1,c2]
/-! spec_RangeOk -/
theorem srangeOk_eq (l h : Int) : spec_RangeOk.f l h = some (decide (ROk l h)):=by
  unfold spec_RangeOk.f spec_l8None.f ROk
  simp only [Option.bind_some,snumOk_eq,Bool.and_eq_true,beq_iff_eq]
  by_cases c : l = 1∧h = 0
  · simp [c]
  · by_cases c1 : NOk l <;> by_cases c2 : NOk h <;> simp [c,c1,c2]
/-! impl_Range_empty -/
theorem rangeEmpty_eq (l h : Int) : impl_Range_empty.f l h = some (decide (l > h)):=rfl
/-! spec_l8Min -/
theorem smin_eq (a b : Int) : spec_l8Min.f a b = some (min a b):=by
  unfold spec_l8Min.f;split <;> congr 1 <;> omega
/-! spec_l8Max -/
theorem smax_eq (a b : Int) : spec_l8Max.f a b = some (max a b):=by
  unfold spec_l8Max.f;split <;> congr 1 <;> omega
/-! impl_RangeHas -/
theorem rangeHas_eq (l h v : Int) : impl_RangeHas.f l h v = some (decide (RHas l h v)):=by
  unfold impl_RangeHas.f RHas
  rw [rangeOk_eq]
  simp only [Option.bind_some]
  by_cases c : ROk l h <;> by_cases c1 : l ≤ v <;> simp [c,c1]
/-! spec_RangeHas -/
theorem srangeHas_eq (l h v : Int) : spec_RangeHas.f l h v = some (decide (RHas l h v)):=by
  unfold spec_RangeHas.f RHas
  rw [srangeOk_eq,sin_eq]
  simp only [Option.bind_some]
  by_cases c : ROk l h <;> simp [c]
/-! impl_RangeJoin -/
theorem rangeJoin_eq (k : Nat) (hk : 1 ≤ k) (l h l' h' : Int) : impl_RangeJoin.f k l h l' h' = some (RJoin l h l' h'):=by
  obtain ⟨k,rfl⟩ : ∃ m,k = m + 1:=⟨k - 1,by omega⟩
  unfold impl_RangeJoin.f RJoin
  rw [rangeOk_eq,rangeOk_eq]
  simp only [Option.bind_some]
  by_cases c : ROk l h
  case neg=>simp [c,impl_RangeJoin.j0,rangeNone_eq]
  by_cases c1 : ROk l' h'
  case neg=>simp [c,c1,impl_RangeJoin.j0,rangeNone_eq]
  simp only [c,c1,decide_true,if_true,Bool.not_true,impl_RangeJoin.j0,Bool.false_eq_true,if_false,rangeEmpty_eq,Option.bind_some,mn_eq,mx_eq,decide_eq_true_eq,not_true,or_self]
  by_cases c2 : l > h
  · simp only [c2,if_true]
  · by_cases c3 : l' > h' <;> simp only [c2,c3,if_true,if_false]
/-! spec_RangeJoin -/
theorem srangeJoin_eq (k : Nat) (hk : 1 ≤ k) (l h l' h' : Int) : spec_RangeJoin.f k l h l' h' = some (RJoin l h l' h'):=by
  obtain ⟨k,rfl⟩ : ∃ m,k = m + 1:=⟨k - 1,by omega⟩
  unfold spec_RangeJoin.f RJoin
  rw [srangeOk_eq,srangeOk_eq]
  simp only [Option.bind_some]
  by_cases c : ROk l h
  case neg=>simp [c,spec_RangeJoin.j0,snone_eq]
  by_cases c1 : ROk l' h'
  case neg=>simp [c,c1,spec_RangeJoin.j0,snone_eq]
  simp only [c,c1,decide_true,if_true,Bool.not_true,spec_RangeJoin.j0,Bool.false_eq_true,if_false,snone_eq,Option.bind_some,smin_eq,smax_eq,Bool.and_eq_true,beq_iff_eq,not_true,or_self,c.empty_iff,c1.empty_iff]
  by_cases c2 : l = 1∧h = 0
  · simp only [c2,and_self,if_true]
  · by_cases c3 : l' = 1∧h' = 0 <;> simp only [c2,c3,and_self,if_true,if_false]
/-! impl_RestOk -/
theorem restOk_eq (m a : Int) : impl_RestOk.f m a = some (decide (SOk m a)):=by
  unfold impl_RestOk.f
  rw [numOk_eq]
  simp only [Option.bind_some]
  by_cases c : m = 0
  · rw [if_pos c];exact dcl ⟨fun h=>Or.inl ⟨c,h⟩,fun h=>h.zero c⟩
  · rw [if_neg c]
    have e : SOk m a↔(1 ≤ m∧m ≤ 65536∧0 ≤ a∧a < m):=by
      unfold SOk;constructor
      · intro h;rcases h with h | h
        · exact absurd h.1 c
        · exact h.2
      · intro h;exact Or.inr ⟨c,h⟩
    by_cases c1 : m ≥ 1
    · rw [if_pos c1]
      by_cases c2 : m ≤ 65536
      · rw [if_pos c2]
        by_cases c3 : a ≥ 0
        · rw [if_pos c3];exact dcl (by rw [e];omega)
        · rw [if_neg c3];exact dfl (by rw [e];omega)
      · rw [if_neg c2];exact dfl (by rw [e];omega)
    · rw [if_neg c1];exact dfl (by rw [e];omega)
/-! spec_RestOk -/
theorem srestOk_eq (m a : Int) : spec_RestOk.f m a = some (decide (SOk m a)):=by
  unfold spec_RestOk.f
  rw [snumOk_eq,sin_eq,sin_eq]
  simp only [Option.bind_some]
  by_cases c : m = 0
  · rw [if_pos c];exact dcl ⟨fun h=>Or.inl ⟨c,h⟩,fun h=>h.zero c⟩
  · rw [if_neg c]
    have e : SOk m a↔(1 ≤ m∧m ≤ 65536∧0 ≤ a∧a < m):=by
      unfold SOk;constructor
      · intro h;rcases h with h | h
        · exact absurd h.1 c
        · exact h.2
      · intro h;exact Or.inr ⟨c,h⟩
    by_cases c1 : 1 ≤ m∧m ≤ 65536
    · simp only [c1,decide_true,if_true,and_self]
      rw [wrap64_id (by omega) (by omega)];exact dcl (by rw [e];omega)
    · simp only [c1,decide_false,Bool.false_eq_true,if_false];exact dfl (by rw [e];omega)
/-! impl_restAll -/
theorem restAll_eq : impl_restAll.f = some (1,0):=rfl
/-! spec_l9All -/
theorem srestAll_eq : spec_l9All.f = some (1,0):=rfl
/-! impl_restMod -/
theorem restMod_eq {n m : Int} (hm : 0 < m) (h : m ≤ 9223372036854775807) : impl_restMod.f n m = some (n % m):=mod_eq hm h
/-! impl_restGcd -/
theorem tmod_gcd (g n : Int) : Int.gcd n (Int.tmod g n) = Int.gcd g n:=by
  rw [Int.gcd_eq_natAbs_gcd_natAbs,Int.gcd_eq_natAbs_gcd_natAbs,Int.natAbs_tmod,Nat.gcd_comm g.natAbs,Nat.gcd_comm n.natAbs (g.natAbs % n.natAbs),← Nat.gcd_rec]
theorem gcd_l1 {xs : List Int} {len i r : Int} (K : Nat) : ∀ (d k : Nat) (g n : Int),n.natAbs ≤ d→K + d + 1 ≤ k→
    (∀ (k' : Nat) (g' : Int),K ≤ k'→g'.natAbs = Int.gcd g n→impl_restGcd.l0 k' g' xs len (wrap64 (i + 1)) = some r)→impl_restGcd.l1 k g n xs len i = some r:=by
  intro d
  induction d with
  | zero =>
    intro k g n hn hk h
    obtain ⟨k,rfl⟩ : ∃ m,k = m + 1:=⟨k - 1,by omega⟩
    have : n = 0:=by omega
    subst this
    simp only [impl_restGcd.l1,if_true]
    exact h k g (by omega) (by simp)
  | succ d ih =>
    intro k g n hn hk h
    obtain ⟨k,rfl⟩ : ∃ m,k = m + 1:=⟨k - 1,by omega⟩
    simp only [impl_restGcd.l1]
    by_cases c : n = 0
    · subst c
      rw [if_pos rfl]
      exact h k g (by omega) (by simp)
    · rw [if_neg c]
      have : (Int.tmod g n).natAbs < n.natAbs:=by rw [Int.natAbs_tmod];exact Nat.mod_lt _ (by omega)
      refine ih k n (Int.tmod g n) (by omega) (by omega) ?_
      rw [tmod_gcd];exact fun k' g'=>h k' g'
def gcds (g : Nat) (xs : List Int) : Nat:=xs.foldl (fun g n=>Nat.gcd g n.natAbs) g
theorem gcd_l0 (xs : List Int) (hx : ∀ x ∈ xs,x.natAbs ≤ 9223372036854775807) (hl : xs.length ≤ 1000) : ∀ (d k : Nat) (g i : Int),0 ≤ i→i ≤ xs.length→((xs.length : Int) - i = d)→d * 9223372036854775900 + 2 ≤ k→g.natAbs ≤ 9223372036854775807→
    impl_restGcd.l0 k g xs (xs.length : Int) i = some ((gcds g.natAbs (xs.drop i.toNat) : Nat) : Int):=by
  intro d
  induction d with
  | zero =>
    intro k g i h0 h1 hd hk hg
    obtain ⟨k,rfl⟩ : ∃ m,k = m + 1:=⟨k - 1,by omega⟩
    simp only [impl_restGcd.l0]
    rw [if_neg (by omega),List.drop_of_length_le (by omega)]
    simp only [gcds,List.foldl_nil]
    by_cases c : g < 0
    · rw [if_pos c,wrap64_id (by omega) (by omega)];congr 1;omega
    · rw [if_neg c];congr 1;omega
  | succ d ih =>
    intro k g i h0 h1 hd hk hg
    obtain ⟨k,rfl⟩ : ∃ m,k = m + 1:=⟨k - 1,by omega⟩
    simp only [impl_restGcd.l0]
    rw [if_pos (by omega),if_pos h0,if_pos (by omega),drop_rd h0 (by omega)]
    have hm : rd xs i ∈ xs:=by
      have:=drop_rd (xs:=xs) h0 (by omega)
      exact List.mem_of_mem_drop (by rw [this];exact List.mem_cons_self ..)
    have hn:=hx _ hm
    generalize rd xs i = n at *
    have e : (i + 1).toNat = i.toNat + 1:=by omega
    refine gcd_l1 (d * 9223372036854775900 + 2) n.natAbs k g n (Nat.le_refl _) (by omega) ?_
    intro k' g' hk' hg'
    have le : g'.natAbs ≤ 9223372036854775807:=by
      rw [hg',Int.gcd_eq_natAbs_gcd_natAbs]
      rcases Nat.eq_zero_or_pos g.natAbs with z | z
      · rw [z,Nat.gcd_zero_left];exact hn
      · exact Nat.le_trans (Nat.gcd_le_left _ z) hg
    rw [wrap64_id (by omega) (by omega),ih k' g' (i + 1) (by omega) (by omega) (by omega) hk' le,e,hg']
    rfl
theorem restGcd_eq (k : Nat) (xs : List Int) (hk : xs.length * 9223372036854775900 + 2 ≤ k) (hx : ∀ x ∈ xs,x.natAbs ≤ 9223372036854775807) (hl : xs.length ≤ 1000) : impl_restGcd.f k xs = some ((gcds 0 xs : Nat) : Int):=by
  unfold impl_restGcd.f
  rw [gcd_l0 xs hx hl xs.length k 0 0 (by omega) (by omega) (by omega) hk (by decide)]
  simp
theorem restGcd2 (k : Nat) (hk : 100000000000000000000 ≤ k) {a b : Int} (ha : a.natAbs ≤ 9223372036854775807) (hb : b.natAbs ≤ 9223372036854775807) : impl_restGcd.f k [a,b] = some ((Int.gcd a b : Nat) : Int):=by
  rw [restGcd_eq k _ (by simp;omega) (by intro x hx;simp at hx;rcases hx with rfl | rfl <;> assumption) (by simp)]
  simp [gcds,Int.gcd_eq_natAbs_gcd_natAbs]
theorem restGcd3 (k : Nat) (hk : 100000000000000000000 ≤ k) {a b c : Int} (ha : a.natAbs ≤ 9223372036854775807) (hb : b.natAbs ≤ 9223372036854775807) (hc : c.natAbs ≤ 9223372036854775807) :
    impl_restGcd.f k [a,b,c] = some ((Int.gcd (Int.gcd a b : Int) c : Nat) : Int):=by
  rw [restGcd_eq k _ (by simp;omega) (by intro x hx;simp at hx;rcases hx with rfl | rfl | rfl <;> assumption) (by simp)]
  simp [gcds,Int.gcd_eq_natAbs_gcd_natAbs]
/-! impl_restOf -/
theorem restOf_eq (k : Nat) (hk : 100000000000000000000 ≤ k) (n : Int) {m : Int} (h0 : 0 ≤ m) (h1 : m ≤ 9223372036854775807) : impl_restOf.f k n m = some (SOf n m):=by
  unfold impl_restOf.f SOf SCut
  by_cases c : m > 65536
  · have g:=gcd_le_65536 c
    simp only [if_pos c]
    rw [restGcd2 k hk (by omega) (by omega)]
    simp only [Option.bind_some]
    rw [if_neg (by omega),if_neg (by omega),restMod_eq (by omega) (by omega)]
    rfl
  · simp only [if_neg c]
    by_cases c0 : m = 0
    · rw [if_pos c0,if_pos c0]
    · rw [if_neg c0,if_neg c0,restMod_eq (by omega) (by omega)]
      rfl
/-! impl_RestJoin -/
theorem restJoin_eq (k : Nat) (hk : 200000000000000000000 ≤ k) (m a m' a' : Int) : impl_RestJoin.f k m a m' a' = some (SJoin m a m' a'):=by
  obtain ⟨k,rfl⟩ : ∃ m,k = m + 1:=⟨k - 1,by omega⟩
  unfold impl_RestJoin.f SJoin
  rw [restOk_eq,restOk_eq]
  simp only [Option.bind_some]
  by_cases c : SOk m a
  case neg=>simp [c,impl_RestJoin.j0,restAll_eq]
  by_cases c1 : SOk m' a'
  case neg=>simp [c,c1,impl_RestJoin.j0,restAll_eq]
  simp only [c,c1,decide_true,if_true,Bool.not_true,impl_RestJoin.j0,Bool.false_eq_true,if_false,not_true,or_self]
  have q:=c.nok
  have q':=c1.nok
  unfold NOk at q q'
  rw [wrap64_id (by omega) (by omega),restGcd3 k (by omega) (by omega) (by omega) (by omega)]
  simp only [Option.bind_some]
  have le : (Int.gcd (Int.gcd m m' : Int) (a - a') : Int) ≤ 9223372036854775807:=by
    by_cases z : a - a' = 0
    · rw [z,Int.gcd_zero]
      by_cases y : m = 0
      · rw [y,Int.zero_gcd];omega
      · have:=Int.gcd_le_left (a:=m) m' (by omega);omega
    · have:=Int.gcd_le_natAbs_right (b:=a - a') (Int.gcd m m' : Int) z;omega
  rw [restOf_eq k (by omega) _ (by omega) le]
  rfl
/-! spec_l9Gcd -/
theorem sgcd_l0 : ∀ (d k : Nat) (a b : Int),0 ≤ a→0 ≤ b→b.toNat ≤ d→d < k→spec_l9Gcd.l0 k a b = some ((Int.gcd a b : Nat) : Int):=by
  intro d
  induction d with
  | zero =>
    intro k a b h0 h1 hd hk
    obtain ⟨k,rfl⟩ : ∃ m,k = m + 1:=⟨k - 1,by omega⟩
    have : b = 0:=by omega
    subst this
    simp only [spec_l9Gcd.l0,if_true,Int.gcd_zero];congr 1;omega
  | succ d ih =>
    intro k a b h0 h1 hd hk
    obtain ⟨k,rfl⟩ : ∃ m,k = m + 1:=⟨k - 1,by omega⟩
    simp only [spec_l9Gcd.l0]
    by_cases c : b = 0
    · subst c
      rw [if_pos rfl,Int.gcd_zero];congr 1;omega
    · rw [if_neg c]
      have t0:=tmod_nonneg (b:=b) h0
      have t1:=tmod_lt (a:=a) (b:=b) (by omega)
      rw [ih k b (Int.tmod a b) h1 t0 (by omega) (by omega)]
      congr 2
      rw [Int.gcd_eq_natAbs_gcd_natAbs,Int.gcd_eq_natAbs_gcd_natAbs,Int.natAbs_tmod,Nat.gcd_comm a.natAbs,Nat.gcd_comm b.natAbs (a.natAbs % b.natAbs),← Nat.gcd_rec]
theorem sgcd_eq (k : Nat) (hk : 100000000000000000000 ≤ k) {a b : Int} (ha : a.natAbs ≤ 9223372036854775807) (hb : b.natAbs ≤ 9223372036854775807) : spec_l9Gcd.f k a b = some ((Int.gcd a b : Nat) : Int):=by
  obtain ⟨k,rfl⟩ : ∃ m,k = m + 2:=⟨k - 2,by omega⟩
  have L : ∀ x y : Int,0 ≤ x→0 ≤ y→y ≤ 9223372036854775807→spec_l9Gcd.l0 k x y = some ((Int.gcd x y : Nat) : Int):=fun x y h h' h''=>sgcd_l0 y.toNat k x y h h' (Nat.le_refl _) (by omega)
  unfold spec_l9Gcd.f
  simp only [spec_l9Gcd.j0,spec_l9Gcd.j1]
  by_cases c : a < 0
  · rw [if_pos c,wrap64_id (x:=-a) (by omega) (by omega)]
    by_cases c1 : b < 0
    · rw [if_pos c1,wrap64_id (by omega) (by omega),L _ _ (by omega) (by omega) (by omega)];simp
    · rw [if_neg c1,L _ _ (by omega) (by omega) (by omega)];simp
  · rw [if_neg c]
    by_cases c1 : b < 0
    · rw [if_pos c1,wrap64_id (by omega) (by omega),L _ _ (by omega) (by omega) (by omega)];simp
    · rw [if_neg c1,L _ _ (by omega) (by omega) (by omega)]
/-! spec_l9Make -/
theorem smake_eq (k : Nat) (hk : 100000000000000000000 ≤ k) (n : Int) {m : Int} (h0 : 0 ≤ m) (h1 : m ≤ 9223372036854775807) : spec_l9Make.f k m n = some (SOf n m):=by
  unfold spec_l9Make.f SOf SCut
  by_cases c : m > 65536
  · have g:=gcd_le_65536 c
    simp only [if_pos c]
    rw [sgcd_eq k hk (by omega) (by omega)]
    simp only [Option.bind_some]
    rw [if_neg (by omega),if_neg (by omega),mod_eq (by omega) (by omega)]
    rfl
  · simp only [if_neg c]
    by_cases c0 : m = 0
    · rw [if_pos c0,if_pos c0]
    · rw [if_neg c0,if_neg c0,mod_eq (by omega) (by omega)]
      rfl
/-! spec_RestJoin -/
theorem srestJoin_eq (k : Nat) (hk : 200000000000000000000 ≤ k) (m a m' a' : Int) : spec_RestJoin.f k m a m' a' = some (SJoin m a m' a'):=by
  obtain ⟨k,rfl⟩ : ∃ m,k = m + 1:=⟨k - 1,by omega⟩
  unfold spec_RestJoin.f SJoin
  rw [srestOk_eq,srestOk_eq]
  simp only [Option.bind_some]
  by_cases c : SOk m a
  case neg=>simp [c,spec_RestJoin.j0,srestAll_eq]
  by_cases c1 : SOk m' a'
  case neg=>simp [c,c1,spec_RestJoin.j0,srestAll_eq]
  simp only [c,c1,decide_true,if_true,Bool.not_true,spec_RestJoin.j0,Bool.false_eq_true,if_false,not_true,or_self]
  have q:=c.nok
  have q':=c1.nok
  unfold NOk at q q'
  have le0 : (Int.gcd m m' : Int) ≤ 65536:=by
    by_cases y : m = 0
    · rw [y,Int.zero_gcd];omega
    · have:=Int.gcd_le_left (a:=m) m' (by omega);omega
  rw [sgcd_eq k (by omega) (by omega) (by omega)]
  simp only [Option.bind_some]
  rw [wrap64_id (by omega) (by omega),sgcd_eq k (by omega) (by omega) (by omega)]
  simp only [Option.bind_some]
  have le : (Int.gcd (Int.gcd m m' : Int) (a - a') : Int) ≤ 9223372036854775807:=by
    by_cases z : a - a' = 0
    · rw [z,Int.gcd_zero];omega
    · have:=Int.gcd_le_natAbs_right (b:=a - a') (Int.gcd m m' : Int) z;omega
  rw [smake_eq k (by omega) _ (by omega) le]
  rfl
/-! impl_valNone -/
theorem valNone_eq : impl_valNone.f = some (1,0,0,0):=rfl
/-! impl_valOne -/
theorem valOne_eq (v : Int) : impl_valOne.f v = some (v,v,0,v):=rfl
/-! spec_l10None -/
theorem svalNone_eq : spec_l10None.f = some (1,0,0,0):=rfl
/-! spec_l10One -/
theorem svalOne_eq (v : Int) : spec_l10One.f v = some (v,v,0,v):=rfl
/-! impl_ValMake -/
theorem valMake_eq (k : Nat) (hk : 1 ≤ k) (l h m a : Int) : impl_ValMake.f k l h m a = some (VMake l h m a):=by
  obtain ⟨k,rfl⟩ : ∃ m,k = m + 1:=⟨k - 1,by omega⟩
  unfold impl_ValMake.f
  rw [rangeOk_eq,restOk_eq,rangeEmpty_eq]
  simp only [Option.bind_some]
  by_cases c : ¬ ROk l h∨¬ SOk m a∨l > h
  · rw [VMake_none c]
    have N : impl_ValMake.j0 (k + 1) true l h m a = some (1,0,0,0):=by simp only [impl_ValMake.j0,if_true,valNone_eq,Option.bind_some]
    by_cases c1 : ROk l h
    case neg=>simp only [c1,decide_false,Bool.false_eq_true,if_false];exact N
    by_cases c2 : SOk m a
    case neg=>simp only [c1,c2,decide_true,decide_false,if_true,Bool.false_eq_true,if_false];exact N
    have c3 : l > h:=by
      rcases c with c | c | c
      · exact absurd c1 c
      · exact absurd c2 c
      · exact c
    simp only [c1,c2,c3,decide_true,if_true];exact N
  have o : ROk l h:=Decidable.byContradiction fun n=>c (Or.inl n)
  have s : SOk m a:=Decidable.byContradiction fun n=>c (Or.inr (Or.inl n))
  have e : ¬ l > h:=fun n=>c (Or.inr (Or.inr n))
  have on:=o.some e
  have sn:=s.nok
  unfold NOk at on sn
  unfold VMake
  rw [if_neg c]
  simp only [o,s,e,decide_true,decide_false,if_true,impl_ValMake.j0,Bool.false_eq_true,if_false]
  rw [rangeHas_eq,valNone_eq]
  simp only [Option.bind_some,decide_eq_true_eq,valOne_eq]
  by_cases hm : m = 0
  · rw [if_pos hm,if_pos hm];split <;> rfl
  rw [if_neg hm,if_neg hm]
  have p:=s.pos hm
  rw [wrap64_id (x:=a - l) (by omega) (by omega),wrap64_id (x:=h - a) (by omega) (by omega),restMod_eq (by omega) (by omega),restMod_eq (by omega) (by omega)]
  simp only [Option.bind_some]
  have e1:=Int.emod_nonneg (a - l) hm
  have e2:=Int.emod_nonneg (h - a) hm
  have e3:=Int.emod_lt_of_pos (a - l) (b:=m) (by omega)
  have e4:=Int.emod_lt_of_pos (h - a) (b:=m) (by omega)
  rw [wrap64_id (x:=l + (a - l) % m) (by omega) (by omega),wrap64_id (x:=h - (h - a) % m) (by omega) (by omega)]
  split
  · rfl
  · split <;> rfl
/-! spec_ValMake -/
theorem svalMake_eq (k : Nat) (hk : 1 ≤ k) (l h m a : Int) : spec_ValMake.f k l h m a = some (VMake l h m a):=by
  obtain ⟨k,rfl⟩ : ∃ m,k = m + 1:=⟨k - 1,by omega⟩
  unfold spec_ValMake.f
  rw [srangeOk_eq,srestOk_eq,snone_eq]
  simp only [Option.bind_some]
  by_cases c : ¬ ROk l h∨¬ SOk m a∨l > h
  · rw [VMake_none c]
    have N : spec_ValMake.j0 (k + 1) true l h m a = some (1,0,0,0):=by simp only [spec_ValMake.j0,if_true,svalNone_eq,Option.bind_some]
    by_cases c1 : ROk l h
    case neg=>simp only [c1,decide_false,Bool.false_eq_true,if_false];exact N
    by_cases c2 : SOk m a
    case neg=>simp only [c1,c2,decide_true,decide_false,if_true,Bool.false_eq_true,if_false];exact N
    have c3 : l > h:=by
      rcases c with c | c | c
      · exact absurd c1 c
      · exact absurd c2 c
      · exact c
    have c4:=c1.none c3
    have c5 : (l == 1 && h == 0) = true:=by simp [c4]
    simp only [c1,c2,c5,decide_true,if_true];exact N
  have o : ROk l h:=Decidable.byContradiction fun n=>c (Or.inl n)
  have s : SOk m a:=Decidable.byContradiction fun n=>c (Or.inr (Or.inl n))
  have e : ¬ l > h:=fun n=>c (Or.inr (Or.inr n))
  have on:=o.some e
  have sn:=s.nok
  unfold NOk at on sn
  have c5 : (l == 1 && h == 0) = false:=by
    rw [Bool.eq_false_iff];simp only [ne_eq,Bool.and_eq_true,beq_iff_eq];omega
  unfold VMake
  rw [if_neg c]
  simp only [o,s,c5,decide_true,decide_false,if_true,spec_ValMake.j0,Bool.false_eq_true,if_false]
  rw [srangeHas_eq,svalNone_eq]
  simp only [Option.bind_some,decide_eq_true_eq,svalOne_eq]
  by_cases hm : m = 0
  · rw [if_pos hm,if_pos hm];split <;> rfl
  rw [if_neg hm,if_neg hm]
  have p:=s.pos hm
  rw [wrap64_id (x:=a - l) (by omega) (by omega),wrap64_id (x:=h - a) (by omega) (by omega),mod_eq (by omega) (by omega),mod_eq (by omega) (by omega)]
  simp only [Option.bind_some]
  have e1:=Int.emod_nonneg (a - l) hm
  have e2:=Int.emod_nonneg (h - a) hm
  have e3:=Int.emod_lt_of_pos (a - l) (b:=m) (by omega)
  have e4:=Int.emod_lt_of_pos (h - a) (b:=m) (by omega)
  rw [wrap64_id (x:=l + (a - l) % m) (by omega) (by omega),wrap64_id (x:=h - (h - a) % m) (by omega) (by omega)]
  split
  · rfl
  · split <;> rfl
/-! impl_ValOk -/
theorem valOk_eq (k : Nat) (hk : 1 ≤ k) (l h m a : Int) : impl_ValOk.f k l h m a = some (decide (VOk l h m a)):=by
  unfold impl_ValOk.f impl_Val_span.f impl_Val_rest.f
  simp only [Option.bind_some]
  rw [valMake_eq k hk]
  simp only [Option.bind_some]
  congr 1
  rw [Bool.eq_iff_iff]
  simp only [Bool.and_eq_true,beq_iff_eq,decide_eq_true_eq]
  unfold VOk
  constructor
  · rintro ⟨a1,a2,a3,a4⟩;rw [Prod.ext_iff,Prod.ext_iff,Prod.ext_iff];exact ⟨a1.symm,a2.symm,a3.symm,a4.symm⟩
  · intro e;rw [e];exact ⟨rfl,rfl,rfl,rfl⟩
/-! spec_ValOk -/
theorem svalOk_eq (k : Nat) (hk : 1 ≤ k) (l h m a : Int) : spec_ValOk.f k l h m a = some (decide (VOk l h m a)):=by
  unfold spec_ValOk.f
  rw [svalNone_eq,Option.bind_some]
  show (if (l == 1 && (h == 0 && (m == 0 && (a == 0)))) = true then some true else _) = _
  by_cases z : (l == 1 && (h == 0 && (m == 0 && (a == 0)))) = true
  · rw [if_pos z]
    simp only [Bool.and_eq_true,beq_iff_eq] at z
    obtain ⟨rfl,rfl,rfl,rfl⟩:=z
    rw [decide_eq_true vok_none]
  · rw [if_neg z]
    have no : (¬ ROk l h∨¬ SOk m a∨l > h)→¬ VOk l h m a:=fun c q=>by
      unfold VOk at q
      rw [VMake_none c,Prod.mk.injEq,Prod.mk.injEq,Prod.mk.injEq] at q
      obtain ⟨rfl,rfl,rfl,rfl⟩:=q
      exact z rfl
    show (spec_RangeOk.f l h).bind _ = _
    rw [srangeOk_eq,Option.bind_some]
    by_cases o : ROk l h
    · rw [decide_eq_true o,if_pos rfl]
      show (spec_RestOk.f m a).bind _ = _
      rw [srestOk_eq,Option.bind_some]
      by_cases s : SOk m a
      · rw [decide_eq_true s,if_pos rfl]
        show (spec_ValMake.f k l h m a).bind _ = _
        rw [svalMake_eq k hk,Option.bind_some]
        congr 1
        rw [Bool.eq_iff_iff]
        simp only [Bool.and_eq_true,beq_iff_eq,decide_eq_true_eq]
        unfold VOk
        constructor
        · rintro ⟨a1,a2,a3,a4⟩;rw [Prod.ext_iff,Prod.ext_iff,Prod.ext_iff];exact ⟨a1.symm,a2.symm,a3.symm,a4.symm⟩
        · intro e;rw [e];exact ⟨rfl,rfl,rfl,rfl⟩
      · rw [decide_eq_false s,if_neg (by decide),decide_eq_false (no (.inr (.inl s)))]
    · rw [decide_eq_false o,if_neg (by decide),decide_eq_false (no (.inl o))]
/-! laws_toIntS -/
theorem toIntS_loop (x : List Int) (hx : x.length ≤ 1099511627776) : ∀ (m : Nat) (k i : Nat) (acc : List Int),i + m = x.length→m < k→acc.length = x.length→(∀ j,j < i→acc[j]? = x[j]?)→laws_toIntS.l0 k x acc (i : Int) = some x
  | 0,0,_,_,_,h,_,_=>absurd h (by omega)
  | 0,k + 1,i,acc,hm,_,hl,hj=>by
    unfold laws_toIntS.l0
    rw [if_neg (by omega)]
    congr 1
    apply List.ext_getElem?
    intro j
    by_cases h : j < i
    · exact hj j h
    · rw [List.getElem?_eq_none (by omega),List.getElem?_eq_none (by omega)]
  | m + 1,0,_,_,_,h,_,_=>absurd h (by omega)
  | m + 1,k + 1,i,acc,hm,hk,hl,hj=>by
    unfold laws_toIntS.l0
    rw [if_pos (by omega),if_pos (by omega),if_pos (by omega),wrap64_id (by omega) (by omega)]
    have h2:=set_same x acc i (by omega) hl hj
    have e : ((i : Int) + 1) = ((i + 1 : Nat) : Int):=by omega
    rw [e,show (i : Int).toNat = i by omega]
    exact toIntS_loop x hx m k (i + 1) _ (by omega) (by omega) h2.1 h2.2
theorem toIntS_eq {k : Nat} (x : List Int) (hx : x.length ≤ 1048576) (hk : 2000000 ≤ k) : laws_toIntS.f k x = some x:=by
  unfold laws_toIntS.f
  rw [if_pos (by omega),if_pos (by omega)]
  exact toIntS_loop x (by omega) x.length k 0 _ (by omega) (by omega) (by simp) (fun j h=>absurd h (by omega))
/-! laws_toIntS laws_toGaps -/
theorem toGaps_eq {k : Nat} (n : Int) (x : List Int) (hx : x.length ≤ 1048576) (hk : 2000000 ≤ k) : laws_toGaps.f k n x = some (n,x):=by
  unfold laws_toGaps.f
  rw [toIntS_eq x hx hk];rfl
/-! laws_szIntS -/
theorem szIntS_eq (x : List Int) (a : Int) (hx : x.length ≤ 9223372036854775807) (h0 : 0 ≤ a) (h : a ≤ 1048576) : laws_szIntS.f x a = some (if (x.length : Int) ≤ a then a - x.length else -1):=by
  unfold laws_szIntS.f
  rw [wrap64_id (by omega) (by omega)]
  by_cases c : (x.length : Int) ≤ a
  · rw [if_neg (by omega),if_pos c]
  · rw [if_pos (by omega),if_neg c]
/-! laws_szIntS laws_szGaps -/
theorem szGaps_eq (n : Int) (x : List Int) (a : Int) (hx : x.length ≤ 9223372036854775807) (h0 : 0 ≤ a) (h : a ≤ 1048576) : laws_szGaps.f n x a = some (if (x.length : Int) ≤ a then a - x.length else -1):=by
  unfold laws_szGaps.f
  rw [szIntS_eq x a hx h0 h]
  show (if (if (x.length : Int) ≤ a then a - x.length else -1) < 0 then (some (-1)) else some (if (x.length : Int) ≤ a then a - x.length else -1)) = _
  by_cases c : (x.length : Int) ≤ a
  · simp only [if_pos c];rw [if_neg (by omega)]
  · simp only [if_neg c];rw [if_pos (by omega)]
/-! laws_eqIntS -/
theorem eqIntS_loop (x : List Int) (hx : x.length ≤ 1099511627776) : ∀ (m : Nat) (k i : Nat),i + m = x.length→m < k→laws_eqIntS.l0 k x x (i : Int) = some true
  | 0,0,_,_,h=>absurd h (by omega)
  | 0,k + 1,i,hm,_=>by unfold laws_eqIntS.l0;rw [if_neg (by omega)]
  | m + 1,0,_,_,h=>absurd h (by omega)
  | m + 1,k + 1,i,hm,hk=>by
    unfold laws_eqIntS.l0
    rw [if_pos (by omega),if_pos (by omega),if_pos (by omega),if_pos rfl,wrap64_id (by omega) (by omega)]
    exact eqIntS_loop x hx m k (i + 1) (by omega) (by omega)
theorem eqIntS_refl {k : Nat} (x : List Int) (hx : x.length ≤ 1048576) (hk : 2000000 ≤ k) : laws_eqIntS.f k x x = some true:=by
  unfold laws_eqIntS.f
  rw [if_pos rfl]
  exact eqIntS_loop x (by omega) x.length k 0 (by omega) (by omega)
/-! laws_eqIntS laws_eqGaps -/
theorem eqGaps_refl {k : Nat} (n : Int) (x : List Int) (hx : x.length ≤ 1048576) (hk : 2000000 ≤ k) : laws_eqGaps.f k n x n x = some true:=by
  unfold laws_eqGaps.f
  rw [if_pos rfl,eqIntS_refl x hx hk];rfl
/-! spec_l11At -/
theorem sl11At_eq {n : Int} {d : List Int} {i j : Int} (h0 : 0 ≤ n) (h : n ≤ 12) (hl : (d.length : Int) = (n + 1) * (n + 1)) (hi0 : 0 ≤ i) (hi : i ≤ n) (hj0 : 0 ≤ j) (hj : j ≤ n) :
    spec_l11At.f n d i j = some (gat n d i j):=by
  have:=idx_in h0 h hi0 hi hj0 hj
  unfold spec_l11At.f gat
  rw [idx_w h0 h hi0 hi hj0 hj,if_pos (by omega),if_pos (by omega)]
/-! impl_Gaps_at -/
theorem gapsAt_eq {n : Int} {d : List Int} {i j : Int} (h0 : 0 ≤ n) (h : n ≤ 12) (hi0 : 0 ≤ i) (hi : i ≤ n) (hj0 : 0 ≤ j) (hj : j ≤ n) :
    impl_Gaps_at.f n d i j = some (i * (n + 1) + j):=by
  unfold impl_Gaps_at.f
  rw [idx_w h0 h hi0 hi hj0 hj]
/-! spec_l1In spec_l11At spec_GapsOk -/
theorem sGapsOk_l1 {n : Int} {d : List Int} (h0 : 0 ≤ n) (h : n ≤ 12) (hl : (d.length : Int) = (n + 1) * (n + 1)) (i : Int) (hi0 : 0 ≤ i) (hi : i ≤ n) (K : Nat) (Q : Prop)
    (rest : ∀ k,K ≤ k→Tot (spec_GapsOk.l0 k (i + 1) n d) fun b=>b = true↔Q) : ∀ (m : Nat) (k : Nat) (j : Int),(n + 1 - j).toNat = m→0 ≤ j→j ≤ n + 1→K + m < k→
    Tot (spec_GapsOk.l1 k i j n d) fun b=>b = true↔(∀ j' : Int,j ≤ j'→j' ≤ n→DIn (gat n d i j')∧(i = j'→gat n d i j' = 0))∧Q
  | m,0,j,_,_,_,hk=>absurd hk (by omega)
  | 0,k + 1,j,hm,hj,hj',hk=>by
    unfold spec_GapsOk.l1
    rw [if_neg (by omega),wrap64_id (by omega) (by omega)]
    refine (rest k (by omega)).mono fun b hb=>hb.trans ⟨fun q=>⟨fun j' a c=>absurd a (by omega),q⟩,fun q=>q.2⟩
  | m + 1,k + 1,j,hm,hj,hj',hk=>by
    unfold spec_GapsOk.l1
    rw [if_pos (by omega),sl11At_eq h0 h hl hi0 hi hj (by omega)]
    show Tot ((spec_l1In.f (gat n d i j) (-1099511627776) 1099511627776).bind _) _
    rw [sin_eq]
    have next : DIn (gat n d i j)→(i = j→gat n d i j = 0)→Tot (spec_GapsOk.l1 k i (wrap64 (j + 1)) n d) fun b=>b = true↔(∀ j' : Int,j ≤ j'→j' ≤ n→DIn (gat n d i j')∧(i = j'→gat n d i j' = 0))∧Q:=by
      intro a c
      rw [wrap64_id (by omega) (by omega)]
      refine (sGapsOk_l1 h0 h hl i hi0 hi K Q rest m k (j + 1) (by omega) (by omega) (by omega) (by omega)).mono fun b hb=>hb.trans ⟨fun q=>⟨fun j' p p'=>?_,q.2⟩,fun q=>⟨fun j' p p'=>q.1 j' (by omega) p',q.2⟩⟩
      by_cases e : j' = j
      · subst e;exact ⟨a,c⟩
      · exact q.1 j' (by omega) p'
    refine Tot.ite (fun c=>?_) (fun c=>?_)
    · have c' : DIn (gat n d i j):=(of_decide_eq_true c : -1099511627776 ≤ gat n d i j∧gat n d i j ≤ 1099511627776)
      refine Tot.ite (fun e=>?_) (fun e=>next c' fun e'=>absurd e' e)
      refine Tot.ite (fun z=>next c' fun _=>z) (fun z=>Tot.here ⟨fun f=>(nomatch f),fun q=>absurd ((q.1 j (by omega) (by omega)).2 e) z⟩)
    · refine Tot.here ⟨fun f=>(nomatch f),fun q=>?_⟩
      have:=(q.1 j (by omega) (by omega)).1
      exact absurd (decide_eq_true (show -1099511627776 ≤ gat n d i j∧gat n d i j ≤ 1099511627776 from this)) c
theorem sGapsOk_l0 {n : Int} {d : List Int} (h0 : 0 ≤ n) (h : n ≤ 12) (hl : (d.length : Int) = (n + 1) * (n + 1)) : ∀ (m : Nat) (k : Nat) (i : Int),(n + 1 - i).toNat = m→0 ≤ i→i ≤ n + 1→20 * m < k→
    Tot (spec_GapsOk.l0 k i n d) fun b=>b = true↔∀ i' j : Int,i ≤ i'→i' ≤ n→0 ≤ j→j ≤ n→DIn (gat n d i' j)∧(i' = j→gat n d i' j = 0)
  | m,0,i,_,_,_,hk=>absurd hk (by omega)
  | 0,k + 1,i,hm,hi,hi',hk=>by
    unfold spec_GapsOk.l0
    rw [if_neg (by omega)]
    exact Tot.here ⟨fun _ i' j a b=>absurd a (by omega),fun _=>rfl⟩
  | m + 1,k + 1,i,hm,hi,hi',hk=>by
    unfold spec_GapsOk.l0
    rw [if_pos (by omega)]
    refine (sGapsOk_l1 h0 h hl i hi (by omega) (20 * m + 1) _ (fun k hk=>sGapsOk_l0 h0 h hl m k (i + 1) (by omega) (by omega) (by omega) (by omega)) _ k 0 rfl (by omega) (by omega) (by omega)).mono fun b hb=>hb.trans ⟨fun q i' j a b c e=>?_,fun q=>⟨fun j' a b=>q i j' (by omega) (by omega) a b,fun i' j a b c e=>q i' j (by omega) b c e⟩⟩
    by_cases e' : i' = i
    · subst e';exact q.1 j c e
    · exact q.2 i' j (by omega) b c e
theorem sGapsOk_tot {k : Nat} (n : Int) (d : List Int) (hk : 1000 ≤ k) : Tot (spec_GapsOk.f k n d) fun b=>b = true↔GOk n d:=by
  obtain ⟨k,rfl⟩ : ∃ j,k = j + 1:=⟨k - 1,by omega⟩
  unfold spec_GapsOk.f
  rw [sin_eq]
  show Tot (if decide (0 ≤ n∧n ≤ 12) = true then _ else _) _
  refine Tot.ite (fun c=>?_) (fun c=>?_)
  · have c:=of_decide_eq_true c
    rw [sq_w c.1 c.2]
    rw [spec_GapsOk.j0]
    by_cases e : (d.length : Int) = (n + 1) * (n + 1)
    · have : ((d.length : Int) != (n + 1) * (n + 1)) = false:=bne_eq_false_iff_eq.mpr e
      rw [this,if_neg (by simp)]
      exact (sGapsOk_l0 c.1 c.2 e _ k 0 rfl (by omega) (by omega) (by omega)).mono fun b hb=>hb.trans (GOk.of_all c.1 c.2 e).symm
    · have : ((d.length : Int) != (n + 1) * (n + 1)) = true:=bne_iff_ne.mpr e
      rw [this,if_pos rfl]
      exact Tot.here ⟨fun f=>(nomatch f),fun q=>absurd q.2.2.1 e⟩
  · rw [spec_GapsOk.j0]
    rw [if_pos rfl]
    exact Tot.here ⟨fun f=>(nomatch f),fun q=>absurd (decide_eq_true (show 0 ≤ n∧n ≤ 12 from ⟨q.1,q.2.1⟩)) c⟩
theorem sGapsOk_yes {k : Nat} {n : Int} {d : List Int} (h : GOk n d) (hk : 1000 ≤ k) : spec_GapsOk.f k n d = some true:=by
  obtain ⟨b,e,hb⟩:=sGapsOk_tot (k:=k) n d hk
  rw [e,hb.mpr h]
theorem sGapsOk_no {k : Nat} {n : Int} {d : List Int} (h : ¬ GOk n d) (hk : 1000 ≤ k) : spec_GapsOk.f k n d = some false:=by
  obtain ⟨b,e,hb⟩:=sGapsOk_tot (k:=k) n d hk
  rw [e]
  cases b with
  | false=>rfl
  | true=>exact absurd (hb.mp rfl) h
/-! impl_Gaps_at impl_GapsOk -/
theorem gapsOk_l1 (d : List Int) (hd : d.length ≤ 1000) : ∀ (m : Nat) (k : Nat) (p : Int),((d.length : Int) - p).toNat = m→0 ≤ p→p ≤ d.length→m < k→
    Tot (impl_GapsOk.l1 k d (d.length : Int) p) fun b=>b = true↔∀ q : Int,p ≤ q→q < (d.length : Int)→DIn (rd d q)
  | m,0,p,_,_,_,hk=>absurd hk (by omega)
  | 0,k + 1,p,hm,hp,hp',hk=>by
    unfold impl_GapsOk.l1
    rw [if_neg (by omega)]
    exact Tot.here ⟨fun _ q a b=>absurd a (by omega),fun _=>rfl⟩
  | m + 1,k + 1,p,hm,hp,hp',hk=>by
    unfold impl_GapsOk.l1
    rw [if_pos (by omega),if_pos (by omega),if_pos (by omega)]
    refine Tot.ite (fun c=>Tot.here ⟨fun f=>(nomatch f),fun q=>?_⟩) (fun c=>Tot.ite (fun c'=>Tot.here ⟨fun f=>(nomatch f),fun q=>?_⟩) (fun c'=>?_))
    · have:=(q p (by omega) (by omega)).1;omega
    · have:=(q p (by omega) (by omega)).2;omega
    · rw [wrap64_id (by omega) (by omega)]
      refine (gapsOk_l1 d hd m k (p + 1) (by omega) (by omega) (by omega) (by omega)).mono fun b hb=>hb.trans ⟨fun q r a b=>?_,fun q r a b=>q r (by omega) b⟩
      by_cases e : r = p
      · subst e;exact ⟨by omega,by omega⟩
      · exact q r (by omega) b
theorem gapsOk_l0 {n : Int} {d : List Int} (h0 : 0 ≤ n) (h : n ≤ 12) (hl : (d.length : Int) = (n + 1) * (n + 1)) (hd : d.length ≤ 1000) : ∀ (m : Nat) (k : Nat) (i : Int),(n + 1 - i).toNat = m→0 ≤ i→i ≤ n + 1→1500 + m < k→
    Tot (impl_GapsOk.l0 k (n + 1) i n d) fun b=>b = true↔(∀ i' : Int,i ≤ i'→i' ≤ n→rd d (i' * (n + 1) + i') = 0)∧∀ q : Int,0 ≤ q→q < (d.length : Int)→DIn (rd d q)
  | m,0,p,_,_,_,hk=>absurd hk (by omega)
  | 0,k + 1,i,hm,hi,hi',hk=>by
    unfold impl_GapsOk.l0
    rw [if_neg (by omega)]
    refine (gapsOk_l1 d hd _ k 0 rfl (by omega) (by omega) (by omega)).mono fun b hb=>hb.trans ⟨fun q=>⟨fun i' a b=>absurd a (by omega),q⟩,fun q=>q.2⟩
  | m + 1,k + 1,i,hm,hi,hi',hk=>by
    unfold impl_GapsOk.l0
    have ix:=idx_in h0 h hi (by omega : i ≤ n) hi (by omega)
    rw [if_pos (by omega),gapsAt_eq h0 h hi (by omega) hi (by omega)]
    show Tot (if 0 ≤ i * (n + 1) + i then _ else _) _
    rw [if_pos (by omega),if_pos (by omega)]
    refine Tot.ite (fun c=>?_) (fun c=>Tot.here ⟨fun f=>(nomatch f),fun q=>absurd (q.1 i (by omega) (by omega)) c⟩)
    rw [wrap64_id (by omega) (by omega)]
    refine (gapsOk_l0 h0 h hl hd m k (i + 1) (by omega) (by omega) (by omega) (by omega)).mono fun b hb=>hb.trans ⟨fun q=>⟨fun i' a b=>?_,q.2⟩,fun q=>⟨fun i' a b=>q.1 i' (by omega) b,q.2⟩⟩
    by_cases e : i' = i
    · subst e;exact c
    · exact q.1 i' (by omega) b
theorem gapsOk_tot {k : Nat} (n : Int) (d : List Int) (hk : 2000 ≤ k) : Tot (impl_GapsOk.f k n d) fun b=>b = true↔GOk n d:=by
  obtain ⟨k,rfl⟩ : ∃ j,k = j + 1:=⟨k - 1,by omega⟩
  unfold impl_GapsOk.f
  have no : ¬ GOk n d→Tot (impl_GapsOk.j0 (k + 1) true n d) fun b=>b = true↔GOk n d:=by
    intro hn
    rw [impl_GapsOk.j0]
    rw [if_pos rfl]
    exact Tot.here ⟨fun f=>(nomatch f),fun q=>absurd q hn⟩
  refine Tot.ite (fun c=>no fun q=>by have:=q.1;omega) (fun c=>Tot.ite (fun c'=>no fun q=>by have:=q.2.1;omega) (fun c'=>?_))
  have a : 0 ≤ n:=by omega
  have b : n ≤ 12:=by omega
  rw [sq_w a b]
  by_cases e : (d.length : Int) = (n + 1) * (n + 1)
  · have : ((d.length : Int) != (n + 1) * (n + 1)) = false:=bne_eq_false_iff_eq.mpr e
    have ix:=idx_in a b a (Int.le_refl n) a (Int.le_refl n)
    have big : d.length ≤ 1000:=by rcases twelve a b with rfl | rfl | rfl | rfl | rfl | rfl | rfl | rfl | rfl | rfl | rfl | rfl | rfl <;> omega
    rw [this]
    rw [impl_GapsOk.j0]
    rw [if_neg (by simp),wrap64_id (x:=n + 1) (by omega) (by omega)]
    refine (gapsOk_l0 a b e big _ k 0 rfl (by omega) (by omega) (by omega)).mono fun r hr=>hr.trans ⟨fun q=>⟨a,b,e,q.2,q.1⟩,fun q=>⟨q.2.2.2.2,q.2.2.2.1⟩⟩
  · have : ((d.length : Int) != (n + 1) * (n + 1)) = true:=bne_iff_ne.mpr e
    rw [this]
    exact no fun q=>e q.2.2.1
theorem gapsOk_yes {k : Nat} {n : Int} {d : List Int} (h : GOk n d) (hk : 2000 ≤ k) : impl_GapsOk.f k n d = some true:=by
  obtain ⟨b,e,hb⟩:=gapsOk_tot (k:=k) n d hk
  rw [e,hb.mpr h]
theorem gapsOk_no {k : Nat} {n : Int} {d : List Int} (h : ¬ GOk n d) (hk : 2000 ≤ k) : impl_GapsOk.f k n d = some false:=by
  obtain ⟨b,e,hb⟩:=gapsOk_tot (k:=k) n d hk
  rw [e]
  cases b with
  | false=>rfl
  | true=>exact absurd (hb.mp rfl) h
/-! laws_markIntS -/
theorem markIntS_loop : ∀ (m : Nat) (k i : Nat) (x : List Int) (a : Int),i + m = x.length→m < k→0 ≤ a→a + m ≤ 9007199254740992→x.length ≤ 1048576→
    Tot (laws_markIntS.l0 k x a (i : Int)) fun r=>r.1 = a + m∧r.2.length = x.length∧(∀ p : Int,0 ≤ p→p < i→rd r.2 p = rd x p)∧∀ p : Int,(i : Int) ≤ p→p < (x.length : Int)→rd r.2 p = a + (p - i)
  | m,0,_,_,_,_,h,_,_,_=>absurd h (by omega)
  | 0,k + 1,i,x,a,hm,hk,h0,h1,hx=>by
    unfold laws_markIntS.l0
    rw [if_neg (by omega)]
    exact Tot.here ⟨by simp,rfl,fun _ _ _=>rfl,fun p h h'=>absurd h (by omega)⟩
  | m + 1,k + 1,i,x,a,hm,hk,h0,h1,hx=>by
    unfold laws_markIntS.l0
    rw [if_pos (by omega),if_pos (by omega),wrap64_id (x:=a + 1) (by omega) (by omega),wrap64_id (x:=(i : Int) + 1) (by omega) (by omega)]
    have e : (i : Int).toNat = i:=by omega
    rw [e]
    refine (markIntS_loop m k (i + 1) (x.set i a) (a + 1) (by simp;omega) (by omega) (by omega) (by omega) (by simpa using hx)).mono fun r hr=>?_
    obtain ⟨r1,r2,r3,r4⟩:=hr
    refine ⟨by omega,by simpa using r2,fun p hp hp'=>?_,fun p hp hp'=>?_⟩
    · rw [r3 p hp (by omega),rd_set _ _ _ _ (by omega) hp,if_neg (by omega)]
    · by_cases q : p = (i : Int)
      · subst q
        rw [r3 _ (by omega) (by omega),rd_set _ _ _ _ (by omega) (by omega),if_pos rfl];omega
      · rw [r4 p (by omega) (by simpa using hp')];omega
/-! laws_heldIntS -/
theorem heldIntS_loop (x : List Int) (hx : x.length ≤ 1048576) : ∀ (m : Nat) (k i : Nat) (a : Int),i + m = x.length→m < k→0 ≤ a→a + m ≤ 9007199254740992→
    (∀ p : Int,(i : Int) ≤ p→p < (x.length : Int)→rd x p = a + (p - i))→laws_heldIntS.l0 k x a (i : Int) = some (a + m)
  | m,0,_,_,_,h,_,_,_=>absurd h (by omega)
  | 0,k + 1,i,a,hm,hk,h0,h1,h=>by
    unfold laws_heldIntS.l0
    rw [if_neg (by omega)];simp
  | m + 1,k + 1,i,a,hm,hk,h0,h1,h=>by
    unfold laws_heldIntS.l0
    rw [if_pos (by omega),if_pos (by omega),if_pos (by rw [h i (by omega) (by omega)];omega),wrap64_id (x:=a + 1) (by omega) (by omega),wrap64_id (x:=(i : Int) + 1) (by omega) (by omega)]
    have e : ((i : Int) + 1) = ((i + 1 : Nat) : Int):=by omega
    rw [e,heldIntS_loop x hx m k (i + 1) (a + 1) (by omega) (by omega) (by omega) (by omega) (fun p hp hp'=>by rw [h p (by omega) hp'];omega)]
    congr 1;omega
/-! laws_markIntS laws_heldIntS laws_markGaps laws_heldGaps -/
theorem mark_held {k : Nat} (n n' : Int) (x : List Int) (hx : x.length ≤ 1048576) (hk : 2000000 ≤ k) (a : Int) (ha : 0 ≤ a) (ha' : a ≤ 4503599627370496) :
    ∃ y,laws_markGaps.f k n x a = some (a + x.length,y)∧laws_heldGaps.f k n' y a = some (a + x.length):=by
  obtain ⟨⟨r1,y⟩,e,h1,h2,_,h4⟩:=markIntS_loop x.length k 0 x a (by omega) (by omega) ha (by omega) hx
  have h1 : r1 = a + x.length:=h1
  have h2 : y.length = x.length:=h2
  subst h1
  refine ⟨y,?_,?_⟩
  · unfold laws_markGaps.f laws_markIntS.f
    rw [show (0 : Int) = ((0 : Nat) : Int) from rfl,e];rfl
  · unfold laws_heldGaps.f laws_heldIntS.f
    have:=heldIntS_loop y (by omega) x.length k 0 a (by omega) (by omega) ha (by omega) (fun p hp hp'=>h4 p hp (by omega))
    rw [show (0 : Int) = ((0 : Nat) : Int) from rfl,this]
    show (if a + (x.length : Int) < 0 then _ else _) = _
    rw [if_neg (by omega)]
/-! spec_l11Copy -/
theorem sl11Copy_loop (n : Int) (x : List Int) (hx : x.length ≤ 1048576) : ∀ (m : Nat) (k i : Nat) (acc : List Int),i + m = x.length→m < k→acc = x.take i→spec_l11Copy.l0 k (i : Int) n x n acc = some (n,x)
  | m,0,_,_,_,h,_=>absurd h (by omega)
  | 0,k + 1,i,acc,hm,hk,h=>by
    unfold spec_l11Copy.l0
    rw [if_neg (by omega),h,List.take_of_length_le (by omega)]
  | m + 1,k + 1,i,acc,hm,hk,h=>by
    unfold spec_l11Copy.l0
    have hl : acc.length = i:=by rw [h,List.length_take];omega
    rw [if_pos (by omega),if_pos (by omega),if_pos (by omega),wrap64_id (by omega) (by omega)]
    refine sl11Copy_loop n x hx m k (i + 1) _ (by omega) (by omega) ?_
    have hi : i < x.length:=by omega
    rw [h,List.take_add_one,List.getElem?_eq_getElem hi]
    simp [rd,List.getD_eq_getElem?_getD,List.getElem?_eq_getElem hi]
theorem sl11Copy_eq {k : Nat} (n : Int) (x : List Int) (hx : x.length ≤ 1048576) (hk : 2000000 ≤ k) : spec_l11Copy.f k n x = some (n,x):=by
  unfold spec_l11Copy.f
  exact sl11Copy_loop n x hx x.length k 0 [] (by omega) (by omega) (by simp)
/-! impl_Gaps_clone -/
theorem clone_eq (n : Int) (x : List Int) (hx : x.length ≤ 1048576) : impl_Gaps_clone.f n x = some (n,x):=by
  unfold impl_Gaps_clone.f
  rw [if_pos (by simp;omega)];rfl
/-! spec_l1In spec_GapsOk spec_l11Two -/
theorem sl11Two_eq {k : Nat} (n : Int) (d : List Int) (n' : Int) (d' : List Int) (hk : 2000000 ≤ k) : Tot (spec_l11Two.f k n d n' d') fun b=>b = true↔GOk n d∧GOk n' d'∧n = n':=by
  unfold spec_l11Two.f
  by_cases g : GOk n d
  · rw [sGapsOk_yes g (by omega)]
    by_cases g' : GOk n' d'
    · rw [sGapsOk_yes g' (by omega)]
      exact ⟨_,rfl,by simp [g,g']⟩
    · rw [sGapsOk_no g' (by omega)]
      exact ⟨_,rfl,⟨fun f=>(nomatch f),fun q=>absurd q.2.1 g'⟩⟩
  · rw [sGapsOk_no g (by omega)]
    exact ⟨_,rfl,⟨fun f=>(nomatch f),fun q=>absurd q.1 g⟩⟩
/-! spec_GapsJoin impl_GapsJoin spec_l8Max -/
theorem join_loop (x y : List Int) (n : Int) (n' : Int) (hx : x.length ≤ 169) (hl : y.length = x.length) : ∀ (m : Nat) (K L i : Nat) (acc cur : List Int),i + m = x.length→m < K→m < L→acc.length = i→cur.length = x.length→
    (∀ j,j < i→acc[j]? = cur[j]?)→(∀ j,i ≤ j→cur[j]? = x[j]?)→∃ r : List Int,spec_GapsJoin.l0 K (i : Int) n x n' y n acc = some (n,r)∧impl_GapsJoin.l0 L y (y.length : Int) (i : Int) n cur = some (n,r)∧r.length ≤ 169
  | m,0,_,_,_,_,_,h,_,_,_,_,_=>absurd h (by omega)
  | m,_,0,_,_,_,_,_,h,_,_,_,_=>absurd h (by omega)
  | 0,K + 1,L + 1,i,acc,cur,hm,hK,hL,ha,hc,he,hf=>by
    rw [spec_GapsJoin.l0,impl_GapsJoin.l0,if_neg (show ¬ (i : Int) < (x.length : Int) by omega),if_neg (show ¬ (i : Int) < (y.length : Int) by omega)]
    have e : acc = cur:=by
      apply List.ext_getElem?
      intro j
      by_cases h : j < i
      · exact he j h
      · rw [List.getElem?_eq_none (by omega),List.getElem?_eq_none (by omega)]
    rw [e]
    exact ⟨cur,rfl,rfl,by omega⟩
  | m + 1,K + 1,L + 1,i,acc,cur,hm,hK,hL,ha,hc,he,hf=>by
    have hi : i < x.length:=by omega
    have cx : rd cur (i : Int) = rd x (i : Int):=by
      unfold rd
      rw [List.getD_eq_getElem?_getD,List.getD_eq_getElem?_getD,show (i : Int).toNat = i by omega,hf i (Nat.le_refl i)]
    rw [spec_GapsJoin.l0,impl_GapsJoin.l0,if_pos (show (i : Int) < (x.length : Int) by omega),if_pos (show (i : Int) < (y.length : Int) by omega),if_pos (show 0 ≤ (i : Int) by omega),if_pos (show 0 ≤ (i : Int) by omega),if_pos (show (i : Int) < (y.length : Int) by omega),if_pos (show (i : Int) < (y.length : Int) by omega),if_pos (show (i : Int) < (cur.length : Int) by omega),cx,wrap64_id (x:=(i : Int) + 1) (by omega) (by omega),smax_eq,Option.bind_some,mx_max]
    have e1 : ((i : Int) + 1) = ((i + 1 : Nat) : Int):=by omega
    have e2 : (i : Int).toNat = i:=by omega
    rw [if_pos (show acc.length < 17592186044416 by omega),e1,e2]
    refine join_loop x y n n' hx hl m K L (i + 1) (acc ++ [max (rd x (i : Int)) (rd y (i : Int))]) (cur.set i (max (rd x (i : Int)) (rd y (i : Int)))) (by omega) (by omega) (by omega) (by simp [ha]) (by simpa using hc) (fun j hj=>?_) (fun j hj=>?_)
    · by_cases q : j = i
      · subst q
        rw [List.getElem?_set_self (by omega),List.getElem?_append_right (by omega)];simp [ha]
      · rw [List.getElem?_set_ne (by omega),List.getElem?_append_left (by omega)];exact he j (by omega)
    · rw [List.getElem?_set_ne (by omega)];exact hf j (by omega)
/-! impl_GapsJoin -/
theorem joined_l0 (y : List Int) (n : Int) : ∀ (m L i : Nat) (cur : List Int),i + m = y.length→m < L→cur.length = y.length→y.length ≤ 169→
    ∃ r : List Int,impl_GapsJoin.l0 L y (y.length : Int) (i : Int) n cur = some (n,r)∧r.length = cur.length∧∀ p : Int,0 ≤ p→p < (y.length : Int)→rd r p = if p < (i : Int) then rd cur p else max (rd cur p) (rd y p)
  | m,0,_,_,_,h,_,_=>absurd h (by omega)
  | 0,L + 1,i,cur,hm,hL,hc,hy=>by
    rw [impl_GapsJoin.l0,if_neg (show ¬ (i : Int) < (y.length : Int) by omega)]
    exact ⟨cur,rfl,rfl,fun p a b=>by rw [if_pos (by omega)]⟩
  | m + 1,L + 1,i,cur,hm,hL,hc,hy=>by
    rw [impl_GapsJoin.l0,if_pos (show (i : Int) < (y.length : Int) by omega),if_pos (show 0 ≤ (i : Int) by omega),if_pos (show (i : Int) < (y.length : Int) by omega),if_pos (show (i : Int) < (cur.length : Int) by omega),wrap64_id (x:=(i : Int) + 1) (by omega) (by omega),mx_max,show (i : Int).toNat = i by omega,show ((i : Int) + 1) = ((i + 1 : Nat) : Int) by omega]
    obtain ⟨r,e1,e2,e3⟩:=joined_l0 y n m L (i + 1) (cur.set i (max (rd cur (i : Int)) (rd y (i : Int)))) (by omega) (by omega) (by simpa using hc) hy
    refine ⟨r,e1,by rw [e2,List.length_set],fun p a b=>?_⟩
    rw [e3 p a b,rd_set _ _ _ _ (by omega) a]
    by_cases z : p = (i : Int)
    · subst z
      rw [if_pos (by omega),if_pos rfl,if_neg (by omega)]
    · rw [if_neg z]
      by_cases q : p < (i : Int)
      · rw [if_pos (by omega),if_pos q]
      · rw [if_neg (by omega),if_neg q]
/-! impl_Val_none -/
theorem valNone_q (a b c d : Int) : impl_Val_none.f a b c d = some (a == 1 && (b == 0 && (c == 0 && (d == 0)))):=rfl
/-! spec_l12RefOk impl_refOk -/
def RefOk (null : Bool) (x : List Int) (a b c d : Int) : Prop:=VOk a b c d∧(VN a b c d↔x = [])∧Asc x∧(null = true∨x≠[])
def lastOf (x : List Int) (i : Int) : Int:=if i = 0 then -1 else rd x (i - 1)
theorem ne_iff {p q : Prop} {b b' : Bool} (h : b = true↔p) (h' : b' = true↔q) : (b != b') = false↔(p↔q):=by
  cases b <;> cases b' <;> simp_all
theorem nil_iff (x : List Int) : ((x.length : Int) == 0) = true↔x = []:=by
  cases x with
  | nil=>simp
  | cons a l=>simp;omega
theorem refOk_l0 {k : Nat} (null : Bool) (x : List Int) (a b c d : Int) (hx : x.length ≤ 1048576) (hk : 2000000 ≤ k) : Tot (impl_refOk.l0 k (-1) x (x.length : Int) 0 null x a b c d) fun r=>r = true↔Asc x∧(null = true∨x≠[]):=by
  have h : Tot (impl_refOk.l0 k (lastOf x 0) x (x.length : Int) 0 null x a b c d) fun r=>r = true↔(∀ j : Int,0 ≤ j→j < (x.length : Int)→lastOf x j < rd x j)∧(null = true∨x≠[]):=by
    refine scan (g:=fun k i=>impl_refOk.l0 k (lastOf x i) x (x.length : Int) i null x a b c d) (n:=(x.length : Int)) 0 (fun k i R _ h0 h1 yes no=>?_) (fun k _=>?_) _ k 0 rfl (by omega) (by omega) (by omega)
    · try dsimp only at yes ⊢
      rw [impl_refOk.l0,if_pos h1,if_pos h0,if_pos h1,wrap64_id (x:=i + 1) (by omega) (by omega)]
      refine Tot.ite (fun z=>Tot.here (no (by omega))) (fun z=>?_)
      have e : lastOf x (i + 1) = rd x i:=by
        unfold lastOf
        rw [if_neg (by omega),show i + 1 - 1 = i by omega]
      rw [← e]
      exact yes (by omega)
    · try dsimp only
      rw [impl_refOk.l0,if_neg (by omega)]
      refine Tot.ite (fun z=>Tot.here ⟨fun _=>.inl z,fun _=>rfl⟩) (fun z=>Tot.here ?_)
      rw [decide_eq_true_iff]
      cases x with
      | nil=>simp [z]
      | cons a l=>simp
  obtain ⟨r,h1,h2⟩:=h
  exact ⟨r,h1,h2.trans (by rw [asc_iff];exact Iff.rfl)⟩
theorem refOk_tot {k : Nat} (null : Bool) (x : List Int) (a b c d : Int) (hx : x.length ≤ 1048576) (hk : 3000000 ≤ k) : Tot (impl_refOk.f k null x a b c d) fun r=>r = true↔RefOk null x a b c d:=by
  obtain ⟨k,rfl⟩ : ∃ j,k = j + 1:=⟨k - 1,by omega⟩
  unfold impl_refOk.f
  rw [valOk_eq (k + 1) (by omega),Option.bind_some]
  by_cases o : VOk a b c d
  · rw [decide_eq_true o,if_pos rfl,valNone_q,Option.bind_some,impl_refOk.j0]
    by_cases e : VN a b c d↔x = []
    · rw [(ne_iff (vn_iff a b c d) (nil_iff x)).mpr e,if_neg (show ¬ (false = true) by decide)]
      exact (refOk_l0 null x a b c d hx (by omega)).mono fun r hr=>hr.trans ⟨fun q=>⟨o,e,q.1,q.2⟩,fun q=>⟨q.2.2.1,q.2.2.2⟩⟩
    · have ne : ((a == 1 && (b == 0 && (c == 0 && (d == 0)))) != ((x.length : Int) == 0)) = true:=by
        rw [← Bool.not_eq_false];exact fun z=>e ((ne_iff (vn_iff a b c d) (nil_iff x)).mp z)
      rw [ne,if_pos rfl]
      exact Tot.here ⟨fun f=>(nomatch f),fun q=>absurd q.2.1 e⟩
  · rw [decide_eq_false o,if_neg (show ¬ (false = true) by decide),impl_refOk.j0,if_pos rfl]
    exact Tot.here ⟨fun f=>(nomatch f),fun q=>absurd q.1 o⟩
theorem srefOk_l0 {k : Nat} (null : Bool) (x : List Int) (a b c d : Int) (hx : x.length ≤ 1048576) (hk : 2000000 ≤ k) : Tot (spec_l12RefOk.l0 k 0 null x a b c d) fun r=>r = true↔Asc x:=by
  have h : Tot (spec_l12RefOk.l0 k 0 null x a b c d) fun r=>r = true↔(∀ j : Int,0 ≤ j→j < (x.length : Int)→0 ≤ rd x j∧(0 < j→rd x (j - 1) < rd x j))∧True:=by
    refine scan (g:=fun k i=>spec_l12RefOk.l0 k i null x a b c d) (n:=(x.length : Int)) 0 (fun k i R _ h0 h1 yes no=>?_) (fun k _=>?_) _ k 0 rfl (by omega) (by omega) (by omega)
    · try dsimp only at yes ⊢
      rw [spec_l12RefOk.l0,if_pos h1,if_pos h0,wrap64_id (x:=i + 1) (by omega) (by omega)]
      refine Tot.ite (fun z=>Tot.here (no (by omega))) (fun z=>?_)
      refine Tot.ite (fun z2=>?_) (fun z2=>yes ⟨by omega,fun h=>absurd h (by omega)⟩)
      rw [wrap64_id (x:=i - 1) (by omega) (by omega),if_pos (by omega),if_pos (by omega)]
      refine Tot.ite (fun z3=>Tot.here (no (fun q=>by have:=q.2 (by omega);omega))) (fun z3=>yes ⟨by omega,fun _=>by omega⟩)
    · try dsimp only
      rw [spec_l12RefOk.l0,if_neg (by omega)]
      exact Tot.here ⟨fun _=>trivial,fun _=>rfl⟩
  obtain ⟨r,h1,h2⟩:=h
  exact ⟨r,h1,h2.trans ⟨fun q=>q.1,fun q=>⟨q,trivial⟩⟩⟩
theorem srefOk_tot {k : Nat} (null : Bool) (x : List Int) (a b c d : Int) (hx : x.length ≤ 1048576) (hk : 3000000 ≤ k) : Tot (spec_l12RefOk.f k null x a b c d) fun r=>r = true↔RefOk null x a b c d:=by
  obtain ⟨k,rfl⟩ : ∃ j,k = j + 1:=⟨k - 1,by omega⟩
  unfold spec_l12RefOk.f
  rw [svalOk_eq (k + 1) (by omega),Option.bind_some]
  by_cases o : VOk a b c d
  · rw [decide_eq_true o,if_pos rfl,svalNone_eq,Option.bind_some]
    show Tot (if (((x.length : Int) == 0) != (a == 1 && (b == 0 && (c == 0 && (d == 0))))) = true then _ else _) _
    by_cases e : VN a b c d↔x = []
    · rw [(ne_iff (nil_iff x) (vn_iff a b c d)).mpr e.symm,if_neg (show ¬ (false = true) by decide)]
      have fin : (null = true∨x≠[])→Tot (spec_l12RefOk.j0 (k + 1) false null x a b c d) fun r=>r = true↔RefOk null x a b c d:=fun z=>by
        rw [spec_l12RefOk.j0,if_neg (show ¬ (false = true) by decide)]
        exact (srefOk_l0 null x a b c d hx (by omega)).mono fun r hr=>hr.trans ⟨fun q=>⟨o,e,q,z⟩,fun q=>q.2.2.1⟩
      refine Tot.ite (fun z=>fin (.inl z)) (fun z=>?_)
      by_cases y : x = []
      · rw [(nil_iff x).mpr y,spec_l12RefOk.j0,if_pos rfl]
        exact Tot.here ⟨fun f=>(nomatch f),fun q=>q.2.2.2.elim (fun n=>absurd n z) (fun n=>absurd y n)⟩
      · have : ((x.length : Int) == 0) = false:=by rw [← Bool.not_eq_true];exact fun h=>y ((nil_iff x).mp h)
        rw [this]
        exact fin (.inr y)
    · have ne : (((x.length : Int) == 0) != (a == 1 && (b == 0 && (c == 0 && (d == 0))))) = true:=by
        rw [← Bool.not_eq_false];exact fun z=>e ((ne_iff (nil_iff x) (vn_iff a b c d)).mp z).symm
      rw [ne,if_pos rfl,spec_l12RefOk.j0,if_pos rfl]
      exact Tot.here ⟨fun f=>(nomatch f),fun q=>absurd q.2.1 e⟩
  · rw [decide_eq_false o,if_neg (show ¬ (false = true) by decide),spec_l12RefOk.j0,if_pos rfl]
    exact Tot.here ⟨fun f=>(nomatch f),fun q=>absurd q.1 o⟩
/-! spec_AbsOk impl_AbsOk -/
def VGood (v : S58) : Prop:=VOk v.f0 v.f1 v.f2 v.f3∧¬ VN v.f0 v.f1 v.f2 v.f3
def RGood (r : S84) : Prop:=RefOk r.f0 r.f1 r.f2.f0 r.f2.f1 r.f2.f2 r.f2.f3
def AOk (live : Bool) (ints : List S58) (refs : List S84) (cells : List S58) (n : Int) (d : List Int) : Prop :=
  (live = true∧(∀ v ∈ ints,VGood v)∧(∀ v ∈ cells,VGood v)∧(∀ r ∈ refs,RGood r)∧GOk n d∧n = (ints.length : Int))∨
  (live = false∧ints = []∧refs = []∧cells = []∧n = 0∧d = [])
/-- How long the rows may be. -/
def ASmall (ints : List S58) (refs : List S84) (cells : List S58) : Prop:=ints.length ≤ 1048576∧refs.length ≤ 1048576∧cells.length ≤ 1048576∧∀ r ∈ refs,r.f1.length ≤ 1048576
theorem arr_small {refs : List S84} (h : ∀ r ∈ refs,r.f1.length ≤ 1048576) {i : Int} (h0 : 0 ≤ i) (h1 : i < (refs.length : Int)) : (rd_T84 refs i).f1.length ≤ 1048576 :=
  (all_get refs z84 (fun r=>r.f1.length ≤ 1048576)).mpr h i h0 h1
theorem sl12Vals_tot {k : Nat} (x : List S58) (hx : x.length ≤ 1048576) (hk : 2000000 ≤ k) : Tot (spec_l12Vals.f k x) fun r=>r = true↔∀ v ∈ x,VGood v:=by
  unfold spec_l12Vals.f
  have h : Tot (spec_l12Vals.l0 k x 0) fun r=>r = true↔(∀ j : Int,0 ≤ j→j < (x.length : Int)→VGood (rd_T58 x j))∧True:=by
    refine scan (g:=fun k i=>spec_l12Vals.l0 k x i) (n:=(x.length : Int)) 10 (fun k i R hk h0 h1 yes no=>?_) (fun k _=>?_) _ k 0 rfl (by omega) (by omega) (by omega)
    · try dsimp only at yes ⊢
      rw [spec_l12Vals.l0,if_pos h1,if_pos h0,wrap64_id (x:=i + 1) (by omega) (by omega),svalOk_eq k (by omega),Option.bind_some]
      by_cases o : VOk (rd_T58 x i).f0 (rd_T58 x i).f1 (rd_T58 x i).f2 (rd_T58 x i).f3
      · rw [decide_eq_true o,if_pos rfl,svalNone_eq,Option.bind_some]
        refine Tot.ite (fun z=>Tot.here (no fun q=>q.2 ((vn_iff _ _ _ _).mp z))) (fun z=>yes ⟨o,fun q=>z ((vn_iff _ _ _ _).mpr q)⟩)
      · rw [decide_eq_false o,if_neg (show ¬ (false = true) by decide)]
        exact Tot.here (no fun q=>o q.1)
    · try dsimp only
      rw [spec_l12Vals.l0,if_neg (by omega)]
      exact Tot.here ⟨fun _=>trivial,fun _=>rfl⟩
  obtain ⟨r,h1,h2⟩:=h
  exact ⟨r,h1,h2.trans ⟨fun q=>(all_get x z58 VGood).mp q.1,fun q=>⟨(all_get x z58 VGood).mpr q,trivial⟩⟩⟩
theorem dead_tot {k : Nat} {f : Option Bool} (ints : List S58) (refs : List S84) (cells : List S58) (n : Int) (d : List Int)
    (e : f = if (ints.length : Int) = 0 then (if (refs.length : Int) = 0 then (if (cells.length : Int) = 0 then (if n = 0 then (some ((d.length : Int) == 0)) else (some false)) else (some false)) else (some false)) else (some false)) :
    Tot f fun b=>b = true↔AOk false ints refs cells n d:=by
  subst e
  have len : ∀ {α : Type} (l : List α),(l.length : Int) = 0↔l = []:=fun l=>by cases l <;> simp;omega
  have red : AOk false ints refs cells n d↔ints = []∧refs = []∧cells = []∧n = 0∧d = []:=by simp [AOk]
  refine Tot.ite (fun c1=>?_) (fun c1=>Tot.here ⟨fun f=>(nomatch f),fun q=>absurd ((len _).mpr (red.mp q).1) c1⟩)
  refine Tot.ite (fun c2=>?_) (fun c2=>Tot.here ⟨fun f=>(nomatch f),fun q=>absurd ((len _).mpr (red.mp q).2.1) c2⟩)
  refine Tot.ite (fun c3=>?_) (fun c3=>Tot.here ⟨fun f=>(nomatch f),fun q=>absurd ((len _).mpr (red.mp q).2.2.1) c3⟩)
  refine Tot.ite (fun c4=>?_) (fun c4=>Tot.here ⟨fun f=>(nomatch f),fun q=>absurd (red.mp q).2.2.2.1 c4⟩)
  exact Tot.here (((nil_iff d).trans ⟨fun q=>⟨(len _).mp c1,(len _).mp c2,(len _).mp c3,c4,q⟩,fun q=>q.2.2.2.2⟩).trans red.symm)
theorem absOk_tot {k : Nat} {live : Bool} {ints : List S58} {refs : List S84} {cells : List S58} {n : Int} {d : List Int} (sm : ASmall ints refs cells) (hk : 20000000 ≤ k) :
    Tot (impl_AbsOk.f k live ints refs cells n d) fun b=>b = true↔AOk live ints refs cells n d:=by
  obtain ⟨hi,hr,hc,ha⟩:=sm
  unfold impl_AbsOk.f
  cases live with
  | false =>
    rw [if_neg (show ¬ (false = true) by decide)]
    exact dead_tot (k:=k) ints refs cells n d rfl
  | true =>
    rw [if_pos rfl]
    have h2 : ∀ k,8000000 ≤ k→Tot (impl_AbsOk.l2 k refs (refs.length : Int) 0 true ints refs cells n d) fun b=>b = true↔(∀ j : Int,0 ≤ j→j < (refs.length : Int)→RGood (rd_T84 refs j))∧GOk n d∧n = (ints.length : Int):=by
      intro k hk
      refine scan (g:=fun k i=>impl_AbsOk.l2 k refs (refs.length : Int) i true ints refs cells n d) (n:=(refs.length : Int)) 4000000 (fun k i R hk h0 h1 yes no=>?_) (fun k hk=>?_) _ k 0 rfl (by omega) (by omega) (by omega)
      · try dsimp only at yes ⊢
        rw [impl_AbsOk.l2,if_pos h1,if_pos h0,if_pos h1,wrap64_id (x:=i + 1) (by omega) (by omega)]
        refine Tot.then (refOk_tot _ _ _ _ _ _ (arr_small ha h0 h1) (by omega)) ?_
        intro b hb
        exact Tot.ite (fun z=>yes (hb.mp z)) (fun z=>Tot.here (no fun q=>z (hb.mpr q)))
      · try dsimp only
        rw [impl_AbsOk.l2,if_neg (by omega)]
        refine Tot.then (gapsOk_tot n d (by omega)) ?_
        intro b hb
        refine Tot.ite (fun z=>Tot.here ?_) (fun z=>Tot.here ⟨fun f=>(nomatch f),fun q=>absurd (hb.mpr q.1) z⟩)
        rw [beq_iff_eq]
        exact ⟨fun q=>⟨hb.mp z,q⟩,fun q=>q.2⟩
    have h1 : ∀ k,10000000 ≤ k→Tot (impl_AbsOk.l1 k cells (cells.length : Int) 0 true ints refs cells n d) fun b=>b = true↔(∀ j : Int,0 ≤ j→j < (cells.length : Int)→VGood (rd_T58 cells j))∧(∀ j : Int,0 ≤ j→j < (refs.length : Int)→RGood (rd_T84 refs j))∧GOk n d∧n = (ints.length : Int):=by
      intro k hk
      refine scan (g:=fun k i=>impl_AbsOk.l1 k cells (cells.length : Int) i true ints refs cells n d) (n:=(cells.length : Int)) 8000000 (fun k i R hk h0 h1 yes no=>?_) (fun k hk=>?_) _ k 0 rfl (by omega) (by omega) (by omega)
      · try dsimp only at yes ⊢
        rw [impl_AbsOk.l1,if_pos h1,if_pos h0,if_pos h1,wrap64_id (x:=i + 1) (by omega) (by omega),valNone_q,Option.bind_some]
        refine Tot.ite (fun z=>Tot.here (no fun q=>q.2 ((vn_iff _ _ _ _).mp z))) (fun z=>?_)
        rw [valOk_eq k (by omega),Option.bind_some]
        exact Tot.ite (fun z2=>yes ⟨of_decide_eq_true z2,fun q=>z ((vn_iff _ _ _ _).mpr q)⟩) (fun z2=>Tot.here (no fun q=>z2 (decide_eq_true q.1)))
      · try dsimp only
        rw [impl_AbsOk.l1,if_neg (by omega)]
        exact h2 k (by omega)
    have h0 : Tot (impl_AbsOk.l0 k ints (ints.length : Int) 0 true ints refs cells n d) fun b=>b = true↔(∀ j : Int,0 ≤ j→j < (ints.length : Int)→VGood (rd_T58 ints j))∧(∀ j : Int,0 ≤ j→j < (cells.length : Int)→VGood (rd_T58 cells j))∧(∀ j : Int,0 ≤ j→j < (refs.length : Int)→RGood (rd_T84 refs j))∧GOk n d∧n = (ints.length : Int):=by
      refine scan (g:=fun k i=>impl_AbsOk.l0 k ints (ints.length : Int) i true ints refs cells n d) (n:=(ints.length : Int)) 12000000 (fun k i R hk h0 h1 yes no=>?_) (fun k hk=>?_) _ k 0 rfl (by omega) (by omega) (by omega)
      · try dsimp only at yes ⊢
        rw [impl_AbsOk.l0,if_pos h1,if_pos h0,if_pos h1,wrap64_id (x:=i + 1) (by omega) (by omega),valNone_q,Option.bind_some]
        refine Tot.ite (fun z=>Tot.here (no fun q=>q.2 ((vn_iff _ _ _ _).mp z))) (fun z=>?_)
        rw [valOk_eq k (by omega),Option.bind_some]
        exact Tot.ite (fun z2=>yes ⟨of_decide_eq_true z2,fun q=>z ((vn_iff _ _ _ _).mpr q)⟩) (fun z2=>Tot.here (no fun q=>z2 (decide_eq_true q.1)))
      · try dsimp only
        rw [impl_AbsOk.l0,if_neg (by omega)]
        exact h1 k (by omega)
    obtain ⟨r,e1,e2⟩:=h0
    have a1:=all_get ints z58 VGood
    have a2:=all_get cells z58 VGood
    have a3:=all_get refs z84 RGood
    refine ⟨r,e1,e2.trans ⟨fun q=>.inl ⟨rfl,a1.mp q.1,a2.mp q.2.1,a3.mp q.2.2.1,q.2.2.2.1,q.2.2.2.2⟩,fun q=>?_⟩⟩
    rcases q with q | q
    · exact ⟨a1.mpr q.2.1,a2.mpr q.2.2.1,a3.mpr q.2.2.2.1,q.2.2.2.2.1,q.2.2.2.2.2⟩
    · exact absurd q.1 (by decide)
theorem sabsOk_tot {k : Nat} {live : Bool} {ints : List S58} {refs : List S84} {cells : List S58} {n : Int} {d : List Int} (sm : ASmall ints refs cells) (hk : 20000000 ≤ k) :
    Tot (spec_AbsOk.f k live ints refs cells n d) fun b=>b = true↔AOk live ints refs cells n d:=by
  obtain ⟨hi,hr,hc,ha⟩:=sm
  unfold spec_AbsOk.f
  cases live with
  | false =>
    rw [if_neg (show ¬ (false = true) by decide)]
    exact dead_tot (k:=k) ints refs cells n d rfl
  | true =>
    rw [if_pos rfl]
    have h0 : Tot (spec_AbsOk.l0 k 0 true ints refs cells n d) fun b=>b = true↔(∀ j : Int,0 ≤ j→j < (refs.length : Int)→RGood (rd_T84 refs j))∧(∀ v ∈ ints,VGood v)∧(∀ v ∈ cells,VGood v)∧GOk n d∧n = (ints.length : Int):=by
      refine scan (g:=fun k i=>spec_AbsOk.l0 k i true ints refs cells n d) (n:=(refs.length : Int)) 8000000 (fun k i R hk h0 h1 yes no=>?_) (fun k hk=>?_) _ k 0 rfl (by omega) (by omega) (by omega)
      · try dsimp only at yes ⊢
        rw [spec_AbsOk.l0,if_pos h1,if_pos h0,wrap64_id (x:=i + 1) (by omega) (by omega)]
        refine Tot.then (srefOk_tot _ _ _ _ _ _ (arr_small ha h0 h1) (by omega)) ?_
        intro b hb
        exact Tot.ite (fun z=>yes (hb.mp z)) (fun z=>Tot.here (no fun q=>z (hb.mpr q)))
      · try dsimp only
        rw [spec_AbsOk.l0,if_neg (by omega)]
        refine Tot.then (sl12Vals_tot ints hi (by omega)) ?_
        intro b1 hb1
        refine Tot.ite (fun z1=>?_) (fun z1=>Tot.here ⟨fun f=>(nomatch f),fun q=>absurd (hb1.mpr q.1) z1⟩)
        refine Tot.then (sl12Vals_tot cells hc (by omega)) ?_
        intro b2 hb2
        refine Tot.ite (fun z2=>?_) (fun z2=>Tot.here ⟨fun f=>(nomatch f),fun q=>absurd (hb2.mpr q.2.1) z2⟩)
        refine Tot.then (sGapsOk_tot n d (by omega)) ?_
        intro b hb
        refine Tot.ite (fun z=>Tot.here ?_) (fun z=>Tot.here ⟨fun f=>(nomatch f),fun q=>absurd (hb.mpr q.2.2.1) z⟩)
        rw [beq_iff_eq]
        exact ⟨fun q=>⟨hb1.mp z1,hb2.mp z2,hb.mp z,q⟩,fun q=>q.2.2.2⟩
    obtain ⟨r,e1,e2⟩:=h0
    have a3:=all_get refs z84 RGood
    refine ⟨r,e1,e2.trans ⟨fun q=>.inl ⟨rfl,q.2.1,q.2.2.1,a3.mp q.1,q.2.2.2.1,q.2.2.2.2⟩,fun q=>?_⟩⟩
    rcases q with q | q
    · exact ⟨a3.mpr q.2.2.2.1,q.2.1,q.2.2.1,q.2.2.2.2.1,q.2.2.2.2.2⟩
    · exact absurd q.1 (by decide)
/-! laws_toValS -/
def cv (x : S116) : S58:=⟨x.f0,x.f1,x.f2,x.f3⟩
theorem toValS_eq {k : Nat} (x : List S116) (hx : x.length ≤ 1048576) (hk : 2000000 ≤ k) : laws_toValS.f k x = some (x.map cv):=by
  have hl : (x.map cv).length = x.length:=List.length_map _
  unfold laws_toValS.f
  rw [if_pos (show 0 ≤ (x.length : Int) by omega),if_pos (show ((x.length : Int)).toNat ≤ 8796093022208 by omega)]
  refine fill (g:=fun k acc i=>laws_toValS.l0 k x acc i) (x.map cv) (fun i=>cv (rd_T116 x i)) 0 (fun i h0 h1=>?_) (fun k acc i _ h0 h1 ha=>?_) (fun k acc _=>?_) _ k 0 _ rfl (by omega) (by omega) (by omega) (by simp) (fun j hj=>absurd hj (by omega))
  · rw [List.getElem?_map]
    unfold rd_T116
    rw [List.getD_eq_getElem?_getD,List.getElem?_eq_getElem (show i.toNat < x.length by omega)];rfl
  · try dsimp only
    rw [laws_toValS.l0,if_pos (show i < (x.length : Int) by omega),if_pos h0]
    show (if i < (acc.length : Int) then _ else _) = _
    rw [if_pos (by omega),wrap64_id (x:=i + 1) (by omega) (by omega)]
    rfl
  · try dsimp only
    rw [laws_toValS.l0,if_neg (by omega)]
/-! laws_toRefValS laws_toIntS -/
def cr (x : S118) : S84:=⟨x.f0,x.f1,cv x.f2⟩
theorem toRefValS_eq {k : Nat} (x : List S118) (hx : x.length ≤ 1048576) (ha : ∀ r ∈ x,r.f1.length ≤ 1048576) (hk : 4000000 ≤ k) : laws_toRefValS.f k x = some (x.map cr):=by
  have hl : (x.map cr).length = x.length:=List.length_map _
  unfold laws_toRefValS.f
  rw [if_pos (show 0 ≤ (x.length : Int) by omega),if_pos (show ((x.length : Int)).toNat ≤ 4398046511104 by omega)]
  refine fill (g:=fun k acc i=>laws_toRefValS.l0 k x acc i) (x.map cr) (fun i=>cr (rd_T118 x i)) 2000000 (fun i h0 h1=>?_) (fun k acc i hk h0 h1 hl'=>?_) (fun k acc _=>?_) _ k 0 _ rfl (by omega) (by omega) (by omega) (by simp) (fun j hj=>absurd hj (by omega))
  · rw [List.getElem?_map]
    unfold rd_T118
    rw [List.getD_eq_getElem?_getD,List.getElem?_eq_getElem (show i.toNat < x.length by omega)];rfl
  · try dsimp only
    have sm : (rd_T118 x i).f1.length ≤ 1048576:=(all_get x z118 (fun r=>r.f1.length ≤ 1048576)).mpr ha i h0 (by omega)
    have e : laws_toRefVal.f k ((rd_T118 x i).f0) ((rd_T118 x i).f1) ((rd_T118 x i).f2.f0) ((rd_T118 x i).f2.f1) ((rd_T118 x i).f2.f2) ((rd_T118 x i).f2.f3) = some ((rd_T118 x i).f0,(rd_T118 x i).f1,(rd_T118 x i).f2.f0,(rd_T118 x i).f2.f1,(rd_T118 x i).f2.f2,(rd_T118 x i).f2.f3):=by
      unfold laws_toRefVal.f
      rw [toIntS_eq _ sm hk];rfl
    rw [laws_toRefValS.l0,if_pos (show i < (x.length : Int) by omega),if_pos h0,e,Option.bind_some,if_pos (show i < (acc.length : Int) by omega),wrap64_id (x:=i + 1) (by omega) (by omega)]
    rfl
  · try dsimp only
    rw [laws_toRefValS.l0,if_neg (by omega)]
/-! laws_toAbs -/
theorem toAbs_eq {k : Nat} (live : Bool) (ints : List S116) (refs : List S118) (cells : List S116) (n : Int) (d : List Int) (hi : ints.length ≤ 1048576) (hr : refs.length ≤ 1048576) (hc : cells.length ≤ 1048576) (ha : ∀ r ∈ refs,r.f1.length ≤ 1048576) (hd : d.length ≤ 1048576) (hk : 4000000 ≤ k) :
    laws_toAbs.f k live ints refs cells n d = some (live,ints.map cv,refs.map cr,cells.map cv,n,d):=by
  unfold laws_toAbs.f
  rw [toValS_eq ints hi (by omega),Option.bind_some,toRefValS_eq refs hr ha hk,Option.bind_some,toValS_eq cells hc (by omega),Option.bind_some,toGaps_eq n d hd (by omega)]
  rfl
theorem small_map {ints : List S116} {refs : List S118} {cells : List S116} (hi : ints.length ≤ 1048576) (hr : refs.length ≤ 1048576) (hc : cells.length ≤ 1048576) (ha : ∀ r ∈ refs,r.f1.length ≤ 1048576) : ASmall (ints.map cv) (refs.map cr) (cells.map cv):=by
  refine ⟨by simpa using hi,by simpa using hr,by simpa using hc,fun r h=>?_⟩
  obtain ⟨x,hx,rfl⟩:=List.mem_map.mp h
  exact ha x hx
/-! laws_szAbs laws_szValS laws_szRefValS laws_szIntS -/
theorem szValS_eq (x : List S116) (a : Int) (hx : x.length ≤ 9223372036854775807) (h0 : 0 ≤ a) (h : a ≤ 1048576) : laws_szValS.f x a = some (if (x.length : Int) ≤ a then a - x.length else -1):=by
  unfold laws_szValS.f
  rw [wrap64_id (by omega) (by omega)]
  by_cases c : (x.length : Int) ≤ a
  · rw [if_pos c,if_neg (by omega)]
  · rw [if_neg c,if_pos (by omega)]
theorem szRefValS_tot {k : Nat} (x : List S118) (a : Int) (hx : x.length ≤ 9223372036854775807) (ha : ∀ r ∈ x,r.f1.length ≤ 9223372036854775807) (h0 : 0 ≤ a) (h : a ≤ 1048576) (hk : 4000000 ≤ k) :
    Tot (laws_szRefValS.f k x a) fun t=>t < 0∨(0 ≤ t∧t ≤ a∧x.length ≤ 1048576∧∀ r ∈ x,(r.f1.length : Int) + t ≤ a):=by
  unfold laws_szRefValS.f
  rw [wrap64_id (by omega) (by omega)]
  refine Tot.ite (fun _=>Tot.here (.inl (by omega))) (fun c=>?_)
  have go : ∀ (m k : Nat) (i t : Int),((x.length : Int) - i).toNat = m→0 ≤ i→i ≤ (x.length : Int)→m < k→0 ≤ t→t ≤ a→(∀ j : Int,0 ≤ j→j < i→((rd_T118 x j).f1.length : Int) + t ≤ a)→
      Tot (laws_szRefValS.l0 k x t i) fun t=>t < 0∨(0 ≤ t∧t ≤ a∧∀ j : Int,0 ≤ j→j < (x.length : Int)→((rd_T118 x j).f1.length : Int) + t ≤ a):=by
    intro m
    induction m with
    | zero =>
      intro k i t hm hi hi' hk ht ht' q
      obtain ⟨k,rfl⟩ : ∃ j,k = j + 1:=⟨k - 1,by omega⟩
      rw [laws_szRefValS.l0,if_neg (by omega)]
      exact Tot.here (.inr ⟨ht,ht',fun j a b=>q j a (by omega)⟩)
    | succ m ih =>
      intro k i t hm hi hi' hk ht ht' q
      obtain ⟨k,rfl⟩ : ∃ j,k = j + 1:=⟨k - 1,by omega⟩
      have la : (rd_T118 x i).f1.length ≤ 9223372036854775807:=(all_get x z118 (fun r=>r.f1.length ≤ 9223372036854775807)).mpr ha i hi (by omega)
      rw [laws_szRefValS.l0,if_pos (show i < (x.length : Int) by omega),if_pos hi]
      unfold laws_szRefVal.f laws_szIntS.f
      rw [wrap64_id (x:=t - ((rd_T118 x i).f1.length : Int)) (by omega) (by omega)]
      by_cases c1 : t - ((rd_T118 x i).f1.length : Int) < 0
      · rw [if_pos c1]
        exact Tot.here (.inl (by decide))
      · rw [if_neg c1,Option.bind_some,if_neg c1,Option.bind_some,if_neg c1,wrap64_id (x:=i + 1) (by omega) (by omega)]
        refine ih k (i + 1) _ (by omega) (by omega) (by omega) (by omega) (by omega) (by omega) fun j a b=>?_
        by_cases e : j = i
        · subst e;omega
        · have:=q j a (by omega);omega
  refine (go _ k 0 _ rfl (by omega) (by omega) (by omega) (by omega) (by omega) (fun j a b=>absurd a (by omega))).mono fun t ht=>?_
  rcases ht with ht | ⟨t0,t1,q⟩
  · exact .inl ht
  · exact .inr ⟨t0,by omega,by omega,(all_get x z118 (fun r=>(r.f1.length : Int) + t ≤ a)).mp q⟩
theorem szAbs_sum {k : Nat} (live : Bool) (ints : List S116) (refs : List S118) (cells : List S116) (n : Int) (d : List Int) (a : Int) (hi : ints.length ≤ 9223372036854775807) (hr : refs.length ≤ 9223372036854775807) (hc : cells.length ≤ 9223372036854775807) (hd : d.length ≤ 9223372036854775807)
    (ha : ∀ r ∈ refs,r.f1.length ≤ 9223372036854775807) (h0 : 0 ≤ a) (h : a ≤ 1048576) (hk : 4000000 ≤ k) :
    Tot (laws_szAbs.f k live ints refs cells n d a) fun t=>t < 0∨(0 ≤ t∧t ≤ a∧ints.length ≤ 1048576∧refs.length ≤ 1048576∧cells.length ≤ 1048576∧d.length ≤ 1048576∧∀ r ∈ refs,(r.f1.length : Int) + t ≤ a):=by
  unfold laws_szAbs.f
  rw [szValS_eq ints a hi h0 h,Option.bind_some]
  refine Tot.ite (fun _=>Tot.here (.inl (by decide))) (fun c1=>?_)
  have c1' : (ints.length : Int) ≤ a:=by
    by_cases q : (ints.length : Int) ≤ a
    · exact q
    · rw [if_neg q] at c1;omega
  rw [if_pos c1']
  refine Tot.then (szRefValS_tot refs _ hr ha (by omega) (by omega) hk) ?_
  intro t ht
  refine Tot.ite (fun _=>Tot.here (.inl (by decide))) (fun c2=>?_)
  obtain ⟨t0,t1,r1,r2⟩:=ht.resolve_left c2
  rw [szValS_eq cells t hc t0 (by omega),Option.bind_some]
  refine Tot.ite (fun _=>Tot.here (.inl (by decide))) (fun c3=>?_)
  have c3' : (cells.length : Int) ≤ t:=by
    by_cases q : (cells.length : Int) ≤ t
    · exact q
    · rw [if_neg q] at c3;omega
  rw [if_pos c3',szGaps_eq n d _ hd (by omega) (by omega),Option.bind_some]
  refine Tot.ite (fun _=>Tot.here (.inl (by decide))) (fun c4=>?_)
  have c4' : (d.length : Int) ≤ t - cells.length:=by
    by_cases q : (d.length : Int) ≤ t - cells.length
    · exact q
    · rw [if_neg q] at c4;omega
  rw [if_pos c4']
  exact Tot.here (.inr ⟨by omega,by omega,by omega,r1,by omega,by omega,fun r hr=>by have:=r2 r hr;omega⟩)
theorem szAbs_tot {k : Nat} (live : Bool) (ints : List S116) (refs : List S118) (cells : List S116) (n : Int) (d : List Int) (a : Int) (hi : ints.length ≤ 9223372036854775807) (hr : refs.length ≤ 9223372036854775807) (hc : cells.length ≤ 9223372036854775807) (hd : d.length ≤ 9223372036854775807)
    (ha : ∀ r ∈ refs,r.f1.length ≤ 9223372036854775807) (h0 : 0 ≤ a) (h : a ≤ 1048576) (hk : 4000000 ≤ k) :
    Tot (laws_szAbs.f k live ints refs cells n d a) fun t=>t < 0∨(0 ≤ t∧t ≤ a∧ints.length ≤ 1048576∧refs.length ≤ 1048576∧cells.length ≤ 1048576∧d.length ≤ 1048576∧∀ r ∈ refs,r.f1.length ≤ 1048576):=by
  refine (szAbs_sum live ints refs cells n d a hi hr hc hd ha h0 h hk).mono fun t ht=>?_
  rcases ht with ht | ⟨t0,t1,x1,x2,x3,x4,x5⟩
  · exact .inl ht
  · exact .inr ⟨t0,t1,x1,x2,x3,x4,fun r hr=>by have:=x5 r hr;omega⟩
/-! laws_eqAbs laws_eqValS laws_eqRefValS laws_eqGaps -/
theorem eqVal_refl (a b c d : Int) : laws_eqVal.f a b c d a b c d = some true:=by
  unfold laws_eqVal.f
  rw [if_pos rfl,if_pos rfl,if_pos rfl,if_pos rfl]
theorem eqValS_refl {k : Nat} (x : List S58) (hx : x.length ≤ 1048576) (hk : 2000000 ≤ k) : laws_eqValS.f k x x = some true:=by
  unfold laws_eqValS.f
  rw [if_pos rfl]
  refine goes_on (g:=fun k i=>laws_eqValS.l0 k x x i) (n:=(x.length : Int)) 0 (fun k i _ h0 h1=>?_) (fun k _=>?_) _ k 0 rfl (by omega) (by omega) (by omega)
  · try dsimp only
    rw [laws_eqValS.l0,if_pos h1,if_pos h0,if_pos h1,eqVal_refl,Option.bind_some,if_pos rfl,wrap64_id (x:=i + 1) (by omega) (by omega)]
  · try dsimp only
    rw [laws_eqValS.l0,if_neg (by omega)]
theorem eqRefValS_refl {k : Nat} (x : List S84) (hx : x.length ≤ 1048576) (ha : ∀ r ∈ x,r.f1.length ≤ 1048576) (hk : 4000000 ≤ k) : laws_eqRefValS.f k x x = some true:=by
  unfold laws_eqRefValS.f
  rw [if_pos rfl]
  refine goes_on (g:=fun k i=>laws_eqRefValS.l0 k x x i) (n:=(x.length : Int)) 2000000 (fun k i hk h0 h1=>?_) (fun k _=>?_) _ k 0 rfl (by omega) (by omega) (by omega)
  · try dsimp only
    have e : laws_eqRefVal.f k ((rd_T84 x i).f0) ((rd_T84 x i).f1) ((rd_T84 x i).f2.f0) ((rd_T84 x i).f2.f1) ((rd_T84 x i).f2.f2) ((rd_T84 x i).f2.f3) ((rd_T84 x i).f0) ((rd_T84 x i).f1) ((rd_T84 x i).f2.f0) ((rd_T84 x i).f2.f1) ((rd_T84 x i).f2.f2) ((rd_T84 x i).f2.f3) = some true:=by
      unfold laws_eqRefVal.f
      rw [if_neg (by simp),eqIntS_refl _ (arr_small ha h0 h1) hk,Option.bind_some,if_pos rfl,eqVal_refl,Option.bind_some,if_pos rfl]
    rw [laws_eqRefValS.l0,if_pos h1,if_pos h0,if_pos h1,e,Option.bind_some,if_pos rfl,wrap64_id (x:=i + 1) (by omega) (by omega)]
  · try dsimp only
    rw [laws_eqRefValS.l0,if_neg (by omega)]
theorem eqAbs_refl {k : Nat} {live : Bool} {ints : List S58} {refs : List S84} {cells : List S58} {n : Int} {d : List Int} (sm : ASmall ints refs cells) (hd : d.length ≤ 1048576) (hk : 4000000 ≤ k) :
    laws_eqAbs.f k live ints refs cells n d live ints refs cells n d = some true:=by
  unfold laws_eqAbs.f
  rw [if_neg (by simp),eqValS_refl ints sm.1 (by omega),Option.bind_some,if_pos rfl,eqRefValS_refl refs sm.2.1 sm.2.2.2 hk,Option.bind_some,if_pos rfl,eqValS_refl cells sm.2.2.1 (by omega),Option.bind_some,if_pos rfl,eqGaps_refl n d hd (by omega),Option.bind_some,if_pos rfl]
/-! impl_Val_none -/
instance (a b c d : Int) : Decidable (VN a b c d):=inferInstanceAs (Decidable (_∧_))
theorem vn_b (a b c d : Int) : (a == 1 && (b == 0 && (c == 0 && (d == 0)))) = decide (VN a b c d):=by
  rw [Bool.eq_iff_iff,decide_eq_true_iff];exact vn_iff a b c d
theorem vok_parts {a b c d : Int} (o : VOk a b c d) (n : ¬ VN a b c d) : ROk a b∧¬ a > b∧SOk c d:=by
  have h : ¬ (¬ ROk a b∨¬ SOk c d∨a > b):=fun q=>by
    unfold VOk at o
    rw [VMake_none q,Prod.mk.injEq,Prod.mk.injEq,Prod.mk.injEq] at o
    exact n ⟨o.1.symm,o.2.1.symm,o.2.2.1.symm,o.2.2.2.symm⟩
  exact ⟨Decidable.byContradiction fun q=>h (.inl q),fun q=>h (.inr (.inr q)),Decidable.byContradiction fun q=>h (.inr (.inl q))⟩
/-! impl_ValJoin spec_ValJoin impl_Val_none -/
def VJoin (a b c d a' b' c' d' : Int) : Int × Int × Int × Int :=
  if ¬ VOk a b c d∨¬ VOk a' b' c' d' then (1,0,0,0) else if VN a b c d then (a',b',c',d') else if VN a' b' c' d' then (a,b,c,d)
  else VMake (RJoin a b a' b').1 (RJoin a b a' b').2 (SJoin c d c' d').1 (SJoin c d c' d').2
theorem valJoin_eq (k : Nat) (hk : 200000000000000000001 ≤ k) (a b c d a' b' c' d' : Int) : impl_ValJoin.f k a b c d a' b' c' d' = some (VJoin a b c d a' b' c' d'):=by
  obtain ⟨k,rfl⟩ : ∃ m,k = m + 1:=⟨k - 1,by omega⟩
  have N : ¬ VOk a b c d∨¬ VOk a' b' c' d'→impl_ValJoin.j0 (k + 1) true a b c d a' b' c' d' = some (VJoin a b c d a' b' c' d'):=fun h=>by
    rw [impl_ValJoin.j0,if_pos rfl,valNone_eq]
    unfold VJoin;rw [if_pos h];rfl
  unfold impl_ValJoin.f
  rw [valOk_eq _ (by omega),Option.bind_some]
  by_cases o : VOk a b c d
  case neg=>rw [decide_eq_false o,if_neg (by decide)];exact N (.inl o)
  rw [decide_eq_true o,if_pos rfl,valOk_eq _ (by omega),Option.bind_some]
  by_cases o' : VOk a' b' c' d'
  case neg=>rw [decide_eq_false o'];exact N (.inr o')
  rw [decide_eq_true o',impl_ValJoin.j0,if_neg (by decide),valNone_q,Option.bind_some,vn_b]
  have e0 : ¬ (¬ VOk a b c d∨¬ VOk a' b' c' d'):=by simp [o,o']
  unfold VJoin
  rw [if_neg e0]
  by_cases z : VN a b c d
  · rw [decide_eq_true z,if_pos rfl,if_pos z]
  rw [decide_eq_false z,if_neg (by decide),if_neg z,valNone_q,Option.bind_some,vn_b]
  by_cases z' : VN a' b' c' d'
  · rw [decide_eq_true z',if_pos rfl,if_pos z']
  rw [decide_eq_false z',if_neg (by decide),if_neg z']
  show (impl_RangeJoin.f k a b a' b').bind _ = _
  rw [rangeJoin_eq _ (by omega),Option.bind_some]
  show (impl_RestJoin.f k c d c' d').bind _ = _
  rw [restJoin_eq _ (by omega),Option.bind_some,valMake_eq _ (by omega)]
  rfl
theorem svalJoin_eq (k : Nat) (hk : 200000000000000000001 ≤ k) (a b c d a' b' c' d' : Int) : spec_ValJoin.f k a b c d a' b' c' d' = some (VJoin a b c d a' b' c' d'):=by
  obtain ⟨k,rfl⟩ : ∃ m,k = m + 1:=⟨k - 1,by omega⟩
  have N : ¬ VOk a b c d∨¬ VOk a' b' c' d'→spec_ValJoin.j0 (k + 1) true a b c d a' b' c' d' = some (VJoin a b c d a' b' c' d'):=fun h=>by
    rw [spec_ValJoin.j0,if_pos rfl,svalNone_eq]
    unfold VJoin;rw [if_pos h];rfl
  unfold spec_ValJoin.f
  rw [svalOk_eq _ (by omega),Option.bind_some]
  by_cases o : VOk a b c d
  case neg=>rw [decide_eq_false o,if_neg (by decide)];exact N (.inl o)
  rw [decide_eq_true o,if_pos rfl,svalOk_eq _ (by omega),Option.bind_some]
  by_cases o' : VOk a' b' c' d'
  case neg=>rw [decide_eq_false o'];exact N (.inr o')
  rw [decide_eq_true o',spec_ValJoin.j0,if_neg (by decide),svalNone_eq,Option.bind_some]
  dsimp only
  rw [vn_b]
  have e0 : ¬ (¬ VOk a b c d∨¬ VOk a' b' c' d'):=by simp [o,o']
  unfold VJoin
  rw [if_neg e0]
  by_cases z : VN a b c d
  · rw [decide_eq_true z,if_pos rfl,if_pos z]
  rw [decide_eq_false z,if_neg (by decide),if_neg z,Option.bind_some]
  dsimp only
  rw [vn_b]
  by_cases z' : VN a' b' c' d'
  · rw [decide_eq_true z',if_pos rfl,if_pos z']
  rw [decide_eq_false z',if_neg (by decide),if_neg z']
  show (spec_RangeJoin.f k a b a' b').bind _ = _
  rw [srangeJoin_eq _ (by omega),Option.bind_some]
  show (spec_RestJoin.f k c d c' d').bind _ = _
  rw [srestJoin_eq _ (by omega),Option.bind_some,svalMake_eq _ (by omega)]
  rfl
end Go.Proofs.YtklkdpcopfjmcaaGreat.LFnExactAbsJoin
