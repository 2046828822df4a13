/- The program's functions that the law reaches, as plain Lean functions. Conditions: none. -/
import Derived.Test.YtmdcgkkkfncieaaQFnExactGapsForgetx0
namespace Go.Proofs.Ytmdcgkkkfncieaa.PFnExactGapsForget
open Go.RowKit Go.Proofs.YtmdcgkkkfncieaaW.PrintWords Go.Proofs.YtmdcgkkkfncieaaW.PrintLast Go.Proofs.YtmdcgkkkfncieaaW.PrintMore
set_option linter.unusedVariables false

def laws_szIntS.f (l0 : List Int) (a1 : Int) : Option (Int) := if (wrap64 (a1 - (l0.length : Int))) < 0 then (some (-1)) else (some (wrap64 (a1 - (l0.length : Int))))
def laws_szGaps.f (a0_0 : Int) (l0_1 : List Int) (a1 : Int) : Option (Int) := (laws_szIntS.f l0_1 a1).bind fun t102 => (if t102 < 0 then (some (-1)) else (some t102))
def laws_toIntS.l0 : Nat → List Int → List Int → Int → Option (List Int)
  | 0, _, _, _ => none
  | k + 1, x0, x3, x4 => if x4 < (x0.length : Int) then (if 0 ≤ x4 then (if x4 < (x3.length : Int) then (laws_toIntS.l0 k x0 (x3.set (x4 : Int).toNat (rd x0 x4)) (wrap64 (x4 + 1))) else (none)) else (none)) else (some x3)
def laws_toIntS.f (k : Nat) (l0 : List Int) : Option (List Int) := if 0 ≤ (l0.length : Int) then (if ((l0.length : Int) : Int).toNat ≤ 35184372088832 then (laws_toIntS.l0 k l0 (List.replicate ((l0.length : Int) : Int).toNat 0) 0) else (none)) else (none)
def laws_toGaps.f (k : Nat) (a0_0 : Int) (l0_1 : List Int) : Option (Int × List Int) := (laws_toIntS.f k l0_1).bind fun t111 => (some (a0_0, t111))
def laws_eqIntS.l0 : Nat → List Int → List Int → Int → Option (Bool)
  | 0, _, _, _ => none
  | k + 1, x0, x1, x5 => if x5 < (x0.length : Int) then (if 0 ≤ x5 then (if x5 < (x1.length : Int) then (if (rd x0 x5) = (rd x1 x5) then (laws_eqIntS.l0 k x0 x1 (wrap64 (x5 + 1))) else (some false)) else (none)) else (none)) else (some true)
def laws_eqIntS.f (k : Nat) (l0 : List Int) (l1 : List Int) : Option (Bool) := if (l0.length : Int) = (l1.length : Int) then (laws_eqIntS.l0 k l0 l1 0) else (some false)
def laws_eqGaps.f (k : Nat) (a0_0 : Int) (l0_1 : List Int) (a1_0 : Int) (l1_1 : List Int) : Option (Bool) := if a0_0 = a1_0 then ((laws_eqIntS.f k l0_1 l1_1).bind fun t118 => (if t118 = true then (some true) else (some false))) else (some false)
def laws_markIntS.l0 : Nat → List Int → Int → Int → Option (Int × List Int)
  | 0, _, _, _ => none
  | k + 1, x0, x1, x5 => if x5 < (x0.length : Int) then (if 0 ≤ x5 then (laws_markIntS.l0 k (x0.set (x5 : Int).toNat x1) (wrap64 (x1 + 1)) (wrap64 (x5 + 1))) else (none)) else (some (x1, x0))
def laws_markIntS.f (k : Nat) (l0 : List Int) (a1 : Int) : Option (Int × List Int) := laws_markIntS.l0 k l0 a1 0
def laws_markGaps.f (k : Nat) (a0_0 : Int) (l0_1 : List Int) (a1 : Int) : Option (Int × List Int) := (laws_markIntS.f k l0_1 a1).bind fun bt121 => (some (bt121.1, bt121.2))
def laws_heldIntS.l0 : Nat → List Int → Int → Int → Option (Int)
  | 0, _, _, _ => none
  | k + 1, x0, x1, x5 => if x5 < (x0.length : Int) then (if 0 ≤ x5 then (if (rd x0 x5) = x1 then (laws_heldIntS.l0 k x0 (wrap64 (x1 + 1)) (wrap64 (x5 + 1))) else (some (-1))) else (none)) else (some x1)
def laws_heldIntS.f (k : Nat) (l0 : List Int) (a1 : Int) : Option (Int) := laws_heldIntS.l0 k l0 a1 0
def laws_heldGaps.f (k : Nat) (a0_0 : Int) (l0_1 : List Int) (a1 : Int) : Option (Int) := (laws_heldIntS.f k l0_1 a1).bind fun t125 => (if t125 < 0 then (some (-1)) else (some t125))
def spec_l1In.f (a0 : Int) (a1 : Int) (a2 : Int) : Option (Bool) := if a0 ≥ a1 then (some (decide (a0 ≤ a2))) else (some false)
def spec_l11At.f (a0_0 : Int) (l0_1 : List Int) (a1 : Int) (a2 : Int) : Option (Int) := if 0 ≤ (wrap64 ((wrap64 (a1 * (wrap64 (a0_0 + 1)))) + a2)) then (if (wrap64 ((wrap64 (a1 * (wrap64 (a0_0 + 1)))) + a2)) < (l0_1.length : Int) then (some (rd l0_1 (wrap64 ((wrap64 (a1 * (wrap64 (a0_0 + 1)))) + a2)))) else (none)) else (none)
mutual
def spec_GapsOk.j0 : Nat → Bool → Int → List Int → Option (Bool)
  | 0, _, _, _ => none
  | k + 1, x22, x129000, x129001 => if x22 = true then (some false) else (spec_GapsOk.l0 k 0 x129000 x129001)
def spec_GapsOk.l0 : Nat → Int → Int → List Int → Option (Bool)
  | 0, _, _, _ => none
  | k + 1, x3, x129000, x129001 => if x3 ≤ x129000 then (spec_GapsOk.l1 k x3 0 x129000 x129001) else (some true)
def spec_GapsOk.l1 : Nat → Int → Int → Int → List Int → Option (Bool)
  | 0, _, _, _, _ => none
  | k + 1, x3, x4, x129000, x129001 => if x4 ≤ x129000 then ((spec_l11At.f x129000 x129001 x3 x4).bind fun t130 => ((spec_l1In.f t130 (-1099511627776) 1099511627776).bind fun t131 => (if t131 = true then (if x3 = x4 then (if t130 = 0 then (spec_GapsOk.l1 k x3 (wrap64 (x4 + 1)) x129000 x129001) else (some false)) else (spec_GapsOk.l1 k x3 (wrap64 (x4 + 1)) x129000 x129001)) else (some false)))) else (spec_GapsOk.l0 k (wrap64 (x3 + 1)) x129000 x129001)
end
def spec_GapsOk.f (k : Nat) (a0_0 : Int) (l0_1 : List Int) : Option (Bool) := (spec_l1In.f a0_0 0 12).bind fun t129 => (if t129 = true then (spec_GapsOk.j0 k ((l0_1.length : Int) != (wrap64 ((wrap64 (a0_0 + 1)) * (wrap64 (a0_0 + 1))))) a0_0 l0_1) else (spec_GapsOk.j0 k true a0_0 l0_1))
def spec_l11Copy.l0 : Nat → Int → Int → List Int → Int → List Int → Option (Int × List Int)
  | 0, _, _, _, _, _ => none
  | k + 1, x4, x133000, x133001, x135000, x135001 => if x4 < (x133001.length : Int) then (if 0 ≤ x4 then (if x135001.length < 17592186044416 then (spec_l11Copy.l0 k (wrap64 (x4 + 1)) x133000 x133001 x135000 (x135001 ++ [rd x133001 x4])) else (none)) else (none)) else (some (x135000, x135001))
def spec_l11Copy.f (k : Nat) (a0_0 : Int) (l0_1 : List Int) : Option (Int × List Int) := spec_l11Copy.l0 k 0 a0_0 l0_1 a0_0 ([] : List Int)
def spec_l11Put.f (a0_0 : Int) (l0_1 : List Int) (a1 : Int) (a2 : Int) (a3 : Int) : Option (List Int) := if 0 ≤ (wrap64 ((wrap64 (a1 * (wrap64 (a0_0 + 1)))) + a2)) then (if (wrap64 ((wrap64 (a1 * (wrap64 (a0_0 + 1)))) + a2)) < (l0_1.length : Int) then (some (l0_1.set ((wrap64 ((wrap64 (a1 * (wrap64 (a0_0 + 1)))) + a2)) : Int).toNat a3)) else (none)) else (none)
mutual
def spec_GapsForget.j0 : Nat → Int → Bool → Int → List Int → Option (Int × List Int)
  | 0, _, _, _, _ => none
  | k + 1, x1, x16, x142000, x142001 => if x16 = true then (some (0, ([] : List Int))) else ((spec_l11Copy.f k x142000 x142001).bind fun bt145 => (spec_GapsForget.l0 k x1 0 x142000 x142001 bt145.1 bt145.2))
def spec_GapsForget.l0 : Nat → Int → Int → Int → List Int → Int → List Int → Option (Int × List Int)
  | 0, _, _, _, _, _, _ => none
  | k + 1, x1, x6, x142000, x142001, x150000, x150001 => if x6 ≤ x142000 then (if x6 = x1 then (spec_GapsForget.l0 k x1 (wrap64 (x6 + 1)) x142000 x142001 x150000 x150001) else ((spec_l11Put.f x150000 x150001 x6 x1 1099511627776).bind fun t150 => ((spec_l11Put.f x150000 t150 x1 x6 1099511627776).bind fun t151 => (spec_GapsForget.l0 k x1 (wrap64 (x6 + 1)) x142000 x142001 x150000 t151)))) else (some (x150000, x150001))
end
def spec_GapsForget.f (k : Nat) (a0_0 : Int) (l0_1 : List Int) (a1 : Int) : Option (Int × List Int) := (spec_GapsOk.f k a0_0 l0_1).bind fun t143 => (if t143 = true then ((spec_l1In.f a1 1 a0_0).bind fun t144 => (spec_GapsForget.j0 k a1 (!t144) a0_0 l0_1)) else (spec_GapsForget.j0 k a1 true a0_0 l0_1))
def impl_Gaps_at.f (a0_0 : Int) (l0_1 : List Int) (a1 : Int) (a2 : Int) : Option (Int) := some (wrap64 ((wrap64 (a1 * (wrap64 (a0_0 + 1)))) + a2))
mutual
def impl_GapsOk.j0 : Nat → Bool → Int → List Int → Option (Bool)
  | 0, _, _, _ => none
  | k + 1, x26, x154000, x154001 => if x26 = true then (some false) else (impl_GapsOk.l0 k (wrap64 (x154000 + 1)) 0 x154000 x154001)
def impl_GapsOk.l0 : Nat → Int → Int → Int → List Int → Option (Bool)
  | 0, _, _, _, _ => none
  | k + 1, x29, x30, x154000, x154001 => if x30 < x29 then ((impl_Gaps_at.f x154000 x154001 x30 x30).bind fun t154 => (if 0 ≤ t154 then (if t154 < (x154001.length : Int) then (if (rd x154001 t154) = 0 then (impl_GapsOk.l0 k x29 (wrap64 (x30 + 1)) x154000 x154001) else (some false)) else (none)) else (none))) else (impl_GapsOk.l1 k x154001 (x154001.length : Int) 0)
def impl_GapsOk.l1 : Nat → List Int → Int → Int → Option (Bool)
  | 0, _, _, _ => none
  | k + 1, x44, x45, x46 => if x46 < x45 then (if 0 ≤ x46 then (if x46 < (x44.length : Int) then (if (rd x44 x46) < (-1099511627776) then (some false) else (if (rd x44 x46) > 1099511627776 then (some false) else (impl_GapsOk.l1 k x44 x45 (wrap64 (x46 + 1))))) else (none)) else (none)) else (some true)
end
def impl_GapsOk.f (k : Nat) (a0_0 : Int) (l0_1 : List Int) : Option (Bool) := if a0_0 < 0 then (impl_GapsOk.j0 k true a0_0 l0_1) else (if a0_0 > 12 then (impl_GapsOk.j0 k true a0_0 l0_1) else (impl_GapsOk.j0 k ((l0_1.length : Int) != (wrap64 ((wrap64 (a0_0 + 1)) * (wrap64 (a0_0 + 1))))) a0_0 l0_1))
def impl_Gaps_clone.f (a0_0 : Int) (l0_1 : List Int) : Option (Int × List Int) := if ([] : List Int).length + l0_1.length < 17592186044416 then (some (a0_0, (([] : List Int) ++ l0_1))) else (none)
mutual
def impl_GapsForget.j0 : Nat → Int → Bool → Int → List Int → Option (Int × List Int)
  | 0, _, _, _, _ => none
  | k + 1, x1, x19, x163000, x163001 => if x19 = true then (some (0, ([] : List Int))) else ((impl_Gaps_clone.f x163000 x163001).bind fun bt165 => (impl_GapsForget.l0 k x1 (wrap64 (x163000 + 1)) 0 x163000 x163001 bt165.1 bt165.2))
def impl_GapsForget.l0 : Nat → Int → Int → Int → Int → List Int → Int → List Int → Option (Int × List Int)
  | 0, _, _, _, _, _, _, _ => none
  | k + 1, x1, x25, x26, x163000, x163001, x170000, x170001 => if x26 < x25 then (if x26 = x1 then (impl_GapsForget.l0 k x1 x25 (wrap64 (x26 + 1)) x163000 x163001 x170000 x170001) else ((impl_Gaps_at.f x163000 x163001 x1 x26).bind fun t170 => (if 0 ≤ t170 then (if t170 < (x170001.length : Int) then ((impl_Gaps_at.f x163000 x163001 x26 x1).bind fun t172 => (if 0 ≤ t172 then (if t172 < (x170001.length : Int) then (impl_GapsForget.l0 k x1 x25 (wrap64 (x26 + 1)) x163000 x163001 x170000 ((x170001.set (t170 : Int).toNat 1099511627776).set (t172 : Int).toNat 1099511627776)) else (none)) else (none))) else (none)) else (none)))) else (some (x170000, x170001))
end
def impl_GapsForget.f (k : Nat) (a0_0 : Int) (l0_1 : List Int) (a1 : Int) : Option (Int × List Int) := (impl_GapsOk.f k a0_0 l0_1).bind fun t164 => (if t164 = true then (if a1 < 1 then (impl_GapsForget.j0 k a1 true a0_0 l0_1) else (impl_GapsForget.j0 k a1 (decide (a1 > a0_0)) a0_0 l0_1)) else (impl_GapsForget.j0 k a1 true a0_0 l0_1))
def laws_FnExactGapsForget.j0 : Nat → Int → Bool → Int → List Int → Int → List Int → Int → List Int → Option (Bool)
  | 0, _, _, _, _, _, _, _, _ => none
  | k + 1, x1, x46, x175000, x175001, x185000, x185001, x195000, x195001 => if x46 = true then (some false) else ((laws_markGaps.f k x195000 x195001 1).bind fun bt204 => ((laws_heldGaps.f k x195000 bt204.2 1).bind fun t206 => (if t206 < 0 then (some false) else (if t206 = bt204.1 then ((laws_toGaps.f k x175000 x175001).bind fun bt207 => ((impl_GapsForget.f k bt207.1 bt207.2 x1).bind fun bt211 => ((laws_eqGaps.f k bt211.1 bt211.2 x185000 x185001).bind fun t216 => (if t216 = true then ((laws_heldGaps.f k x195000 bt204.2 1).bind fun t217 => (if t217 < 0 then (some false) else (if t217 = bt204.1 then (some true) else (some false)))) else (some false))))) else (some false)))))
def laws_FnExactGapsForget.f (k : Nat) (a0_0 : Int) (l0_1 : List Int) (a1 : Int) : Option (Bool) := (laws_szGaps.f a0_0 l0_1 1048576).bind fun t175 => (if t175 < 0 then (some true) else ((laws_toGaps.f k a0_0 l0_1).bind fun bt176 => ((spec_GapsForget.f k bt176.1 bt176.2 a1).bind fun bt180 => ((laws_toGaps.f k a0_0 l0_1).bind fun bt185 => ((impl_GapsForget.f k bt185.1 bt185.2 a1).bind fun bt190 => ((laws_eqGaps.f k bt190.1 bt190.2 bt180.1 bt180.2).bind fun t195 => (if t195 = true then ((laws_toGaps.f k a0_0 l0_1).bind fun bt196 => ((laws_eqGaps.f k bt185.1 bt185.2 bt196.1 bt196.2).bind fun t200 => (if t200 = true then ((laws_markGaps.f k bt185.1 bt185.2 1).bind fun bt201 => (if bt201.1 < 0 then (laws_FnExactGapsForget.j0 k a1 true a0_0 l0_1 bt180.1 bt180.2 bt190.1 bt190.2) else ((laws_eqGaps.f k bt190.1 bt190.2 bt180.1 bt180.2).bind fun t203 => (laws_FnExactGapsForget.j0 k a1 (!t203) a0_0 l0_1 bt180.1 bt180.2 bt190.1 bt190.2)))) else (some false)))) else (some false))))))))
end Go.Proofs.Ytmdcgkkkfncieaa.PFnExactGapsForget
