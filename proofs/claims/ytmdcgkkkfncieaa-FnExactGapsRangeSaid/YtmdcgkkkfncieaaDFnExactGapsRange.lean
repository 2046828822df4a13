/- The program's functions that the law reaches, as plain Lean functions. Conditions: none. -/
import Derived.Test.YtmdcgkkkfncieaaQFnExactGapsRangex0
namespace Go.Proofs.Ytmdcgkkkfncieaa.PFnExactGapsRange
open Go.RowKit Go.Proofs.YtmdcgkkkfncieaaW.PrintWords Go.Proofs.YtmdcgkkkfncieaaW.PrintLast Go.Proofs.YtmdcgkkkfncieaaW.PrintMore
set_option linter.unusedVariables false

def laws_szIntS.f (l0 : List Int) (a1 : Int) : Option (Int) := if (wrap64 (a1 - (l0.length : Int))) < 0 then (some (-1)) else (some (wrap64 (a1 - (l0.length : Int))))
def laws_szGaps.f (a0_0 : Int) (l0_1 : List Int) (a1 : Int) : Option (Int) := (laws_szIntS.f l0_1 a1).bind fun t102 => (if t102 < 0 then (some (-1)) else (some t102))
def spec_l1In.f (a0 : Int) (a1 : Int) (a2 : Int) : Option (Bool) := if a0 ≥ a1 then (some (decide (a0 ≤ a2))) else (some false)
def spec_l11At.f (a0_0 : Int) (l0_1 : List Int) (a1 : Int) (a2 : Int) : Option (Int) := if 0 ≤ (wrap64 ((wrap64 (a1 * (wrap64 (a0_0 + 1)))) + a2)) then (if (wrap64 ((wrap64 (a1 * (wrap64 (a0_0 + 1)))) + a2)) < (l0_1.length : Int) then (some (rd l0_1 (wrap64 ((wrap64 (a1 * (wrap64 (a0_0 + 1)))) + a2)))) else (none)) else (none)
mutual
def spec_GapsOk.j0 : Nat → Bool → Int → List Int → Option (Bool)
  | 0, _, _, _ => none
  | k + 1, x22, x106000, x106001 => if x22 = true then (some false) else (spec_GapsOk.l0 k 0 x106000 x106001)
def spec_GapsOk.l0 : Nat → Int → Int → List Int → Option (Bool)
  | 0, _, _, _ => none
  | k + 1, x3, x106000, x106001 => if x3 ≤ x106000 then (spec_GapsOk.l1 k x3 0 x106000 x106001) else (some true)
def spec_GapsOk.l1 : Nat → Int → Int → Int → List Int → Option (Bool)
  | 0, _, _, _, _ => none
  | k + 1, x3, x4, x106000, x106001 => if x4 ≤ x106000 then ((spec_l11At.f x106000 x106001 x3 x4).bind fun t107 => ((spec_l1In.f t107 (-1099511627776) 1099511627776).bind fun t108 => (if t108 = true then (if x3 = x4 then (if t107 = 0 then (spec_GapsOk.l1 k x3 (wrap64 (x4 + 1)) x106000 x106001) else (some false)) else (spec_GapsOk.l1 k x3 (wrap64 (x4 + 1)) x106000 x106001)) else (some false)))) else (spec_GapsOk.l0 k (wrap64 (x3 + 1)) x106000 x106001)
end
def spec_GapsOk.f (k : Nat) (a0_0 : Int) (l0_1 : List Int) : Option (Bool) := (spec_l1In.f a0_0 0 12).bind fun t106 => (if t106 = true then (spec_GapsOk.j0 k ((l0_1.length : Int) != (wrap64 ((wrap64 (a0_0 + 1)) * (wrap64 (a0_0 + 1))))) a0_0 l0_1) else (spec_GapsOk.j0 k true a0_0 l0_1))
def spec_l8None.f  : Option (Int × Int) := some (1, 0)
def spec_l8Max.f (a0 : Int) (a1 : Int) : Option (Int) := if a0 > a1 then (some a0) else (some a1)
def spec_l8Min.f (a0 : Int) (a1 : Int) : Option (Int) := if a0 < a1 then (some a0) else (some a1)
def spec_l8Cut.f (a0 : Int) (a1 : Int) : Option (Int × Int) := (spec_l8Max.f a0 (-2147483648)).bind fun t111 => ((spec_l8Min.f a1 2147483647).bind fun t112 => (if t111 > t112 then ((spec_l8None.f).bind fun bt113 => (some (bt113.1, bt113.2))) else (some (t111, t112))))
def spec_GapsRange.j0 : Nat → Int → Bool → Int → List Int → Option (Int × Int)
  | 0, _, _, _, _ => none
  | k + 1, x1, x14, x116000, x116001 => if x14 = true then ((spec_l8None.f).bind fun bt119 => (some (bt119.1, bt119.2))) else ((spec_l11At.f x116000 x116001 0 x1).bind fun t121 => ((spec_l11At.f x116000 x116001 x1 0).bind fun t122 => ((spec_l8Cut.f (wrap64 (-t121)) t122).bind fun bt123 => (some (bt123.1, bt123.2)))))
def spec_GapsRange.f (k : Nat) (a0_0 : Int) (l0_1 : List Int) (a1 : Int) : Option (Int × Int) := (spec_GapsOk.f k a0_0 l0_1).bind fun t117 => (if t117 = true then ((spec_l1In.f a1 1 a0_0).bind fun t118 => (spec_GapsRange.j0 k a1 (!t118) a0_0 l0_1)) else (spec_GapsRange.j0 k a1 true a0_0 l0_1))
def laws_toIntS.l0 : Nat → List Int → List Int → Int → Option (List Int)
  | 0, _, _, _ => none
  | k + 1, x0, x3, x4 => if x4 < (x0.length : Int) then (if 0 ≤ x4 then (if x4 < (x3.length : Int) then (laws_toIntS.l0 k x0 (x3.set (x4 : Int).toNat (rd x0 x4)) (wrap64 (x4 + 1))) else (none)) else (none)) else (some x3)
def laws_toIntS.f (k : Nat) (l0 : List Int) : Option (List Int) := if 0 ≤ (l0.length : Int) then (if ((l0.length : Int) : Int).toNat ≤ 35184372088832 then (laws_toIntS.l0 k l0 (List.replicate ((l0.length : Int) : Int).toNat 0) 0) else (none)) else (none)
def laws_toGaps.f (k : Nat) (a0_0 : Int) (l0_1 : List Int) : Option (Int × List Int) := (laws_toIntS.f k l0_1).bind fun t133 => (some (a0_0, t133))
def impl_Gaps_at.f (a0_0 : Int) (l0_1 : List Int) (a1 : Int) (a2 : Int) : Option (Int) := some (wrap64 ((wrap64 (a1 * (wrap64 (a0_0 + 1)))) + a2))
mutual
def impl_GapsOk.j0 : Nat → Bool → Int → List Int → Option (Bool)
  | 0, _, _, _ => none
  | k + 1, x26, x138000, x138001 => if x26 = true then (some false) else (impl_GapsOk.l0 k (wrap64 (x138000 + 1)) 0 x138000 x138001)
def impl_GapsOk.l0 : Nat → Int → Int → Int → List Int → Option (Bool)
  | 0, _, _, _, _ => none
  | k + 1, x29, x30, x138000, x138001 => if x30 < x29 then ((impl_Gaps_at.f x138000 x138001 x30 x30).bind fun t138 => (if 0 ≤ t138 then (if t138 < (x138001.length : Int) then (if (rd x138001 t138) = 0 then (impl_GapsOk.l0 k x29 (wrap64 (x30 + 1)) x138000 x138001) else (some false)) else (none)) else (none))) else (impl_GapsOk.l1 k x138001 (x138001.length : Int) 0)
def impl_GapsOk.l1 : Nat → List Int → Int → Int → Option (Bool)
  | 0, _, _, _ => none
  | k + 1, x44, x45, x46 => if x46 < x45 then (if 0 ≤ x46 then (if x46 < (x44.length : Int) then (if (rd x44 x46) < (-1099511627776) then (some false) else (if (rd x44 x46) > 1099511627776 then (some false) else (impl_GapsOk.l1 k x44 x45 (wrap64 (x46 + 1))))) else (none)) else (none)) else (some true)
end
def impl_GapsOk.f (k : Nat) (a0_0 : Int) (l0_1 : List Int) : Option (Bool) := if a0_0 < 0 then (impl_GapsOk.j0 k true a0_0 l0_1) else (if a0_0 > 12 then (impl_GapsOk.j0 k true a0_0 l0_1) else (impl_GapsOk.j0 k ((l0_1.length : Int) != (wrap64 ((wrap64 (a0_0 + 1)) * (wrap64 (a0_0 + 1))))) a0_0 l0_1))
def impl_rangeNone.f  : Option (Int × Int) := some (1, 0)
def impl_rangeFrom.f (a0 : Int) (a1 : Int) : Option (Int × Int) := if (mx a0 (-2147483648)) > (mn a1 2147483647) then ((impl_rangeNone.f).bind fun bt144 => (some (bt144.1, bt144.2))) else (some (mx a0 (-2147483648), mn a1 2147483647))
def impl_GapsRange.j0 : Nat → Int → Bool → Int → List Int → Option (Int × Int)
  | 0, _, _, _, _ => none
  | k + 1, x1, x17, x147000, x147001 => if x17 = true then ((impl_rangeNone.f).bind fun bt149 => (some (bt149.1, bt149.2))) else ((impl_Gaps_at.f x147000 x147001 0 x1).bind fun t151 => (if 0 ≤ t151 then (if t151 < (x147001.length : Int) then ((impl_Gaps_at.f x147000 x147001 x1 0).bind fun t153 => (if 0 ≤ t153 then (if t153 < (x147001.length : Int) then ((impl_rangeFrom.f (wrap64 (-(rd x147001 t151))) (rd x147001 t153)).bind fun bt155 => (some (bt155.1, bt155.2))) else (none)) else (none))) else (none)) else (none)))
def impl_GapsRange.f (k : Nat) (a0_0 : Int) (l0_1 : List Int) (a1 : Int) : Option (Int × Int) := (impl_GapsOk.f k a0_0 l0_1).bind fun t148 => (if t148 = true then (if a1 < 1 then (impl_GapsRange.j0 k a1 true a0_0 l0_1) else (impl_GapsRange.j0 k a1 (decide (a1 > a0_0)) a0_0 l0_1)) else (impl_GapsRange.j0 k a1 true a0_0 l0_1))
def laws_eqRange.f (a0_0 : Int) (a0_1 : Int) (a1_0 : Int) (a1_1 : Int) : Option (Bool) := if a0_0 = a1_0 then (if a0_1 = a1_1 then (some true) else (some false)) else (some false)
def laws_eqIntS.l0 : Nat → List Int → List Int → Int → Option (Bool)
  | 0, _, _, _ => none
  | k + 1, x0, x1, x5 => if x5 < (x0.length : Int) then (if 0 ≤ x5 then (if x5 < (x1.length : Int) then (if (rd x0 x5) = (rd x1 x5) then (laws_eqIntS.l0 k x0 x1 (wrap64 (x5 + 1))) else (some false)) else (none)) else (none)) else (some true)
def laws_eqIntS.f (k : Nat) (l0 : List Int) (l1 : List Int) : Option (Bool) := if (l0.length : Int) = (l1.length : Int) then (laws_eqIntS.l0 k l0 l1 0) else (some false)
def laws_eqGaps.f (k : Nat) (a0_0 : Int) (l0_1 : List Int) (a1_0 : Int) (l1_1 : List Int) : Option (Bool) := if a0_0 = a1_0 then ((laws_eqIntS.f k l0_1 l1_1).bind fun t163 => (if t163 = true then (some true) else (some false))) else (some false)
def laws_FnExactGapsRange.f (k : Nat) (a0_0 : Int) (l0_1 : List Int) (a1 : Int) : Option (Bool) := (laws_szGaps.f a0_0 l0_1 1048576).bind fun t165 => (if t165 < 0 then (some true) else ((laws_toGaps.f k a0_0 l0_1).bind fun bt166 => ((spec_GapsRange.f k bt166.1 bt166.2 a1).bind fun bt170 => ((laws_toGaps.f k a0_0 l0_1).bind fun bt173 => ((impl_GapsRange.f k bt173.1 bt173.2 a1).bind fun bt178 => ((laws_eqRange.f bt178.1 bt178.2 bt170.1 bt170.2).bind fun t181 => (if t181 = true then ((laws_toGaps.f k a0_0 l0_1).bind fun bt182 => ((laws_eqGaps.f k bt173.1 bt173.2 bt182.1 bt182.2).bind fun t186 => (if t186 = true then (some true) else (some false)))) else (some false))))))))
end Go.Proofs.Ytmdcgkkkfncieaa.PFnExactGapsRange
