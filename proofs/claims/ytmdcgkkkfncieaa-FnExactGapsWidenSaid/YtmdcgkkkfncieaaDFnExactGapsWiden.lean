/- The program's functions that the law reaches, as plain Lean functions. Conditions: none. -/
import Derived.Test.YtmdcgkkkfncieaaQFnExactGapsWidenx0
namespace Go.Proofs.Ytmdcgkkkfncieaa.PFnExactGapsWiden
open Go.RowKit Go.Proofs.YtmdcgkkkfncieaaW.PrintWords Go.Proofs.YtmdcgkkkfncieaaW.PrintLast Go.Proofs.YtmdcgkkkfncieaaW.PrintMore
set_option linter.unusedVariables false

def laws_szIntS.f (l0 : List Int) (a1 : Int) : Option (Int) := if (wrap64 (a1 - (l0.length : Int))) < 0 then (some (-1)) else (some (wrap64 (a1 - (l0.length : Int))))
def laws_szGaps.f (a0_0 : Int) (l0_1 : List Int) (a1 : Int) : Option (Int) := (laws_szIntS.f l0_1 a1).bind fun t102 => (if t102 < 0 then (some (-1)) else (some t102))
def laws_toIntS.l0 : Nat → List Int → List Int → Int → Option (List Int)
  | 0, _, _, _ => none
  | k + 1, x0, x3, x4 => if x4 < (x0.length : Int) then (if 0 ≤ x4 then (if x4 < (x3.length : Int) then (laws_toIntS.l0 k x0 (x3.set (x4 : Int).toNat (rd x0 x4)) (wrap64 (x4 + 1))) else (none)) else (none)) else (some x3)
def laws_toIntS.f (k : Nat) (l0 : List Int) : Option (List Int) := if 0 ≤ (l0.length : Int) then (if ((l0.length : Int) : Int).toNat ≤ 35184372088832 then (laws_toIntS.l0 k l0 (List.replicate ((l0.length : Int) : Int).toNat 0) 0) else (none)) else (none)
def laws_toGaps.f (k : Nat) (a0_0 : Int) (l0_1 : List Int) : Option (Int × List Int) := (laws_toIntS.f k l0_1).bind fun t111 => (some (a0_0, t111))
def laws_eqIntS.l0 : Nat → List Int → List Int → Int → Option (Bool)
  | 0, _, _, _ => none
  | k + 1, x0, x1, x5 => if x5 < (x0.length : Int) then (if 0 ≤ x5 then (if x5 < (x1.length : Int) then (if (rd x0 x5) = (rd x1 x5) then (laws_eqIntS.l0 k x0 x1 (wrap64 (x5 + 1))) else (some false)) else (none)) else (none)) else (some true)
def laws_eqIntS.f (k : Nat) (l0 : List Int) (l1 : List Int) : Option (Bool) := if (l0.length : Int) = (l1.length : Int) then (laws_eqIntS.l0 k l0 l1 0) else (some false)
def laws_eqGaps.f (k : Nat) (a0_0 : Int) (l0_1 : List Int) (a1_0 : Int) (l1_1 : List Int) : Option (Bool) := if a0_0 = a1_0 then ((laws_eqIntS.f k l0_1 l1_1).bind fun t118 => (if t118 = true then (some true) else (some false))) else (some false)
def spec_l1In.f (a0 : Int) (a1 : Int) (a2 : Int) : Option (Bool) := if a0 ≥ a1 then (some (decide (a0 ≤ a2))) else (some false)
def spec_l11At.f (a0_0 : Int) (l0_1 : List Int) (a1 : Int) (a2 : Int) : Option (Int) := if 0 ≤ (wrap64 ((wrap64 (a1 * (wrap64 (a0_0 + 1)))) + a2)) then (if (wrap64 ((wrap64 (a1 * (wrap64 (a0_0 + 1)))) + a2)) < (l0_1.length : Int) then (some (rd l0_1 (wrap64 ((wrap64 (a1 * (wrap64 (a0_0 + 1)))) + a2)))) else (none)) else (none)
mutual
def spec_GapsOk.j0 : Nat → Bool → Int → List Int → Option (Bool)
  | 0, _, _, _ => none
  | k + 1, x22, x122000, x122001 => if x22 = true then (some false) else (spec_GapsOk.l0 k 0 x122000 x122001)
def spec_GapsOk.l0 : Nat → Int → Int → List Int → Option (Bool)
  | 0, _, _, _ => none
  | k + 1, x3, x122000, x122001 => if x3 ≤ x122000 then (spec_GapsOk.l1 k x3 0 x122000 x122001) else (some true)
def spec_GapsOk.l1 : Nat → Int → Int → Int → List Int → Option (Bool)
  | 0, _, _, _, _ => none
  | k + 1, x3, x4, x122000, x122001 => if x4 ≤ x122000 then ((spec_l11At.f x122000 x122001 x3 x4).bind fun t123 => ((spec_l1In.f t123 (-1099511627776) 1099511627776).bind fun t124 => (if t124 = true then (if x3 = x4 then (if t123 = 0 then (spec_GapsOk.l1 k x3 (wrap64 (x4 + 1)) x122000 x122001) else (some false)) else (spec_GapsOk.l1 k x3 (wrap64 (x4 + 1)) x122000 x122001)) else (some false)))) else (spec_GapsOk.l0 k (wrap64 (x3 + 1)) x122000 x122001)
end
def spec_GapsOk.f (k : Nat) (a0_0 : Int) (l0_1 : List Int) : Option (Bool) := (spec_l1In.f a0_0 0 12).bind fun t122 => (if t122 = true then (spec_GapsOk.j0 k ((l0_1.length : Int) != (wrap64 ((wrap64 (a0_0 + 1)) * (wrap64 (a0_0 + 1))))) a0_0 l0_1) else (spec_GapsOk.j0 k true a0_0 l0_1))
def spec_l11Two.f (k : Nat) (a0_0 : Int) (l0_1 : List Int) (a1_0 : Int) (l1_1 : List Int) : Option (Bool) := (spec_GapsOk.f k a0_0 l0_1).bind fun t127 => (if t127 = true then ((spec_GapsOk.f k a1_0 l1_1).bind fun t128 => (if t128 = true then (some (a0_0 == a1_0)) else (some false))) else (some false))
def spec_GapsWiden.l0 : Nat → Int → Int → List Int → Int → List Int → Int → List Int → Option (Int × List Int)
  | 0, _, _, _, _, _, _, _ => none
  | k + 1, x6, x130000, x130001, x131000, x131001, x134000, x134001 => if x6 < (x130001.length : Int) then (if 0 ≤ x6 then (if x6 < (x131001.length : Int) then (if (rd x131001 x6) > (rd x130001 x6) then (if x134001.length < 17592186044416 then (spec_GapsWiden.l0 k (wrap64 (x6 + 1)) x130000 x130001 x131000 x131001 x134000 (x134001 ++ [1099511627776])) else (none)) else (if x134001.length < 17592186044416 then (spec_GapsWiden.l0 k (wrap64 (x6 + 1)) x130000 x130001 x131000 x131001 x134000 (x134001 ++ [rd x130001 x6])) else (none))) else (none)) else (none)) else (some (x134000, x134001))
def spec_GapsWiden.f (k : Nat) (a0_0 : Int) (l0_1 : List Int) (a1_0 : Int) (l1_1 : List Int) : Option (Int × List Int) := (spec_l11Two.f k a0_0 l0_1 a1_0 l1_1).bind fun t132 => (if t132 = true then (spec_GapsWiden.l0 k 0 a0_0 l0_1 a1_0 l1_1 a0_0 ([] : List Int)) else (some (0, ([] : List Int))))
def impl_Gaps_at.f (a0_0 : Int) (l0_1 : List Int) (a1 : Int) (a2 : Int) : Option (Int) := some (wrap64 ((wrap64 (a1 * (wrap64 (a0_0 + 1)))) + a2))
mutual
def impl_GapsOk.j0 : Nat → Bool → Int → List Int → Option (Bool)
  | 0, _, _, _ => none
  | k + 1, x26, x144000, x144001 => if x26 = true then (some false) else (impl_GapsOk.l0 k (wrap64 (x144000 + 1)) 0 x144000 x144001)
def impl_GapsOk.l0 : Nat → Int → Int → Int → List Int → Option (Bool)
  | 0, _, _, _, _ => none
  | k + 1, x29, x30, x144000, x144001 => if x30 < x29 then ((impl_Gaps_at.f x144000 x144001 x30 x30).bind fun t144 => (if 0 ≤ t144 then (if t144 < (x144001.length : Int) then (if (rd x144001 t144) = 0 then (impl_GapsOk.l0 k x29 (wrap64 (x30 + 1)) x144000 x144001) else (some false)) else (none)) else (none))) else (impl_GapsOk.l1 k x144001 (x144001.length : Int) 0)
def impl_GapsOk.l1 : Nat → List Int → Int → Int → Option (Bool)
  | 0, _, _, _ => none
  | k + 1, x44, x45, x46 => if x46 < x45 then (if 0 ≤ x46 then (if x46 < (x44.length : Int) then (if (rd x44 x46) < (-1099511627776) then (some false) else (if (rd x44 x46) > 1099511627776 then (some false) else (impl_GapsOk.l1 k x44 x45 (wrap64 (x46 + 1))))) else (none)) else (none)) else (some true)
end
def impl_GapsOk.f (k : Nat) (a0_0 : Int) (l0_1 : List Int) : Option (Bool) := if a0_0 < 0 then (impl_GapsOk.j0 k true a0_0 l0_1) else (if a0_0 > 12 then (impl_GapsOk.j0 k true a0_0 l0_1) else (impl_GapsOk.j0 k ((l0_1.length : Int) != (wrap64 ((wrap64 (a0_0 + 1)) * (wrap64 (a0_0 + 1))))) a0_0 l0_1))
def impl_Gaps_clone.f (a0_0 : Int) (l0_1 : List Int) : Option (Int × List Int) := if ([] : List Int).length + l0_1.length < 17592186044416 then (some (a0_0, (([] : List Int) ++ l0_1))) else (none)
mutual
def impl_GapsWiden.j0 : Nat → Bool → Int → List Int → Int → List Int → Option (Int × List Int)
  | 0, _, _, _, _, _ => none
  | k + 1, x22, x153000, x153001, x154000, x154001 => if x22 = true then (some (0, ([] : List Int))) else ((impl_Gaps_clone.f x153000 x153001).bind fun bt157 => (impl_GapsWiden.l0 k x154001 (x154001.length : Int) 0 bt157.1 bt157.2))
def impl_GapsWiden.l0 : Nat → List Int → Int → Int → Int → List Int → Option (Int × List Int)
  | 0, _, _, _, _, _ => none
  | k + 1, x27, x28, x29, x162000, x162001 => if x29 < x28 then (if 0 ≤ x29 then (if x29 < (x27.length : Int) then (if x29 < (x162001.length : Int) then (if (rd x27 x29) > (rd x162001 x29) then (impl_GapsWiden.l0 k x27 x28 (wrap64 (x29 + 1)) x162000 (x162001.set (x29 : Int).toNat 1099511627776)) else (impl_GapsWiden.l0 k x27 x28 (wrap64 (x29 + 1)) x162000 x162001)) else (none)) else (none)) else (none)) else (some (x162000, x162001))
end
def impl_GapsWiden.f (k : Nat) (a0_0 : Int) (l0_1 : List Int) (a1_0 : Int) (l1_1 : List Int) : Option (Int × List Int) := (impl_GapsOk.f k a0_0 l0_1).bind fun t155 => (if t155 = true then ((impl_GapsOk.f k a1_0 l1_1).bind fun t156 => (if t156 = true then (impl_GapsWiden.j0 k (a0_0 != a1_0) a0_0 l0_1 a1_0 l1_1) else (impl_GapsWiden.j0 k true a0_0 l0_1 a1_0 l1_1))) else (impl_GapsWiden.j0 k true a0_0 l0_1 a1_0 l1_1))
def laws_markIntS.l0 : Nat → List Int → Int → Int → Option (Int × List Int)
  | 0, _, _, _ => none
  | k + 1, x0, x1, x5 => if x5 < (x0.length : Int) then (if 0 ≤ x5 then (laws_markIntS.l0 k (x0.set (x5 : Int).toNat x1) (wrap64 (x1 + 1)) (wrap64 (x5 + 1))) else (none)) else (some (x1, x0))
def laws_markIntS.f (k : Nat) (l0 : List Int) (a1 : Int) : Option (Int × List Int) := laws_markIntS.l0 k l0 a1 0
def laws_markGaps.f (k : Nat) (a0_0 : Int) (l0_1 : List Int) (a1 : Int) : Option (Int × List Int) := (laws_markIntS.f k l0_1 a1).bind fun bt167 => (some (bt167.1, bt167.2))
def laws_heldIntS.l0 : Nat → List Int → Int → Int → Option (Int)
  | 0, _, _, _ => none
  | k + 1, x0, x1, x5 => if x5 < (x0.length : Int) then (if 0 ≤ x5 then (if (rd x0 x5) = x1 then (laws_heldIntS.l0 k x0 (wrap64 (x1 + 1)) (wrap64 (x5 + 1))) else (some (-1))) else (none)) else (some x1)
def laws_heldIntS.f (k : Nat) (l0 : List Int) (a1 : Int) : Option (Int) := laws_heldIntS.l0 k l0 a1 0
def laws_heldGaps.f (k : Nat) (a0_0 : Int) (l0_1 : List Int) (a1 : Int) : Option (Int) := (laws_heldIntS.f k l0_1 a1).bind fun t171 => (if t171 < 0 then (some (-1)) else (some t171))
def laws_FnExactGapsWiden.j0 : Nat → Bool → Int → List Int → Int → List Int → Int → List Int → Int → List Int → Option (Bool)
  | 0, _, _, _, _, _, _, _, _, _ => none
  | k + 1, x63, x173000, x173001, x174000, x174001, x189000, x189001, x204000, x204001 => if x63 = true then (some false) else ((laws_markGaps.f k x204000 x204001 1).bind fun bt220 => ((laws_heldGaps.f k x204000 bt220.2 1).bind fun t222 => (if t222 < 0 then (some false) else (if t222 = bt220.1 then ((laws_toGaps.f k x173000 x173001).bind fun bt223 => ((laws_toGaps.f k x174000 x174001).bind fun bt227 => ((impl_GapsWiden.f k bt223.1 bt223.2 bt227.1 bt227.2).bind fun bt231 => ((laws_eqGaps.f k bt231.1 bt231.2 x189000 x189001).bind fun t236 => (if t236 = true then ((laws_heldGaps.f k x204000 bt220.2 1).bind fun t237 => (if t237 < 0 then (some false) else (if t237 = bt220.1 then (some true) else (some false)))) else (some false)))))) else (some false)))))
def laws_FnExactGapsWiden.f (k : Nat) (a0_0 : Int) (l0_1 : List Int) (a1_0 : Int) (l1_1 : List Int) : Option (Bool) := (laws_szGaps.f a0_0 l0_1 1048576).bind fun t174 => (if t174 < 0 then (some true) else ((laws_szGaps.f a1_0 l1_1 t174).bind fun t175 => (if t175 < 0 then (some true) else ((laws_toGaps.f k a0_0 l0_1).bind fun bt176 => ((laws_toGaps.f k a1_0 l1_1).bind fun bt180 => ((spec_GapsWiden.f k bt176.1 bt176.2 bt180.1 bt180.2).bind fun bt184 => ((laws_toGaps.f k a0_0 l0_1).bind fun bt189 => ((laws_toGaps.f k a1_0 l1_1).bind fun bt194 => ((impl_GapsWiden.f k bt189.1 bt189.2 bt194.1 bt194.2).bind fun bt199 => ((laws_eqGaps.f k bt199.1 bt199.2 bt184.1 bt184.2).bind fun t204 => (if t204 = true then ((laws_toGaps.f k a0_0 l0_1).bind fun bt205 => ((laws_eqGaps.f k bt189.1 bt189.2 bt205.1 bt205.2).bind fun t209 => (if t209 = true then ((laws_toGaps.f k a1_0 l1_1).bind fun bt210 => ((laws_eqGaps.f k bt194.1 bt194.2 bt210.1 bt210.2).bind fun t214 => (if t214 = true then ((laws_markGaps.f k bt189.1 bt189.2 1).bind fun bt215 => ((laws_markGaps.f k bt194.1 bt194.2 bt215.1).bind fun bt217 => (if bt217.1 < 0 then (laws_FnExactGapsWiden.j0 k true a0_0 l0_1 a1_0 l1_1 bt184.1 bt184.2 bt199.1 bt199.2) else ((laws_eqGaps.f k bt199.1 bt199.2 bt184.1 bt184.2).bind fun t219 => (laws_FnExactGapsWiden.j0 k (!t219) a0_0 l0_1 a1_0 l1_1 bt184.1 bt184.2 bt199.1 bt199.2))))) else (some false)))) else (some false)))) else (some false))))))))))))
end Go.Proofs.Ytmdcgkkkfncieaa.PFnExactGapsWiden
