/- The program's functions that the law reaches, as plain Lean functions. Conditions: none. -/
import Derived.Test.YtmdcgkkkfncieaaQFnExactGapsClosex0
namespace Go.Proofs.Ytmdcgkkkfncieaa.PFnExactGapsClose
open Go.RowKit Go.Proofs.YtmdcgkkkfncieaaW.PrintWords Go.Proofs.YtmdcgkkkfncieaaW.PrintLast Go.Proofs.YtmdcgkkkfncieaaW.PrintMore
set_option linter.unusedVariables false

def laws_szIntS.f (l0 : List Int) (a1 : Int) : Option (Int) := if (wrap64 (a1 - (l0.length : Int))) < 0 then (some (-1)) else (some (wrap64 (a1 - (l0.length : Int))))
def laws_szGaps.f (a0_0 : Int) (l0_1 : List Int) (a1 : Int) : Option (Int) := (laws_szIntS.f l0_1 a1).bind fun t102 => (if t102 < 0 then (some (-1)) else (some t102))
def laws_toIntS.l0 : Nat → List Int → List Int → Int → Option (List Int)
  | 0, _, _, _ => none
  | k + 1, x0, x3, x4 => if x4 < (x0.length : Int) then (if 0 ≤ x4 then (if x4 < (x3.length : Int) then (laws_toIntS.l0 k x0 (x3.set (x4 : Int).toNat (rd x0 x4)) (wrap64 (x4 + 1))) else (none)) else (none)) else (some x3)
def laws_toIntS.f (k : Nat) (l0 : List Int) : Option (List Int) := if 0 ≤ (l0.length : Int) then (if ((l0.length : Int) : Int).toNat ≤ 35184372088832 then (laws_toIntS.l0 k l0 (List.replicate ((l0.length : Int) : Int).toNat 0) 0) else (none)) else (none)
def laws_toGaps.f (k : Nat) (a0_0 : Int) (l0_1 : List Int) : Option (Int × List Int) := (laws_toIntS.f k l0_1).bind fun t111 => (some (a0_0, t111))
def laws_eqIntS.l0 : Nat → List Int → List Int → Int → Option (Bool)
  | 0, _, _, _ => none
  | k + 1, x0, x1, x5 => if x5 < (x0.length : Int) then (if 0 ≤ x5 then (if x5 < (x1.length : Int) then (if (rd x0 x5) = (rd x1 x5) then (laws_eqIntS.l0 k x0 x1 (wrap64 (x5 + 1))) else (some false)) else (none)) else (none)) else (some true)
def laws_eqIntS.f (k : Nat) (l0 : List Int) (l1 : List Int) : Option (Bool) := if (l0.length : Int) = (l1.length : Int) then (laws_eqIntS.l0 k l0 l1 0) else (some false)
def laws_eqGaps.f (k : Nat) (a0_0 : Int) (l0_1 : List Int) (a1_0 : Int) (l1_1 : List Int) : Option (Bool) := if a0_0 = a1_0 then ((laws_eqIntS.f k l0_1 l1_1).bind fun t118 => (if t118 = true then (some true) else (some false))) else (some false)
def laws_markIntS.l0 : Nat → List Int → Int → Int → Option (Int × List Int)
  | 0, _, _, _ => none
  | k + 1, x0, x1, x5 => if x5 < (x0.length : Int) then (if 0 ≤ x5 then (laws_markIntS.l0 k (x0.set (x5 : Int).toNat x1) (wrap64 (x1 + 1)) (wrap64 (x5 + 1))) else (none)) else (some (x1, x0))
def laws_markIntS.f (k : Nat) (l0 : List Int) (a1 : Int) : Option (Int × List Int) := laws_markIntS.l0 k l0 a1 0
def laws_markGaps.f (k : Nat) (a0_0 : Int) (l0_1 : List Int) (a1 : Int) : Option (Int × List Int) := (laws_markIntS.f k l0_1 a1).bind fun bt121 => (some (bt121.1, bt121.2))
def laws_heldIntS.l0 : Nat → List Int → Int → Int → Option (Int)
  | 0, _, _, _ => none
  | k + 1, x0, x1, x5 => if x5 < (x0.length : Int) then (if 0 ≤ x5 then (if (rd x0 x5) = x1 then (laws_heldIntS.l0 k x0 (wrap64 (x1 + 1)) (wrap64 (x5 + 1))) else (some (-1))) else (none)) else (some x1)
def laws_heldIntS.f (k : Nat) (l0 : List Int) (a1 : Int) : Option (Int) := laws_heldIntS.l0 k l0 a1 0
def laws_heldGaps.f (k : Nat) (a0_0 : Int) (l0_1 : List Int) (a1 : Int) : Option (Int) := (laws_heldIntS.f k l0_1 a1).bind fun t125 => (if t125 < 0 then (some (-1)) else (some t125))
def spec_l1In.f (a0 : Int) (a1 : Int) (a2 : Int) : Option (Bool) := if a0 ≥ a1 then (some (decide (a0 ≤ a2))) else (some false)
def spec_l11At.f (a0_0 : Int) (l0_1 : List Int) (a1 : Int) (a2 : Int) : Option (Int) := if 0 ≤ (wrap64 ((wrap64 (a1 * (wrap64 (a0_0 + 1)))) + a2)) then (if (wrap64 ((wrap64 (a1 * (wrap64 (a0_0 + 1)))) + a2)) < (l0_1.length : Int) then (some (rd l0_1 (wrap64 ((wrap64 (a1 * (wrap64 (a0_0 + 1)))) + a2)))) else (none)) else (none)
mutual
def spec_GapsOk.j0 : Nat → Bool → Int → List Int → Option (Bool)
  | 0, _, _, _ => none
  | k + 1, x22, x129000, x129001 => if x22 = true then (some false) else (spec_GapsOk.l0 k 0 x129000 x129001)
def spec_GapsOk.l0 : Nat → Int → Int → List Int → Option (Bool)
  | 0, _, _, _ => none
  | k + 1, x3, x129000, x129001 => if x3 ≤ x129000 then (spec_GapsOk.l1 k x3 0 x129000 x129001) else (some true)
def spec_GapsOk.l1 : Nat → Int → Int → Int → List Int → Option (Bool)
  | 0, _, _, _, _ => none
  | k + 1, x3, x4, x129000, x129001 => if x4 ≤ x129000 then ((spec_l11At.f x129000 x129001 x3 x4).bind fun t130 => ((spec_l1In.f t130 (-1099511627776) 1099511627776).bind fun t131 => (if t131 = true then (if x3 = x4 then (if t130 = 0 then (spec_GapsOk.l1 k x3 (wrap64 (x4 + 1)) x129000 x129001) else (some false)) else (spec_GapsOk.l1 k x3 (wrap64 (x4 + 1)) x129000 x129001)) else (some false)))) else (spec_GapsOk.l0 k (wrap64 (x3 + 1)) x129000 x129001)
end
def spec_GapsOk.f (k : Nat) (a0_0 : Int) (l0_1 : List Int) : Option (Bool) := (spec_l1In.f a0_0 0 12).bind fun t129 => (if t129 = true then (spec_GapsOk.j0 k ((l0_1.length : Int) != (wrap64 ((wrap64 (a0_0 + 1)) * (wrap64 (a0_0 + 1))))) a0_0 l0_1) else (spec_GapsOk.j0 k true a0_0 l0_1))
def spec_l11Copy.l0 : Nat → Int → Int → List Int → Int → List Int → Option (Int × List Int)
  | 0, _, _, _, _, _ => none
  | k + 1, x4, x133000, x133001, x135000, x135001 => if x4 < (x133001.length : Int) then (if 0 ≤ x4 then (if x135001.length < 17592186044416 then (spec_l11Copy.l0 k (wrap64 (x4 + 1)) x133000 x133001 x135000 (x135001 ++ [rd x133001 x4])) else (none)) else (none)) else (some (x135000, x135001))
def spec_l11Copy.f (k : Nat) (a0_0 : Int) (l0_1 : List Int) : Option (Int × List Int) := spec_l11Copy.l0 k 0 a0_0 l0_1 a0_0 ([] : List Int)
def spec_l11Put.f (a0_0 : Int) (l0_1 : List Int) (a1 : Int) (a2 : Int) (a3 : Int) : Option (List Int) := if 0 ≤ (wrap64 ((wrap64 (a1 * (wrap64 (a0_0 + 1)))) + a2)) then (if (wrap64 ((wrap64 (a1 * (wrap64 (a0_0 + 1)))) + a2)) < (l0_1.length : Int) then (some (l0_1.set ((wrap64 ((wrap64 (a1 * (wrap64 (a0_0 + 1)))) + a2)) : Int).toNat a3)) else (none)) else (none)
def spec_l11Add.f (a0 : Int) (a1 : Int) : Option (Int) := if a0 ≥ 1099511627776 then (some 1099511627776) else (if a1 ≥ 1099511627776 then (some 1099511627776) else (if (wrap64 (a0 + a1)) ≥ 1099511627776 then (some 1099511627776) else (some (wrap64 (a0 + a1)))))
mutual
def spec_GapsClose.l0 : Nat → Int → Int → List Int → Int → List Int → Option (Int × List Int × Bool)
  | 0, _, _, _, _, _ => none
  | k + 1, x5, x142000, x142001, x149000, x149001 => if x5 ≤ x142000 then (spec_GapsClose.l1 k x5 0 x142000 x142001 x149000 x149001) else (spec_GapsClose.l3 k 0 x142000 x142001 x149000 x149001)
def spec_GapsClose.l1 : Nat → Int → Int → Int → List Int → Int → List Int → Option (Int × List Int × Bool)
  | 0, _, _, _, _, _, _ => none
  | k + 1, x5, x6, x142000, x142001, x149000, x149001 => if x6 ≤ x142000 then (spec_GapsClose.l2 k x5 x6 0 x142000 x142001 x149000 x149001) else (spec_GapsClose.l0 k (wrap64 (x5 + 1)) x142000 x142001 x149000 x149001)
def spec_GapsClose.l2 : Nat → Int → Int → Int → Int → List Int → Int → List Int → Option (Int × List Int × Bool)
  | 0, _, _, _, _, _, _, _ => none
  | k + 1, x5, x6, x7, x142000, x142001, x149000, x149001 => if x7 ≤ x142000 then ((spec_l11At.f x149000 x149001 x6 x5).bind fun t149 => ((spec_l11At.f x149000 x149001 x5 x7).bind fun t150 => ((spec_l11Add.f t149 t150).bind fun t151 => ((spec_l11At.f x149000 x149001 x6 x7).bind fun t152 => (if t151 < t152 then ((spec_l11Put.f x149000 x149001 x6 x7 t151).bind fun t153 => (spec_GapsClose.l2 k x5 x6 (wrap64 (x7 + 1)) x142000 x142001 x149000 t153)) else (spec_GapsClose.l2 k x5 x6 (wrap64 (x7 + 1)) x142000 x142001 x149000 x149001)))))) else (spec_GapsClose.l1 k x5 (wrap64 (x6 + 1)) x142000 x142001 x149000 x149001)
def spec_GapsClose.l3 : Nat → Int → Int → List Int → Int → List Int → Option (Int × List Int × Bool)
  | 0, _, _, _, _, _ => none
  | k + 1, x9, x142000, x142001, x149000, x149001 => if x9 < (x149001.length : Int) then (if 0 ≤ x9 then (if (rd x149001 x9) < (-4294967296) then (some (0, ([] : List Int), false)) else (if (wrap64 (x142000 + 2)) = 0 then (none) else (if (Int.tmod x9 (wrap64 (x142000 + 2))) = 0 then (if (rd x149001 x9) < 0 then (some (0, ([] : List Int), false)) else (spec_GapsClose.l3 k (wrap64 (x9 + 1)) x142000 x142001 x149000 x149001)) else (spec_GapsClose.l3 k (wrap64 (x9 + 1)) x142000 x142001 x149000 x149001)))) else (none)) else (some (x149000, x149001, true))
end
def spec_GapsClose.f (k : Nat) (a0_0 : Int) (l0_1 : List Int) : Option (Int × List Int × Bool) := (spec_GapsOk.f k a0_0 l0_1).bind fun t143 => (if t143 = true then ((spec_l11Copy.f k a0_0 l0_1).bind fun bt144 => (spec_GapsClose.l0 k 0 a0_0 l0_1 bt144.1 bt144.2)) else (some (0, ([] : List Int), false)))
def impl_Gaps_at.f (a0_0 : Int) (l0_1 : List Int) (a1 : Int) (a2 : Int) : Option (Int) := some (wrap64 ((wrap64 (a1 * (wrap64 (a0_0 + 1)))) + a2))
mutual
def impl_GapsOk.j0 : Nat → Bool → Int → List Int → Option (Bool)
  | 0, _, _, _ => none
  | k + 1, x26, x158000, x158001 => if x26 = true then (some false) else (impl_GapsOk.l0 k (wrap64 (x158000 + 1)) 0 x158000 x158001)
def impl_GapsOk.l0 : Nat → Int → Int → Int → List Int → Option (Bool)
  | 0, _, _, _, _ => none
  | k + 1, x29, x30, x158000, x158001 => if x30 < x29 then ((impl_Gaps_at.f x158000 x158001 x30 x30).bind fun t158 => (if 0 ≤ t158 then (if t158 < (x158001.length : Int) then (if (rd x158001 t158) = 0 then (impl_GapsOk.l0 k x29 (wrap64 (x30 + 1)) x158000 x158001) else (some false)) else (none)) else (none))) else (impl_GapsOk.l1 k x158001 (x158001.length : Int) 0)
def impl_GapsOk.l1 : Nat → List Int → Int → Int → Option (Bool)
  | 0, _, _, _ => none
  | k + 1, x44, x45, x46 => if x46 < x45 then (if 0 ≤ x46 then (if x46 < (x44.length : Int) then (if (rd x44 x46) < (-1099511627776) then (some false) else (if (rd x44 x46) > 1099511627776 then (some false) else (impl_GapsOk.l1 k x44 x45 (wrap64 (x46 + 1))))) else (none)) else (none)) else (some true)
end
def impl_GapsOk.f (k : Nat) (a0_0 : Int) (l0_1 : List Int) : Option (Bool) := if a0_0 < 0 then (impl_GapsOk.j0 k true a0_0 l0_1) else (if a0_0 > 12 then (impl_GapsOk.j0 k true a0_0 l0_1) else (impl_GapsOk.j0 k ((l0_1.length : Int) != (wrap64 ((wrap64 (a0_0 + 1)) * (wrap64 (a0_0 + 1))))) a0_0 l0_1))
def impl_Gaps_clone.f (a0_0 : Int) (l0_1 : List Int) : Option (Int × List Int) := if ([] : List Int).length + l0_1.length < 17592186044416 then (some (a0_0, (([] : List Int) ++ l0_1))) else (none)
def impl_gapsTogether.f (a0 : Int) (a1 : Int) : Option (Int) := if a0 = 1099511627776 then (some 1099511627776) else (if a1 = 1099511627776 then (some 1099511627776) else (if (wrap64 (a0 + a1)) ≥ 1099511627776 then (some 1099511627776) else (some (wrap64 (a0 + a1)))))
mutual
def impl_GapsClose.l0 : Nat → Int → Int → Int → Int → List Int → Option (Int × List Int × Bool)
  | 0, _, _, _, _, _ => none
  | k + 1, x5, x22, x23, x174000, x174001 => if x23 < x22 then (impl_GapsClose.l1 k x5 x23 x22 x23 x5 0 x174000 x174001) else (impl_GapsClose.l4 k x174001 (x174001.length : Int) 0 x174000 x174001)
def impl_GapsClose.l1 : Nat → Int → Int → Int → Int → Int → Int → Int → List Int → Option (Int × List Int × Bool)
  | 0, _, _, _, _, _, _, _, _ => none
  | k + 1, x5, x6, x22, x23, x26, x27, x174000, x174001 => if x27 < x26 then (impl_GapsClose.l2 k x5 x6 x27 x22 x23 x26 x27 x5 0 x174000 x174001) else (impl_GapsClose.l3 k x5 x22 x23 x5 0 x174000 x174001)
def impl_GapsClose.l2 : Nat → Int → Int → Int → Int → Int → Int → Int → Int → Int → Int → List Int → Option (Int × List Int × Bool)
  | 0, _, _, _, _, _, _, _, _, _, _, _ => none
  | k + 1, x5, x6, x7, x22, x23, x26, x27, x30, x31, x174000, x174001 => if x31 < x30 then (if 0 ≤ (wrap64 ((wrap64 (x7 * x5)) + x6)) then (if (wrap64 ((wrap64 (x7 * x5)) + x6)) < (x174001.length : Int) then (if 0 ≤ (wrap64 ((wrap64 (x6 * x5)) + x31)) then (if (wrap64 ((wrap64 (x6 * x5)) + x31)) < (x174001.length : Int) then ((impl_gapsTogether.f (rd x174001 (wrap64 ((wrap64 (x7 * x5)) + x6))) (rd x174001 (wrap64 ((wrap64 (x6 * x5)) + x31)))).bind fun t176 => (if 0 ≤ (wrap64 ((wrap64 (x7 * x5)) + x31)) then (if (wrap64 ((wrap64 (x7 * x5)) + x31)) < (x174001.length : Int) then (if t176 < (rd x174001 (wrap64 ((wrap64 (x7 * x5)) + x31))) then (impl_GapsClose.l2 k x5 x6 x7 x22 x23 x26 x27 x30 (wrap64 (x31 + 1)) x174000 (x174001.set ((wrap64 ((wrap64 (x7 * x5)) + x31)) : Int).toNat t176)) else (impl_GapsClose.l2 k x5 x6 x7 x22 x23 x26 x27 x30 (wrap64 (x31 + 1)) x174000 x174001)) else (none)) else (none))) else (none)) else (none)) else (none)) else (none)) else (impl_GapsClose.l1 k x5 x6 x22 x23 x26 (wrap64 (x27 + 1)) x174000 x174001)
def impl_GapsClose.l3 : Nat → Int → Int → Int → Int → Int → Int → List Int → Option (Int × List Int × Bool)
  | 0, _, _, _, _, _, _, _ => none
  | k + 1, x5, x22, x23, x75, x76, x174000, x174001 => if x76 < x75 then (if 0 ≤ (wrap64 ((wrap64 (x76 * x5)) + x76)) then (if (wrap64 ((wrap64 (x76 * x5)) + x76)) < (x174001.length : Int) then (if (rd x174001 (wrap64 ((wrap64 (x76 * x5)) + x76))) < 0 then (some (0, ([] : List Int), false)) else (impl_GapsClose.l3 k x5 x22 x23 x75 (wrap64 (x76 + 1)) x174000 x174001)) else (none)) else (none)) else (impl_GapsClose.l0 k x5 x22 (wrap64 (x23 + 1)) x174000 x174001)
def impl_GapsClose.l4 : Nat → List Int → Int → Int → Int → List Int → Option (Int × List Int × Bool)
  | 0, _, _, _, _, _ => none
  | k + 1, x93, x94, x95, x174000, x174001 => if x95 < x94 then (if 0 ≤ x95 then (if x95 < (x93.length : Int) then (if (rd x93 x95) < (-4294967296) then (some (0, ([] : List Int), false)) else (impl_GapsClose.l4 k x93 x94 (wrap64 (x95 + 1)) x174000 x174001)) else (none)) else (none)) else (some (x174000, x174001, true))
end
def impl_GapsClose.f (k : Nat) (a0_0 : Int) (l0_1 : List Int) : Option (Int × List Int × Bool) := (impl_GapsOk.f k a0_0 l0_1).bind fun t168 => (if t168 = true then ((impl_Gaps_clone.f a0_0 l0_1).bind fun bt169 => (impl_GapsClose.l0 k (wrap64 (bt169.1 + 1)) (wrap64 (bt169.1 + 1)) 0 bt169.1 bt169.2)) else (some (0, ([] : List Int), false)))
mutual
def laws_FnExactGapsClose.j0 : Nat → Bool → Bool → Bool → Int → List Int → Int → List Int → Int → List Int → Int → List Int → Option (Bool)
  | 0, _, _, _, _, _, _, _, _, _, _, _ => none
  | k + 1, x5, x8, x40, x182000, x182001, x193000, x193001, x198000, x198001, x204000, x204001 => if x40 = true then (some false) else ((laws_toGaps.f k x182000 x182001).bind fun bt205 => ((laws_eqGaps.f k x198000 x198001 bt205.1 bt205.2).bind fun t209 => (if t209 = true then ((laws_markGaps.f k x198000 x198001 1).bind fun bt210 => (if bt210.1 < 0 then (laws_FnExactGapsClose.j1 k x5 true x182000 x182001 x193000 x193001 x204000 x204001) else ((laws_eqGaps.f k x204000 x204001 x193000 x193001).bind fun t212 => (if t212 = true then (laws_FnExactGapsClose.j1 k x5 (x8 != x5) x182000 x182001 x193000 x193001 x204000 x204001) else (laws_FnExactGapsClose.j1 k x5 true x182000 x182001 x193000 x193001 x204000 x204001))))) else (some false))))
def laws_FnExactGapsClose.j1 : Nat → Bool → Bool → Int → List Int → Int → List Int → Int → List Int → Option (Bool)
  | 0, _, _, _, _, _, _, _, _ => none
  | k + 1, x5, x61, x182000, x182001, x193000, x193001, x204000, x204001 => if x61 = true then (some false) else ((laws_markGaps.f k x204000 x204001 1).bind fun bt213 => ((laws_heldGaps.f k x204000 bt213.2 1).bind fun t215 => (if t215 < 0 then (some false) else (if t215 = bt213.1 then ((laws_toGaps.f k x182000 x182001).bind fun bt216 => ((impl_GapsClose.f k bt216.1 bt216.2).bind fun bt220 => ((laws_eqGaps.f k bt220.1 bt220.2.1 x193000 x193001).bind fun t226 => (if t226 = true then (laws_FnExactGapsClose.j2 k bt213.1 (bt220.2.2 != x5) x204000 bt213.2) else (laws_FnExactGapsClose.j2 k bt213.1 true x204000 bt213.2))))) else (some false)))))
def laws_FnExactGapsClose.j2 : Nat → Int → Bool → Int → List Int → Option (Bool)
  | 0, _, _, _, _ => none
  | k + 1, x10, x87, x204000, x204001 => if x87 = true then (some false) else ((laws_heldGaps.f k x204000 x204001 1).bind fun t227 => (if t227 < 0 then (some false) else (if t227 = x10 then (some true) else (some false))))
end
def laws_FnExactGapsClose.f (k : Nat) (a0_0 : Int) (l0_1 : List Int) : Option (Bool) := (laws_szGaps.f a0_0 l0_1 1048576).bind fun t182 => (if t182 < 0 then (some true) else ((laws_toGaps.f k a0_0 l0_1).bind fun bt183 => ((spec_GapsClose.f k bt183.1 bt183.2).bind fun bt187 => ((laws_toGaps.f k a0_0 l0_1).bind fun bt193 => ((impl_GapsClose.f k bt193.1 bt193.2).bind fun bt198 => ((laws_eqGaps.f k bt198.1 bt198.2.1 bt187.1 bt187.2.1).bind fun t204 => (if t204 = true then (laws_FnExactGapsClose.j0 k bt187.2.2 bt198.2.2 (bt198.2.2 != bt187.2.2) a0_0 l0_1 bt187.1 bt187.2.1 bt193.1 bt193.2 bt198.1 bt198.2.1) else (laws_FnExactGapsClose.j0 k bt187.2.2 bt198.2.2 true a0_0 l0_1 bt187.1 bt187.2.1 bt193.1 bt193.2 bt198.1 bt198.2.1))))))))
end Go.Proofs.Ytmdcgkkkfncieaa.PFnExactGapsClose
