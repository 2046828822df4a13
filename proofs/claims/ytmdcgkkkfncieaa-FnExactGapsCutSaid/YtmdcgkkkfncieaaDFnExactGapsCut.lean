/- The program's functions that the law reaches, as plain Lean functions. Conditions: none. -/
import Derived.Test.YtmdcgkkkfncieaaQFnExactGapsCutx0
namespace Go.Proofs.Ytmdcgkkkfncieaa.PFnExactGapsCut
open Go.RowKit Go.Proofs.YtmdcgkkkfncieaaW.PrintWords Go.Proofs.YtmdcgkkkfncieaaW.PrintLast Go.Proofs.YtmdcgkkkfncieaaW.PrintMore
set_option linter.unusedVariables false

def laws_szIntS.f (l0 : List Int) (a1 : Int) : Option (Int) := if (wrap64 (a1 - (l0.length : Int))) < 0 then (some (-1)) else (some (wrap64 (a1 - (l0.length : Int))))
def laws_szGaps.f (a0_0 : Int) (l0_1 : List Int) (a1 : Int) : Option (Int) := (laws_szIntS.f l0_1 a1).bind fun t102 => (if t102 < 0 then (some (-1)) else (some t102))
def laws_toIntS.l0 : Nat → List Int → List Int → Int → Option (List Int)
  | 0, _, _, _ => none
  | k + 1, x0, x3, x4 => if x4 < (x0.length : Int) then (if 0 ≤ x4 then (if x4 < (x3.length : Int) then (laws_toIntS.l0 k x0 (x3.set (x4 : Int).toNat (rd x0 x4)) (wrap64 (x4 + 1))) else (none)) else (none)) else (some x3)
def laws_toIntS.f (k : Nat) (l0 : List Int) : Option (List Int) := if 0 ≤ (l0.length : Int) then (if ((l0.length : Int) : Int).toNat ≤ 35184372088832 then (laws_toIntS.l0 k l0 (List.replicate ((l0.length : Int) : Int).toNat 0) 0) else (none)) else (none)
def laws_toGaps.f (k : Nat) (a0_0 : Int) (l0_1 : List Int) : Option (Int × List Int) := (laws_toIntS.f k l0_1).bind fun t111 => (some (a0_0, t111))
def laws_eqIntS.l0 : Nat → List Int → List Int → Int → Option (Bool)
  | 0, _, _, _ => none
  | k + 1, x0, x1, x5 => if x5 < (x0.length : Int) then (if 0 ≤ x5 then (if x5 < (x1.length : Int) then (if (rd x0 x5) = (rd x1 x5) then (laws_eqIntS.l0 k x0 x1 (wrap64 (x5 + 1))) else (some false)) else (none)) else (none)) else (some true)
def laws_eqIntS.f (k : Nat) (l0 : List Int) (l1 : List Int) : Option (Bool) := if (l0.length : Int) = (l1.length : Int) then (laws_eqIntS.l0 k l0 l1 0) else (some false)
def laws_eqGaps.f (k : Nat) (a0_0 : Int) (l0_1 : List Int) (a1_0 : Int) (l1_1 : List Int) : Option (Bool) := if a0_0 = a1_0 then ((laws_eqIntS.f k l0_1 l1_1).bind fun t118 => (if t118 = true then (some true) else (some false))) else (some false)
def laws_markIntS.l0 : Nat → List Int → Int → Int → Option (Int × List Int)
  | 0, _, _, _ => none
  | k + 1, x0, x1, x5 => if x5 < (x0.length : Int) then (if 0 ≤ x5 then (laws_markIntS.l0 k (x0.set (x5 : Int).toNat x1) (wrap64 (x1 + 1)) (wrap64 (x5 + 1))) else (none)) else (some (x1, x0))
def laws_markIntS.f (k : Nat) (l0 : List Int) (a1 : Int) : Option (Int × List Int) := laws_markIntS.l0 k l0 a1 0
def laws_markGaps.f (k : Nat) (a0_0 : Int) (l0_1 : List Int) (a1 : Int) : Option (Int × List Int) := (laws_markIntS.f k l0_1 a1).bind fun bt121 => (some (bt121.1, bt121.2))
def laws_heldIntS.l0 : Nat → List Int → Int → Int → Option (Int)
  | 0, _, _, _ => none
  | k + 1, x0, x1, x5 => if x5 < (x0.length : Int) then (if 0 ≤ x5 then (if (rd x0 x5) = x1 then (laws_heldIntS.l0 k x0 (wrap64 (x1 + 1)) (wrap64 (x5 + 1))) else (some (-1))) else (none)) else (some x1)
def laws_heldIntS.f (k : Nat) (l0 : List Int) (a1 : Int) : Option (Int) := laws_heldIntS.l0 k l0 a1 0
def laws_heldGaps.f (k : Nat) (a0_0 : Int) (l0_1 : List Int) (a1 : Int) : Option (Int) := (laws_heldIntS.f k l0_1 a1).bind fun t125 => (if t125 < 0 then (some (-1)) else (some t125))
def spec_l1In.f (a0 : Int) (a1 : Int) (a2 : Int) : Option (Bool) := if a0 ≥ a1 then (some (decide (a0 ≤ a2))) else (some false)
def spec_l11At.f (a0_0 : Int) (l0_1 : List Int) (a1 : Int) (a2 : Int) : Option (Int) := if 0 ≤ (wrap64 ((wrap64 (a1 * (wrap64 (a0_0 + 1)))) + a2)) then (if (wrap64 ((wrap64 (a1 * (wrap64 (a0_0 + 1)))) + a2)) < (l0_1.length : Int) then (some (rd l0_1 (wrap64 ((wrap64 (a1 * (wrap64 (a0_0 + 1)))) + a2)))) else (none)) else (none)
mutual
def spec_GapsOk.j0 : Nat → Bool → Int → List Int → Option (Bool)
  | 0, _, _, _ => none
  | k + 1, x22, x129000, x129001 => if x22 = true then (some false) else (spec_GapsOk.l0 k 0 x129000 x129001)
def spec_GapsOk.l0 : Nat → Int → Int → List Int → Option (Bool)
  | 0, _, _, _ => none
  | k + 1, x3, x129000, x129001 => if x3 ≤ x129000 then (spec_GapsOk.l1 k x3 0 x129000 x129001) else (some true)
def spec_GapsOk.l1 : Nat → Int → Int → Int → List Int → Option (Bool)
  | 0, _, _, _, _ => none
  | k + 1, x3, x4, x129000, x129001 => if x4 ≤ x129000 then ((spec_l11At.f x129000 x129001 x3 x4).bind fun t130 => ((spec_l1In.f t130 (-1099511627776) 1099511627776).bind fun t131 => (if t131 = true then (if x3 = x4 then (if t130 = 0 then (spec_GapsOk.l1 k x3 (wrap64 (x4 + 1)) x129000 x129001) else (some false)) else (spec_GapsOk.l1 k x3 (wrap64 (x4 + 1)) x129000 x129001)) else (some false)))) else (spec_GapsOk.l0 k (wrap64 (x3 + 1)) x129000 x129001)
end
def spec_GapsOk.f (k : Nat) (a0_0 : Int) (l0_1 : List Int) : Option (Bool) := (spec_l1In.f a0_0 0 12).bind fun t129 => (if t129 = true then (spec_GapsOk.j0 k ((l0_1.length : Int) != (wrap64 ((wrap64 (a0_0 + 1)) * (wrap64 (a0_0 + 1))))) a0_0 l0_1) else (spec_GapsOk.j0 k true a0_0 l0_1))
def spec_l11C.f (a0 : Int) : Option (Bool) := (spec_l1In.f a0 (-4294967296) 4294967296).bind fun t132 => (some t132)
def spec_l11Copy.l0 : Nat → Int → Int → List Int → Int → List Int → Option (Int × List Int)
  | 0, _, _, _, _, _ => none
  | k + 1, x4, x134000, x134001, x136000, x136001 => if x4 < (x134001.length : Int) then (if 0 ≤ x4 then (if x136001.length < 17592186044416 then (spec_l11Copy.l0 k (wrap64 (x4 + 1)) x134000 x134001 x136000 (x136001 ++ [rd x134001 x4])) else (none)) else (none)) else (some (x136000, x136001))
def spec_l11Copy.f (k : Nat) (a0_0 : Int) (l0_1 : List Int) : Option (Int × List Int) := spec_l11Copy.l0 k 0 a0_0 l0_1 a0_0 ([] : List Int)
def spec_l11Put.f (a0_0 : Int) (l0_1 : List Int) (a1 : Int) (a2 : Int) (a3 : Int) : Option (List Int) := if 0 ≤ (wrap64 ((wrap64 (a1 * (wrap64 (a0_0 + 1)))) + a2)) then (if (wrap64 ((wrap64 (a1 * (wrap64 (a0_0 + 1)))) + a2)) < (l0_1.length : Int) then (some (l0_1.set ((wrap64 ((wrap64 (a1 * (wrap64 (a0_0 + 1)))) + a2)) : Int).toNat a3)) else (none)) else (none)
def spec_GapsCut.j0 : Nat → Int → Int → Int → Bool → Int → List Int → Option (Int × List Int)
  | 0, _, _, _, _, _, _ => none
  | k + 1, x1, x2, x3, x36, x143000, x143001 => if x36 = true then (some (0, ([] : List Int))) else ((spec_l11Copy.f k x143000 x143001).bind fun bt148 => ((spec_l11At.f x143000 x143001 x1 x2).bind fun t153 => (if x3 < t153 then ((spec_l11Put.f bt148.1 bt148.2 x1 x2 x3).bind fun t154 => (some (bt148.1, t154))) else (some (bt148.1, bt148.2)))))
def spec_GapsCut.f (k : Nat) (a0_0 : Int) (l0_1 : List Int) (a1 : Int) (a2 : Int) (a3 : Int) : Option (Int × List Int) := (spec_GapsOk.f k a0_0 l0_1).bind fun t144 => (if t144 = true then ((spec_l1In.f a1 0 a0_0).bind fun t145 => (if t145 = true then ((spec_l1In.f a2 0 a0_0).bind fun t146 => (if t146 = true then (if a1 = a2 then (spec_GapsCut.j0 k a1 a2 a3 true a0_0 l0_1) else ((spec_l11C.f a3).bind fun t147 => (spec_GapsCut.j0 k a1 a2 a3 (!t147) a0_0 l0_1))) else (spec_GapsCut.j0 k a1 a2 a3 true a0_0 l0_1))) else (spec_GapsCut.j0 k a1 a2 a3 true a0_0 l0_1))) else (spec_GapsCut.j0 k a1 a2 a3 true a0_0 l0_1))
def impl_Gaps_at.f (a0_0 : Int) (l0_1 : List Int) (a1 : Int) (a2 : Int) : Option (Int) := some (wrap64 ((wrap64 (a1 * (wrap64 (a0_0 + 1)))) + a2))
mutual
def impl_GapsOk.j0 : Nat → Bool → Int → List Int → Option (Bool)
  | 0, _, _, _ => none
  | k + 1, x26, x157000, x157001 => if x26 = true then (some false) else (impl_GapsOk.l0 k (wrap64 (x157000 + 1)) 0 x157000 x157001)
def impl_GapsOk.l0 : Nat → Int → Int → Int → List Int → Option (Bool)
  | 0, _, _, _, _ => none
  | k + 1, x29, x30, x157000, x157001 => if x30 < x29 then ((impl_Gaps_at.f x157000 x157001 x30 x30).bind fun t157 => (if 0 ≤ t157 then (if t157 < (x157001.length : Int) then (if (rd x157001 t157) = 0 then (impl_GapsOk.l0 k x29 (wrap64 (x30 + 1)) x157000 x157001) else (some false)) else (none)) else (none))) else (impl_GapsOk.l1 k x157001 (x157001.length : Int) 0)
def impl_GapsOk.l1 : Nat → List Int → Int → Int → Option (Bool)
  | 0, _, _, _ => none
  | k + 1, x44, x45, x46 => if x46 < x45 then (if 0 ≤ x46 then (if x46 < (x44.length : Int) then (if (rd x44 x46) < (-1099511627776) then (some false) else (if (rd x44 x46) > 1099511627776 then (some false) else (impl_GapsOk.l1 k x44 x45 (wrap64 (x46 + 1))))) else (none)) else (none)) else (some true)
end
def impl_GapsOk.f (k : Nat) (a0_0 : Int) (l0_1 : List Int) : Option (Bool) := if a0_0 < 0 then (impl_GapsOk.j0 k true a0_0 l0_1) else (if a0_0 > 12 then (impl_GapsOk.j0 k true a0_0 l0_1) else (impl_GapsOk.j0 k ((l0_1.length : Int) != (wrap64 ((wrap64 (a0_0 + 1)) * (wrap64 (a0_0 + 1))))) a0_0 l0_1))
def impl_Gaps_clone.f (a0_0 : Int) (l0_1 : List Int) : Option (Int × List Int) := if ([] : List Int).length + l0_1.length < 17592186044416 then (some (a0_0, (([] : List Int) ++ l0_1))) else (none)
def impl_GapsCut.j0 : Nat → Int → Int → Int → Bool → Int → List Int → Option (Int × List Int)
  | 0, _, _, _, _, _, _ => none
  | k + 1, x1, x2, x3, x45, x166000, x166001 => if x45 = true then (some (0, ([] : List Int))) else ((impl_Gaps_clone.f x166000 x166001).bind fun bt168 => ((impl_Gaps_at.f x166000 x166001 x1 x2).bind fun t173 => ((impl_Gaps_at.f x166000 x166001 x1 x2).bind fun t174 => (if 0 ≤ t174 then (if t174 < (bt168.2.length : Int) then (if 0 ≤ t173 then (if t173 < (bt168.2.length : Int) then (some (bt168.1, (bt168.2.set (t173 : Int).toNat (mn (rd bt168.2 t174) x3)))) else (none)) else (none)) else (none)) else (none)))))
def impl_GapsCut.f (k : Nat) (a0_0 : Int) (l0_1 : List Int) (a1 : Int) (a2 : Int) (a3 : Int) : Option (Int × List Int) := (impl_GapsOk.f k a0_0 l0_1).bind fun t167 => (if t167 = true then (if a1 < 0 then (impl_GapsCut.j0 k a1 a2 a3 true a0_0 l0_1) else (if a1 > a0_0 then (impl_GapsCut.j0 k a1 a2 a3 true a0_0 l0_1) else (if a2 < 0 then (impl_GapsCut.j0 k a1 a2 a3 true a0_0 l0_1) else (if a2 > a0_0 then (impl_GapsCut.j0 k a1 a2 a3 true a0_0 l0_1) else (if a1 = a2 then (impl_GapsCut.j0 k a1 a2 a3 true a0_0 l0_1) else (if a3 < (-4294967296) then (impl_GapsCut.j0 k a1 a2 a3 true a0_0 l0_1) else (impl_GapsCut.j0 k a1 a2 a3 (decide (a3 > 4294967296)) a0_0 l0_1))))))) else (impl_GapsCut.j0 k a1 a2 a3 true a0_0 l0_1))
def laws_FnExactGapsCut.j0 : Nat → Int → Int → Int → Bool → Int → List Int → Int → List Int → Int → List Int → Option (Bool)
  | 0, _, _, _, _, _, _, _, _, _, _ => none
  | k + 1, x1, x2, x3, x54, x178000, x178001, x188000, x188001, x198000, x198001 => if x54 = true then (some false) else ((laws_markGaps.f k x198000 x198001 1).bind fun bt207 => ((laws_heldGaps.f k x198000 bt207.2 1).bind fun t209 => (if t209 < 0 then (some false) else (if t209 = bt207.1 then ((laws_toGaps.f k x178000 x178001).bind fun bt210 => ((impl_GapsCut.f k bt210.1 bt210.2 x1 x2 x3).bind fun bt214 => ((laws_eqGaps.f k bt214.1 bt214.2 x188000 x188001).bind fun t219 => (if t219 = true then ((laws_heldGaps.f k x198000 bt207.2 1).bind fun t220 => (if t220 < 0 then (some false) else (if t220 = bt207.1 then (some true) else (some false)))) else (some false))))) else (some false)))))
def laws_FnExactGapsCut.f (k : Nat) (a0_0 : Int) (l0_1 : List Int) (a1 : Int) (a2 : Int) (a3 : Int) : Option (Bool) := (laws_szGaps.f a0_0 l0_1 1048576).bind fun t178 => (if t178 < 0 then (some true) else ((laws_toGaps.f k a0_0 l0_1).bind fun bt179 => ((spec_GapsCut.f k bt179.1 bt179.2 a1 a2 a3).bind fun bt183 => ((laws_toGaps.f k a0_0 l0_1).bind fun bt188 => ((impl_GapsCut.f k bt188.1 bt188.2 a1 a2 a3).bind fun bt193 => ((laws_eqGaps.f k bt193.1 bt193.2 bt183.1 bt183.2).bind fun t198 => (if t198 = true then ((laws_toGaps.f k a0_0 l0_1).bind fun bt199 => ((laws_eqGaps.f k bt188.1 bt188.2 bt199.1 bt199.2).bind fun t203 => (if t203 = true then ((laws_markGaps.f k bt188.1 bt188.2 1).bind fun bt204 => (if bt204.1 < 0 then (laws_FnExactGapsCut.j0 k a1 a2 a3 true a0_0 l0_1 bt183.1 bt183.2 bt193.1 bt193.2) else ((laws_eqGaps.f k bt193.1 bt193.2 bt183.1 bt183.2).bind fun t206 => (laws_FnExactGapsCut.j0 k a1 a2 a3 (!t206) a0_0 l0_1 bt183.1 bt183.2 bt193.1 bt193.2)))) else (some false)))) else (some false))))))))
end Go.Proofs.Ytmdcgkkkfncieaa.PFnExactGapsCut
