/- The program's functions that the law reaches, as plain Lean functions. Conditions: none. -/
import Derived.Test.YtmdcgkkkfncieaaQFnExactGapsJoinx0
namespace Go.Proofs.Ytmdcgkkkfncieaa.PFnExactGapsJoin
open Go.RowKit Go.Proofs.YtmdcgkkkfncieaaW.PrintWords Go.Proofs.YtmdcgkkkfncieaaW.PrintLast Go.Proofs.YtmdcgkkkfncieaaW.PrintMore
set_option linter.unusedVariables false

def laws_szIntS.f (l0 : List Int) (a1 : Int) : Option (Int) := if (wrap64 (a1 - (l0.length : Int))) < 0 then (some (-1)) else (some (wrap64 (a1 - (l0.length : Int))))
def laws_szGaps.f (a0_0 : Int) (l0_1 : List Int) (a1 : Int) : Option (Int) := (laws_szIntS.f l0_1 a1).bind fun t102 => (if t102 < 0 then (some (-1)) else (some t102))
def laws_toIntS.l0 : Nat → List Int → List Int → Int → Option (List Int)
  | 0, _, _, _ => none
  | k + 1, x0, x3, x4 => if x4 < (x0.length : Int) then (if 0 ≤ x4 then (if x4 < (x3.length : Int) then (laws_toIntS.l0 k x0 (x3.set (x4 : Int).toNat (rd x0 x4)) (wrap64 (x4 + 1))) else (none)) else (none)) else (some x3)
def laws_toIntS.f (k : Nat) (l0 : List Int) : Option (List Int) := if 0 ≤ (l0.length : Int) then (if ((l0.length : Int) : Int).toNat ≤ 35184372088832 then (laws_toIntS.l0 k l0 (List.replicate ((l0.length : Int) : Int).toNat 0) 0) else (none)) else (none)
def laws_toGaps.f (k : Nat) (a0_0 : Int) (l0_1 : List Int) : Option (Int × List Int) := (laws_toIntS.f k l0_1).bind fun t111 => (some (a0_0, t111))
def laws_eqIntS.l0 : Nat → List Int → List Int → Int → Option (Bool)
  | 0, _, _, _ => none
  | k + 1, x0, x1, x5 => if x5 < (x0.length : Int) then (if 0 ≤ x5 then (if x5 < (x1.length : Int) then (if (rd x0 x5) = (rd x1 x5) then (laws_eqIntS.l0 k x0 x1 (wrap64 (x5 + 1))) else (some false)) else (none)) else (none)) else (some true)
def laws_eqIntS.f (k : Nat) (l0 : List Int) (l1 : List Int) : Option (Bool) := if (l0.length : Int) = (l1.length : Int) then (laws_eqIntS.l0 k l0 l1 0) else (some false)
def laws_eqGaps.f (k : Nat) (a0_0 : Int) (l0_1 : List Int) (a1_0 : Int) (l1_1 : List Int) : Option (Bool) := if a0_0 = a1_0 then ((laws_eqIntS.f k l0_1 l1_1).bind fun t118 => (if t118 = true then (some true) else (some false))) else (some false)
def laws_markIntS.l0 : Nat → List Int → Int → Int → Option (Int × List Int)
  | 0, _, _, _ => none
  | k + 1, x0, x1, x5 => if x5 < (x0.length : Int) then (if 0 ≤ x5 then (laws_markIntS.l0 k (x0.set (x5 : Int).toNat x1) (wrap64 (x1 + 1)) (wrap64 (x5 + 1))) else (none)) else (some (x1, x0))
def laws_markIntS.f (k : Nat) (l0 : List Int) (a1 : Int) : Option (Int × List Int) := laws_markIntS.l0 k l0 a1 0
def laws_markGaps.f (k : Nat) (a0_0 : Int) (l0_1 : List Int) (a1 : Int) : Option (Int × List Int) := (laws_markIntS.f k l0_1 a1).bind fun bt121 => (some (bt121.1, bt121.2))
def laws_heldIntS.l0 : Nat → List Int → Int → Int → Option (Int)
  | 0, _, _, _ => none
  | k + 1, x0, x1, x5 => if x5 < (x0.length : Int) then (if 0 ≤ x5 then (if (rd x0 x5) = x1 then (laws_heldIntS.l0 k x0 (wrap64 (x1 + 1)) (wrap64 (x5 + 1))) else (some (-1))) else (none)) else (some x1)
def laws_heldIntS.f (k : Nat) (l0 : List Int) (a1 : Int) : Option (Int) := laws_heldIntS.l0 k l0 a1 0
def laws_heldGaps.f (k : Nat) (a0_0 : Int) (l0_1 : List Int) (a1 : Int) : Option (Int) := (laws_heldIntS.f k l0_1 a1).bind fun t125 => (if t125 < 0 then (some (-1)) else (some t125))
def spec_l1In.f (a0 : Int) (a1 : Int) (a2 : Int) : Option (Bool) := if a0 ≥ a1 then (some (decide (a0 ≤ a2))) else (some false)
def spec_l11At.f (a0_0 : Int) (l0_1 : List Int) (a1 : Int) (a2 : Int) : Option (Int) := if 0 ≤ (wrap64 ((wrap64 (a1 * (wrap64 (a0_0 + 1)))) + a2)) then (if (wrap64 ((wrap64 (a1 * (wrap64 (a0_0 + 1)))) + a2)) < (l0_1.length : Int) then (some (rd l0_1 (wrap64 ((wrap64 (a1 * (wrap64 (a0_0 + 1)))) + a2)))) else (none)) else (none)
mutual
def spec_GapsOk.j0 : Nat → Bool → Int → List Int → Option (Bool)
  | 0, _, _, _ => none
  | k + 1, x22, x129000, x129001 => if x22 = true then (some false) else (spec_GapsOk.l0 k 0 x129000 x129001)
def spec_GapsOk.l0 : Nat → Int → Int → List Int → Option (Bool)
  | 0, _, _, _ => none
  | k + 1, x3, x129000, x129001 => if x3 ≤ x129000 then (spec_GapsOk.l1 k x3 0 x129000 x129001) else (some true)
def spec_GapsOk.l1 : Nat → Int → Int → Int → List Int → Option (Bool)
  | 0, _, _, _, _ => none
  | k + 1, x3, x4, x129000, x129001 => if x4 ≤ x129000 then ((spec_l11At.f x129000 x129001 x3 x4).bind fun t130 => ((spec_l1In.f t130 (-1099511627776) 1099511627776).bind fun t131 => (if t131 = true then (if x3 = x4 then (if t130 = 0 then (spec_GapsOk.l1 k x3 (wrap64 (x4 + 1)) x129000 x129001) else (some false)) else (spec_GapsOk.l1 k x3 (wrap64 (x4 + 1)) x129000 x129001)) else (some false)))) else (spec_GapsOk.l0 k (wrap64 (x3 + 1)) x129000 x129001)
end
def spec_GapsOk.f (k : Nat) (a0_0 : Int) (l0_1 : List Int) : Option (Bool) := (spec_l1In.f a0_0 0 12).bind fun t129 => (if t129 = true then (spec_GapsOk.j0 k ((l0_1.length : Int) != (wrap64 ((wrap64 (a0_0 + 1)) * (wrap64 (a0_0 + 1))))) a0_0 l0_1) else (spec_GapsOk.j0 k true a0_0 l0_1))
def spec_l11Two.f (k : Nat) (a0_0 : Int) (l0_1 : List Int) (a1_0 : Int) (l1_1 : List Int) : Option (Bool) := (spec_GapsOk.f k a0_0 l0_1).bind fun t134 => (if t134 = true then ((spec_GapsOk.f k a1_0 l1_1).bind fun t135 => (if t135 = true then (some (a0_0 == a1_0)) else (some false))) else (some false))
def spec_l8Max.f (a0 : Int) (a1 : Int) : Option (Int) := if a0 > a1 then (some a0) else (some a1)
def spec_GapsJoin.l0 : Nat → Int → Int → List Int → Int → List Int → Int → List Int → Option (Int × List Int)
  | 0, _, _, _, _, _, _, _ => none
  | k + 1, x6, x137000, x137001, x138000, x138001, x141000, x141001 => if x6 < (x137001.length : Int) then (if 0 ≤ x6 then (if x6 < (x138001.length : Int) then ((spec_l8Max.f (rd x137001 x6) (rd x138001 x6)).bind fun t143 => (if x141001.length < 17592186044416 then (spec_GapsJoin.l0 k (wrap64 (x6 + 1)) x137000 x137001 x138000 x138001 x141000 (x141001 ++ [t143])) else (none))) else (none)) else (none)) else (some (x141000, x141001))
def spec_GapsJoin.f (k : Nat) (a0_0 : Int) (l0_1 : List Int) (a1_0 : Int) (l1_1 : List Int) : Option (Int × List Int) := (spec_l11Two.f k a0_0 l0_1 a1_0 l1_1).bind fun t139 => (if t139 = true then (spec_GapsJoin.l0 k 0 a0_0 l0_1 a1_0 l1_1 a0_0 ([] : List Int)) else (some (0, ([] : List Int))))
def impl_Gaps_at.f (a0_0 : Int) (l0_1 : List Int) (a1 : Int) (a2 : Int) : Option (Int) := some (wrap64 ((wrap64 (a1 * (wrap64 (a0_0 + 1)))) + a2))
mutual
def impl_GapsOk.j0 : Nat → Bool → Int → List Int → Option (Bool)
  | 0, _, _, _ => none
  | k + 1, x26, x149000, x149001 => if x26 = true then (some false) else (impl_GapsOk.l0 k (wrap64 (x149000 + 1)) 0 x149000 x149001)
def impl_GapsOk.l0 : Nat → Int → Int → Int → List Int → Option (Bool)
  | 0, _, _, _, _ => none
  | k + 1, x29, x30, x149000, x149001 => if x30 < x29 then ((impl_Gaps_at.f x149000 x149001 x30 x30).bind fun t149 => (if 0 ≤ t149 then (if t149 < (x149001.length : Int) then (if (rd x149001 t149) = 0 then (impl_GapsOk.l0 k x29 (wrap64 (x30 + 1)) x149000 x149001) else (some false)) else (none)) else (none))) else (impl_GapsOk.l1 k x149001 (x149001.length : Int) 0)
def impl_GapsOk.l1 : Nat → List Int → Int → Int → Option (Bool)
  | 0, _, _, _ => none
  | k + 1, x44, x45, x46 => if x46 < x45 then (if 0 ≤ x46 then (if x46 < (x44.length : Int) then (if (rd x44 x46) < (-1099511627776) then (some false) else (if (rd x44 x46) > 1099511627776 then (some false) else (impl_GapsOk.l1 k x44 x45 (wrap64 (x46 + 1))))) else (none)) else (none)) else (some true)
end
def impl_GapsOk.f (k : Nat) (a0_0 : Int) (l0_1 : List Int) : Option (Bool) := if a0_0 < 0 then (impl_GapsOk.j0 k true a0_0 l0_1) else (if a0_0 > 12 then (impl_GapsOk.j0 k true a0_0 l0_1) else (impl_GapsOk.j0 k ((l0_1.length : Int) != (wrap64 ((wrap64 (a0_0 + 1)) * (wrap64 (a0_0 + 1))))) a0_0 l0_1))
def impl_Gaps_clone.f (a0_0 : Int) (l0_1 : List Int) : Option (Int × List Int) := if ([] : List Int).length + l0_1.length < 17592186044416 then (some (a0_0, (([] : List Int) ++ l0_1))) else (none)
mutual
def impl_GapsJoin.j0 : Nat → Bool → Int → List Int → Int → List Int → Option (Int × List Int)
  | 0, _, _, _, _, _ => none
  | k + 1, x22, x158000, x158001, x159000, x159001 => if x22 = true then (some (0, ([] : List Int))) else ((impl_Gaps_clone.f x158000 x158001).bind fun bt162 => (impl_GapsJoin.l0 k x159001 (x159001.length : Int) 0 bt162.1 bt162.2))
def impl_GapsJoin.l0 : Nat → List Int → Int → Int → Int → List Int → Option (Int × List Int)
  | 0, _, _, _, _, _ => none
  | k + 1, x27, x28, x29, x167000, x167001 => if x29 < x28 then (if 0 ≤ x29 then (if x29 < (x27.length : Int) then (if x29 < (x167001.length : Int) then (impl_GapsJoin.l0 k x27 x28 (wrap64 (x29 + 1)) x167000 (x167001.set (x29 : Int).toNat (mx (rd x167001 x29) (rd x27 x29)))) else (none)) else (none)) else (none)) else (some (x167000, x167001))
end
def impl_GapsJoin.f (k : Nat) (a0_0 : Int) (l0_1 : List Int) (a1_0 : Int) (l1_1 : List Int) : Option (Int × List Int) := (impl_GapsOk.f k a0_0 l0_1).bind fun t160 => (if t160 = true then ((impl_GapsOk.f k a1_0 l1_1).bind fun t161 => (if t161 = true then (impl_GapsJoin.j0 k (a0_0 != a1_0) a0_0 l0_1 a1_0 l1_1) else (impl_GapsJoin.j0 k true a0_0 l0_1 a1_0 l1_1))) else (impl_GapsJoin.j0 k true a0_0 l0_1 a1_0 l1_1))
def laws_FnExactGapsJoin.j0 : Nat → Bool → Int → List Int → Int → List Int → Int → List Int → Int → List Int → Option (Bool)
  | 0, _, _, _, _, _, _, _, _, _ => none
  | k + 1, x63, x171000, x171001, x172000, x172001, x187000, x187001, x202000, x202001 => if x63 = true then (some false) else ((laws_markGaps.f k x202000 x202001 1).bind fun bt218 => ((laws_heldGaps.f k x202000 bt218.2 1).bind fun t220 => (if t220 < 0 then (some false) else (if t220 = bt218.1 then ((laws_toGaps.f k x171000 x171001).bind fun bt221 => ((laws_toGaps.f k x172000 x172001).bind fun bt225 => ((impl_GapsJoin.f k bt221.1 bt221.2 bt225.1 bt225.2).bind fun bt229 => ((laws_eqGaps.f k bt229.1 bt229.2 x187000 x187001).bind fun t234 => (if t234 = true then ((laws_heldGaps.f k x202000 bt218.2 1).bind fun t235 => (if t235 < 0 then (some false) else (if t235 = bt218.1 then (some true) else (some false)))) else (some false)))))) else (some false)))))
def laws_FnExactGapsJoin.f (k : Nat) (a0_0 : Int) (l0_1 : List Int) (a1_0 : Int) (l1_1 : List Int) : Option (Bool) := (laws_szGaps.f a0_0 l0_1 1048576).bind fun t172 => (if t172 < 0 then (some true) else ((laws_szGaps.f a1_0 l1_1 t172).bind fun t173 => (if t173 < 0 then (some true) else ((laws_toGaps.f k a0_0 l0_1).bind fun bt174 => ((laws_toGaps.f k a1_0 l1_1).bind fun bt178 => ((spec_GapsJoin.f k bt174.1 bt174.2 bt178.1 bt178.2).bind fun bt182 => ((laws_toGaps.f k a0_0 l0_1).bind fun bt187 => ((laws_toGaps.f k a1_0 l1_1).bind fun bt192 => ((impl_GapsJoin.f k bt187.1 bt187.2 bt192.1 bt192.2).bind fun bt197 => ((laws_eqGaps.f k bt197.1 bt197.2 bt182.1 bt182.2).bind fun t202 => (if t202 = true then ((laws_toGaps.f k a0_0 l0_1).bind fun bt203 => ((laws_eqGaps.f k bt187.1 bt187.2 bt203.1 bt203.2).bind fun t207 => (if t207 = true then ((laws_toGaps.f k a1_0 l1_1).bind fun bt208 => ((laws_eqGaps.f k bt192.1 bt192.2 bt208.1 bt208.2).bind fun t212 => (if t212 = true then ((laws_markGaps.f k bt187.1 bt187.2 1).bind fun bt213 => ((laws_markGaps.f k bt192.1 bt192.2 bt213.1).bind fun bt215 => (if bt215.1 < 0 then (laws_FnExactGapsJoin.j0 k true a0_0 l0_1 a1_0 l1_1 bt182.1 bt182.2 bt197.1 bt197.2) else ((laws_eqGaps.f k bt197.1 bt197.2 bt182.1 bt182.2).bind fun t217 => (laws_FnExactGapsJoin.j0 k (!t217) a0_0 l0_1 a1_0 l1_1 bt182.1 bt182.2 bt197.1 bt197.2))))) else (some false)))) else (some false)))) else (some false))))))))))))
end Go.Proofs.Ytmdcgkkkfncieaa.PFnExactGapsJoin
