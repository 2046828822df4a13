/- The program's functions that the law reaches, as plain Lean functions. Conditions: none. -/
import Derived.Test.YtmdcgkkkfncieaaQFnExactGapsMovex0
namespace Go.Proofs.Ytmdcgkkkfncieaa.PFnExactGapsMove
open Go.RowKit Go.Proofs.YtmdcgkkkfncieaaW.PrintWords Go.Proofs.YtmdcgkkkfncieaaW.PrintLast Go.Proofs.YtmdcgkkkfncieaaW.PrintMore
set_option linter.unusedVariables false

def laws_szIntS.f (l0 : List Int) (a1 : Int) : Option (Int) := if (wrap64 (a1 - (l0.length : Int))) < 0 then (some (-1)) else (some (wrap64 (a1 - (l0.length : Int))))
def laws_szGaps.f (a0_0 : Int) (l0_1 : List Int) (a1 : Int) : Option (Int) := (laws_szIntS.f l0_1 a1).bind fun t102 => (if t102 < 0 then (some (-1)) else (some t102))
def laws_toIntS.l0 : Nat → List Int → List Int → Int → Option (List Int)
  | 0, _, _, _ => none
  | k + 1, x0, x3, x4 => if x4 < (x0.length : Int) then (if 0 ≤ x4 then (if x4 < (x3.length : Int) then (laws_toIntS.l0 k x0 (x3.set (x4 : Int).toNat (rd x0 x4)) (wrap64 (x4 + 1))) else (none)) else (none)) else (some x3)
def laws_toIntS.f (k : Nat) (l0 : List Int) : Option (List Int) := if 0 ≤ (l0.length : Int) then (if ((l0.length : Int) : Int).toNat ≤ 35184372088832 then (laws_toIntS.l0 k l0 (List.replicate ((l0.length : Int) : Int).toNat 0) 0) else (none)) else (none)
def laws_toGaps.f (k : Nat) (a0_0 : Int) (l0_1 : List Int) : Option (Int × List Int) := (laws_toIntS.f k l0_1).bind fun t111 => (some (a0_0, t111))
def laws_eqIntS.l0 : Nat → List Int → List Int → Int → Option (Bool)
  | 0, _, _, _ => none
  | k + 1, x0, x1, x5 => if x5 < (x0.length : Int) then (if 0 ≤ x5 then (if x5 < (x1.length : Int) then (if (rd x0 x5) = (rd x1 x5) then (laws_eqIntS.l0 k x0 x1 (wrap64 (x5 + 1))) else (some false)) else (none)) else (none)) else (some true)
def laws_eqIntS.f (k : Nat) (l0 : List Int) (l1 : List Int) : Option (Bool) := if (l0.length : Int) = (l1.length : Int) then (laws_eqIntS.l0 k l0 l1 0) else (some false)
def laws_eqGaps.f (k : Nat) (a0_0 : Int) (l0_1 : List Int) (a1_0 : Int) (l1_1 : List Int) : Option (Bool) := if a0_0 = a1_0 then ((laws_eqIntS.f k l0_1 l1_1).bind fun t118 => (if t118 = true then (some true) else (some false))) else (some false)
def laws_markIntS.l0 : Nat → List Int → Int → Int → Option (Int × List Int)
  | 0, _, _, _ => none
  | k + 1, x0, x1, x5 => if x5 < (x0.length : Int) then (if 0 ≤ x5 then (laws_markIntS.l0 k (x0.set (x5 : Int).toNat x1) (wrap64 (x1 + 1)) (wrap64 (x5 + 1))) else (none)) else (some (x1, x0))
def laws_markIntS.f (k : Nat) (l0 : List Int) (a1 : Int) : Option (Int × List Int) := laws_markIntS.l0 k l0 a1 0
def laws_markGaps.f (k : Nat) (a0_0 : Int) (l0_1 : List Int) (a1 : Int) : Option (Int × List Int) := (laws_markIntS.f k l0_1 a1).bind fun bt121 => (some (bt121.1, bt121.2))
def laws_heldIntS.l0 : Nat → List Int → Int → Int → Option (Int)
  | 0, _, _, _ => none
  | k + 1, x0, x1, x5 => if x5 < (x0.length : Int) then (if 0 ≤ x5 then (if (rd x0 x5) = x1 then (laws_heldIntS.l0 k x0 (wrap64 (x1 + 1)) (wrap64 (x5 + 1))) else (some (-1))) else (none)) else (some x1)
def laws_heldIntS.f (k : Nat) (l0 : List Int) (a1 : Int) : Option (Int) := laws_heldIntS.l0 k l0 a1 0
def laws_heldGaps.f (k : Nat) (a0_0 : Int) (l0_1 : List Int) (a1 : Int) : Option (Int) := (laws_heldIntS.f k l0_1 a1).bind fun t125 => (if t125 < 0 then (some (-1)) else (some t125))
def spec_l1In.f (a0 : Int) (a1 : Int) (a2 : Int) : Option (Bool) := if a0 ≥ a1 then (some (decide (a0 ≤ a2))) else (some false)
def spec_l11At.f (a0_0 : Int) (l0_1 : List Int) (a1 : Int) (a2 : Int) : Option (Int) := if 0 ≤ (wrap64 ((wrap64 (a1 * (wrap64 (a0_0 + 1)))) + a2)) then (if (wrap64 ((wrap64 (a1 * (wrap64 (a0_0 + 1)))) + a2)) < (l0_1.length : Int) then (some (rd l0_1 (wrap64 ((wrap64 (a1 * (wrap64 (a0_0 + 1)))) + a2)))) else (none)) else (none)
mutual
def spec_GapsOk.j0 : Nat → Bool → Int → List Int → Option (Bool)
  | 0, _, _, _ => none
  | k + 1, x22, x129000, x129001 => if x22 = true then (some false) else (spec_GapsOk.l0 k 0 x129000 x129001)
def spec_GapsOk.l0 : Nat → Int → Int → List Int → Option (Bool)
  | 0, _, _, _ => none
  | k + 1, x3, x129000, x129001 => if x3 ≤ x129000 then (spec_GapsOk.l1 k x3 0 x129000 x129001) else (some true)
def spec_GapsOk.l1 : Nat → Int → Int → Int → List Int → Option (Bool)
  | 0, _, _, _, _ => none
  | k + 1, x3, x4, x129000, x129001 => if x4 ≤ x129000 then ((spec_l11At.f x129000 x129001 x3 x4).bind fun t130 => ((spec_l1In.f t130 (-1099511627776) 1099511627776).bind fun t131 => (if t131 = true then (if x3 = x4 then (if t130 = 0 then (spec_GapsOk.l1 k x3 (wrap64 (x4 + 1)) x129000 x129001) else (some false)) else (spec_GapsOk.l1 k x3 (wrap64 (x4 + 1)) x129000 x129001)) else (some false)))) else (spec_GapsOk.l0 k (wrap64 (x3 + 1)) x129000 x129001)
end
def spec_GapsOk.f (k : Nat) (a0_0 : Int) (l0_1 : List Int) : Option (Bool) := (spec_l1In.f a0_0 0 12).bind fun t129 => (if t129 = true then (spec_GapsOk.j0 k ((l0_1.length : Int) != (wrap64 ((wrap64 (a0_0 + 1)) * (wrap64 (a0_0 + 1))))) a0_0 l0_1) else (spec_GapsOk.j0 k true a0_0 l0_1))
def spec_l11Copy.l0 : Nat → Int → Int → List Int → Int → List Int → Option (Int × List Int)
  | 0, _, _, _, _, _ => none
  | k + 1, x4, x133000, x133001, x135000, x135001 => if x4 < (x133001.length : Int) then (if 0 ≤ x4 then (if x135001.length < 17592186044416 then (spec_l11Copy.l0 k (wrap64 (x4 + 1)) x133000 x133001 x135000 (x135001 ++ [rd x133001 x4])) else (none)) else (none)) else (some (x135000, x135001))
def spec_l11Copy.f (k : Nat) (a0_0 : Int) (l0_1 : List Int) : Option (Int × List Int) := spec_l11Copy.l0 k 0 a0_0 l0_1 a0_0 ([] : List Int)
def spec_l11Put.f (a0_0 : Int) (l0_1 : List Int) (a1 : Int) (a2 : Int) (a3 : Int) : Option (List Int) := if 0 ≤ (wrap64 ((wrap64 (a1 * (wrap64 (a0_0 + 1)))) + a2)) then (if (wrap64 ((wrap64 (a1 * (wrap64 (a0_0 + 1)))) + a2)) < (l0_1.length : Int) then (some (l0_1.set ((wrap64 ((wrap64 (a1 * (wrap64 (a0_0 + 1)))) + a2)) : Int).toNat a3)) else (none)) else (none)
mutual
def spec_GapsForget.j0 : Nat → Int → Bool → Int → List Int → Option (Int × List Int)
  | 0, _, _, _, _ => none
  | k + 1, x1, x16, x142000, x142001 => if x16 = true then (some (0, ([] : List Int))) else ((spec_l11Copy.f k x142000 x142001).bind fun bt145 => (spec_GapsForget.l0 k x1 0 x142000 x142001 bt145.1 bt145.2))
def spec_GapsForget.l0 : Nat → Int → Int → Int → List Int → Int → List Int → Option (Int × List Int)
  | 0, _, _, _, _, _, _ => none
  | k + 1, x1, x6, x142000, x142001, x150000, x150001 => if x6 ≤ x142000 then (if x6 = x1 then (spec_GapsForget.l0 k x1 (wrap64 (x6 + 1)) x142000 x142001 x150000 x150001) else ((spec_l11Put.f x150000 x150001 x6 x1 1099511627776).bind fun t150 => ((spec_l11Put.f x150000 t150 x1 x6 1099511627776).bind fun t151 => (spec_GapsForget.l0 k x1 (wrap64 (x6 + 1)) x142000 x142001 x150000 t151)))) else (some (x150000, x150001))
end
def spec_GapsForget.f (k : Nat) (a0_0 : Int) (l0_1 : List Int) (a1 : Int) : Option (Int × List Int) := (spec_GapsOk.f k a0_0 l0_1).bind fun t143 => (if t143 = true then ((spec_l1In.f a1 1 a0_0).bind fun t144 => (spec_GapsForget.j0 k a1 (!t144) a0_0 l0_1)) else (spec_GapsForget.j0 k a1 true a0_0 l0_1))
def spec_l8Max.f (a0 : Int) (a1 : Int) : Option (Int) := if a0 > a1 then (some a0) else (some a1)
def spec_l11C.f (a0 : Int) : Option (Bool) := (spec_l1In.f a0 (-4294967296) 4294967296).bind fun t152 => (some t152)
def spec_l11Add.f (a0 : Int) (a1 : Int) : Option (Int) := if a0 ≥ 1099511627776 then (some 1099511627776) else (if a1 ≥ 1099511627776 then (some 1099511627776) else (if (wrap64 (a0 + a1)) ≥ 1099511627776 then (some 1099511627776) else (some (wrap64 (a0 + a1)))))
mutual
def spec_GapsMove.j0 : Nat → Int → Int → Int → Bool → Int → List Int → Option (Int × List Int)
  | 0, _, _, _, _, _, _ => none
  | k + 1, x1, x2, x3, x33, x154000, x154001 => if x33 = true then (some (0, ([] : List Int))) else (if x1 = x2 then ((spec_l11Copy.f k x154000 x154001).bind fun bt166 => (spec_GapsMove.l0 k x1 x3 0 x154000 x154001 bt166.1 bt166.2)) else ((spec_GapsForget.f k x154000 x154001 x1).bind fun bt159 => ((spec_l11Put.f bt159.1 bt159.2 x1 x2 x3).bind fun t164 => ((spec_l11Put.f bt159.1 t164 x2 x1 (wrap64 (-x3))).bind fun t165 => (some (bt159.1, t165))))))
def spec_GapsMove.l0 : Nat → Int → Int → Int → Int → List Int → Int → List Int → Option (Int × List Int)
  | 0, _, _, _, _, _, _, _ => none
  | k + 1, x1, x3, x11, x154000, x154001, x171000, x171001 => if x11 ≤ x154000 then (if x11 = x1 then (spec_GapsMove.l0 k x1 x3 (wrap64 (x11 + 1)) x154000 x154001 x171000 x171001) else ((spec_l11At.f x154000 x154001 x1 x11).bind fun t171 => ((spec_l11Add.f t171 x3).bind fun t172 => ((spec_l8Max.f (-1099511627776) t172).bind fun t173 => ((spec_l11Put.f x171000 x171001 x1 x11 t173).bind fun t174 => ((spec_l11At.f x154000 x154001 x11 x1).bind fun t175 => ((spec_l11Add.f t175 (wrap64 (-x3))).bind fun t176 => ((spec_l8Max.f (-1099511627776) t176).bind fun t177 => ((spec_l11Put.f x171000 t174 x11 x1 t177).bind fun t178 => (spec_GapsMove.l0 k x1 x3 (wrap64 (x11 + 1)) x154000 x154001 x171000 t178)))))))))) else (some (x171000, x171001))
end
def spec_GapsMove.f (k : Nat) (a0_0 : Int) (l0_1 : List Int) (a1 : Int) (a2 : Int) (a3 : Int) : Option (Int × List Int) := (spec_GapsOk.f k a0_0 l0_1).bind fun t155 => (if t155 = true then ((spec_l1In.f a1 1 a0_0).bind fun t156 => (if t156 = true then ((spec_l1In.f a2 0 a0_0).bind fun t157 => (if t157 = true then ((spec_l11C.f a3).bind fun t158 => (spec_GapsMove.j0 k a1 a2 a3 (!t158) a0_0 l0_1)) else (spec_GapsMove.j0 k a1 a2 a3 true a0_0 l0_1))) else (spec_GapsMove.j0 k a1 a2 a3 true a0_0 l0_1))) else (spec_GapsMove.j0 k a1 a2 a3 true a0_0 l0_1))
def impl_Gaps_at.f (a0_0 : Int) (l0_1 : List Int) (a1 : Int) (a2 : Int) : Option (Int) := some (wrap64 ((wrap64 (a1 * (wrap64 (a0_0 + 1)))) + a2))
mutual
def impl_GapsOk.j0 : Nat → Bool → Int → List Int → Option (Bool)
  | 0, _, _, _ => none
  | k + 1, x26, x181000, x181001 => if x26 = true then (some false) else (impl_GapsOk.l0 k (wrap64 (x181000 + 1)) 0 x181000 x181001)
def impl_GapsOk.l0 : Nat → Int → Int → Int → List Int → Option (Bool)
  | 0, _, _, _, _ => none
  | k + 1, x29, x30, x181000, x181001 => if x30 < x29 then ((impl_Gaps_at.f x181000 x181001 x30 x30).bind fun t181 => (if 0 ≤ t181 then (if t181 < (x181001.length : Int) then (if (rd x181001 t181) = 0 then (impl_GapsOk.l0 k x29 (wrap64 (x30 + 1)) x181000 x181001) else (some false)) else (none)) else (none))) else (impl_GapsOk.l1 k x181001 (x181001.length : Int) 0)
def impl_GapsOk.l1 : Nat → List Int → Int → Int → Option (Bool)
  | 0, _, _, _ => none
  | k + 1, x44, x45, x46 => if x46 < x45 then (if 0 ≤ x46 then (if x46 < (x44.length : Int) then (if (rd x44 x46) < (-1099511627776) then (some false) else (if (rd x44 x46) > 1099511627776 then (some false) else (impl_GapsOk.l1 k x44 x45 (wrap64 (x46 + 1))))) else (none)) else (none)) else (some true)
end
def impl_GapsOk.f (k : Nat) (a0_0 : Int) (l0_1 : List Int) : Option (Bool) := if a0_0 < 0 then (impl_GapsOk.j0 k true a0_0 l0_1) else (if a0_0 > 12 then (impl_GapsOk.j0 k true a0_0 l0_1) else (impl_GapsOk.j0 k ((l0_1.length : Int) != (wrap64 ((wrap64 (a0_0 + 1)) * (wrap64 (a0_0 + 1))))) a0_0 l0_1))
def impl_Gaps_clone.f (a0_0 : Int) (l0_1 : List Int) : Option (Int × List Int) := if ([] : List Int).length + l0_1.length < 17592186044416 then (some (a0_0, (([] : List Int) ++ l0_1))) else (none)
mutual
def impl_GapsForget.j0 : Nat → Int → Bool → Int → List Int → Option (Int × List Int)
  | 0, _, _, _, _ => none
  | k + 1, x1, x19, x190000, x190001 => if x19 = true then (some (0, ([] : List Int))) else ((impl_Gaps_clone.f x190000 x190001).bind fun bt192 => (impl_GapsForget.l0 k x1 (wrap64 (x190000 + 1)) 0 x190000 x190001 bt192.1 bt192.2))
def impl_GapsForget.l0 : Nat → Int → Int → Int → Int → List Int → Int → List Int → Option (Int × List Int)
  | 0, _, _, _, _, _, _, _ => none
  | k + 1, x1, x25, x26, x190000, x190001, x197000, x197001 => if x26 < x25 then (if x26 = x1 then (impl_GapsForget.l0 k x1 x25 (wrap64 (x26 + 1)) x190000 x190001 x197000 x197001) else ((impl_Gaps_at.f x190000 x190001 x1 x26).bind fun t197 => (if 0 ≤ t197 then (if t197 < (x197001.length : Int) then ((impl_Gaps_at.f x190000 x190001 x26 x1).bind fun t199 => (if 0 ≤ t199 then (if t199 < (x197001.length : Int) then (impl_GapsForget.l0 k x1 x25 (wrap64 (x26 + 1)) x190000 x190001 x197000 ((x197001.set (t197 : Int).toNat 1099511627776).set (t199 : Int).toNat 1099511627776)) else (none)) else (none))) else (none)) else (none)))) else (some (x197000, x197001))
end
def impl_GapsForget.f (k : Nat) (a0_0 : Int) (l0_1 : List Int) (a1 : Int) : Option (Int × List Int) := (impl_GapsOk.f k a0_0 l0_1).bind fun t191 => (if t191 = true then (if a1 < 1 then (impl_GapsForget.j0 k a1 true a0_0 l0_1) else (impl_GapsForget.j0 k a1 (decide (a1 > a0_0)) a0_0 l0_1)) else (impl_GapsForget.j0 k a1 true a0_0 l0_1))
def impl_gapsTogether.f (a0 : Int) (a1 : Int) : Option (Int) := if a0 = 1099511627776 then (some 1099511627776) else (if a1 = 1099511627776 then (some 1099511627776) else (if (wrap64 (a0 + a1)) ≥ 1099511627776 then (some 1099511627776) else (some (wrap64 (a0 + a1)))))
mutual
def impl_GapsMove.j0 : Nat → Int → Int → Int → Bool → Int → List Int → Option (Int × List Int)
  | 0, _, _, _, _, _, _ => none
  | k + 1, x1, x2, x3, x42, x202000, x202001 => if x42 = true then (some (0, ([] : List Int))) else (if x1 = x2 then ((impl_Gaps_clone.f x202000 x202001).bind fun bt213 => (impl_GapsMove.l0 k x1 x3 (wrap64 (x202000 + 1)) 0 x202000 x202001 bt213.1 bt213.2)) else ((impl_GapsForget.f k x202000 x202001 x1).bind fun bt204 => ((impl_Gaps_at.f x202000 x202001 x1 x2).bind fun t209 => (if 0 ≤ t209 then (if t209 < (bt204.2.length : Int) then ((impl_Gaps_at.f x202000 x202001 x2 x1).bind fun t211 => (if 0 ≤ t211 then (if t211 < (bt204.2.length : Int) then (some (bt204.1, ((bt204.2.set (t209 : Int).toNat x3).set (t211 : Int).toNat (wrap64 (-x3))))) else (none)) else (none))) else (none)) else (none)))))
def impl_GapsMove.l0 : Nat → Int → Int → Int → Int → Int → List Int → Int → List Int → Option (Int × List Int)
  | 0, _, _, _, _, _, _, _, _ => none
  | k + 1, x1, x3, x72, x73, x202000, x202001, x218000, x218001 => if x73 < x72 then (if x73 = x1 then (impl_GapsMove.l0 k x1 x3 x72 (wrap64 (x73 + 1)) x202000 x202001 x218000 x218001) else ((impl_Gaps_at.f x202000 x202001 x1 x73).bind fun t218 => ((impl_Gaps_at.f x202000 x202001 x1 x73).bind fun t219 => (if 0 ≤ t219 then (if t219 < (x202001.length : Int) then ((impl_gapsTogether.f (rd x202001 t219) x3).bind fun t221 => (if 0 ≤ t218 then (if t218 < (x218001.length : Int) then ((impl_Gaps_at.f x202000 x202001 x73 x1).bind fun t223 => ((impl_Gaps_at.f x202000 x202001 x73 x1).bind fun t224 => (if 0 ≤ t224 then (if t224 < (x202001.length : Int) then ((impl_gapsTogether.f (rd x202001 t224) (wrap64 (-x3))).bind fun t226 => (if 0 ≤ t223 then (if t223 < (x218001.length : Int) then (impl_GapsMove.l0 k x1 x3 x72 (wrap64 (x73 + 1)) x202000 x202001 x218000 ((x218001.set (t218 : Int).toNat (mx t221 (-1099511627776))).set (t223 : Int).toNat (mx t226 (-1099511627776)))) else (none)) else (none))) else (none)) else (none)))) else (none)) else (none))) else (none)) else (none))))) else (some (x218000, x218001))
end
def impl_GapsMove.f (k : Nat) (a0_0 : Int) (l0_1 : List Int) (a1 : Int) (a2 : Int) (a3 : Int) : Option (Int × List Int) := (impl_GapsOk.f k a0_0 l0_1).bind fun t203 => (if t203 = true then (if a1 < 1 then (impl_GapsMove.j0 k a1 a2 a3 true a0_0 l0_1) else (if a1 > a0_0 then (impl_GapsMove.j0 k a1 a2 a3 true a0_0 l0_1) else (if a2 < 0 then (impl_GapsMove.j0 k a1 a2 a3 true a0_0 l0_1) else (if a2 > a0_0 then (impl_GapsMove.j0 k a1 a2 a3 true a0_0 l0_1) else (if a3 < (-4294967296) then (impl_GapsMove.j0 k a1 a2 a3 true a0_0 l0_1) else (impl_GapsMove.j0 k a1 a2 a3 (decide (a3 > 4294967296)) a0_0 l0_1)))))) else (impl_GapsMove.j0 k a1 a2 a3 true a0_0 l0_1))
def laws_FnExactGapsMove.j0 : Nat → Int → Int → Int → Bool → Int → List Int → Int → List Int → Int → List Int → Option (Bool)
  | 0, _, _, _, _, _, _, _, _, _, _ => none
  | k + 1, x1, x2, x3, x54, x229000, x229001, x239000, x239001, x249000, x249001 => if x54 = true then (some false) else ((laws_markGaps.f k x249000 x249001 1).bind fun bt258 => ((laws_heldGaps.f k x249000 bt258.2 1).bind fun t260 => (if t260 < 0 then (some false) else (if t260 = bt258.1 then ((laws_toGaps.f k x229000 x229001).bind fun bt261 => ((impl_GapsMove.f k bt261.1 bt261.2 x1 x2 x3).bind fun bt265 => ((laws_eqGaps.f k bt265.1 bt265.2 x239000 x239001).bind fun t270 => (if t270 = true then ((laws_heldGaps.f k x249000 bt258.2 1).bind fun t271 => (if t271 < 0 then (some false) else (if t271 = bt258.1 then (some true) else (some false)))) else (some false))))) else (some false)))))
def laws_FnExactGapsMove.f (k : Nat) (a0_0 : Int) (l0_1 : List Int) (a1 : Int) (a2 : Int) (a3 : Int) : Option (Bool) := (laws_szGaps.f a0_0 l0_1 1048576).bind fun t229 => (if t229 < 0 then (some true) else ((laws_toGaps.f k a0_0 l0_1).bind fun bt230 => ((spec_GapsMove.f k bt230.1 bt230.2 a1 a2 a3).bind fun bt234 => ((laws_toGaps.f k a0_0 l0_1).bind fun bt239 => ((impl_GapsMove.f k bt239.1 bt239.2 a1 a2 a3).bind fun bt244 => ((laws_eqGaps.f k bt244.1 bt244.2 bt234.1 bt234.2).bind fun t249 => (if t249 = true then ((laws_toGaps.f k a0_0 l0_1).bind fun bt250 => ((laws_eqGaps.f k bt239.1 bt239.2 bt250.1 bt250.2).bind fun t254 => (if t254 = true then ((laws_markGaps.f k bt239.1 bt239.2 1).bind fun bt255 => (if bt255.1 < 0 then (laws_FnExactGapsMove.j0 k a1 a2 a3 true a0_0 l0_1 bt234.1 bt234.2 bt244.1 bt244.2) else ((laws_eqGaps.f k bt244.1 bt244.2 bt234.1 bt234.2).bind fun t257 => (laws_FnExactGapsMove.j0 k a1 a2 a3 (!t257) a0_0 l0_1 bt234.1 bt234.2 bt244.1 bt244.2)))) else (some false)))) else (some false))))))))
end Go.Proofs.Ytmdcgkkkfncieaa.PFnExactGapsMove
