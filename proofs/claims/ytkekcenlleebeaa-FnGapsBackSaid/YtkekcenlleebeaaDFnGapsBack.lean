/- The program's functions that the law reaches, as plain Lean functions. Conditions: none. -/
import Derived.Test.YtkekcenlleebeaaQFnGapsBackx0
namespace Go.Proofs.Ytkekcenlleebeaa.PFnGapsBack
open Go.RowKit Go.Proofs.YtkekcenlleebeaaW.PrintWords Go.Proofs.YtkekcenlleebeaaW.PrintLast Go.Proofs.YtkekcenlleebeaaW.PrintMore
set_option linter.unusedVariables false

def impl_Gaps_at.f (a0_0 : Int) (l0_1 : List Int) (a1 : Int) (a2 : Int) : Option (Int) := some (wrap64 ((wrap64 (a1 * (wrap64 (a0_0 + 1)))) + a2))
mutual
def impl_GapsOk.j0 : Nat → Bool → Int → List Int → Option (Bool)
  | 0, _, _, _ => none
  | k + 1, x26, x103000, x103001 => if x26 = true then (some false) else (impl_GapsOk.l0 k (wrap64 (x103000 + 1)) 0 x103000 x103001)
def impl_GapsOk.l0 : Nat → Int → Int → Int → List Int → Option (Bool)
  | 0, _, _, _, _ => none
  | k + 1, x29, x30, x103000, x103001 => if x30 < x29 then ((impl_Gaps_at.f x103000 x103001 x30 x30).bind fun t103 => (if 0 ≤ t103 then (if t103 < (x103001.length : Int) then (if (rd x103001 t103) = 0 then (impl_GapsOk.l0 k x29 (wrap64 (x30 + 1)) x103000 x103001) else (some false)) else (none)) else (none))) else (impl_GapsOk.l1 k x103001 (x103001.length : Int) 0)
def impl_GapsOk.l1 : Nat → List Int → Int → Int → Option (Bool)
  | 0, _, _, _ => none
  | k + 1, x44, x45, x46 => if x46 < x45 then (if 0 ≤ x46 then (if x46 < (x44.length : Int) then (if (rd x44 x46) < (-1099511627776) then (some false) else (if (rd x44 x46) > 1099511627776 then (some false) else (impl_GapsOk.l1 k x44 x45 (wrap64 (x46 + 1))))) else (none)) else (none)) else (some true)
end
def impl_GapsOk.f (k : Nat) (a0_0 : Int) (l0_1 : List Int) : Option (Bool) := if a0_0 < 0 then (impl_GapsOk.j0 k true a0_0 l0_1) else (if a0_0 > 12 then (impl_GapsOk.j0 k true a0_0 l0_1) else (impl_GapsOk.j0 k ((l0_1.length : Int) != (wrap64 ((wrap64 (a0_0 + 1)) * (wrap64 (a0_0 + 1))))) a0_0 l0_1))
def impl_Gaps_clone.f (a0_0 : Int) (l0_1 : List Int) : Option (Int × List Int) := if ([] : List Int).length + l0_1.length < 17592186044416 then (some (a0_0, (([] : List Int) ++ l0_1))) else (none)
def impl_gapsTogether.f (a0 : Int) (a1 : Int) : Option (Int) := if a0 = 1099511627776 then (some 1099511627776) else (if a1 = 1099511627776 then (some 1099511627776) else (if (wrap64 (a0 + a1)) ≥ 1099511627776 then (some 1099511627776) else (some (wrap64 (a0 + a1)))))
mutual
def impl_GapsClose.l0 : Nat → Int → Int → Int → Int → List Int → Option (Int × List Int × Bool)
  | 0, _, _, _, _, _ => none
  | k + 1, x5, x22, x23, x119000, x119001 => if x23 < x22 then (impl_GapsClose.l1 k x5 x23 x22 x23 x5 0 x119000 x119001) else (impl_GapsClose.l4 k x119001 (x119001.length : Int) 0 x119000 x119001)
def impl_GapsClose.l1 : Nat → Int → Int → Int → Int → Int → Int → Int → List Int → Option (Int × List Int × Bool)
  | 0, _, _, _, _, _, _, _, _ => none
  | k + 1, x5, x6, x22, x23, x26, x27, x119000, x119001 => if x27 < x26 then (impl_GapsClose.l2 k x5 x6 x27 x22 x23 x26 x27 x5 0 x119000 x119001) else (impl_GapsClose.l3 k x5 x22 x23 x5 0 x119000 x119001)
def impl_GapsClose.l2 : Nat → Int → Int → Int → Int → Int → Int → Int → Int → Int → Int → List Int → Option (Int × List Int × Bool)
  | 0, _, _, _, _, _, _, _, _, _, _, _ => none
  | k + 1, x5, x6, x7, x22, x23, x26, x27, x30, x31, x119000, x119001 => if x31 < x30 then (if 0 ≤ (wrap64 ((wrap64 (x7 * x5)) + x6)) then (if (wrap64 ((wrap64 (x7 * x5)) + x6)) < (x119001.length : Int) then (if 0 ≤ (wrap64 ((wrap64 (x6 * x5)) + x31)) then (if (wrap64 ((wrap64 (x6 * x5)) + x31)) < (x119001.length : Int) then ((impl_gapsTogether.f (rd x119001 (wrap64 ((wrap64 (x7 * x5)) + x6))) (rd x119001 (wrap64 ((wrap64 (x6 * x5)) + x31)))).bind fun t121 => (if 0 ≤ (wrap64 ((wrap64 (x7 * x5)) + x31)) then (if (wrap64 ((wrap64 (x7 * x5)) + x31)) < (x119001.length : Int) then (if t121 < (rd x119001 (wrap64 ((wrap64 (x7 * x5)) + x31))) then (impl_GapsClose.l2 k x5 x6 x7 x22 x23 x26 x27 x30 (wrap64 (x31 + 1)) x119000 (x119001.set ((wrap64 ((wrap64 (x7 * x5)) + x31)) : Int).toNat t121)) else (impl_GapsClose.l2 k x5 x6 x7 x22 x23 x26 x27 x30 (wrap64 (x31 + 1)) x119000 x119001)) else (none)) else (none))) else (none)) else (none)) else (none)) else (none)) else (impl_GapsClose.l1 k x5 x6 x22 x23 x26 (wrap64 (x27 + 1)) x119000 x119001)
def impl_GapsClose.l3 : Nat → Int → Int → Int → Int → Int → Int → List Int → Option (Int × List Int × Bool)
  | 0, _, _, _, _, _, _, _ => none
  | k + 1, x5, x22, x23, x75, x76, x119000, x119001 => if x76 < x75 then (if 0 ≤ (wrap64 ((wrap64 (x76 * x5)) + x76)) then (if (wrap64 ((wrap64 (x76 * x5)) + x76)) < (x119001.length : Int) then (if (rd x119001 (wrap64 ((wrap64 (x76 * x5)) + x76))) < 0 then (some (0, ([] : List Int), false)) else (impl_GapsClose.l3 k x5 x22 x23 x75 (wrap64 (x76 + 1)) x119000 x119001)) else (none)) else (none)) else (impl_GapsClose.l0 k x5 x22 (wrap64 (x23 + 1)) x119000 x119001)
def impl_GapsClose.l4 : Nat → List Int → Int → Int → Int → List Int → Option (Int × List Int × Bool)
  | 0, _, _, _, _, _ => none
  | k + 1, x93, x94, x95, x119000, x119001 => if x95 < x94 then (if 0 ≤ x95 then (if x95 < (x93.length : Int) then (if (rd x93 x95) < (-4294967296) then (some (0, ([] : List Int), false)) else (impl_GapsClose.l4 k x93 x94 (wrap64 (x95 + 1)) x119000 x119001)) else (none)) else (none)) else (some (x119000, x119001, true))
end
def impl_GapsClose.f (k : Nat) (a0_0 : Int) (l0_1 : List Int) : Option (Int × List Int × Bool) := (impl_GapsOk.f k a0_0 l0_1).bind fun t113 => (if t113 = true then ((impl_Gaps_clone.f a0_0 l0_1).bind fun bt114 => (impl_GapsClose.l0 k (wrap64 (bt114.1 + 1)) (wrap64 (bt114.1 + 1)) 0 bt114.1 bt114.2)) else (some (0, ([] : List Int), false)))
def spec_l1In.f (a0 : Int) (a1 : Int) (a2 : Int) : Option (Bool) := if a0 ≥ a1 then (some (decide (a0 ≤ a2))) else (some false)
def spec_l11At.f (a0_0 : Int) (l0_1 : List Int) (a1 : Int) (a2 : Int) : Option (Int) := if 0 ≤ (wrap64 ((wrap64 (a1 * (wrap64 (a0_0 + 1)))) + a2)) then (if (wrap64 ((wrap64 (a1 * (wrap64 (a0_0 + 1)))) + a2)) < (l0_1.length : Int) then (some (rd l0_1 (wrap64 ((wrap64 (a1 * (wrap64 (a0_0 + 1)))) + a2)))) else (none)) else (none)
mutual
def spec_GapsOk.j0 : Nat → Bool → Int → List Int → Option (Bool)
  | 0, _, _, _ => none
  | k + 1, x22, x129000, x129001 => if x22 = true then (some false) else (spec_GapsOk.l0 k 0 x129000 x129001)
def spec_GapsOk.l0 : Nat → Int → Int → List Int → Option (Bool)
  | 0, _, _, _ => none
  | k + 1, x3, x129000, x129001 => if x3 ≤ x129000 then (spec_GapsOk.l1 k x3 0 x129000 x129001) else (some true)
def spec_GapsOk.l1 : Nat → Int → Int → Int → List Int → Option (Bool)
  | 0, _, _, _, _ => none
  | k + 1, x3, x4, x129000, x129001 => if x4 ≤ x129000 then ((spec_l11At.f x129000 x129001 x3 x4).bind fun t130 => ((spec_l1In.f t130 (-1099511627776) 1099511627776).bind fun t131 => (if t131 = true then (if x3 = x4 then (if t130 = 0 then (spec_GapsOk.l1 k x3 (wrap64 (x4 + 1)) x129000 x129001) else (some false)) else (spec_GapsOk.l1 k x3 (wrap64 (x4 + 1)) x129000 x129001)) else (some false)))) else (spec_GapsOk.l0 k (wrap64 (x3 + 1)) x129000 x129001)
end
def spec_GapsOk.f (k : Nat) (a0_0 : Int) (l0_1 : List Int) : Option (Bool) := (spec_l1In.f a0_0 0 12).bind fun t129 => (if t129 = true then (spec_GapsOk.j0 k ((l0_1.length : Int) != (wrap64 ((wrap64 (a0_0 + 1)) * (wrap64 (a0_0 + 1))))) a0_0 l0_1) else (spec_GapsOk.j0 k true a0_0 l0_1))
def spec_l11Copy.l0 : Nat → Int → Int → List Int → Int → List Int → Option (Int × List Int)
  | 0, _, _, _, _, _ => none
  | k + 1, x4, x133000, x133001, x135000, x135001 => if x4 < (x133001.length : Int) then (if 0 ≤ x4 then (if x135001.length < 17592186044416 then (spec_l11Copy.l0 k (wrap64 (x4 + 1)) x133000 x133001 x135000 (x135001 ++ [rd x133001 x4])) else (none)) else (none)) else (some (x135000, x135001))
def spec_l11Copy.f (k : Nat) (a0_0 : Int) (l0_1 : List Int) : Option (Int × List Int) := spec_l11Copy.l0 k 0 a0_0 l0_1 a0_0 ([] : List Int)
def spec_l11Add.f (a0 : Int) (a1 : Int) : Option (Int) := if a0 ≥ 1099511627776 then (some 1099511627776) else (if a1 ≥ 1099511627776 then (some 1099511627776) else (if (wrap64 (a0 + a1)) ≥ 1099511627776 then (some 1099511627776) else (some (wrap64 (a0 + a1)))))
def spec_l11Put.f (a0_0 : Int) (l0_1 : List Int) (a1 : Int) (a2 : Int) (a3 : Int) : Option (List Int) := if 0 ≤ (wrap64 ((wrap64 (a1 * (wrap64 (a0_0 + 1)))) + a2)) then (if (wrap64 ((wrap64 (a1 * (wrap64 (a0_0 + 1)))) + a2)) < (l0_1.length : Int) then (some (l0_1.set ((wrap64 ((wrap64 (a1 * (wrap64 (a0_0 + 1)))) + a2)) : Int).toNat a3)) else (none)) else (none)
mutual
def spec_GapsClose.l0 : Nat → Int → Int → List Int → Int → List Int → Option (Int × List Int × Bool)
  | 0, _, _, _, _, _ => none
  | k + 1, x5, x142000, x142001, x149000, x149001 => if x5 ≤ x142000 then (spec_GapsClose.l1 k x5 0 x142000 x142001 x149000 x149001) else (spec_GapsClose.l3 k 0 x142000 x142001 x149000 x149001)
def spec_GapsClose.l1 : Nat → Int → Int → Int → List Int → Int → List Int → Option (Int × List Int × Bool)
  | 0, _, _, _, _, _, _ => none
  | k + 1, x5, x6, x142000, x142001, x149000, x149001 => if x6 ≤ x142000 then (spec_GapsClose.l2 k x5 x6 0 x142000 x142001 x149000 x149001) else (spec_GapsClose.l0 k (wrap64 (x5 + 1)) x142000 x142001 x149000 x149001)
def spec_GapsClose.l2 : Nat → Int → Int → Int → Int → List Int → Int → List Int → Option (Int × List Int × Bool)
  | 0, _, _, _, _, _, _, _ => none
  | k + 1, x5, x6, x7, x142000, x142001, x149000, x149001 => if x7 ≤ x142000 then ((spec_l11At.f x149000 x149001 x6 x5).bind fun t149 => ((spec_l11At.f x149000 x149001 x5 x7).bind fun t150 => ((spec_l11Add.f t149 t150).bind fun t151 => ((spec_l11At.f x149000 x149001 x6 x7).bind fun t152 => (if t151 < t152 then ((spec_l11Put.f x149000 x149001 x6 x7 t151).bind fun t153 => (spec_GapsClose.l2 k x5 x6 (wrap64 (x7 + 1)) x142000 x142001 x149000 t153)) else (spec_GapsClose.l2 k x5 x6 (wrap64 (x7 + 1)) x142000 x142001 x149000 x149001)))))) else (spec_GapsClose.l1 k x5 (wrap64 (x6 + 1)) x142000 x142001 x149000 x149001)
def spec_GapsClose.l3 : Nat → Int → Int → List Int → Int → List Int → Option (Int × List Int × Bool)
  | 0, _, _, _, _, _ => none
  | k + 1, x9, x142000, x142001, x149000, x149001 => if x9 < (x149001.length : Int) then (if 0 ≤ x9 then (if (rd x149001 x9) < (-4294967296) then (some (0, ([] : List Int), false)) else (if (wrap64 (x142000 + 2)) = 0 then (none) else (if (Int.tmod x9 (wrap64 (x142000 + 2))) = 0 then (if (rd x149001 x9) < 0 then (some (0, ([] : List Int), false)) else (spec_GapsClose.l3 k (wrap64 (x9 + 1)) x142000 x142001 x149000 x149001)) else (spec_GapsClose.l3 k (wrap64 (x9 + 1)) x142000 x142001 x149000 x149001)))) else (none)) else (some (x149000, x149001, true))
end
def spec_GapsClose.f (k : Nat) (a0_0 : Int) (l0_1 : List Int) : Option (Int × List Int × Bool) := (spec_GapsOk.f k a0_0 l0_1).bind fun t143 => (if t143 = true then ((spec_l11Copy.f k a0_0 l0_1).bind fun bt144 => (spec_GapsClose.l0 k 0 a0_0 l0_1 bt144.1 bt144.2)) else (some (0, ([] : List Int), false)))
def laws_sameInts.l0 : Nat → List Int → List Int → Int → Option (Bool)
  | 0, _, _, _ => none
  | k + 1, x0, x1, x5 => if x5 < (x0.length : Int) then (if 0 ≤ x5 then (if x5 < (x1.length : Int) then (if (rd x0 x5) = (rd x1 x5) then (laws_sameInts.l0 k x0 x1 (wrap64 (x5 + 1))) else (some false)) else (none)) else (none)) else (some true)
def laws_sameInts.f (k : Nat) (l0 : List Int) (l1 : List Int) : Option (Bool) := if (l0.length : Int) = (l1.length : Int) then (laws_sameInts.l0 k l0 l1 0) else (some false)
def spec_l1Open.f (l0 : List Int) : Option (List Int × Int) := if (l0.length : Int) > 2000 then (if 2000 ≤ (l0.length : Int) then (some (l0.take 2000, 0)) else (none)) else (some (l0, 0))
def spec_l1Rd_pick.j0 : Nat → Int → Bool → List Int → Int → Option (Int × Int)
  | 0, _, _, _, _ => none
  | k + 1, x1, x24, x1000, x1001 => if x24 = true then (some (0, x1001)) else (if (wrap64 (x1001 - 1)) < (x1000.length : Int) then (if 0 ≤ (wrap64 (x1001 - 1)) then (if x1 = 0 then (none) else (some (Int.tmod (wrap64 (rd x1000 (wrap64 (x1001 - 1)))) x1, x1001))) else (none)) else (if (x1000.length : Int) = 0 then (none) else (if 0 ≤ (Int.tmod (wrap64 (x1001 - 1)) (x1000.length : Int)) then (if (Int.tmod (wrap64 (x1001 - 1)) (x1000.length : Int)) < (x1000.length : Int) then (if 0 ≤ (Int.tmod (wrap64 ((wrap64 ((wrap64 (x1001 - 1)) * 7)) + 3)) (x1000.length : Int)) then (if (Int.tmod (wrap64 ((wrap64 ((wrap64 (x1001 - 1)) * 7)) + 3)) (x1000.length : Int)) < (x1000.length : Int) then (if x1 = 0 then (none) else (some (Int.tmod (Go.bits .xor .i64 (wrap64 ((wrap64 ((wrap64 ((wrap64 ((wrap64 (rd x1000 (Int.tmod (wrap64 (x1001 - 1)) (x1000.length : Int)))) * 131)) + (wrap64 ((wrap64 (rd x1000 (Int.tmod (wrap64 ((wrap64 ((wrap64 (x1001 - 1)) * 7)) + 3)) (x1000.length : Int)))) * 1117)))) + (wrap64 ((wrap64 (x1001 - 1)) * 29)))) + (wrap64 ((wrap64 (Int.tdiv (wrap64 (x1001 - 1)) (x1000.length : Int))) * 53)))) (wrap64 (Int.tdiv (wrap64 ((wrap64 ((wrap64 ((wrap64 ((wrap64 (rd x1000 (Int.tmod (wrap64 (x1001 - 1)) (x1000.length : Int)))) * 131)) + (wrap64 ((wrap64 (rd x1000 (Int.tmod (wrap64 ((wrap64 ((wrap64 (x1001 - 1)) * 7)) + 3)) (x1000.length : Int)))) * 1117)))) + (wrap64 ((wrap64 (x1001 - 1)) * 29)))) + (wrap64 ((wrap64 (Int.tdiv (wrap64 (x1001 - 1)) (x1000.length : Int))) * 53)))) 64))) x1, x1001))) else (none)) else (none)) else (none)) else (none))))
def spec_l1Rd_pick.f (k : Nat) (s0_0 : List Int) (s0_1 : Int) (a1 : Int) : Option (Int × Int) := if a1 < 1 then (spec_l1Rd_pick.j0 k a1 true s0_0 (wrap64 (s0_1 + 1))) else (spec_l1Rd_pick.j0 k a1 ((s0_0.length : Int) == 0) s0_0 (wrap64 (s0_1 + 1)))
def spec_l11Size.f (k : Nat) (s0_0 : List Int) (s0_1 : Int) : Option (Int × Int) := (spec_l1Rd_pick.f k s0_0 s0_1 20).bind fun bt164 => (if bt164.1 = 0 then (some (12, bt164.2)) else ((spec_l1Rd_pick.f k s0_0 bt164.2 5).bind fun bt166 => (some (bt166.1, bt166.2))))
def spec_l1Mod.f (a0 : Int) (a1 : Int) : Option (Int) := if a1 = 0 then (none) else (if (Int.tmod a0 a1) < 0 then (some (wrap64 ((Int.tmod a0 a1) + a1))) else (some (Int.tmod a0 a1)))
def spec_NumWrap.f (a0 : Int) : Option (Int) := (spec_l1Mod.f a0 4294967296).bind fun t168 => (if t168 > 2147483647 then (some (wrap64 (t168 - 4294967296))) else (some t168))
def spec_l1Power.l0 : Nat → Int → Int → Int → Option (Int)
  | 0, _, _, _ => none
  | k + 1, x0, x3, x4 => if x4 < x0 then (spec_l1Power.l0 k x0 (wrap64 (2 * x3)) (wrap64 (x4 + 1))) else (some x3)
def spec_l1Power.f (k : Nat) (a0 : Int) : Option (Int) := spec_l1Power.l0 k a0 1 0
def spec_l1Rd_num.l0 : Nat → Int → Int → List Int → Int → Option (Int × Int)
  | 0, _, _, _, _ => none
  | k + 1, x4, x5, x1000, x1001 => if x5 < 4 then ((spec_l1Rd_pick.f k x1000 x1001 256).bind fun bt187 => (spec_l1Rd_num.l0 k (wrap64 ((wrap64 (x4 * 256)) + bt187.1)) (wrap64 (x5 + 1)) x1000 bt187.2)) else ((spec_NumWrap.f x4).bind fun t189 => (some (t189, x1001)))
def spec_l1Rd_num.f (k : Nat) (s0_0 : List Int) (s0_1 : Int) : Option (Int × Int) := (spec_l1Rd_pick.f k s0_0 s0_1 10).bind fun bt169 => (if bt169.1 < 4 then ((spec_l1Rd_pick.f k s0_0 bt169.2 21).bind fun bt171 => (some (wrap64 (bt171.1 - 10), bt171.2))) else (if bt169.1 = 4 then ((spec_l1Rd_pick.f k s0_0 bt169.2 3).bind fun bt173 => (some (wrap64 (2147483647 - bt173.1), bt173.2))) else (if bt169.1 = 5 then ((spec_l1Rd_pick.f k s0_0 bt169.2 3).bind fun bt175 => (some (wrap64 ((-2147483648) + bt175.1), bt175.2))) else (if bt169.1 = 6 then ((spec_l1Rd_pick.f k s0_0 bt169.2 31).bind fun bt177 => ((spec_l1Power.f k bt177.1).bind fun t179 => ((spec_l1Rd_pick.f k s0_0 bt177.2 3).bind fun bt180 => (some (wrap64 ((wrap64 (t179 + bt180.1)) - 1), bt180.2))))) else (if bt169.1 = 7 then ((spec_l1Rd_pick.f k s0_0 bt169.2 31).bind fun bt182 => ((spec_l1Power.f k bt182.1).bind fun t184 => ((spec_l1Rd_pick.f k s0_0 bt182.2 3).bind fun bt185 => (some (wrap64 ((wrap64 ((wrap64 (-t184)) + bt185.1)) - 1), bt185.2))))) else (spec_l1Rd_num.l0 k 0 0 s0_0 bt169.2))))))
def spec_l11Numbers.l0 : Nat → Int → List Int → Int → List Int → Int → Option (List Int × Int)
  | 0, _, _, _, _, _ => none
  | k + 1, x1, x5, x6, x1000, x1001 => if x6 < x1 then ((spec_l1Rd_pick.f k x1000 x1001 6).bind fun bt193 => (if bt193.1 = 0 then ((spec_l1Rd_num.f k x1000 bt193.2).bind fun bt195 => (if x5.length < 17592186044416 then (spec_l11Numbers.l0 k x1 (x5 ++ [bt195.1]) (wrap64 (x6 + 1)) x1000 bt195.2) else (none))) else ((spec_l1Rd_pick.f k x1000 bt193.2 21).bind fun bt200 => (if x5.length < 17592186044416 then (spec_l11Numbers.l0 k x1 (x5 ++ [wrap64 (bt200.1 - 10)]) (wrap64 (x6 + 1)) x1000 bt200.2) else (none))))) else (some (x5, x1001))
def spec_l11Numbers.f (k : Nat) (s0_0 : List Int) (s0_1 : Int) (a1 : Int) : Option (List Int × Int) := spec_l11Numbers.l0 k a1 (([] : List Int)) 0 s0_0 s0_1
def spec_l11Num.f (l0 : List Int) (a1 : Int) : Option (Int) := if a1 = 0 then (some 0) else (if 0 ≤ (wrap64 (a1 - 1)) then (if (wrap64 (a1 - 1)) < (l0.length : Int) then (some (rd l0 (wrap64 (a1 - 1)))) else (none)) else (none))
mutual
def spec_GapsTop.l0 : Nat → Int → Int → Int → List Int → Option (Int × List Int)
  | 0, _, _, _, _ => none
  | k + 1, x0, x4, x209000, x209001 => if x4 ≤ x0 then (spec_GapsTop.l1 k x0 x4 0 x209000 x209001) else (some (x209000, x209001))
def spec_GapsTop.l1 : Nat → Int → Int → Int → Int → List Int → Option (Int × List Int)
  | 0, _, _, _, _, _ => none
  | k + 1, x0, x4, x5, x209000, x209001 => if x5 ≤ x0 then (if x4 = x5 then (if x209001.length < 17592186044416 then (spec_GapsTop.l1 k x0 x4 (wrap64 (x5 + 1)) x209000 (x209001 ++ [0])) else (none)) else (if x209001.length < 17592186044416 then (spec_GapsTop.l1 k x0 x4 (wrap64 (x5 + 1)) x209000 (x209001 ++ [1099511627776])) else (none))) else (spec_GapsTop.l0 k x0 (wrap64 (x4 + 1)) x209000 x209001)
end
def spec_GapsTop.f (k : Nat) (a0 : Int) : Option (Int × List Int) := (spec_l1In.f a0 0 12).bind fun t207 => (if t207 = true then (spec_GapsTop.l0 k a0 0 a0 ([] : List Int)) else (some (0, ([] : List Int))))
def spec_l11Gaps.l0 : Nat → Int → List Int → Int → List Int → Int → Int → List Int → Option (Int × List Int × Int)
  | 0, _, _, _, _, _, _, _ => none
  | k + 1, x1, x2, x8, x1000, x1001, x221000, x221001 => if x8 > 0 then ((spec_l1Rd_pick.f k x1000 x1001 (wrap64 (x1 + 1))).bind fun bt223 => ((spec_l1Rd_pick.f k x1000 bt223.2 (wrap64 (x1 + 1))).bind fun bt225 => (if bt223.1 = bt225.1 then (spec_l11Gaps.l0 k x1 x2 (wrap64 (x8 - 1)) x1000 bt225.2 x221000 x221001) else ((spec_l11Num.f x2 bt223.1).bind fun t227 => ((spec_l11Num.f x2 bt225.1).bind fun t228 => ((spec_l1Rd_pick.f k x1000 bt225.2 6).bind fun bt229 => ((spec_l1Rd_pick.f k x1000 bt229.2 9).bind fun bt231 => (if bt231.1 = 0 then ((spec_l11Put.f x221000 x221001 bt223.1 bt225.1 (wrap64 ((wrap64 ((wrap64 (t227 - t228)) + bt229.1)) - 4))).bind fun t233 => (spec_l11Gaps.l0 k x1 x2 (wrap64 (x8 - 1)) x1000 bt231.2 x221000 t233)) else ((spec_l11Put.f x221000 x221001 bt223.1 bt225.1 (wrap64 ((wrap64 (t227 - t228)) + bt229.1))).bind fun t234 => (spec_l11Gaps.l0 k x1 x2 (wrap64 (x8 - 1)) x1000 bt231.2 x221000 t234)))))))))) else (some (x221000, x221001, x1001))
def spec_l11Gaps.f (k : Nat) (s0_0 : List Int) (s0_1 : Int) (a1 : Int) (l2 : List Int) : Option (Int × List Int × Int) := (spec_GapsTop.f k a1).bind fun bt216 => ((spec_l1Rd_pick.f k s0_0 s0_1 (wrap64 ((wrap64 (3 * a1)) + 3))).bind fun bt221 => (spec_l11Gaps.l0 k a1 l2 bt221.1 s0_0 bt221.2 bt216.1 bt216.2))
mutual
def spec_l11Spoilt.j0 : Nat → Int → List Int → Int → Int → List Int → Option (Int × List Int × Int)
  | 0, _, _, _, _, _ => none
  | k + 1, x5, x1000, x1001, x236000, x236001 => if x5 = 1 then (if x236001.length < 17592186044416 then (spec_l11Spoilt.j1 k x5 x1000 x1001 x236000 (x236001 ++ [0])) else (none)) else (spec_l11Spoilt.j1 k x5 x1000 x1001 x236000 x236001)
def spec_l11Spoilt.j1 : Nat → Int → List Int → Int → Int → List Int → Option (Int × List Int × Int)
  | 0, _, _, _, _, _ => none
  | k + 1, x5, x1000, x1001, x236000, x236001 => if x5 = 2 then (spec_l11Spoilt.j2 k (decide ((x236001.length : Int) > 0)) x1000 x1001 x236000 x236001) else (spec_l11Spoilt.j2 k false x1000 x1001 x236000 x236001)
def spec_l11Spoilt.j2 : Nat → Bool → List Int → Int → Int → List Int → Option (Int × List Int × Int)
  | 0, _, _, _, _, _ => none
  | k + 1, x28, x1000, x1001, x236000, x236001 => if x28 = true then ((spec_l1Rd_pick.f k x1000 x1001 (x236001.length : Int)).bind fun bt242 => ((some (([1099511627776, 1099511627777, (-1099511627776), (-1099511627777), 1] : List Int) : List Int)).bind fun y244 => ((spec_l1Rd_pick.f k x1000 bt242.2 5).bind fun bt247 => (if 0 ≤ bt247.1 then (if bt247.1 < (y244.length : Int) then (if 0 ≤ bt242.1 then (if bt242.1 < (x236001.length : Int) then (some (x236000, (x236001.set (bt242.1 : Int).toNat (rd y244 bt247.1)), bt247.2)) else (none)) else (none)) else (none)) else (none))))) else (some (x236000, x236001, x1001))
end
def spec_l11Spoilt.f (k : Nat) (s0_0 : List Int) (s0_1 : Int) (a1_0 : Int) (l1_1 : List Int) : Option (Int × List Int × Int) := (spec_l1Rd_pick.f k s0_0 s0_1 30).bind fun bt237 => (if bt237.1 = 0 then (spec_l11Spoilt.j0 k bt237.1 s0_0 bt237.2 (wrap64 (a1_0 + 1)) l1_1) else (spec_l11Spoilt.j0 k bt237.1 s0_0 bt237.2 a1_0 l1_1))
def spec_l11One.f (k : Nat) (s0_0 : List Int) (s0_1 : Int) : Option (Int × List Int × Int) := (spec_l11Size.f k s0_0 s0_1).bind fun bt252 => ((spec_l11Numbers.f k s0_0 bt252.2 bt252.1).bind fun bt254 => ((spec_l11Gaps.f k s0_0 bt254.2 bt252.1 bt254.1).bind fun bt258 => ((spec_l11Spoilt.f k s0_0 bt258.2.2 bt258.1 bt258.2.1).bind fun bt263 => (some (bt263.1, bt263.2.1, bt263.2.2)))))
def spec_DrawGapsClose.f (k : Nat) (l0 : List Int) : Option (Int × List Int) := (spec_l1Open.f l0).bind fun bt269 => ((spec_l11One.f k bt269.1 bt269.2).bind fun bt272 => (some (bt272.1, bt272.2.1)))
def laws_at.f (l0 : List Int) (a1 : Int) : Option (Int) := if (l0.length : Int) = 0 then (some ((wrap64 (a1 * 37)) % 256)) else (if a1 < (l0.length : Int) then (if 0 ≤ a1 then (some (rd l0 a1)) else (none)) else (if 0 ≤ (Int.tmod a1 (l0.length : Int)) then (if (Int.tmod a1 (l0.length : Int)) < (l0.length : Int) then (if 0 ≤ (Int.tmod (wrap64 ((wrap64 (a1 * 5)) + 1)) (l0.length : Int)) then (if (Int.tmod (wrap64 ((wrap64 (a1 * 5)) + 1)) (l0.length : Int)) < (l0.length : Int) then (some (((((((rd l0 (Int.tmod a1 (l0.length : Int))) * 31) % 256) + (rd l0 (Int.tmod (wrap64 ((wrap64 (a1 * 5)) + 1)) (l0.length : Int)))) % 256) + ((a1) % 256)) % 256)) else (none)) else (none)) else (none)) else (none)))
mutual
def impl_GapsForget.j0 : Nat → Int → Bool → Int → List Int → Option (Int × List Int)
  | 0, _, _, _, _ => none
  | k + 1, x1, x19, x281000, x281001 => if x19 = true then (some (0, ([] : List Int))) else ((impl_Gaps_clone.f x281000 x281001).bind fun bt283 => (impl_GapsForget.l0 k x1 (wrap64 (x281000 + 1)) 0 x281000 x281001 bt283.1 bt283.2))
def impl_GapsForget.l0 : Nat → Int → Int → Int → Int → List Int → Int → List Int → Option (Int × List Int)
  | 0, _, _, _, _, _, _, _ => none
  | k + 1, x1, x25, x26, x281000, x281001, x288000, x288001 => if x26 < x25 then (if x26 = x1 then (impl_GapsForget.l0 k x1 x25 (wrap64 (x26 + 1)) x281000 x281001 x288000 x288001) else ((impl_Gaps_at.f x281000 x281001 x1 x26).bind fun t288 => (if 0 ≤ t288 then (if t288 < (x288001.length : Int) then ((impl_Gaps_at.f x281000 x281001 x26 x1).bind fun t290 => (if 0 ≤ t290 then (if t290 < (x288001.length : Int) then (impl_GapsForget.l0 k x1 x25 (wrap64 (x26 + 1)) x281000 x281001 x288000 ((x288001.set (t288 : Int).toNat 1099511627776).set (t290 : Int).toNat 1099511627776)) else (none)) else (none))) else (none)) else (none)))) else (some (x288000, x288001))
end
def impl_GapsForget.f (k : Nat) (a0_0 : Int) (l0_1 : List Int) (a1 : Int) : Option (Int × List Int) := (impl_GapsOk.f k a0_0 l0_1).bind fun t282 => (if t282 = true then (if a1 < 1 then (impl_GapsForget.j0 k a1 true a0_0 l0_1) else (impl_GapsForget.j0 k a1 (decide (a1 > a0_0)) a0_0 l0_1)) else (impl_GapsForget.j0 k a1 true a0_0 l0_1))
mutual
def impl_GapsMove.j0 : Nat → Int → Int → Int → Bool → Int → List Int → Option (Int × List Int)
  | 0, _, _, _, _, _, _ => none
  | k + 1, x1, x2, x3, x42, x293000, x293001 => if x42 = true then (some (0, ([] : List Int))) else (if x1 = x2 then ((impl_Gaps_clone.f x293000 x293001).bind fun bt304 => (impl_GapsMove.l0 k x1 x3 (wrap64 (x293000 + 1)) 0 x293000 x293001 bt304.1 bt304.2)) else ((impl_GapsForget.f k x293000 x293001 x1).bind fun bt295 => ((impl_Gaps_at.f x293000 x293001 x1 x2).bind fun t300 => (if 0 ≤ t300 then (if t300 < (bt295.2.length : Int) then ((impl_Gaps_at.f x293000 x293001 x2 x1).bind fun t302 => (if 0 ≤ t302 then (if t302 < (bt295.2.length : Int) then (some (bt295.1, ((bt295.2.set (t300 : Int).toNat x3).set (t302 : Int).toNat (wrap64 (-x3))))) else (none)) else (none))) else (none)) else (none)))))
def impl_GapsMove.l0 : Nat → Int → Int → Int → Int → Int → List Int → Int → List Int → Option (Int × List Int)
  | 0, _, _, _, _, _, _, _, _ => none
  | k + 1, x1, x3, x72, x73, x293000, x293001, x309000, x309001 => if x73 < x72 then (if x73 = x1 then (impl_GapsMove.l0 k x1 x3 x72 (wrap64 (x73 + 1)) x293000 x293001 x309000 x309001) else ((impl_Gaps_at.f x293000 x293001 x1 x73).bind fun t309 => ((impl_Gaps_at.f x293000 x293001 x1 x73).bind fun t310 => (if 0 ≤ t310 then (if t310 < (x293001.length : Int) then ((impl_gapsTogether.f (rd x293001 t310) x3).bind fun t312 => (if 0 ≤ t309 then (if t309 < (x309001.length : Int) then ((impl_Gaps_at.f x293000 x293001 x73 x1).bind fun t314 => ((impl_Gaps_at.f x293000 x293001 x73 x1).bind fun t315 => (if 0 ≤ t315 then (if t315 < (x293001.length : Int) then ((impl_gapsTogether.f (rd x293001 t315) (wrap64 (-x3))).bind fun t317 => (if 0 ≤ t314 then (if t314 < (x309001.length : Int) then (impl_GapsMove.l0 k x1 x3 x72 (wrap64 (x73 + 1)) x293000 x293001 x309000 ((x309001.set (t309 : Int).toNat (mx t312 (-1099511627776))).set (t314 : Int).toNat (mx t317 (-1099511627776)))) else (none)) else (none))) else (none)) else (none)))) else (none)) else (none))) else (none)) else (none))))) else (some (x309000, x309001))
end
def impl_GapsMove.f (k : Nat) (a0_0 : Int) (l0_1 : List Int) (a1 : Int) (a2 : Int) (a3 : Int) : Option (Int × List Int) := (impl_GapsOk.f k a0_0 l0_1).bind fun t294 => (if t294 = true then (if a1 < 1 then (impl_GapsMove.j0 k a1 a2 a3 true a0_0 l0_1) else (if a1 > a0_0 then (impl_GapsMove.j0 k a1 a2 a3 true a0_0 l0_1) else (if a2 < 0 then (impl_GapsMove.j0 k a1 a2 a3 true a0_0 l0_1) else (if a2 > a0_0 then (impl_GapsMove.j0 k a1 a2 a3 true a0_0 l0_1) else (if a3 < (-4294967296) then (impl_GapsMove.j0 k a1 a2 a3 true a0_0 l0_1) else (impl_GapsMove.j0 k a1 a2 a3 (decide (a3 > 4294967296)) a0_0 l0_1)))))) else (impl_GapsMove.j0 k a1 a2 a3 true a0_0 l0_1))
mutual
def spec_GapsForget.j0 : Nat → Int → Bool → Int → List Int → Option (Int × List Int)
  | 0, _, _, _, _ => none
  | k + 1, x1, x16, x320000, x320001 => if x16 = true then (some (0, ([] : List Int))) else ((spec_l11Copy.f k x320000 x320001).bind fun bt323 => (spec_GapsForget.l0 k x1 0 x320000 x320001 bt323.1 bt323.2))
def spec_GapsForget.l0 : Nat → Int → Int → Int → List Int → Int → List Int → Option (Int × List Int)
  | 0, _, _, _, _, _, _ => none
  | k + 1, x1, x6, x320000, x320001, x328000, x328001 => if x6 ≤ x320000 then (if x6 = x1 then (spec_GapsForget.l0 k x1 (wrap64 (x6 + 1)) x320000 x320001 x328000 x328001) else ((spec_l11Put.f x328000 x328001 x6 x1 1099511627776).bind fun t328 => ((spec_l11Put.f x328000 t328 x1 x6 1099511627776).bind fun t329 => (spec_GapsForget.l0 k x1 (wrap64 (x6 + 1)) x320000 x320001 x328000 t329)))) else (some (x328000, x328001))
end
def spec_GapsForget.f (k : Nat) (a0_0 : Int) (l0_1 : List Int) (a1 : Int) : Option (Int × List Int) := (spec_GapsOk.f k a0_0 l0_1).bind fun t321 => (if t321 = true then ((spec_l1In.f a1 1 a0_0).bind fun t322 => (spec_GapsForget.j0 k a1 (!t322) a0_0 l0_1)) else (spec_GapsForget.j0 k a1 true a0_0 l0_1))
def spec_l11C.f (a0 : Int) : Option (Bool) := (spec_l1In.f a0 (-4294967296) 4294967296).bind fun t330 => (some t330)
def spec_l8Max.f (a0 : Int) (a1 : Int) : Option (Int) := if a0 > a1 then (some a0) else (some a1)
mutual
def spec_GapsMove.j0 : Nat → Int → Int → Int → Bool → Int → List Int → Option (Int × List Int)
  | 0, _, _, _, _, _, _ => none
  | k + 1, x1, x2, x3, x33, x332000, x332001 => if x33 = true then (some (0, ([] : List Int))) else (if x1 = x2 then ((spec_l11Copy.f k x332000 x332001).bind fun bt344 => (spec_GapsMove.l0 k x1 x3 0 x332000 x332001 bt344.1 bt344.2)) else ((spec_GapsForget.f k x332000 x332001 x1).bind fun bt337 => ((spec_l11Put.f bt337.1 bt337.2 x1 x2 x3).bind fun t342 => ((spec_l11Put.f bt337.1 t342 x2 x1 (wrap64 (-x3))).bind fun t343 => (some (bt337.1, t343))))))
def spec_GapsMove.l0 : Nat → Int → Int → Int → Int → List Int → Int → List Int → Option (Int × List Int)
  | 0, _, _, _, _, _, _, _ => none
  | k + 1, x1, x3, x11, x332000, x332001, x349000, x349001 => if x11 ≤ x332000 then (if x11 = x1 then (spec_GapsMove.l0 k x1 x3 (wrap64 (x11 + 1)) x332000 x332001 x349000 x349001) else ((spec_l11At.f x332000 x332001 x1 x11).bind fun t349 => ((spec_l11Add.f t349 x3).bind fun t350 => ((spec_l8Max.f (-1099511627776) t350).bind fun t351 => ((spec_l11Put.f x349000 x349001 x1 x11 t351).bind fun t352 => ((spec_l11At.f x332000 x332001 x11 x1).bind fun t353 => ((spec_l11Add.f t353 (wrap64 (-x3))).bind fun t354 => ((spec_l8Max.f (-1099511627776) t354).bind fun t355 => ((spec_l11Put.f x349000 t352 x11 x1 t355).bind fun t356 => (spec_GapsMove.l0 k x1 x3 (wrap64 (x11 + 1)) x332000 x332001 x349000 t356)))))))))) else (some (x349000, x349001))
end
def spec_GapsMove.f (k : Nat) (a0_0 : Int) (l0_1 : List Int) (a1 : Int) (a2 : Int) (a3 : Int) : Option (Int × List Int) := (spec_GapsOk.f k a0_0 l0_1).bind fun t333 => (if t333 = true then ((spec_l1In.f a1 1 a0_0).bind fun t334 => (if t334 = true then ((spec_l1In.f a2 0 a0_0).bind fun t335 => (if t335 = true then ((spec_l11C.f a3).bind fun t336 => (spec_GapsMove.j0 k a1 a2 a3 (!t336) a0_0 l0_1)) else (spec_GapsMove.j0 k a1 a2 a3 true a0_0 l0_1))) else (spec_GapsMove.j0 k a1 a2 a3 true a0_0 l0_1))) else (spec_GapsMove.j0 k a1 a2 a3 true a0_0 l0_1))
mutual
def laws_FnGapsBack.j0 : Nat → List Int → Bool → Int → List Int → Option (Bool)
  | 0, _, _, _, _ => none
  | k + 1, x0, x37, x368000, x368001 => if x37 = true then (some true) else ((laws_at.f x0 4).bind fun t374 => (if x368000 = 0 then (none) else ((laws_at.f x0 5).bind fun t375 => (laws_FnGapsBack.l0 k (wrap64 (1 + (Int.tmod (wrap64 (t374)) x368000))) (wrap64 ((Int.tmod (wrap64 (t375)) 2001) - 1000)) 0 x368000 x368001))))
def laws_FnGapsBack.l0 : Nat → Int → Int → Int → Int → List Int → Option (Bool)
  | 0, _, _, _, _, _ => none
  | k + 1, x8, x9, x10, x368000, x368001 => if x10 < (x368001.length : Int) then (if 0 ≤ x10 then (if (rd x368001 x10) = 1099511627776 then (laws_FnGapsBack.l0 k x8 x9 (wrap64 (x10 + 1)) x368000 x368001) else (if (rd x368001 x10) > 4294967296 then (some true) else (laws_FnGapsBack.l0 k x8 x9 (wrap64 (x10 + 1)) x368000 x368001))) else (none)) else ((impl_GapsMove.f k x368000 x368001 x8 x8 x9).bind fun bt378 => ((impl_GapsMove.f k bt378.1 bt378.2 x8 x8 (wrap64 (-x9))).bind fun bt383 => ((laws_sameInts.f k bt383.2 x368001).bind fun t388 => (if t388 = true then ((spec_GapsMove.f k x368000 x368001 x8 x8 x9).bind fun bt389 => ((laws_sameInts.f k bt378.2 bt389.2).bind fun t393 => (some t393))) else (some false)))))
end
def laws_FnGapsBack.f (k : Nat) (l0 : List Int) : Option (Bool) := if (l0.length : Int) > 1048576 then (some true) else ((spec_DrawGapsClose.f k l0).bind fun bt357 => ((impl_GapsClose.f k bt357.1 bt357.2).bind fun bt362 => ((spec_GapsClose.f k bt357.1 bt357.2).bind fun bt368 => (if (bt362.2.2 != bt368.2.2) = true then (some false) else (if bt362.2.2 = true then (laws_FnGapsBack.j0 k l0 (decide (bt362.1 < 1)) bt362.1 bt362.2.1) else (laws_FnGapsBack.j0 k l0 true bt362.1 bt362.2.1))))))
def laws_FnGapsBack.Pure : Prop := ∀ (l0 : List Int), l0.length ≤ maxLen → l0.length * 1 ≤ 140737488351232 → (∀ x ∈ l0, (Lit.int .u8 x).wf = true) → ∃ k, laws_FnGapsBack.f k l0 = some true
end Go.Proofs.Ytkekcenlleebeaa.PFnGapsBack
