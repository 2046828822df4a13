/- The program's functions that the law reaches, as plain Lean functions. Conditions: none. -/
import Derived.Test.YtkekcenlleebeaaQFnGapsJoinx0
namespace Go.Proofs.Ytkekcenlleebeaa.PFnGapsJoin
open Go.RowKit Go.Proofs.YtkekcenlleebeaaW.PrintWords Go.Proofs.YtkekcenlleebeaaW.PrintLast Go.Proofs.YtkekcenlleebeaaW.PrintMore
set_option linter.unusedVariables false

def spec_l1Open.f (l0 : List Int) : Option (List Int × Int) := if (l0.length : Int) > 2000 then (if 2000 ≤ (l0.length : Int) then (some (l0.take 2000, 0)) else (none)) else (some (l0, 0))
def spec_l1Rd_pick.j0 : Nat → Int → Bool → List Int → Int → Option (Int × Int)
  | 0, _, _, _, _ => none
  | k + 1, x1, x24, x1000, x1001 => if x24 = true then (some (0, x1001)) else (if (wrap64 (x1001 - 1)) < (x1000.length : Int) then (if 0 ≤ (wrap64 (x1001 - 1)) then (if x1 = 0 then (none) else (some (Int.tmod (wrap64 (rd x1000 (wrap64 (x1001 - 1)))) x1, x1001))) else (none)) else (if (x1000.length : Int) = 0 then (none) else (if 0 ≤ (Int.tmod (wrap64 (x1001 - 1)) (x1000.length : Int)) then (if (Int.tmod (wrap64 (x1001 - 1)) (x1000.length : Int)) < (x1000.length : Int) then (if 0 ≤ (Int.tmod (wrap64 ((wrap64 ((wrap64 (x1001 - 1)) * 7)) + 3)) (x1000.length : Int)) then (if (Int.tmod (wrap64 ((wrap64 ((wrap64 (x1001 - 1)) * 7)) + 3)) (x1000.length : Int)) < (x1000.length : Int) then (if x1 = 0 then (none) else (some (Int.tmod (Go.bits .xor .i64 (wrap64 ((wrap64 ((wrap64 ((wrap64 ((wrap64 (rd x1000 (Int.tmod (wrap64 (x1001 - 1)) (x1000.length : Int)))) * 131)) + (wrap64 ((wrap64 (rd x1000 (Int.tmod (wrap64 ((wrap64 ((wrap64 (x1001 - 1)) * 7)) + 3)) (x1000.length : Int)))) * 1117)))) + (wrap64 ((wrap64 (x1001 - 1)) * 29)))) + (wrap64 ((wrap64 (Int.tdiv (wrap64 (x1001 - 1)) (x1000.length : Int))) * 53)))) (wrap64 (Int.tdiv (wrap64 ((wrap64 ((wrap64 ((wrap64 ((wrap64 (rd x1000 (Int.tmod (wrap64 (x1001 - 1)) (x1000.length : Int)))) * 131)) + (wrap64 ((wrap64 (rd x1000 (Int.tmod (wrap64 ((wrap64 ((wrap64 (x1001 - 1)) * 7)) + 3)) (x1000.length : Int)))) * 1117)))) + (wrap64 ((wrap64 (x1001 - 1)) * 29)))) + (wrap64 ((wrap64 (Int.tdiv (wrap64 (x1001 - 1)) (x1000.length : Int))) * 53)))) 64))) x1, x1001))) else (none)) else (none)) else (none)) else (none))))
def spec_l1Rd_pick.f (k : Nat) (s0_0 : List Int) (s0_1 : Int) (a1 : Int) : Option (Int × Int) := if a1 < 1 then (spec_l1Rd_pick.j0 k a1 true s0_0 (wrap64 (s0_1 + 1))) else (spec_l1Rd_pick.j0 k a1 ((s0_0.length : Int) == 0) s0_0 (wrap64 (s0_1 + 1)))
def spec_l11Size.f (k : Nat) (s0_0 : List Int) (s0_1 : Int) : Option (Int × Int) := (spec_l1Rd_pick.f k s0_0 s0_1 20).bind fun bt107 => (if bt107.1 = 0 then (some (12, bt107.2)) else ((spec_l1Rd_pick.f k s0_0 bt107.2 5).bind fun bt109 => (some (bt109.1, bt109.2))))
def spec_l1Mod.f (a0 : Int) (a1 : Int) : Option (Int) := if a1 = 0 then (none) else (if (Int.tmod a0 a1) < 0 then (some (wrap64 ((Int.tmod a0 a1) + a1))) else (some (Int.tmod a0 a1)))
def spec_NumWrap.f (a0 : Int) : Option (Int) := (spec_l1Mod.f a0 4294967296).bind fun t111 => (if t111 > 2147483647 then (some (wrap64 (t111 - 4294967296))) else (some t111))
def spec_l1Power.l0 : Nat → Int → Int → Int → Option (Int)
  | 0, _, _, _ => none
  | k + 1, x0, x3, x4 => if x4 < x0 then (spec_l1Power.l0 k x0 (wrap64 (2 * x3)) (wrap64 (x4 + 1))) else (some x3)
def spec_l1Power.f (k : Nat) (a0 : Int) : Option (Int) := spec_l1Power.l0 k a0 1 0
def spec_l1Rd_num.l0 : Nat → Int → Int → List Int → Int → Option (Int × Int)
  | 0, _, _, _, _ => none
  | k + 1, x4, x5, x1000, x1001 => if x5 < 4 then ((spec_l1Rd_pick.f k x1000 x1001 256).bind fun bt130 => (spec_l1Rd_num.l0 k (wrap64 ((wrap64 (x4 * 256)) + bt130.1)) (wrap64 (x5 + 1)) x1000 bt130.2)) else ((spec_NumWrap.f x4).bind fun t132 => (some (t132, x1001)))
def spec_l1Rd_num.f (k : Nat) (s0_0 : List Int) (s0_1 : Int) : Option (Int × Int) := (spec_l1Rd_pick.f k s0_0 s0_1 10).bind fun bt112 => (if bt112.1 < 4 then ((spec_l1Rd_pick.f k s0_0 bt112.2 21).bind fun bt114 => (some (wrap64 (bt114.1 - 10), bt114.2))) else (if bt112.1 = 4 then ((spec_l1Rd_pick.f k s0_0 bt112.2 3).bind fun bt116 => (some (wrap64 (2147483647 - bt116.1), bt116.2))) else (if bt112.1 = 5 then ((spec_l1Rd_pick.f k s0_0 bt112.2 3).bind fun bt118 => (some (wrap64 ((-2147483648) + bt118.1), bt118.2))) else (if bt112.1 = 6 then ((spec_l1Rd_pick.f k s0_0 bt112.2 31).bind fun bt120 => ((spec_l1Power.f k bt120.1).bind fun t122 => ((spec_l1Rd_pick.f k s0_0 bt120.2 3).bind fun bt123 => (some (wrap64 ((wrap64 (t122 + bt123.1)) - 1), bt123.2))))) else (if bt112.1 = 7 then ((spec_l1Rd_pick.f k s0_0 bt112.2 31).bind fun bt125 => ((spec_l1Power.f k bt125.1).bind fun t127 => ((spec_l1Rd_pick.f k s0_0 bt125.2 3).bind fun bt128 => (some (wrap64 ((wrap64 ((wrap64 (-t127)) + bt128.1)) - 1), bt128.2))))) else (spec_l1Rd_num.l0 k 0 0 s0_0 bt112.2))))))
def spec_l11Numbers.l0 : Nat → Int → List Int → Int → List Int → Int → Option (List Int × Int)
  | 0, _, _, _, _, _ => none
  | k + 1, x1, x5, x6, x1000, x1001 => if x6 < x1 then ((spec_l1Rd_pick.f k x1000 x1001 6).bind fun bt136 => (if bt136.1 = 0 then ((spec_l1Rd_num.f k x1000 bt136.2).bind fun bt138 => (if x5.length < 17592186044416 then (spec_l11Numbers.l0 k x1 (x5 ++ [bt138.1]) (wrap64 (x6 + 1)) x1000 bt138.2) else (none))) else ((spec_l1Rd_pick.f k x1000 bt136.2 21).bind fun bt143 => (if x5.length < 17592186044416 then (spec_l11Numbers.l0 k x1 (x5 ++ [wrap64 (bt143.1 - 10)]) (wrap64 (x6 + 1)) x1000 bt143.2) else (none))))) else (some (x5, x1001))
def spec_l11Numbers.f (k : Nat) (s0_0 : List Int) (s0_1 : Int) (a1 : Int) : Option (List Int × Int) := spec_l11Numbers.l0 k a1 (([] : List Int)) 0 s0_0 s0_1
def spec_l11Put.f (a0_0 : Int) (l0_1 : List Int) (a1 : Int) (a2 : Int) (a3 : Int) : Option (List Int) := if 0 ≤ (wrap64 ((wrap64 (a1 * (wrap64 (a0_0 + 1)))) + a2)) then (if (wrap64 ((wrap64 (a1 * (wrap64 (a0_0 + 1)))) + a2)) < (l0_1.length : Int) then (some (l0_1.set ((wrap64 ((wrap64 (a1 * (wrap64 (a0_0 + 1)))) + a2)) : Int).toNat a3)) else (none)) else (none)
def spec_l11Num.f (l0 : List Int) (a1 : Int) : Option (Int) := if a1 = 0 then (some 0) else (if 0 ≤ (wrap64 (a1 - 1)) then (if (wrap64 (a1 - 1)) < (l0.length : Int) then (some (rd l0 (wrap64 (a1 - 1)))) else (none)) else (none))
def spec_l1In.f (a0 : Int) (a1 : Int) (a2 : Int) : Option (Bool) := if a0 ≥ a1 then (some (decide (a0 ≤ a2))) else (some false)
mutual
def spec_GapsTop.l0 : Nat → Int → Int → Int → List Int → Option (Int × List Int)
  | 0, _, _, _, _ => none
  | k + 1, x0, x4, x154000, x154001 => if x4 ≤ x0 then (spec_GapsTop.l1 k x0 x4 0 x154000 x154001) else (some (x154000, x154001))
def spec_GapsTop.l1 : Nat → Int → Int → Int → Int → List Int → Option (Int × List Int)
  | 0, _, _, _, _, _ => none
  | k + 1, x0, x4, x5, x154000, x154001 => if x5 ≤ x0 then (if x4 = x5 then (if x154001.length < 17592186044416 then (spec_GapsTop.l1 k x0 x4 (wrap64 (x5 + 1)) x154000 (x154001 ++ [0])) else (none)) else (if x154001.length < 17592186044416 then (spec_GapsTop.l1 k x0 x4 (wrap64 (x5 + 1)) x154000 (x154001 ++ [1099511627776])) else (none))) else (spec_GapsTop.l0 k x0 (wrap64 (x4 + 1)) x154000 x154001)
end
def spec_GapsTop.f (k : Nat) (a0 : Int) : Option (Int × List Int) := (spec_l1In.f a0 0 12).bind fun t152 => (if t152 = true then (spec_GapsTop.l0 k a0 0 a0 ([] : List Int)) else (some (0, ([] : List Int))))
def spec_l11Gaps.l0 : Nat → Int → List Int → Int → List Int → Int → Int → List Int → Option (Int × List Int × Int)
  | 0, _, _, _, _, _, _, _ => none
  | k + 1, x1, x2, x8, x1000, x1001, x166000, x166001 => if x8 > 0 then ((spec_l1Rd_pick.f k x1000 x1001 (wrap64 (x1 + 1))).bind fun bt168 => ((spec_l1Rd_pick.f k x1000 bt168.2 (wrap64 (x1 + 1))).bind fun bt170 => (if bt168.1 = bt170.1 then (spec_l11Gaps.l0 k x1 x2 (wrap64 (x8 - 1)) x1000 bt170.2 x166000 x166001) else ((spec_l11Num.f x2 bt168.1).bind fun t172 => ((spec_l11Num.f x2 bt170.1).bind fun t173 => ((spec_l1Rd_pick.f k x1000 bt170.2 6).bind fun bt174 => ((spec_l1Rd_pick.f k x1000 bt174.2 9).bind fun bt176 => (if bt176.1 = 0 then ((spec_l11Put.f x166000 x166001 bt168.1 bt170.1 (wrap64 ((wrap64 ((wrap64 (t172 - t173)) + bt174.1)) - 4))).bind fun t178 => (spec_l11Gaps.l0 k x1 x2 (wrap64 (x8 - 1)) x1000 bt176.2 x166000 t178)) else ((spec_l11Put.f x166000 x166001 bt168.1 bt170.1 (wrap64 ((wrap64 (t172 - t173)) + bt174.1))).bind fun t179 => (spec_l11Gaps.l0 k x1 x2 (wrap64 (x8 - 1)) x1000 bt176.2 x166000 t179)))))))))) else (some (x166000, x166001, x1001))
def spec_l11Gaps.f (k : Nat) (s0_0 : List Int) (s0_1 : Int) (a1 : Int) (l2 : List Int) : Option (Int × List Int × Int) := (spec_GapsTop.f k a1).bind fun bt161 => ((spec_l1Rd_pick.f k s0_0 s0_1 (wrap64 ((wrap64 (3 * a1)) + 3))).bind fun bt166 => (spec_l11Gaps.l0 k a1 l2 bt166.1 s0_0 bt166.2 bt161.1 bt161.2))
mutual
def spec_l11Spoilt.j0 : Nat → Int → List Int → Int → Int → List Int → Option (Int × List Int × Int)
  | 0, _, _, _, _, _ => none
  | k + 1, x5, x1000, x1001, x181000, x181001 => if x5 = 1 then (if x181001.length < 17592186044416 then (spec_l11Spoilt.j1 k x5 x1000 x1001 x181000 (x181001 ++ [0])) else (none)) else (spec_l11Spoilt.j1 k x5 x1000 x1001 x181000 x181001)
def spec_l11Spoilt.j1 : Nat → Int → List Int → Int → Int → List Int → Option (Int × List Int × Int)
  | 0, _, _, _, _, _ => none
  | k + 1, x5, x1000, x1001, x181000, x181001 => if x5 = 2 then (spec_l11Spoilt.j2 k (decide ((x181001.length : Int) > 0)) x1000 x1001 x181000 x181001) else (spec_l11Spoilt.j2 k false x1000 x1001 x181000 x181001)
def spec_l11Spoilt.j2 : Nat → Bool → List Int → Int → Int → List Int → Option (Int × List Int × Int)
  | 0, _, _, _, _, _ => none
  | k + 1, x28, x1000, x1001, x181000, x181001 => if x28 = true then ((spec_l1Rd_pick.f k x1000 x1001 (x181001.length : Int)).bind fun bt187 => ((some (([1099511627776, 1099511627777, (-1099511627776), (-1099511627777), 1] : List Int) : List Int)).bind fun y189 => ((spec_l1Rd_pick.f k x1000 bt187.2 5).bind fun bt192 => (if 0 ≤ bt192.1 then (if bt192.1 < (y189.length : Int) then (if 0 ≤ bt187.1 then (if bt187.1 < (x181001.length : Int) then (some (x181000, (x181001.set (bt187.1 : Int).toNat (rd y189 bt192.1)), bt192.2)) else (none)) else (none)) else (none)) else (none))))) else (some (x181000, x181001, x1001))
end
def spec_l11Spoilt.f (k : Nat) (s0_0 : List Int) (s0_1 : Int) (a1_0 : Int) (l1_1 : List Int) : Option (Int × List Int × Int) := (spec_l1Rd_pick.f k s0_0 s0_1 30).bind fun bt182 => (if bt182.1 = 0 then (spec_l11Spoilt.j0 k bt182.1 s0_0 bt182.2 (wrap64 (a1_0 + 1)) l1_1) else (spec_l11Spoilt.j0 k bt182.1 s0_0 bt182.2 a1_0 l1_1))
def spec_DrawGapsHas.f (k : Nat) (l0 : List Int) : Option (Int × List Int × List Int) := (spec_l1Open.f l0).bind fun bt197 => ((spec_l11Size.f k bt197.1 bt197.2).bind fun bt200 => ((spec_l11Numbers.f k bt197.1 bt200.2 bt200.1).bind fun bt202 => ((spec_l11Gaps.f k bt197.1 bt202.2 bt200.1 bt202.1).bind fun bt206 => ((spec_l1Rd_pick.f k bt197.1 bt206.2.2 8).bind fun bt212 => (if bt212.1 = 0 then ((spec_l11Numbers.f k bt197.1 bt212.2 bt200.1).bind fun bt214 => (some (bt206.1, bt206.2.1, bt214.1))) else (if bt212.1 = 1 then (if bt202.1.length < 17592186044416 then (some (bt206.1, bt206.2.1, (bt202.1 ++ [0]))) else (none)) else ((spec_l11Spoilt.f k bt197.1 bt212.2 bt206.1 bt206.2.1).bind fun bt221 => (some (bt221.1, bt221.2.1, bt202.1)))))))))
def laws_sameInts.l0 : Nat → List Int → List Int → Int → Option (Bool)
  | 0, _, _, _ => none
  | k + 1, x0, x1, x5 => if x5 < (x0.length : Int) then (if 0 ≤ x5 then (if x5 < (x1.length : Int) then (if (rd x0 x5) = (rd x1 x5) then (laws_sameInts.l0 k x0 x1 (wrap64 (x5 + 1))) else (some false)) else (none)) else (none)) else (some true)
def laws_sameInts.f (k : Nat) (l0 : List Int) (l1 : List Int) : Option (Bool) := if (l0.length : Int) = (l1.length : Int) then (laws_sameInts.l0 k l0 l1 0) else (some false)
def impl_Gaps_at.f (a0_0 : Int) (l0_1 : List Int) (a1 : Int) (a2 : Int) : Option (Int) := some (wrap64 ((wrap64 (a1 * (wrap64 (a0_0 + 1)))) + a2))
mutual
def impl_GapsOk.j0 : Nat → Bool → Int → List Int → Option (Bool)
  | 0, _, _, _ => none
  | k + 1, x26, x230000, x230001 => if x26 = true then (some false) else (impl_GapsOk.l0 k (wrap64 (x230000 + 1)) 0 x230000 x230001)
def impl_GapsOk.l0 : Nat → Int → Int → Int → List Int → Option (Bool)
  | 0, _, _, _, _ => none
  | k + 1, x29, x30, x230000, x230001 => if x30 < x29 then ((impl_Gaps_at.f x230000 x230001 x30 x30).bind fun t230 => (if 0 ≤ t230 then (if t230 < (x230001.length : Int) then (if (rd x230001 t230) = 0 then (impl_GapsOk.l0 k x29 (wrap64 (x30 + 1)) x230000 x230001) else (some false)) else (none)) else (none))) else (impl_GapsOk.l1 k x230001 (x230001.length : Int) 0)
def impl_GapsOk.l1 : Nat → List Int → Int → Int → Option (Bool)
  | 0, _, _, _ => none
  | k + 1, x44, x45, x46 => if x46 < x45 then (if 0 ≤ x46 then (if x46 < (x44.length : Int) then (if (rd x44 x46) < (-1099511627776) then (some false) else (if (rd x44 x46) > 1099511627776 then (some false) else (impl_GapsOk.l1 k x44 x45 (wrap64 (x46 + 1))))) else (none)) else (none)) else (some true)
end
def impl_GapsOk.f (k : Nat) (a0_0 : Int) (l0_1 : List Int) : Option (Bool) := if a0_0 < 0 then (impl_GapsOk.j0 k true a0_0 l0_1) else (if a0_0 > 12 then (impl_GapsOk.j0 k true a0_0 l0_1) else (impl_GapsOk.j0 k ((l0_1.length : Int) != (wrap64 ((wrap64 (a0_0 + 1)) * (wrap64 (a0_0 + 1))))) a0_0 l0_1))
def impl_NumOk.f (a0 : Int) : Option (Bool) := if a0 ≥ (-2147483648) then (some (decide (a0 ≤ 2147483647))) else (some false)
mutual
def impl_GapsHas.j0 : Nat → List Int → Bool → Int → List Int → Option (Bool)
  | 0, _, _, _, _ => none
  | k + 1, x1, x22, x234000, x234001 => if x22 = true then (some false) else (if 0 ≤ (wrap64 (x234000 + 1)) then (if (wrap64 (x234000 + 1) : Int).toNat ≤ 35184372088832 then ((some (List.replicate 0 0 : List Int)).bind fun y235 => (if y235.length < 17592186044416 then (impl_GapsHas.l0 k (y235 ++ [0]) x1 (x1.length : Int) 0 x234000 x234001) else (none))) else (none)) else (none))
def impl_GapsHas.l0 : Nat → List Int → List Int → Int → Int → Int → List Int → Option (Bool)
  | 0, _, _, _, _, _, _ => none
  | k + 1, x5, x30, x31, x32, x234000, x234001 => if x32 < x31 then (if 0 ≤ x32 then (if x32 < (x30.length : Int) then ((impl_NumOk.f (rd x30 x32)).bind fun t242 => (if t242 = true then (if x5.length < 17592186044416 then (impl_GapsHas.l0 k (x5 ++ [rd x30 x32]) x30 x31 (wrap64 (x32 + 1)) x234000 x234001) else (none)) else (some false))) else (none)) else (none)) else (impl_GapsHas.l1 k x5 x5 (x5.length : Int) 0 x234000 x234001)
def impl_GapsHas.l1 : Nat → List Int → List Int → Int → Int → Int → List Int → Option (Bool)
  | 0, _, _, _, _, _, _ => none
  | k + 1, x5, x44, x45, x46, x234000, x234001 => if x46 < x45 then (if 0 ≤ x46 then (if x46 < (x44.length : Int) then (impl_GapsHas.l2 k x5 x46 (rd x44 x46) x44 x45 x46 x5 (x5.length : Int) 0 x234000 x234001) else (none)) else (none)) else (some true)
def impl_GapsHas.l2 : Nat → List Int → Int → Int → List Int → Int → Int → List Int → Int → Int → Int → List Int → Option (Bool)
  | 0, _, _, _, _, _, _, _, _, _, _, _ => none
  | k + 1, x5, x8, x9, x44, x45, x46, x51, x52, x53, x234000, x234001 => if x53 < x52 then (if 0 ≤ x53 then (if x53 < (x51.length : Int) then ((impl_Gaps_at.f x234000 x234001 x8 x53).bind fun t248 => (if 0 ≤ t248 then (if t248 < (x234001.length : Int) then (if (rd x234001 t248) = 1099511627776 then (impl_GapsHas.l2 k x5 x8 x9 x44 x45 x46 x51 x52 (wrap64 (x53 + 1)) x234000 x234001) else (if (wrap64 (x9 - (rd x51 x53))) > (rd x234001 t248) then (some false) else (impl_GapsHas.l2 k x5 x8 x9 x44 x45 x46 x51 x52 (wrap64 (x53 + 1)) x234000 x234001))) else (none)) else (none))) else (none)) else (none)) else (impl_GapsHas.l1 k x5 x44 x45 (wrap64 (x46 + 1)) x234000 x234001)
end
def impl_GapsHas.f (k : Nat) (a0_0 : Int) (l0_1 : List Int) (l1 : List Int) : Option (Bool) := (impl_GapsOk.f k a0_0 l0_1).bind fun t234 => (if t234 = true then (impl_GapsHas.j0 k l1 ((l1.length : Int) != a0_0) a0_0 l0_1) else (impl_GapsHas.j0 k l1 true a0_0 l0_1))
def spec_l11At.f (a0_0 : Int) (l0_1 : List Int) (a1 : Int) (a2 : Int) : Option (Int) := if 0 ≤ (wrap64 ((wrap64 (a1 * (wrap64 (a0_0 + 1)))) + a2)) then (if (wrap64 ((wrap64 (a1 * (wrap64 (a0_0 + 1)))) + a2)) < (l0_1.length : Int) then (some (rd l0_1 (wrap64 ((wrap64 (a1 * (wrap64 (a0_0 + 1)))) + a2)))) else (none)) else (none)
mutual
def spec_GapsOk.j0 : Nat → Bool → Int → List Int → Option (Bool)
  | 0, _, _, _ => none
  | k + 1, x22, x253000, x253001 => if x22 = true then (some false) else (spec_GapsOk.l0 k 0 x253000 x253001)
def spec_GapsOk.l0 : Nat → Int → Int → List Int → Option (Bool)
  | 0, _, _, _ => none
  | k + 1, x3, x253000, x253001 => if x3 ≤ x253000 then (spec_GapsOk.l1 k x3 0 x253000 x253001) else (some true)
def spec_GapsOk.l1 : Nat → Int → Int → Int → List Int → Option (Bool)
  | 0, _, _, _, _ => none
  | k + 1, x3, x4, x253000, x253001 => if x4 ≤ x253000 then ((spec_l11At.f x253000 x253001 x3 x4).bind fun t254 => ((spec_l1In.f t254 (-1099511627776) 1099511627776).bind fun t255 => (if t255 = true then (if x3 = x4 then (if t254 = 0 then (spec_GapsOk.l1 k x3 (wrap64 (x4 + 1)) x253000 x253001) else (some false)) else (spec_GapsOk.l1 k x3 (wrap64 (x4 + 1)) x253000 x253001)) else (some false)))) else (spec_GapsOk.l0 k (wrap64 (x3 + 1)) x253000 x253001)
end
def spec_GapsOk.f (k : Nat) (a0_0 : Int) (l0_1 : List Int) : Option (Bool) := (spec_l1In.f a0_0 0 12).bind fun t253 => (if t253 = true then (spec_GapsOk.j0 k ((l0_1.length : Int) != (wrap64 ((wrap64 (a0_0 + 1)) * (wrap64 (a0_0 + 1))))) a0_0 l0_1) else (spec_GapsOk.j0 k true a0_0 l0_1))
def spec_NumOk.f (a0 : Int) : Option (Bool) := (spec_l1In.f a0 (-2147483648) 2147483647).bind fun t256 => (some t256)
mutual
def spec_GapsHas.j0 : Nat → List Int → Bool → Int → List Int → Option (Bool)
  | 0, _, _, _, _ => none
  | k + 1, x1, x17, x258000, x258001 => if x17 = true then (some false) else (spec_GapsHas.l0 k x1 0 x258000 x258001)
def spec_GapsHas.l0 : Nat → List Int → Int → Int → List Int → Option (Bool)
  | 0, _, _, _, _ => none
  | k + 1, x1, x5, x258000, x258001 => if x5 < (x1.length : Int) then (if 0 ≤ x5 then ((spec_NumOk.f (rd x1 x5)).bind fun t260 => (if t260 = true then (spec_GapsHas.l0 k x1 (wrap64 (x5 + 1)) x258000 x258001) else (some false))) else (none)) else (spec_GapsHas.l1 k x1 0 x258000 x258001)
def spec_GapsHas.l1 : Nat → List Int → Int → Int → List Int → Option (Bool)
  | 0, _, _, _, _ => none
  | k + 1, x1, x6, x258000, x258001 => if x6 ≤ x258000 then (spec_GapsHas.l2 k x1 x6 0 x258000 x258001) else (some true)
def spec_GapsHas.l2 : Nat → List Int → Int → Int → Int → List Int → Option (Bool)
  | 0, _, _, _, _, _ => none
  | k + 1, x1, x6, x7, x258000, x258001 => if x7 ≤ x258000 then ((spec_l11Num.f x1 x6).bind fun t261 => ((spec_l11Num.f x1 x7).bind fun t262 => ((spec_l11At.f x258000 x258001 x6 x7).bind fun t263 => (if (wrap64 (t261 - t262)) > t263 then (some false) else (spec_GapsHas.l2 k x1 x6 (wrap64 (x7 + 1)) x258000 x258001))))) else (spec_GapsHas.l1 k x1 (wrap64 (x6 + 1)) x258000 x258001)
end
def spec_GapsHas.f (k : Nat) (a0_0 : Int) (l0_1 : List Int) (l1 : List Int) : Option (Bool) := (spec_GapsOk.f k a0_0 l0_1).bind fun t258 => (if t258 = true then (spec_GapsHas.j0 k l1 ((l1.length : Int) != a0_0) a0_0 l0_1) else (spec_GapsHas.j0 k l1 true a0_0 l0_1))
mutual
def impl_GapsIn.j0 : Nat → Bool → Int → List Int → Int → List Int → Option (Bool)
  | 0, _, _, _, _, _ => none
  | k + 1, x21, x265000, x265001, x266000, x266001 => if x21 = true then (some false) else (impl_GapsIn.l0 k x265001 (x265001.length : Int) 0 x266000 x266001)
def impl_GapsIn.l0 : Nat → List Int → Int → Int → Int → List Int → Option (Bool)
  | 0, _, _, _, _, _ => none
  | k + 1, x23, x24, x25, x266000, x266001 => if x25 < x24 then (if 0 ≤ x25 then (if x25 < (x23.length : Int) then (if x25 < (x266001.length : Int) then (if (rd x23 x25) > (rd x266001 x25) then (some false) else (impl_GapsIn.l0 k x23 x24 (wrap64 (x25 + 1)) x266000 x266001)) else (none)) else (none)) else (none)) else (some true)
end
def impl_GapsIn.f (k : Nat) (a0_0 : Int) (l0_1 : List Int) (a1_0 : Int) (l1_1 : List Int) : Option (Bool) := (impl_GapsOk.f k a0_0 l0_1).bind fun t266 => (if t266 = true then ((impl_GapsOk.f k a1_0 l1_1).bind fun t267 => (if t267 = true then (impl_GapsIn.j0 k (a0_0 != a1_0) a0_0 l0_1 a1_0 l1_1) else (impl_GapsIn.j0 k true a0_0 l0_1 a1_0 l1_1))) else (impl_GapsIn.j0 k true a0_0 l0_1 a1_0 l1_1))
def laws_at.f (l0 : List Int) (a1 : Int) : Option (Int) := if (l0.length : Int) = 0 then (some ((wrap64 (a1 * 37)) % 256)) else (if a1 < (l0.length : Int) then (if 0 ≤ a1 then (some (rd l0 a1)) else (none)) else (if 0 ≤ (Int.tmod a1 (l0.length : Int)) then (if (Int.tmod a1 (l0.length : Int)) < (l0.length : Int) then (if 0 ≤ (Int.tmod (wrap64 ((wrap64 (a1 * 5)) + 1)) (l0.length : Int)) then (if (Int.tmod (wrap64 ((wrap64 (a1 * 5)) + 1)) (l0.length : Int)) < (l0.length : Int) then (some (((((((rd l0 (Int.tmod a1 (l0.length : Int))) * 31) % 256) + (rd l0 (Int.tmod (wrap64 ((wrap64 (a1 * 5)) + 1)) (l0.length : Int)))) % 256) + ((a1) % 256)) % 256)) else (none)) else (none)) else (none)) else (none)))
def spec_l11Copy.l0 : Nat → Int → Int → List Int → Int → List Int → Option (Int × List Int)
  | 0, _, _, _, _, _ => none
  | k + 1, x4, x274000, x274001, x276000, x276001 => if x4 < (x274001.length : Int) then (if 0 ≤ x4 then (if x276001.length < 17592186044416 then (spec_l11Copy.l0 k (wrap64 (x4 + 1)) x274000 x274001 x276000 (x276001 ++ [rd x274001 x4])) else (none)) else (none)) else (some (x276000, x276001))
def spec_l11Copy.f (k : Nat) (a0_0 : Int) (l0_1 : List Int) : Option (Int × List Int) := spec_l11Copy.l0 k 0 a0_0 l0_1 a0_0 ([] : List Int)
mutual
def spec_l11Pair.j1 : Nat → Int → List Int → Int → Int → List Int → Int → List Int → Option (Int × List Int × Int × List Int × Int)
  | 0, _, _, _, _, _, _, _ => none
  | k + 1, x4, x1000, x1001, x294000, x294001, x300000, x300001 => (spec_l1Rd_pick.f k x1000 x1001 20).bind fun bt311 => (if bt311.1 = 0 then ((spec_GapsTop.f k (wrap64 (x4 + 1))).bind fun bt313 => (some (x294000, x294001, bt313.1, bt313.2, bt311.2))) else ((spec_l11Spoilt.f k x1000 bt311.2 x300000 x300001).bind fun bt317 => (some (x294000, x294001, bt317.1, bt317.2.1, bt317.2.2))))
def spec_l11Pair.j0 : Nat → Int → Bool → List Int → Int → Int → List Int → Int → List Int → Option (Int × List Int × Int × List Int × Int)
  | 0, _, _, _, _, _, _, _, _ => none
  | k + 1, x4, x34, x1000, x1001, x294000, x294001, x300000, x300001 => if x34 = true then ((spec_l1Rd_pick.f k x1000 x1001 x4).bind fun bt306 => ((spec_l1Rd_pick.f k x1000 bt306.2 12).bind fun bt308 => ((spec_l11Put.f x300000 x300001 (wrap64 (1 + bt306.1)) 0 (wrap64 (bt308.1 - 2))).bind fun t310 => (spec_l11Pair.j1 k x4 x1000 bt308.2 x294000 x294001 x300000 t310)))) else (spec_l11Pair.j1 k x4 x1000 x1001 x294000 x294001 x300000 x300001)
end
def spec_l11Pair.f (k : Nat) (s0_0 : List Int) (s0_1 : Int) : Option (Int × List Int × Int × List Int × Int) := (spec_l11Size.f k s0_0 s0_1).bind fun bt282 => ((spec_l11Numbers.f k s0_0 bt282.2 bt282.1).bind fun bt284 => ((spec_l11Gaps.f k s0_0 bt284.2 bt282.1 bt284.1).bind fun bt288 => ((spec_l11Gaps.f k s0_0 bt288.2.2 bt282.1 bt284.1).bind fun bt294 => ((spec_l1Rd_pick.f k s0_0 bt294.2.2 3).bind fun bt300 => (if bt300.1 = 0 then ((spec_l11Copy.f k bt288.1 bt288.2.1).bind fun bt302 => (if (bt302.2.length : Int) > 1 then (spec_l11Pair.j0 k bt282.1 (decide (bt282.1 > 0)) s0_0 bt300.2 bt288.1 bt288.2.1 bt302.1 bt302.2) else (spec_l11Pair.j0 k bt282.1 false s0_0 bt300.2 bt288.1 bt288.2.1 bt302.1 bt302.2))) else (spec_l11Pair.j1 k bt282.1 s0_0 bt300.2 bt288.1 bt288.2.1 bt294.1 bt294.2.1))))))
def spec_DrawGapsWiden.f (k : Nat) (l0 : List Int) : Option (Int × List Int × Int × List Int) := (spec_l1Open.f l0).bind fun bt324 => ((spec_l11Pair.f k bt324.1 bt324.2).bind fun bt327 => (some (bt327.1, bt327.2.1, bt327.2.2.1, bt327.2.2.2.1)))
def impl_Gaps_clone.f (a0_0 : Int) (l0_1 : List Int) : Option (Int × List Int) := if ([] : List Int).length + l0_1.length < 17592186044416 then (some (a0_0, (([] : List Int) ++ l0_1))) else (none)
mutual
def impl_GapsJoin.j0 : Nat → Bool → Int → List Int → Int → List Int → Option (Int × List Int)
  | 0, _, _, _, _, _ => none
  | k + 1, x22, x344000, x344001, x345000, x345001 => if x22 = true then (some (0, ([] : List Int))) else ((impl_Gaps_clone.f x344000 x344001).bind fun bt348 => (impl_GapsJoin.l0 k x345001 (x345001.length : Int) 0 bt348.1 bt348.2))
def impl_GapsJoin.l0 : Nat → List Int → Int → Int → Int → List Int → Option (Int × List Int)
  | 0, _, _, _, _, _ => none
  | k + 1, x27, x28, x29, x353000, x353001 => if x29 < x28 then (if 0 ≤ x29 then (if x29 < (x27.length : Int) then (if x29 < (x353001.length : Int) then (impl_GapsJoin.l0 k x27 x28 (wrap64 (x29 + 1)) x353000 (x353001.set (x29 : Int).toNat (mx (rd x353001 x29) (rd x27 x29)))) else (none)) else (none)) else (none)) else (some (x353000, x353001))
end
def impl_GapsJoin.f (k : Nat) (a0_0 : Int) (l0_1 : List Int) (a1_0 : Int) (l1_1 : List Int) : Option (Int × List Int) := (impl_GapsOk.f k a0_0 l0_1).bind fun t346 => (if t346 = true then ((impl_GapsOk.f k a1_0 l1_1).bind fun t347 => (if t347 = true then (impl_GapsJoin.j0 k (a0_0 != a1_0) a0_0 l0_1 a1_0 l1_1) else (impl_GapsJoin.j0 k true a0_0 l0_1 a1_0 l1_1))) else (impl_GapsJoin.j0 k true a0_0 l0_1 a1_0 l1_1))
mutual
def impl_GapsWiden.j0 : Nat → Bool → Int → List Int → Int → List Int → Option (Int × List Int)
  | 0, _, _, _, _, _ => none
  | k + 1, x22, x357000, x357001, x358000, x358001 => if x22 = true then (some (0, ([] : List Int))) else ((impl_Gaps_clone.f x357000 x357001).bind fun bt361 => (impl_GapsWiden.l0 k x358001 (x358001.length : Int) 0 bt361.1 bt361.2))
def impl_GapsWiden.l0 : Nat → List Int → Int → Int → Int → List Int → Option (Int × List Int)
  | 0, _, _, _, _, _ => none
  | k + 1, x27, x28, x29, x366000, x366001 => if x29 < x28 then (if 0 ≤ x29 then (if x29 < (x27.length : Int) then (if x29 < (x366001.length : Int) then (if (rd x27 x29) > (rd x366001 x29) then (impl_GapsWiden.l0 k x27 x28 (wrap64 (x29 + 1)) x366000 (x366001.set (x29 : Int).toNat 1099511627776)) else (impl_GapsWiden.l0 k x27 x28 (wrap64 (x29 + 1)) x366000 x366001)) else (none)) else (none)) else (none)) else (some (x366000, x366001))
end
def impl_GapsWiden.f (k : Nat) (a0_0 : Int) (l0_1 : List Int) (a1_0 : Int) (l1_1 : List Int) : Option (Int × List Int) := (impl_GapsOk.f k a0_0 l0_1).bind fun t359 => (if t359 = true then ((impl_GapsOk.f k a1_0 l1_1).bind fun t360 => (if t360 = true then (impl_GapsWiden.j0 k (a0_0 != a1_0) a0_0 l0_1 a1_0 l1_1) else (impl_GapsWiden.j0 k true a0_0 l0_1 a1_0 l1_1))) else (impl_GapsWiden.j0 k true a0_0 l0_1 a1_0 l1_1))
def spec_l8Max.f (a0 : Int) (a1 : Int) : Option (Int) := if a0 > a1 then (some a0) else (some a1)
def spec_l11Two.f (k : Nat) (a0_0 : Int) (l0_1 : List Int) (a1_0 : Int) (l1_1 : List Int) : Option (Bool) := (spec_GapsOk.f k a0_0 l0_1).bind fun t371 => (if t371 = true then ((spec_GapsOk.f k a1_0 l1_1).bind fun t372 => (if t372 = true then (some (a0_0 == a1_0)) else (some false))) else (some false))
def spec_GapsJoin.l0 : Nat → Int → Int → List Int → Int → List Int → Int → List Int → Option (Int × List Int)
  | 0, _, _, _, _, _, _, _ => none
  | k + 1, x6, x374000, x374001, x375000, x375001, x378000, x378001 => if x6 < (x374001.length : Int) then (if 0 ≤ x6 then (if x6 < (x375001.length : Int) then ((spec_l8Max.f (rd x374001 x6) (rd x375001 x6)).bind fun t380 => (if x378001.length < 17592186044416 then (spec_GapsJoin.l0 k (wrap64 (x6 + 1)) x374000 x374001 x375000 x375001 x378000 (x378001 ++ [t380])) else (none))) else (none)) else (none)) else (some (x378000, x378001))
def spec_GapsJoin.f (k : Nat) (a0_0 : Int) (l0_1 : List Int) (a1_0 : Int) (l1_1 : List Int) : Option (Int × List Int) := (spec_l11Two.f k a0_0 l0_1 a1_0 l1_1).bind fun t376 => (if t376 = true then (spec_GapsJoin.l0 k 0 a0_0 l0_1 a1_0 l1_1 a0_0 ([] : List Int)) else (some (0, ([] : List Int))))
def spec_GapsWiden.l0 : Nat → Int → Int → List Int → Int → List Int → Int → List Int → Option (Int × List Int)
  | 0, _, _, _, _, _, _, _ => none
  | k + 1, x6, x385000, x385001, x386000, x386001, x389000, x389001 => if x6 < (x385001.length : Int) then (if 0 ≤ x6 then (if x6 < (x386001.length : Int) then (if (rd x386001 x6) > (rd x385001 x6) then (if x389001.length < 17592186044416 then (spec_GapsWiden.l0 k (wrap64 (x6 + 1)) x385000 x385001 x386000 x386001 x389000 (x389001 ++ [1099511627776])) else (none)) else (if x389001.length < 17592186044416 then (spec_GapsWiden.l0 k (wrap64 (x6 + 1)) x385000 x385001 x386000 x386001 x389000 (x389001 ++ [rd x385001 x6])) else (none))) else (none)) else (none)) else (some (x389000, x389001))
def spec_GapsWiden.f (k : Nat) (a0_0 : Int) (l0_1 : List Int) (a1_0 : Int) (l1_1 : List Int) : Option (Int × List Int) := (spec_l11Two.f k a0_0 l0_1 a1_0 l1_1).bind fun t387 => (if t387 = true then (spec_GapsWiden.l0 k 0 a0_0 l0_1 a1_0 l1_1 a0_0 ([] : List Int)) else (some (0, ([] : List Int))))
mutual
def laws_FnGapsJoin.j0 : Nat → List Int → Bool → Int → List Int → Int → List Int → Int → List Int → Int → List Int → Option (Bool)
  | 0, _, _, _, _, _, _, _, _, _, _ => none
  | k + 1, x0, x40, x406000, x406001, x407000, x407001, x412000, x412001, x417000, x417001 => if x40 = true then (some false) else ((spec_GapsOk.f k x406000 x406001).bind fun t427 => (if t427 = true then ((spec_GapsOk.f k x407000 x407001).bind fun t428 => (if t428 = true then (laws_FnGapsJoin.j1 k x0 (x406000 != x407000) x406000 x406001 x407000 x407001 x412000 x412001 x417000 x417001) else (laws_FnGapsJoin.j1 k x0 true x406000 x406001 x407000 x407001 x412000 x412001 x417000 x417001))) else (laws_FnGapsJoin.j1 k x0 true x406000 x406001 x407000 x407001 x412000 x412001 x417000 x417001)))
def laws_FnGapsJoin.j1 : Nat → List Int → Bool → Int → List Int → Int → List Int → Int → List Int → Int → List Int → Option (Bool)
  | 0, _, _, _, _, _, _, _, _, _, _ => none
  | k + 1, x0, x55, x406000, x406001, x407000, x407001, x412000, x412001, x417000, x417001 => if x55 = true then (if (x412001.length : Int) = 0 then (some ((x417001.length : Int) == 0)) else (some false)) else ((spec_DrawGapsHas.f k x0).bind fun bt429 => (laws_FnGapsJoin.l0 k x0 bt429.2.2 x406000 x406001 x407000 x407001 x412000 x412001 x417000 x417001))
def laws_FnGapsJoin.l0 : Nat → List Int → List Int → Int → List Int → Int → List Int → Int → List Int → Int → List Int → Option (Bool)
  | 0, _, _, _, _, _, _, _, _, _, _ => none
  | k + 1, x0, x8, x406000, x406001, x407000, x407001, x412000, x412001, x417000, x417001 => if (x8.length : Int) < x406000 then ((laws_at.f x0 (x8.length : Int)).bind fun t437 => (if x8.length < 17592186044416 then (laws_FnGapsJoin.l0 k x0 (x8 ++ [wrap64 ((Int.tmod (wrap64 (t437)) 21) - 10)]) x406000 x406001 x407000 x407001 x412000 x412001 x417000 x417001) else (none))) else (if 0 ≤ x406000 then (if x406000 ≤ (x8.length : Int) then ((some (x8.take (x406000 : Int).toNat : List Int)).bind fun y441 => ((spec_GapsHas.f k x406000 x406001 y441).bind fun t444 => (if t444 = true then ((impl_GapsHas.f k x412000 x412001 y441).bind fun t445 => (if t445 = true then ((impl_GapsHas.f k x417000 x417001 y441).bind fun t446 => (laws_FnGapsJoin.j3 k (!t446) x406000 x406001 x407000 x407001 x412000 x412001 x417000 x417001)) else (laws_FnGapsJoin.j3 k true x406000 x406001 x407000 x407001 x412000 x412001 x417000 x417001))) else ((spec_GapsHas.f k x407000 x407001 y441).bind fun t447 => (if t447 = true then ((impl_GapsHas.f k x412000 x412001 y441).bind fun t448 => (if t448 = true then ((impl_GapsHas.f k x417000 x417001 y441).bind fun t449 => (laws_FnGapsJoin.j3 k (!t449) x406000 x406001 x407000 x407001 x412000 x412001 x417000 x417001)) else (laws_FnGapsJoin.j3 k true x406000 x406001 x407000 x407001 x412000 x412001 x417000 x417001))) else (laws_FnGapsJoin.j3 k false x406000 x406001 x407000 x407001 x412000 x412001 x417000 x417001)))))) else (none)) else (none))
def laws_FnGapsJoin.j3 : Nat → Bool → Int → List Int → Int → List Int → Int → List Int → Int → List Int → Option (Bool)
  | 0, _, _, _, _, _, _, _, _, _ => none
  | k + 1, x109, x406000, x406001, x407000, x407001, x412000, x412001, x417000, x417001 => if x109 = true then (some false) else ((impl_GapsIn.f k x406000 x406001 x412000 x412001).bind fun t450 => (if t450 = true then ((impl_GapsIn.f k x407000 x407001 x412000 x412001).bind fun t451 => (if t451 = true then ((impl_GapsIn.f k x412000 x412001 x417000 x417001).bind fun t452 => (some t452)) else (some false))) else (some false)))
end
def laws_FnGapsJoin.f (k : Nat) (l0 : List Int) : Option (Bool) := if (l0.length : Int) > 1048576 then (some true) else ((spec_DrawGapsWiden.f k l0).bind fun bt397 => ((impl_GapsJoin.f k bt397.1 bt397.2.1 bt397.2.2.1 bt397.2.2.2).bind fun bt407 => ((impl_GapsWiden.f k bt397.1 bt397.2.1 bt397.2.2.1 bt397.2.2.2).bind fun bt412 => ((spec_GapsJoin.f k bt397.1 bt397.2.1 bt397.2.2.1 bt397.2.2.2).bind fun bt417 => ((laws_sameInts.f k bt407.2 bt417.2).bind fun t421 => (if t421 = true then ((spec_GapsWiden.f k bt397.1 bt397.2.1 bt397.2.2.1 bt397.2.2.2).bind fun bt422 => ((laws_sameInts.f k bt412.2 bt422.2).bind fun t426 => (laws_FnGapsJoin.j0 k l0 (!t426) bt397.1 bt397.2.1 bt397.2.2.1 bt397.2.2.2 bt407.1 bt407.2 bt412.1 bt412.2))) else (laws_FnGapsJoin.j0 k l0 true bt397.1 bt397.2.1 bt397.2.2.1 bt397.2.2.2 bt407.1 bt407.2 bt412.1 bt412.2)))))))
def laws_FnGapsJoin.Pure : Prop := ∀ (l0 : List Int), l0.length ≤ maxLen → l0.length * 1 ≤ 140737488351232 → (∀ x ∈ l0, (Lit.int .u8 x).wf = true) → ∃ k, laws_FnGapsJoin.f k l0 = some true
end Go.Proofs.Ytkekcenlleebeaa.PFnGapsJoin
