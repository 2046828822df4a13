/- The program's functions that the law reaches, as plain Lean functions. Conditions: none. -/
import Derived.Test.YtkekcenlleebeaaQFnGapsClosex0
namespace Go.Proofs.Ytkekcenlleebeaa.PFnGapsClose
open Go.RowKit Go.Proofs.YtkekcenlleebeaaW.PrintWords Go.Proofs.YtkekcenlleebeaaW.PrintLast Go.Proofs.YtkekcenlleebeaaW.PrintMore
set_option linter.unusedVariables false

def spec_l1Open.f (l0 : List Int) : Option (List Int × Int) := if (l0.length : Int) > 2000 then (if 2000 ≤ (l0.length : Int) then (some (l0.take 2000, 0)) else (none)) else (some (l0, 0))
def spec_l1Rd_pick.j0 : Nat → Int → Bool → List Int → Int → Option (Int × Int)
  | 0, _, _, _, _ => none
  | k + 1, x1, x24, x1000, x1001 => if x24 = true then (some (0, x1001)) else (if (wrap64 (x1001 - 1)) < (x1000.length : Int) then (if 0 ≤ (wrap64 (x1001 - 1)) then (if x1 = 0 then (none) else (some (Int.tmod (wrap64 (rd x1000 (wrap64 (x1001 - 1)))) x1, x1001))) else (none)) else (if (x1000.length : Int) = 0 then (none) else (if 0 ≤ (Int.tmod (wrap64 (x1001 - 1)) (x1000.length : Int)) then (if (Int.tmod (wrap64 (x1001 - 1)) (x1000.length : Int)) < (x1000.length : Int) then (if 0 ≤ (Int.tmod (wrap64 ((wrap64 ((wrap64 (x1001 - 1)) * 7)) + 3)) (x1000.length : Int)) then (if (Int.tmod (wrap64 ((wrap64 ((wrap64 (x1001 - 1)) * 7)) + 3)) (x1000.length : Int)) < (x1000.length : Int) then (if x1 = 0 then (none) else (some (Int.tmod (Go.bits .xor .i64 (wrap64 ((wrap64 ((wrap64 ((wrap64 ((wrap64 (rd x1000 (Int.tmod (wrap64 (x1001 - 1)) (x1000.length : Int)))) * 131)) + (wrap64 ((wrap64 (rd x1000 (Int.tmod (wrap64 ((wrap64 ((wrap64 (x1001 - 1)) * 7)) + 3)) (x1000.length : Int)))) * 1117)))) + (wrap64 ((wrap64 (x1001 - 1)) * 29)))) + (wrap64 ((wrap64 (Int.tdiv (wrap64 (x1001 - 1)) (x1000.length : Int))) * 53)))) (wrap64 (Int.tdiv (wrap64 ((wrap64 ((wrap64 ((wrap64 ((wrap64 (rd x1000 (Int.tmod (wrap64 (x1001 - 1)) (x1000.length : Int)))) * 131)) + (wrap64 ((wrap64 (rd x1000 (Int.tmod (wrap64 ((wrap64 ((wrap64 (x1001 - 1)) * 7)) + 3)) (x1000.length : Int)))) * 1117)))) + (wrap64 ((wrap64 (x1001 - 1)) * 29)))) + (wrap64 ((wrap64 (Int.tdiv (wrap64 (x1001 - 1)) (x1000.length : Int))) * 53)))) 64))) x1, x1001))) else (none)) else (none)) else (none)) else (none))))
def spec_l1Rd_pick.f (k : Nat) (s0_0 : List Int) (s0_1 : Int) (a1 : Int) : Option (Int × Int) := if a1 < 1 then (spec_l1Rd_pick.j0 k a1 true s0_0 (wrap64 (s0_1 + 1))) else (spec_l1Rd_pick.j0 k a1 ((s0_0.length : Int) == 0) s0_0 (wrap64 (s0_1 + 1)))
def spec_l11Size.f (k : Nat) (s0_0 : List Int) (s0_1 : Int) : Option (Int × Int) := (spec_l1Rd_pick.f k s0_0 s0_1 20).bind fun bt107 => (if bt107.1 = 0 then (some (12, bt107.2)) else ((spec_l1Rd_pick.f k s0_0 bt107.2 5).bind fun bt109 => (some (bt109.1, bt109.2))))
def spec_l1Mod.f (a0 : Int) (a1 : Int) : Option (Int) := if a1 = 0 then (none) else (if (Int.tmod a0 a1) < 0 then (some (wrap64 ((Int.tmod a0 a1) + a1))) else (some (Int.tmod a0 a1)))
def spec_NumWrap.f (a0 : Int) : Option (Int) := (spec_l1Mod.f a0 4294967296).bind fun t111 => (if t111 > 2147483647 then (some (wrap64 (t111 - 4294967296))) else (some t111))
def spec_l1Power.l0 : Nat → Int → Int → Int → Option (Int)
  | 0, _, _, _ => none
  | k + 1, x0, x3, x4 => if x4 < x0 then (spec_l1Power.l0 k x0 (wrap64 (2 * x3)) (wrap64 (x4 + 1))) else (some x3)
def spec_l1Power.f (k : Nat) (a0 : Int) : Option (Int) := spec_l1Power.l0 k a0 1 0
def spec_l1Rd_num.l0 : Nat → Int → Int → List Int → Int → Option (Int × Int)
  | 0, _, _, _, _ => none
  | k + 1, x4, x5, x1000, x1001 => if x5 < 4 then ((spec_l1Rd_pick.f k x1000 x1001 256).bind fun bt130 => (spec_l1Rd_num.l0 k (wrap64 ((wrap64 (x4 * 256)) + bt130.1)) (wrap64 (x5 + 1)) x1000 bt130.2)) else ((spec_NumWrap.f x4).bind fun t132 => (some (t132, x1001)))
def spec_l1Rd_num.f (k : Nat) (s0_0 : List Int) (s0_1 : Int) : Option (Int × Int) := (spec_l1Rd_pick.f k s0_0 s0_1 10).bind fun bt112 => (if bt112.1 < 4 then ((spec_l1Rd_pick.f k s0_0 bt112.2 21).bind fun bt114 => (some (wrap64 (bt114.1 - 10), bt114.2))) else (if bt112.1 = 4 then ((spec_l1Rd_pick.f k s0_0 bt112.2 3).bind fun bt116 => (some (wrap64 (2147483647 - bt116.1), bt116.2))) else (if bt112.1 = 5 then ((spec_l1Rd_pick.f k s0_0 bt112.2 3).bind fun bt118 => (some (wrap64 ((-2147483648) + bt118.1), bt118.2))) else (if bt112.1 = 6 then ((spec_l1Rd_pick.f k s0_0 bt112.2 31).bind fun bt120 => ((spec_l1Power.f k bt120.1).bind fun t122 => ((spec_l1Rd_pick.f k s0_0 bt120.2 3).bind fun bt123 => (some (wrap64 ((wrap64 (t122 + bt123.1)) - 1), bt123.2))))) else (if bt112.1 = 7 then ((spec_l1Rd_pick.f k s0_0 bt112.2 31).bind fun bt125 => ((spec_l1Power.f k bt125.1).bind fun t127 => ((spec_l1Rd_pick.f k s0_0 bt125.2 3).bind fun bt128 => (some (wrap64 ((wrap64 ((wrap64 (-t127)) + bt128.1)) - 1), bt128.2))))) else (spec_l1Rd_num.l0 k 0 0 s0_0 bt112.2))))))
def spec_l11Numbers.l0 : Nat → Int → List Int → Int → List Int → Int → Option (List Int × Int)
  | 0, _, _, _, _, _ => none
  | k + 1, x1, x5, x6, x1000, x1001 => if x6 < x1 then ((spec_l1Rd_pick.f k x1000 x1001 6).bind fun bt136 => (if bt136.1 = 0 then ((spec_l1Rd_num.f k x1000 bt136.2).bind fun bt138 => (if x5.length < 17592186044416 then (spec_l11Numbers.l0 k x1 (x5 ++ [bt138.1]) (wrap64 (x6 + 1)) x1000 bt138.2) else (none))) else ((spec_l1Rd_pick.f k x1000 bt136.2 21).bind fun bt143 => (if x5.length < 17592186044416 then (spec_l11Numbers.l0 k x1 (x5 ++ [wrap64 (bt143.1 - 10)]) (wrap64 (x6 + 1)) x1000 bt143.2) else (none))))) else (some (x5, x1001))
def spec_l11Numbers.f (k : Nat) (s0_0 : List Int) (s0_1 : Int) (a1 : Int) : Option (List Int × Int) := spec_l11Numbers.l0 k a1 (([] : List Int)) 0 s0_0 s0_1
def spec_l11Put.f (a0_0 : Int) (l0_1 : List Int) (a1 : Int) (a2 : Int) (a3 : Int) : Option (List Int) := if 0 ≤ (wrap64 ((wrap64 (a1 * (wrap64 (a0_0 + 1)))) + a2)) then (if (wrap64 ((wrap64 (a1 * (wrap64 (a0_0 + 1)))) + a2)) < (l0_1.length : Int) then (some (l0_1.set ((wrap64 ((wrap64 (a1 * (wrap64 (a0_0 + 1)))) + a2)) : Int).toNat a3)) else (none)) else (none)
def spec_l11Num.f (l0 : List Int) (a1 : Int) : Option (Int) := if a1 = 0 then (some 0) else (if 0 ≤ (wrap64 (a1 - 1)) then (if (wrap64 (a1 - 1)) < (l0.length : Int) then (some (rd l0 (wrap64 (a1 - 1)))) else (none)) else (none))
def spec_l1In.f (a0 : Int) (a1 : Int) (a2 : Int) : Option (Bool) := if a0 ≥ a1 then (some (decide (a0 ≤ a2))) else (some false)
mutual
def spec_GapsTop.l0 : Nat → Int → Int → Int → List Int → Option (Int × List Int)
  | 0, _, _, _, _ => none
  | k + 1, x0, x4, x154000, x154001 => if x4 ≤ x0 then (spec_GapsTop.l1 k x0 x4 0 x154000 x154001) else (some (x154000, x154001))
def spec_GapsTop.l1 : Nat → Int → Int → Int → Int → List Int → Option (Int × List Int)
  | 0, _, _, _, _, _ => none
  | k + 1, x0, x4, x5, x154000, x154001 => if x5 ≤ x0 then (if x4 = x5 then (if x154001.length < 17592186044416 then (spec_GapsTop.l1 k x0 x4 (wrap64 (x5 + 1)) x154000 (x154001 ++ [0])) else (none)) else (if x154001.length < 17592186044416 then (spec_GapsTop.l1 k x0 x4 (wrap64 (x5 + 1)) x154000 (x154001 ++ [1099511627776])) else (none))) else (spec_GapsTop.l0 k x0 (wrap64 (x4 + 1)) x154000 x154001)
end
def spec_GapsTop.f (k : Nat) (a0 : Int) : Option (Int × List Int) := (spec_l1In.f a0 0 12).bind fun t152 => (if t152 = true then (spec_GapsTop.l0 k a0 0 a0 ([] : List Int)) else (some (0, ([] : List Int))))
def spec_l11Gaps.l0 : Nat → Int → List Int → Int → List Int → Int → Int → List Int → Option (Int × List Int × Int)
  | 0, _, _, _, _, _, _, _ => none
  | k + 1, x1, x2, x8, x1000, x1001, x166000, x166001 => if x8 > 0 then ((spec_l1Rd_pick.f k x1000 x1001 (wrap64 (x1 + 1))).bind fun bt168 => ((spec_l1Rd_pick.f k x1000 bt168.2 (wrap64 (x1 + 1))).bind fun bt170 => (if bt168.1 = bt170.1 then (spec_l11Gaps.l0 k x1 x2 (wrap64 (x8 - 1)) x1000 bt170.2 x166000 x166001) else ((spec_l11Num.f x2 bt168.1).bind fun t172 => ((spec_l11Num.f x2 bt170.1).bind fun t173 => ((spec_l1Rd_pick.f k x1000 bt170.2 6).bind fun bt174 => ((spec_l1Rd_pick.f k x1000 bt174.2 9).bind fun bt176 => (if bt176.1 = 0 then ((spec_l11Put.f x166000 x166001 bt168.1 bt170.1 (wrap64 ((wrap64 ((wrap64 (t172 - t173)) + bt174.1)) - 4))).bind fun t178 => (spec_l11Gaps.l0 k x1 x2 (wrap64 (x8 - 1)) x1000 bt176.2 x166000 t178)) else ((spec_l11Put.f x166000 x166001 bt168.1 bt170.1 (wrap64 ((wrap64 (t172 - t173)) + bt174.1))).bind fun t179 => (spec_l11Gaps.l0 k x1 x2 (wrap64 (x8 - 1)) x1000 bt176.2 x166000 t179)))))))))) else (some (x166000, x166001, x1001))
def spec_l11Gaps.f (k : Nat) (s0_0 : List Int) (s0_1 : Int) (a1 : Int) (l2 : List Int) : Option (Int × List Int × Int) := (spec_GapsTop.f k a1).bind fun bt161 => ((spec_l1Rd_pick.f k s0_0 s0_1 (wrap64 ((wrap64 (3 * a1)) + 3))).bind fun bt166 => (spec_l11Gaps.l0 k a1 l2 bt166.1 s0_0 bt166.2 bt161.1 bt161.2))
mutual
def spec_l11Spoilt.j0 : Nat → Int → List Int → Int → Int → List Int → Option (Int × List Int × Int)
  | 0, _, _, _, _, _ => none
  | k + 1, x5, x1000, x1001, x181000, x181001 => if x5 = 1 then (if x181001.length < 17592186044416 then (spec_l11Spoilt.j1 k x5 x1000 x1001 x181000 (x181001 ++ [0])) else (none)) else (spec_l11Spoilt.j1 k x5 x1000 x1001 x181000 x181001)
def spec_l11Spoilt.j1 : Nat → Int → List Int → Int → Int → List Int → Option (Int × List Int × Int)
  | 0, _, _, _, _, _ => none
  | k + 1, x5, x1000, x1001, x181000, x181001 => if x5 = 2 then (spec_l11Spoilt.j2 k (decide ((x181001.length : Int) > 0)) x1000 x1001 x181000 x181001) else (spec_l11Spoilt.j2 k false x1000 x1001 x181000 x181001)
def spec_l11Spoilt.j2 : Nat → Bool → List Int → Int → Int → List Int → Option (Int × List Int × Int)
  | 0, _, _, _, _, _ => none
  | k + 1, x28, x1000, x1001, x181000, x181001 => if x28 = true then ((spec_l1Rd_pick.f k x1000 x1001 (x181001.length : Int)).bind fun bt187 => ((some (([1099511627776, 1099511627777, (-1099511627776), (-1099511627777), 1] : List Int) : List Int)).bind fun y189 => ((spec_l1Rd_pick.f k x1000 bt187.2 5).bind fun bt192 => (if 0 ≤ bt192.1 then (if bt192.1 < (y189.length : Int) then (if 0 ≤ bt187.1 then (if bt187.1 < (x181001.length : Int) then (some (x181000, (x181001.set (bt187.1 : Int).toNat (rd y189 bt192.1)), bt192.2)) else (none)) else (none)) else (none)) else (none))))) else (some (x181000, x181001, x1001))
end
def spec_l11Spoilt.f (k : Nat) (s0_0 : List Int) (s0_1 : Int) (a1_0 : Int) (l1_1 : List Int) : Option (Int × List Int × Int) := (spec_l1Rd_pick.f k s0_0 s0_1 30).bind fun bt182 => (if bt182.1 = 0 then (spec_l11Spoilt.j0 k bt182.1 s0_0 bt182.2 (wrap64 (a1_0 + 1)) l1_1) else (spec_l11Spoilt.j0 k bt182.1 s0_0 bt182.2 a1_0 l1_1))
def spec_DrawGapsHas.f (k : Nat) (l0 : List Int) : Option (Int × List Int × List Int) := (spec_l1Open.f l0).bind fun bt197 => ((spec_l11Size.f k bt197.1 bt197.2).bind fun bt200 => ((spec_l11Numbers.f k bt197.1 bt200.2 bt200.1).bind fun bt202 => ((spec_l11Gaps.f k bt197.1 bt202.2 bt200.1 bt202.1).bind fun bt206 => ((spec_l1Rd_pick.f k bt197.1 bt206.2.2 8).bind fun bt212 => (if bt212.1 = 0 then ((spec_l11Numbers.f k bt197.1 bt212.2 bt200.1).bind fun bt214 => (some (bt206.1, bt206.2.1, bt214.1))) else (if bt212.1 = 1 then (if bt202.1.length < 17592186044416 then (some (bt206.1, bt206.2.1, (bt202.1 ++ [0]))) else (none)) else ((spec_l11Spoilt.f k bt197.1 bt212.2 bt206.1 bt206.2.1).bind fun bt221 => (some (bt221.1, bt221.2.1, bt202.1)))))))))
def impl_Gaps_at.f (a0_0 : Int) (l0_1 : List Int) (a1 : Int) (a2 : Int) : Option (Int) := some (wrap64 ((wrap64 (a1 * (wrap64 (a0_0 + 1)))) + a2))
mutual
def impl_GapsOk.j0 : Nat → Bool → Int → List Int → Option (Bool)
  | 0, _, _, _ => none
  | k + 1, x26, x228000, x228001 => if x26 = true then (some false) else (impl_GapsOk.l0 k (wrap64 (x228000 + 1)) 0 x228000 x228001)
def impl_GapsOk.l0 : Nat → Int → Int → Int → List Int → Option (Bool)
  | 0, _, _, _, _ => none
  | k + 1, x29, x30, x228000, x228001 => if x30 < x29 then ((impl_Gaps_at.f x228000 x228001 x30 x30).bind fun t228 => (if 0 ≤ t228 then (if t228 < (x228001.length : Int) then (if (rd x228001 t228) = 0 then (impl_GapsOk.l0 k x29 (wrap64 (x30 + 1)) x228000 x228001) else (some false)) else (none)) else (none))) else (impl_GapsOk.l1 k x228001 (x228001.length : Int) 0)
def impl_GapsOk.l1 : Nat → List Int → Int → Int → Option (Bool)
  | 0, _, _, _ => none
  | k + 1, x44, x45, x46 => if x46 < x45 then (if 0 ≤ x46 then (if x46 < (x44.length : Int) then (if (rd x44 x46) < (-1099511627776) then (some false) else (if (rd x44 x46) > 1099511627776 then (some false) else (impl_GapsOk.l1 k x44 x45 (wrap64 (x46 + 1))))) else (none)) else (none)) else (some true)
end
def impl_GapsOk.f (k : Nat) (a0_0 : Int) (l0_1 : List Int) : Option (Bool) := if a0_0 < 0 then (impl_GapsOk.j0 k true a0_0 l0_1) else (if a0_0 > 12 then (impl_GapsOk.j0 k true a0_0 l0_1) else (impl_GapsOk.j0 k ((l0_1.length : Int) != (wrap64 ((wrap64 (a0_0 + 1)) * (wrap64 (a0_0 + 1))))) a0_0 l0_1))
def impl_Gaps_clone.f (a0_0 : Int) (l0_1 : List Int) : Option (Int × List Int) := if ([] : List Int).length + l0_1.length < 17592186044416 then (some (a0_0, (([] : List Int) ++ l0_1))) else (none)
def impl_gapsTogether.f (a0 : Int) (a1 : Int) : Option (Int) := if a0 = 1099511627776 then (some 1099511627776) else (if a1 = 1099511627776 then (some 1099511627776) else (if (wrap64 (a0 + a1)) ≥ 1099511627776 then (some 1099511627776) else (some (wrap64 (a0 + a1)))))
mutual
def impl_GapsClose.l0 : Nat → Int → Int → Int → Int → List Int → Option (Int × List Int × Bool)
  | 0, _, _, _, _, _ => none
  | k + 1, x5, x22, x23, x244000, x244001 => if x23 < x22 then (impl_GapsClose.l1 k x5 x23 x22 x23 x5 0 x244000 x244001) else (impl_GapsClose.l4 k x244001 (x244001.length : Int) 0 x244000 x244001)
def impl_GapsClose.l1 : Nat → Int → Int → Int → Int → Int → Int → Int → List Int → Option (Int × List Int × Bool)
  | 0, _, _, _, _, _, _, _, _ => none
  | k + 1, x5, x6, x22, x23, x26, x27, x244000, x244001 => if x27 < x26 then (impl_GapsClose.l2 k x5 x6 x27 x22 x23 x26 x27 x5 0 x244000 x244001) else (impl_GapsClose.l3 k x5 x22 x23 x5 0 x244000 x244001)
def impl_GapsClose.l2 : Nat → Int → Int → Int → Int → Int → Int → Int → Int → Int → Int → List Int → Option (Int × List Int × Bool)
  | 0, _, _, _, _, _, _, _, _, _, _, _ => none
  | k + 1, x5, x6, x7, x22, x23, x26, x27, x30, x31, x244000, x244001 => if x31 < x30 then (if 0 ≤ (wrap64 ((wrap64 (x7 * x5)) + x6)) then (if (wrap64 ((wrap64 (x7 * x5)) + x6)) < (x244001.length : Int) then (if 0 ≤ (wrap64 ((wrap64 (x6 * x5)) + x31)) then (if (wrap64 ((wrap64 (x6 * x5)) + x31)) < (x244001.length : Int) then ((impl_gapsTogether.f (rd x244001 (wrap64 ((wrap64 (x7 * x5)) + x6))) (rd x244001 (wrap64 ((wrap64 (x6 * x5)) + x31)))).bind fun t246 => (if 0 ≤ (wrap64 ((wrap64 (x7 * x5)) + x31)) then (if (wrap64 ((wrap64 (x7 * x5)) + x31)) < (x244001.length : Int) then (if t246 < (rd x244001 (wrap64 ((wrap64 (x7 * x5)) + x31))) then (impl_GapsClose.l2 k x5 x6 x7 x22 x23 x26 x27 x30 (wrap64 (x31 + 1)) x244000 (x244001.set ((wrap64 ((wrap64 (x7 * x5)) + x31)) : Int).toNat t246)) else (impl_GapsClose.l2 k x5 x6 x7 x22 x23 x26 x27 x30 (wrap64 (x31 + 1)) x244000 x244001)) else (none)) else (none))) else (none)) else (none)) else (none)) else (none)) else (impl_GapsClose.l1 k x5 x6 x22 x23 x26 (wrap64 (x27 + 1)) x244000 x244001)
def impl_GapsClose.l3 : Nat → Int → Int → Int → Int → Int → Int → List Int → Option (Int × List Int × Bool)
  | 0, _, _, _, _, _, _, _ => none
  | k + 1, x5, x22, x23, x75, x76, x244000, x244001 => if x76 < x75 then (if 0 ≤ (wrap64 ((wrap64 (x76 * x5)) + x76)) then (if (wrap64 ((wrap64 (x76 * x5)) + x76)) < (x244001.length : Int) then (if (rd x244001 (wrap64 ((wrap64 (x76 * x5)) + x76))) < 0 then (some (0, ([] : List Int), false)) else (impl_GapsClose.l3 k x5 x22 x23 x75 (wrap64 (x76 + 1)) x244000 x244001)) else (none)) else (none)) else (impl_GapsClose.l0 k x5 x22 (wrap64 (x23 + 1)) x244000 x244001)
def impl_GapsClose.l4 : Nat → List Int → Int → Int → Int → List Int → Option (Int × List Int × Bool)
  | 0, _, _, _, _, _ => none
  | k + 1, x93, x94, x95, x244000, x244001 => if x95 < x94 then (if 0 ≤ x95 then (if x95 < (x93.length : Int) then (if (rd x93 x95) < (-4294967296) then (some (0, ([] : List Int), false)) else (impl_GapsClose.l4 k x93 x94 (wrap64 (x95 + 1)) x244000 x244001)) else (none)) else (none)) else (some (x244000, x244001, true))
end
def impl_GapsClose.f (k : Nat) (a0_0 : Int) (l0_1 : List Int) : Option (Int × List Int × Bool) := (impl_GapsOk.f k a0_0 l0_1).bind fun t238 => (if t238 = true then ((impl_Gaps_clone.f a0_0 l0_1).bind fun bt239 => (impl_GapsClose.l0 k (wrap64 (bt239.1 + 1)) (wrap64 (bt239.1 + 1)) 0 bt239.1 bt239.2)) else (some (0, ([] : List Int), false)))
def spec_l11At.f (a0_0 : Int) (l0_1 : List Int) (a1 : Int) (a2 : Int) : Option (Int) := if 0 ≤ (wrap64 ((wrap64 (a1 * (wrap64 (a0_0 + 1)))) + a2)) then (if (wrap64 ((wrap64 (a1 * (wrap64 (a0_0 + 1)))) + a2)) < (l0_1.length : Int) then (some (rd l0_1 (wrap64 ((wrap64 (a1 * (wrap64 (a0_0 + 1)))) + a2)))) else (none)) else (none)
mutual
def spec_GapsOk.j0 : Nat → Bool → Int → List Int → Option (Bool)
  | 0, _, _, _ => none
  | k + 1, x22, x254000, x254001 => if x22 = true then (some false) else (spec_GapsOk.l0 k 0 x254000 x254001)
def spec_GapsOk.l0 : Nat → Int → Int → List Int → Option (Bool)
  | 0, _, _, _ => none
  | k + 1, x3, x254000, x254001 => if x3 ≤ x254000 then (spec_GapsOk.l1 k x3 0 x254000 x254001) else (some true)
def spec_GapsOk.l1 : Nat → Int → Int → Int → List Int → Option (Bool)
  | 0, _, _, _, _ => none
  | k + 1, x3, x4, x254000, x254001 => if x4 ≤ x254000 then ((spec_l11At.f x254000 x254001 x3 x4).bind fun t255 => ((spec_l1In.f t255 (-1099511627776) 1099511627776).bind fun t256 => (if t256 = true then (if x3 = x4 then (if t255 = 0 then (spec_GapsOk.l1 k x3 (wrap64 (x4 + 1)) x254000 x254001) else (some false)) else (spec_GapsOk.l1 k x3 (wrap64 (x4 + 1)) x254000 x254001)) else (some false)))) else (spec_GapsOk.l0 k (wrap64 (x3 + 1)) x254000 x254001)
end
def spec_GapsOk.f (k : Nat) (a0_0 : Int) (l0_1 : List Int) : Option (Bool) := (spec_l1In.f a0_0 0 12).bind fun t254 => (if t254 = true then (spec_GapsOk.j0 k ((l0_1.length : Int) != (wrap64 ((wrap64 (a0_0 + 1)) * (wrap64 (a0_0 + 1))))) a0_0 l0_1) else (spec_GapsOk.j0 k true a0_0 l0_1))
def spec_l11Copy.l0 : Nat → Int → Int → List Int → Int → List Int → Option (Int × List Int)
  | 0, _, _, _, _, _ => none
  | k + 1, x4, x258000, x258001, x260000, x260001 => if x4 < (x258001.length : Int) then (if 0 ≤ x4 then (if x260001.length < 17592186044416 then (spec_l11Copy.l0 k (wrap64 (x4 + 1)) x258000 x258001 x260000 (x260001 ++ [rd x258001 x4])) else (none)) else (none)) else (some (x260000, x260001))
def spec_l11Copy.f (k : Nat) (a0_0 : Int) (l0_1 : List Int) : Option (Int × List Int) := spec_l11Copy.l0 k 0 a0_0 l0_1 a0_0 ([] : List Int)
def spec_l11Add.f (a0 : Int) (a1 : Int) : Option (Int) := if a0 ≥ 1099511627776 then (some 1099511627776) else (if a1 ≥ 1099511627776 then (some 1099511627776) else (if (wrap64 (a0 + a1)) ≥ 1099511627776 then (some 1099511627776) else (some (wrap64 (a0 + a1)))))
mutual
def spec_GapsClose.l0 : Nat → Int → Int → List Int → Int → List Int → Option (Int × List Int × Bool)
  | 0, _, _, _, _, _ => none
  | k + 1, x5, x265000, x265001, x272000, x272001 => if x5 ≤ x265000 then (spec_GapsClose.l1 k x5 0 x265000 x265001 x272000 x272001) else (spec_GapsClose.l3 k 0 x265000 x265001 x272000 x272001)
def spec_GapsClose.l1 : Nat → Int → Int → Int → List Int → Int → List Int → Option (Int × List Int × Bool)
  | 0, _, _, _, _, _, _ => none
  | k + 1, x5, x6, x265000, x265001, x272000, x272001 => if x6 ≤ x265000 then (spec_GapsClose.l2 k x5 x6 0 x265000 x265001 x272000 x272001) else (spec_GapsClose.l0 k (wrap64 (x5 + 1)) x265000 x265001 x272000 x272001)
def spec_GapsClose.l2 : Nat → Int → Int → Int → Int → List Int → Int → List Int → Option (Int × List Int × Bool)
  | 0, _, _, _, _, _, _, _ => none
  | k + 1, x5, x6, x7, x265000, x265001, x272000, x272001 => if x7 ≤ x265000 then ((spec_l11At.f x272000 x272001 x6 x5).bind fun t272 => ((spec_l11At.f x272000 x272001 x5 x7).bind fun t273 => ((spec_l11Add.f t272 t273).bind fun t274 => ((spec_l11At.f x272000 x272001 x6 x7).bind fun t275 => (if t274 < t275 then ((spec_l11Put.f x272000 x272001 x6 x7 t274).bind fun t276 => (spec_GapsClose.l2 k x5 x6 (wrap64 (x7 + 1)) x265000 x265001 x272000 t276)) else (spec_GapsClose.l2 k x5 x6 (wrap64 (x7 + 1)) x265000 x265001 x272000 x272001)))))) else (spec_GapsClose.l1 k x5 (wrap64 (x6 + 1)) x265000 x265001 x272000 x272001)
def spec_GapsClose.l3 : Nat → Int → Int → List Int → Int → List Int → Option (Int × List Int × Bool)
  | 0, _, _, _, _, _ => none
  | k + 1, x9, x265000, x265001, x272000, x272001 => if x9 < (x272001.length : Int) then (if 0 ≤ x9 then (if (rd x272001 x9) < (-4294967296) then (some (0, ([] : List Int), false)) else (if (wrap64 (x265000 + 2)) = 0 then (none) else (if (Int.tmod x9 (wrap64 (x265000 + 2))) = 0 then (if (rd x272001 x9) < 0 then (some (0, ([] : List Int), false)) else (spec_GapsClose.l3 k (wrap64 (x9 + 1)) x265000 x265001 x272000 x272001)) else (spec_GapsClose.l3 k (wrap64 (x9 + 1)) x265000 x265001 x272000 x272001)))) else (none)) else (some (x272000, x272001, true))
end
def spec_GapsClose.f (k : Nat) (a0_0 : Int) (l0_1 : List Int) : Option (Int × List Int × Bool) := (spec_GapsOk.f k a0_0 l0_1).bind fun t266 => (if t266 = true then ((spec_l11Copy.f k a0_0 l0_1).bind fun bt267 => (spec_GapsClose.l0 k 0 a0_0 l0_1 bt267.1 bt267.2)) else (some (0, ([] : List Int), false)))
def laws_sameInts.l0 : Nat → List Int → List Int → Int → Option (Bool)
  | 0, _, _, _ => none
  | k + 1, x0, x1, x5 => if x5 < (x0.length : Int) then (if 0 ≤ x5 then (if x5 < (x1.length : Int) then (if (rd x0 x5) = (rd x1 x5) then (laws_sameInts.l0 k x0 x1 (wrap64 (x5 + 1))) else (some false)) else (none)) else (none)) else (some true)
def laws_sameInts.f (k : Nat) (l0 : List Int) (l1 : List Int) : Option (Bool) := if (l0.length : Int) = (l1.length : Int) then (laws_sameInts.l0 k l0 l1 0) else (some false)
def impl_NumOk.f (a0 : Int) : Option (Bool) := if a0 ≥ (-2147483648) then (some (decide (a0 ≤ 2147483647))) else (some false)
mutual
def impl_GapsHas.j0 : Nat → List Int → Bool → Int → List Int → Option (Bool)
  | 0, _, _, _, _ => none
  | k + 1, x1, x22, x282000, x282001 => if x22 = true then (some false) else (if 0 ≤ (wrap64 (x282000 + 1)) then (if (wrap64 (x282000 + 1) : Int).toNat ≤ 35184372088832 then ((some (List.replicate 0 0 : List Int)).bind fun y283 => (if y283.length < 17592186044416 then (impl_GapsHas.l0 k (y283 ++ [0]) x1 (x1.length : Int) 0 x282000 x282001) else (none))) else (none)) else (none))
def impl_GapsHas.l0 : Nat → List Int → List Int → Int → Int → Int → List Int → Option (Bool)
  | 0, _, _, _, _, _, _ => none
  | k + 1, x5, x30, x31, x32, x282000, x282001 => if x32 < x31 then (if 0 ≤ x32 then (if x32 < (x30.length : Int) then ((impl_NumOk.f (rd x30 x32)).bind fun t290 => (if t290 = true then (if x5.length < 17592186044416 then (impl_GapsHas.l0 k (x5 ++ [rd x30 x32]) x30 x31 (wrap64 (x32 + 1)) x282000 x282001) else (none)) else (some false))) else (none)) else (none)) else (impl_GapsHas.l1 k x5 x5 (x5.length : Int) 0 x282000 x282001)
def impl_GapsHas.l1 : Nat → List Int → List Int → Int → Int → Int → List Int → Option (Bool)
  | 0, _, _, _, _, _, _ => none
  | k + 1, x5, x44, x45, x46, x282000, x282001 => if x46 < x45 then (if 0 ≤ x46 then (if x46 < (x44.length : Int) then (impl_GapsHas.l2 k x5 x46 (rd x44 x46) x44 x45 x46 x5 (x5.length : Int) 0 x282000 x282001) else (none)) else (none)) else (some true)
def impl_GapsHas.l2 : Nat → List Int → Int → Int → List Int → Int → Int → List Int → Int → Int → Int → List Int → Option (Bool)
  | 0, _, _, _, _, _, _, _, _, _, _, _ => none
  | k + 1, x5, x8, x9, x44, x45, x46, x51, x52, x53, x282000, x282001 => if x53 < x52 then (if 0 ≤ x53 then (if x53 < (x51.length : Int) then ((impl_Gaps_at.f x282000 x282001 x8 x53).bind fun t296 => (if 0 ≤ t296 then (if t296 < (x282001.length : Int) then (if (rd x282001 t296) = 1099511627776 then (impl_GapsHas.l2 k x5 x8 x9 x44 x45 x46 x51 x52 (wrap64 (x53 + 1)) x282000 x282001) else (if (wrap64 (x9 - (rd x51 x53))) > (rd x282001 t296) then (some false) else (impl_GapsHas.l2 k x5 x8 x9 x44 x45 x46 x51 x52 (wrap64 (x53 + 1)) x282000 x282001))) else (none)) else (none))) else (none)) else (none)) else (impl_GapsHas.l1 k x5 x44 x45 (wrap64 (x46 + 1)) x282000 x282001)
end
def impl_GapsHas.f (k : Nat) (a0_0 : Int) (l0_1 : List Int) (l1 : List Int) : Option (Bool) := (impl_GapsOk.f k a0_0 l0_1).bind fun t282 => (if t282 = true then (impl_GapsHas.j0 k l1 ((l1.length : Int) != a0_0) a0_0 l0_1) else (impl_GapsHas.j0 k l1 true a0_0 l0_1))
def spec_NumOk.f (a0 : Int) : Option (Bool) := (spec_l1In.f a0 (-2147483648) 2147483647).bind fun t298 => (some t298)
mutual
def spec_GapsHas.j0 : Nat → List Int → Bool → Int → List Int → Option (Bool)
  | 0, _, _, _, _ => none
  | k + 1, x1, x17, x300000, x300001 => if x17 = true then (some false) else (spec_GapsHas.l0 k x1 0 x300000 x300001)
def spec_GapsHas.l0 : Nat → List Int → Int → Int → List Int → Option (Bool)
  | 0, _, _, _, _ => none
  | k + 1, x1, x5, x300000, x300001 => if x5 < (x1.length : Int) then (if 0 ≤ x5 then ((spec_NumOk.f (rd x1 x5)).bind fun t302 => (if t302 = true then (spec_GapsHas.l0 k x1 (wrap64 (x5 + 1)) x300000 x300001) else (some false))) else (none)) else (spec_GapsHas.l1 k x1 0 x300000 x300001)
def spec_GapsHas.l1 : Nat → List Int → Int → Int → List Int → Option (Bool)
  | 0, _, _, _, _ => none
  | k + 1, x1, x6, x300000, x300001 => if x6 ≤ x300000 then (spec_GapsHas.l2 k x1 x6 0 x300000 x300001) else (some true)
def spec_GapsHas.l2 : Nat → List Int → Int → Int → Int → List Int → Option (Bool)
  | 0, _, _, _, _, _ => none
  | k + 1, x1, x6, x7, x300000, x300001 => if x7 ≤ x300000 then ((spec_l11Num.f x1 x6).bind fun t303 => ((spec_l11Num.f x1 x7).bind fun t304 => ((spec_l11At.f x300000 x300001 x6 x7).bind fun t305 => (if (wrap64 (t303 - t304)) > t305 then (some false) else (spec_GapsHas.l2 k x1 x6 (wrap64 (x7 + 1)) x300000 x300001))))) else (spec_GapsHas.l1 k x1 (wrap64 (x6 + 1)) x300000 x300001)
end
def spec_GapsHas.f (k : Nat) (a0_0 : Int) (l0_1 : List Int) (l1 : List Int) : Option (Bool) := (spec_GapsOk.f k a0_0 l0_1).bind fun t300 => (if t300 = true then (spec_GapsHas.j0 k l1 ((l1.length : Int) != a0_0) a0_0 l0_1) else (spec_GapsHas.j0 k l1 true a0_0 l0_1))
mutual
def impl_GapsIn.j0 : Nat → Bool → Int → List Int → Int → List Int → Option (Bool)
  | 0, _, _, _, _, _ => none
  | k + 1, x21, x307000, x307001, x308000, x308001 => if x21 = true then (some false) else (impl_GapsIn.l0 k x307001 (x307001.length : Int) 0 x308000 x308001)
def impl_GapsIn.l0 : Nat → List Int → Int → Int → Int → List Int → Option (Bool)
  | 0, _, _, _, _, _ => none
  | k + 1, x23, x24, x25, x308000, x308001 => if x25 < x24 then (if 0 ≤ x25 then (if x25 < (x23.length : Int) then (if x25 < (x308001.length : Int) then (if (rd x23 x25) > (rd x308001 x25) then (some false) else (impl_GapsIn.l0 k x23 x24 (wrap64 (x25 + 1)) x308000 x308001)) else (none)) else (none)) else (none)) else (some true)
end
def impl_GapsIn.f (k : Nat) (a0_0 : Int) (l0_1 : List Int) (a1_0 : Int) (l1_1 : List Int) : Option (Bool) := (impl_GapsOk.f k a0_0 l0_1).bind fun t308 => (if t308 = true then ((impl_GapsOk.f k a1_0 l1_1).bind fun t309 => (if t309 = true then (impl_GapsIn.j0 k (a0_0 != a1_0) a0_0 l0_1 a1_0 l1_1) else (impl_GapsIn.j0 k true a0_0 l0_1 a1_0 l1_1))) else (impl_GapsIn.j0 k true a0_0 l0_1 a1_0 l1_1))
mutual
def laws_FnGapsClose.j0 : Nat → List Int → Bool → Bool → Int → List Int → Int → List Int → Option (Bool)
  | 0, _, _, _, _, _, _, _ => none
  | k + 1, x4, x6, x47, x320000, x320001, x326000, x326001 => if x47 = true then (some false) else ((impl_GapsHas.f k x320000 x320001 x4).bind fun t333 => ((spec_GapsHas.f k x320000 x320001 x4).bind fun t334 => (if (t333 != t334) = true then (some false) else (if x6 = true then ((impl_GapsHas.f k x326000 x326001 x4).bind fun t335 => (if (t335 != t333) = true then (laws_FnGapsClose.j1 k true x326000 x326001) else ((impl_GapsIn.f k x326000 x326001 x320000 x320001).bind fun t336 => (if t336 = true then ((impl_GapsOk.f k x326000 x326001).bind fun t337 => (laws_FnGapsClose.j1 k (!t337) x326000 x326001)) else (laws_FnGapsClose.j1 k true x326000 x326001))))) else (if t333 = true then (some false) else (some ((x326001.length : Int) == 0)))))))
def laws_FnGapsClose.j1 : Nat → Bool → Int → List Int → Option (Bool)
  | 0, _, _, _ => none
  | k + 1, x81, x326000, x326001 => if x81 = true then (some false) else ((impl_GapsClose.f k x326000 x326001).bind fun bt338 => (if bt338.2.2 = true then ((laws_sameInts.f k bt338.2.1 x326001).bind fun t344 => (some t344)) else (some false)))
end
def laws_FnGapsClose.f (k : Nat) (l0 : List Int) : Option (Bool) := if (l0.length : Int) > 1048576 then (some true) else ((spec_DrawGapsHas.f k l0).bind fun bt312 => ((impl_GapsClose.f k bt312.1 bt312.2.1).bind fun bt320 => ((spec_GapsClose.f k bt312.1 bt312.2.1).bind fun bt326 => (if (bt320.2.2 != bt326.2.2) = true then (laws_FnGapsClose.j0 k bt312.2.2 bt320.2.2 true bt312.1 bt312.2.1 bt320.1 bt320.2.1) else (if bt320.1 = bt326.1 then ((laws_sameInts.f k bt320.2.1 bt326.2.1).bind fun t332 => (laws_FnGapsClose.j0 k bt312.2.2 bt320.2.2 (!t332) bt312.1 bt312.2.1 bt320.1 bt320.2.1)) else (laws_FnGapsClose.j0 k bt312.2.2 bt320.2.2 true bt312.1 bt312.2.1 bt320.1 bt320.2.1))))))
def laws_FnGapsClose.Pure : Prop := ∀ (l0 : List Int), l0.length ≤ maxLen → l0.length * 1 ≤ 140737488351232 → (∀ x ∈ l0, (Lit.int .u8 x).wf = true) → ∃ k, laws_FnGapsClose.f k l0 = some true
end Go.Proofs.Ytkekcenlleebeaa.PFnGapsClose
