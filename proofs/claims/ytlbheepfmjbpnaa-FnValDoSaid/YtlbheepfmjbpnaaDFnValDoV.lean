/- The program's functions that the law reaches, as plain Lean functions. Conditions: none. -/
import Derived.Test.YtlbheepfmjbpnaaQFnValDox0V
namespace Go.Proofs.Ytlbheepfmjbpnaa.PFnValDo
open Go.RowKit Go.Proofs.YtlbheepfmjbpnaaW.PrintWords Go.Proofs.YtlbheepfmjbpnaaW.PrintLast Go.Proofs.YtlbheepfmjbpnaaW.PrintMore
set_option linter.unusedVariables false

def laws_sameInts.l0 : Nat → List Int → List Int → Int → Option (Bool)
  | 0, _, _, _ => none
  | k + 1, x0, x1, x5 => if x5 < (x0.length : Int) then (if 0 ≤ x5 then (if x5 < (x1.length : Int) then (if (rd x0 x5) = (rd x1 x5) then (laws_sameInts.l0 k x0 x1 (wrap64 (x5 + 1))) else (some false)) else (none)) else (none)) else (some true)
def laws_sameInts.f (k : Nat) (l0 : List Int) (l1 : List Int) : Option (Bool) := if (l0.length : Int) = (l1.length : Int) then (laws_sameInts.l0 k l0 l1 0) else (some false)
def laws_has.l0 : Nat → List Int → Int → Int → Option (Bool)
  | 0, _, _, _ => none
  | k + 1, x0, x1, x5 => if x5 < (x0.length : Int) then (if 0 ≤ x5 then (if (rd x0 x5) = x1 then (some true) else (laws_has.l0 k x0 x1 (wrap64 (x5 + 1)))) else (none)) else (some false)
def laws_has.f (k : Nat) (l0 : List Int) (a1 : Int) : Option (Bool) := laws_has.l0 k l0 a1 0
def spec_l1Open.f (l0 : List Int) : Option (List Int × Int) := if (l0.length : Int) > 2000 then (if 2000 ≤ (l0.length : Int) then (some (l0.take 2000, 0)) else (none)) else (some (l0, 0))
def spec_l1Rd_pick.j0 : Nat → Int → Bool → List Int → Int → Option (Int × Int)
  | 0, _, _, _, _ => none
  | k + 1, x1, x24, x1000, x1001 => if x24 = true then (some (0, x1001)) else (if (wrap64 (x1001 - 1)) < (x1000.length : Int) then (if 0 ≤ (wrap64 (x1001 - 1)) then (if x1 = 0 then (none) else (some (Int.tmod (wrap64 (rd x1000 (wrap64 (x1001 - 1)))) x1, x1001))) else (none)) else (if (x1000.length : Int) = 0 then (none) else (if 0 ≤ (Int.tmod (wrap64 (x1001 - 1)) (x1000.length : Int)) then (if (Int.tmod (wrap64 (x1001 - 1)) (x1000.length : Int)) < (x1000.length : Int) then (if 0 ≤ (Int.tmod (wrap64 ((wrap64 ((wrap64 (x1001 - 1)) * 7)) + 3)) (x1000.length : Int)) then (if (Int.tmod (wrap64 ((wrap64 ((wrap64 (x1001 - 1)) * 7)) + 3)) (x1000.length : Int)) < (x1000.length : Int) then (if x1 = 0 then (none) else (some (Int.tmod (Go.bits .xor .i64 (wrap64 ((wrap64 ((wrap64 ((wrap64 ((wrap64 (rd x1000 (Int.tmod (wrap64 (x1001 - 1)) (x1000.length : Int)))) * 131)) + (wrap64 ((wrap64 (rd x1000 (Int.tmod (wrap64 ((wrap64 ((wrap64 (x1001 - 1)) * 7)) + 3)) (x1000.length : Int)))) * 1117)))) + (wrap64 ((wrap64 (x1001 - 1)) * 29)))) + (wrap64 ((wrap64 (Int.tdiv (wrap64 (x1001 - 1)) (x1000.length : Int))) * 53)))) (wrap64 (Int.tdiv (wrap64 ((wrap64 ((wrap64 ((wrap64 ((wrap64 (rd x1000 (Int.tmod (wrap64 (x1001 - 1)) (x1000.length : Int)))) * 131)) + (wrap64 ((wrap64 (rd x1000 (Int.tmod (wrap64 ((wrap64 ((wrap64 (x1001 - 1)) * 7)) + 3)) (x1000.length : Int)))) * 1117)))) + (wrap64 ((wrap64 (x1001 - 1)) * 29)))) + (wrap64 ((wrap64 (Int.tdiv (wrap64 (x1001 - 1)) (x1000.length : Int))) * 53)))) 64))) x1, x1001))) else (none)) else (none)) else (none)) else (none))))
def spec_l1Rd_pick.f (k : Nat) (s0_0 : List Int) (s0_1 : Int) (a1 : Int) : Option (Int × Int) := if a1 < 1 then (spec_l1Rd_pick.j0 k a1 true s0_0 (wrap64 (s0_1 + 1))) else (spec_l1Rd_pick.j0 k a1 ((s0_0.length : Int) == 0) s0_0 (wrap64 (s0_1 + 1)))
def spec_l8None.f  : Option (Int × Int) := some (1, 0)
def spec_l8Min.f (a0 : Int) (a1 : Int) : Option (Int) := if a0 < a1 then (some a0) else (some a1)
def spec_l8Max.f (a0 : Int) (a1 : Int) : Option (Int) := if a0 > a1 then (some a0) else (some a1)
def spec_l8Cut.f (a0 : Int) (a1 : Int) : Option (Int × Int) := (spec_l8Max.f a0 (-2147483648)).bind fun t112 => ((spec_l8Min.f a1 2147483647).bind fun t113 => (if t112 > t113 then ((spec_l8None.f).bind fun bt114 => (some (bt114.1, bt114.2))) else (some (t112, t113))))
def spec_l1Mod.f (a0 : Int) (a1 : Int) : Option (Int) := if a1 = 0 then (none) else (if (Int.tmod a0 a1) < 0 then (some (wrap64 ((Int.tmod a0 a1) + a1))) else (some (Int.tmod a0 a1)))
def spec_NumWrap.f (a0 : Int) : Option (Int) := (spec_l1Mod.f a0 4294967296).bind fun t116 => (if t116 > 2147483647 then (some (wrap64 (t116 - 4294967296))) else (some t116))
def spec_l1Power.l0 : Nat → Int → Int → Int → Option (Int)
  | 0, _, _, _ => none
  | k + 1, x0, x3, x4 => if x4 < x0 then (spec_l1Power.l0 k x0 (wrap64 (2 * x3)) (wrap64 (x4 + 1))) else (some x3)
def spec_l1Power.f (k : Nat) (a0 : Int) : Option (Int) := spec_l1Power.l0 k a0 1 0
def spec_l1Rd_num.l0 : Nat → Int → Int → List Int → Int → Option (Int × Int)
  | 0, _, _, _, _ => none
  | k + 1, x4, x5, x1000, x1001 => if x5 < 4 then ((spec_l1Rd_pick.f k x1000 x1001 256).bind fun bt135 => (spec_l1Rd_num.l0 k (wrap64 ((wrap64 (x4 * 256)) + bt135.1)) (wrap64 (x5 + 1)) x1000 bt135.2)) else ((spec_NumWrap.f x4).bind fun t137 => (some (t137, x1001)))
def spec_l1Rd_num.f (k : Nat) (s0_0 : List Int) (s0_1 : Int) : Option (Int × Int) := (spec_l1Rd_pick.f k s0_0 s0_1 10).bind fun bt117 => (if bt117.1 < 4 then ((spec_l1Rd_pick.f k s0_0 bt117.2 21).bind fun bt119 => (some (wrap64 (bt119.1 - 10), bt119.2))) else (if bt117.1 = 4 then ((spec_l1Rd_pick.f k s0_0 bt117.2 3).bind fun bt121 => (some (wrap64 (2147483647 - bt121.1), bt121.2))) else (if bt117.1 = 5 then ((spec_l1Rd_pick.f k s0_0 bt117.2 3).bind fun bt123 => (some (wrap64 ((-2147483648) + bt123.1), bt123.2))) else (if bt117.1 = 6 then ((spec_l1Rd_pick.f k s0_0 bt117.2 31).bind fun bt125 => ((spec_l1Power.f k bt125.1).bind fun t127 => ((spec_l1Rd_pick.f k s0_0 bt125.2 3).bind fun bt128 => (some (wrap64 ((wrap64 (t127 + bt128.1)) - 1), bt128.2))))) else (if bt117.1 = 7 then ((spec_l1Rd_pick.f k s0_0 bt117.2 31).bind fun bt130 => ((spec_l1Power.f k bt130.1).bind fun t132 => ((spec_l1Rd_pick.f k s0_0 bt130.2 3).bind fun bt133 => (some (wrap64 ((wrap64 ((wrap64 (-t132)) + bt133.1)) - 1), bt133.2))))) else (spec_l1Rd_num.l0 k 0 0 s0_0 bt117.2))))))
def spec_l8Range.f (k : Nat) (s0_0 : List Int) (s0_1 : Int) : Option (Int × Int × Int) := (spec_l1Rd_pick.f k s0_0 s0_1 12).bind fun bt139 => (if bt139.1 = 0 then ((spec_l8None.f).bind fun bt141 => (some (bt141.1, bt141.2, bt139.2))) else ((spec_l1Rd_num.f k s0_0 bt139.2).bind fun bt143 => (if bt139.1 < 3 then (some (bt143.1, bt143.1, bt143.2)) else (if bt139.1 < 7 then ((spec_l1Rd_pick.f k s0_0 bt143.2 40).bind fun bt145 => ((spec_l8Cut.f bt143.1 (wrap64 (bt143.1 + bt145.1))).bind fun bt147 => (some (bt147.1, bt147.2, bt145.2)))) else (if bt139.1 = 7 then (some ((-2147483648), 2147483647, bt143.2)) else ((spec_l1Rd_num.f k s0_0 bt143.2).bind fun bt149 => ((spec_l8Min.f bt143.1 bt149.1).bind fun t151 => ((spec_l8Max.f bt143.1 bt149.1).bind fun t152 => ((spec_l8Cut.f t151 t152).bind fun bt153 => (some (bt153.1, bt153.2, bt149.2)))))))))))
def spec_l8Shift.j0 : Nat → Bool → List Int → Int → Option (Int × Int × Int)
  | 0, _, _, _ => none
  | k + 1, x11, x1000, x1001 => if x11 = true then ((spec_l1Rd_pick.f k x1000 x1001 36).bind fun bt156 => ((spec_l1Rd_pick.f k x1000 bt156.2 6).bind fun bt158 => ((spec_l8Cut.f (wrap64 (bt156.1 - 2)) (wrap64 ((wrap64 (bt156.1 - 2)) + bt158.1))).bind fun bt160 => (some (bt160.1, bt160.2, bt158.2))))) else ((spec_l8Range.f k x1000 x1001).bind fun bt162 => (some (bt162.1, bt162.2.1, bt162.2.2)))
def spec_l8Shift.f (k : Nat) (s0_0 : List Int) (s0_1 : Int) (a1 : Int) : Option (Int × Int × Int) := if a1 = 9 then (spec_l8Shift.j0 k true s0_0 s0_1) else (spec_l8Shift.j0 k (a1 == 10) s0_0 s0_1)
def spec_l1In.f (a0 : Int) (a1 : Int) (a2 : Int) : Option (Bool) := if a0 ≥ a1 then (some (decide (a0 ≤ a2))) else (some false)
def spec_NumOk.f (a0 : Int) : Option (Bool) := (spec_l1In.f a0 (-2147483648) 2147483647).bind fun t165 => (some t165)
def spec_RangeOk.f (a0_0 : Int) (a0_1 : Int) : Option (Bool) := (spec_l8None.f).bind fun bt167 => (if (a0_0 == bt167.1 && (a0_1 == bt167.2)) = true then (some true) else ((spec_NumOk.f a0_0).bind fun t169 => (if t169 = true then ((spec_NumOk.f a0_1).bind fun t170 => (if t170 = true then (some (decide (a0_0 ≤ a0_1))) else (some false))) else (some false))))
def spec_l10None.f  : Option (Int × Int × Int × Int) := some (1, 0, 0, 0)
def spec_RangeHas.f (a0_0 : Int) (a0_1 : Int) (a1 : Int) : Option (Bool) := (spec_RangeOk.f a0_0 a0_1).bind fun t173 => (if t173 = true then ((spec_l1In.f a1 a0_0 a0_1).bind fun t174 => (some t174)) else (some false))
def spec_RestOk.f (a0_0 : Int) (a0_1 : Int) : Option (Bool) := if a0_0 = 0 then ((spec_NumOk.f a0_1).bind fun t176 => (some t176)) else ((spec_l1In.f a0_0 1 65536).bind fun t177 => (if t177 = true then ((spec_l1In.f a0_1 0 (wrap64 (a0_0 - 1))).bind fun t178 => (some t178)) else (some false)))
def spec_l10One.f (a0 : Int) : Option (Int × Int × Int × Int) := some (a0, a0, 0, a0)
def spec_ValMake.j0 : Nat → Bool → Int → Int → Int → Int → Option (Int × Int × Int × Int)
  | 0, _, _, _, _, _ => none
  | k + 1, x19, x181000, x181001, x182000, x182001 => if x19 = true then ((spec_l10None.f).bind fun bt187 => (some (bt187.1, bt187.2.1, bt187.2.2.1, bt187.2.2.2))) else (if x182000 = 0 then ((spec_RangeHas.f x181000 x181001 x182001).bind fun t191 => (if t191 = true then ((spec_l10One.f x182001).bind fun bt192 => (some (bt192.1, bt192.2.1, bt192.2.2.1, bt192.2.2.2))) else ((spec_l10None.f).bind fun bt196 => (some (bt196.1, bt196.2.1, bt196.2.2.1, bt196.2.2.2))))) else ((spec_l1Mod.f (wrap64 (x182001 - x181000)) x182000).bind fun t200 => ((spec_l1Mod.f (wrap64 (x181001 - x182001)) x182000).bind fun t201 => (if (wrap64 (x181000 + t200)) > (wrap64 (x181001 - t201)) then ((spec_l10None.f).bind fun bt202 => (some (bt202.1, bt202.2.1, bt202.2.2.1, bt202.2.2.2))) else (if (wrap64 (x181000 + t200)) = (wrap64 (x181001 - t201)) then ((spec_l10One.f (wrap64 (x181000 + t200))).bind fun bt206 => (some (bt206.1, bt206.2.1, bt206.2.2.1, bt206.2.2.2))) else (some (wrap64 (x181000 + t200), wrap64 (x181001 - t201), x182000, x182001)))))))
def spec_ValMake.f (k : Nat) (a0_0 : Int) (a0_1 : Int) (a1_0 : Int) (a1_1 : Int) : Option (Int × Int × Int × Int) := (spec_RangeOk.f a0_0 a0_1).bind fun t183 => (if t183 = true then ((spec_RestOk.f a1_0 a1_1).bind fun t184 => (if t184 = true then ((spec_l8None.f).bind fun bt185 => (spec_ValMake.j0 k (a0_0 == bt185.1 && (a0_1 == bt185.2)) a0_0 a0_1 a1_0 a1_1)) else (spec_ValMake.j0 k true a0_0 a0_1 a1_0 a1_1))) else (spec_ValMake.j0 k true a0_0 a0_1 a1_0 a1_1))
def spec_l9All.f  : Option (Int × Int) := some (1, 0)
def spec_l9Rest.f (k : Nat) (s0_0 : List Int) (s0_1 : Int) : Option (Int × Int × Int) := (spec_l1Rd_pick.f k s0_0 s0_1 8).bind fun bt212 => (if bt212.1 < 2 then ((spec_l1Rd_num.f k s0_0 bt212.2).bind fun bt214 => (some (0, bt214.1, bt214.2))) else (if bt212.1 = 2 then ((spec_l9All.f).bind fun bt216 => (some (bt216.1, bt216.2, bt212.2))) else ((spec_l1Rd_pick.f k s0_0 bt212.2 24).bind fun bt218 => (if bt212.1 = 3 then ((some (([64, 4096, 65536, 65535, 32768, 60000] : List Int) : List Int)).bind fun y220 => ((spec_l1Rd_pick.f k s0_0 bt218.2 6).bind fun bt223 => (if 0 ≤ bt223.1 then (if bt223.1 < (y220.length : Int) then ((spec_l1Rd_pick.f k s0_0 bt223.2 256).bind fun bt226 => ((spec_l1Rd_pick.f k s0_0 bt226.2 256).bind fun bt228 => (if (rd y220 bt223.1) = 0 then (none) else (some (rd y220 bt223.1, Int.tmod (wrap64 ((wrap64 (bt226.1 * 256)) + bt228.1)) (rd y220 bt223.1), bt228.2))))) else (none)) else (none)))) else ((spec_l1Rd_pick.f k s0_0 bt218.2 256).bind fun bt230 => ((spec_l1Rd_pick.f k s0_0 bt230.2 256).bind fun bt232 => (if (wrap64 (1 + bt218.1)) = 0 then (none) else (some (wrap64 (1 + bt218.1), Int.tmod (wrap64 ((wrap64 (bt230.1 * 256)) + bt232.1)) (wrap64 (1 + bt218.1)), bt232.2)))))))))
def spec_l10Val.f (k : Nat) (s0_0 : List Int) (s0_1 : Int) : Option (Int × Int × Int × Int × Int) := (spec_l8Range.f k s0_0 s0_1).bind fun bt235 => ((spec_l1Rd_pick.f k s0_0 bt235.2.2 2).bind fun bt239 => (if bt239.1 = 0 then ((spec_l9All.f).bind fun bt241 => ((spec_ValMake.f k bt235.1 bt235.2.1 bt241.1 bt241.2).bind fun bt243 => (some (bt243.1, bt243.2.1, bt243.2.2.1, bt243.2.2.2, bt239.2)))) else ((spec_l9Rest.f k s0_0 bt239.2).bind fun bt247 => ((spec_ValMake.f k bt235.1 bt235.2.1 bt247.1 bt247.2.1).bind fun bt250 => (some (bt250.1, bt250.2.1, bt250.2.2.1, bt250.2.2.2, bt247.2.2))))))
def spec_l10Wild.j0 : Nat → Int → List Int → Int → Int → Int → Int → Int → Option (Int × Int × Int × Int × Int)
  | 0, _, _, _, _, _, _, _ => none
  | k + 1, x4, x1000, x1001, x261000, x261001, x261002, x261003 => if x4 = 1 then ((spec_l1Rd_pick.f k x1000 x1001 5).bind fun bt265 => (if x4 = 2 then ((spec_l1Rd_pick.f k x1000 bt265.2 5).bind fun bt267 => (some (x261000, x261001, wrap64 (bt265.1 - 1), wrap64 (bt267.1 - 1), bt267.2))) else (some (x261000, x261001, wrap64 (bt265.1 - 1), x261003, bt265.2)))) else (if x4 = 2 then ((spec_l1Rd_pick.f k x1000 x1001 5).bind fun bt269 => (some (x261000, x261001, x261002, wrap64 (bt269.1 - 1), bt269.2))) else (some (x261000, x261001, x261002, x261003, x1001)))
def spec_l10Wild.f (k : Nat) (s0_0 : List Int) (s0_1 : Int) : Option (Int × Int × Int × Int × Int) := (spec_l10Val.f k s0_0 s0_1).bind fun bt255 => ((spec_l1Rd_pick.f k s0_0 bt255.2.2.2.2 40).bind fun bt261 => (if bt261.1 = 0 then ((spec_l1Rd_num.f k s0_0 bt261.2).bind fun bt263 => (spec_l10Wild.j0 k bt261.1 s0_0 bt263.2 bt263.1 bt255.2.1 bt255.2.2.1 bt255.2.2.2.1)) else (spec_l10Wild.j0 k bt261.1 s0_0 bt261.2 bt255.1 bt255.2.1 bt255.2.2.1 bt255.2.2.2.1)))
mutual
def spec_DrawValDo.j0 : Nat → Int → List Int → Int → Option (Int × Int × Int × Int × Int × Int × Int × Int × Int)
  | 0, _, _, _ => none
  | k + 1, x6, x276000, x276001 => (spec_l10Wild.f k x276000 x276001).bind fun bt282 => (if x6 = 9 then (spec_DrawValDo.j1 k x6 true x276000 bt282.2.2.2.2 bt282.1 bt282.2.1 bt282.2.2.1 bt282.2.2.2.1) else (spec_DrawValDo.j1 k x6 (x6 == 10) x276000 bt282.2.2.2.2 bt282.1 bt282.2.1 bt282.2.2.1 bt282.2.2.2.1))
def spec_DrawValDo.j1 : Nat → Int → Bool → List Int → Int → Int → Int → Int → Int → Option (Int × Int × Int × Int × Int × Int × Int × Int × Int)
  | 0, _, _, _, _, _, _, _, _ => none
  | k + 1, x6, x26, x276000, x276001, x288000, x288001, x288002, x288003 => if x26 = true then ((spec_l8Shift.f k x276000 x276001 x6).bind fun bt288 => ((spec_l9All.f).bind fun bt291 => ((spec_ValMake.f k bt288.1 bt288.2.1 bt291.1 bt291.2).bind fun bt293 => (some (x6, x288000, x288001, x288002, x288003, bt293.1, bt293.2.1, bt293.2.2.1, bt293.2.2.2))))) else ((spec_l10Wild.f k x276000 x276001).bind fun bt297 => (some (x6, x288000, x288001, x288002, x288003, bt297.1, bt297.2.1, bt297.2.2.1, bt297.2.2.2.1)))
end
def spec_DrawValDo.f (k : Nat) (l0 : List Int) : Option (Int × Int × Int × Int × Int × Int × Int × Int × Int) := (spec_l1Open.f l0).bind fun bt273 => ((spec_l1Rd_pick.f k bt273.1 bt273.2 13).bind fun bt276 => ((spec_l1Rd_pick.f k bt273.1 bt276.2 30).bind fun bt278 => (if bt278.1 = 0 then ((spec_l1Rd_pick.f k bt273.1 bt278.2 16).bind fun bt280 => (spec_DrawValDo.j0 k (wrap64 (bt280.1 - 1)) bt273.1 bt280.2)) else (spec_DrawValDo.j0 k (wrap64 (1 + bt276.1)) bt273.1 bt278.2))))
def impl_rangeNone.f  : Option (Int × Int) := some (1, 0)
def impl_NumOk.f (a0 : Int) : Option (Bool) := if a0 ≥ (-2147483648) then (some (decide (a0 ≤ 2147483647))) else (some false)
def impl_RangeOk.f (a0_0 : Int) (a0_1 : Int) : Option (Bool) := (impl_rangeNone.f).bind fun bt304 => (if (a0_0 == bt304.1 && (a0_1 == bt304.2)) = true then (some true) else ((impl_NumOk.f a0_0).bind fun t306 => (if t306 = true then ((impl_NumOk.f a0_1).bind fun t307 => (if t307 = true then (some (decide (a0_0 ≤ a0_1))) else (some false))) else (some false))))
def impl_numOp.f (a0 : Int) : Option (Bool) := if a0 ≥ 1 then (some (decide (a0 ≤ 13))) else (some false)
def impl_Range_empty.f (a0_0 : Int) (a0_1 : Int) : Option (Bool) := some (decide (a0_0 > a0_1))
mutual
def impl_numExact.j0 : Nat → Int → Int → Int → Bool → Option (Int)
  | 0, _, _, _, _ => none
  | k + 1, x1, x2, x7, x8 => if x8 = true then (some (wrap64 (x1 + x2))) else (if x7 = 2 then (impl_numExact.j1 k x1 x2 x7 (x7 == 2)) else (impl_numExact.j1 k x1 x2 x7 (x7 == 12)))
def impl_numExact.j1 : Nat → Int → Int → Int → Bool → Option (Int)
  | 0, _, _, _, _ => none
  | k + 1, x1, x2, x7, x14 => if x14 = true then (some (wrap64 (x1 - x2))) else (if x7 = 3 then (impl_numExact.j2 k x1 x2 x7 (x7 == 3)) else (impl_numExact.j2 k x1 x2 x7 (x7 == 13)))
def impl_numExact.j2 : Nat → Int → Int → Int → Bool → Option (Int)
  | 0, _, _, _, _ => none
  | k + 1, x1, x2, x7, x20 => if x20 = true then (some (wrap64 (x1 * x2))) else (if x7 = 4 then (if x2 = 0 then (none) else (some (wrap64 (Int.tdiv x1 x2)))) else (if x7 = 5 then (if x2 = 0 then (none) else (some (Int.tmod x1 x2))) else (if x7 = 6 then (some (Go.bits .and .i64 x1 x2)) else (if x7 = 7 then (some (Go.bits .or .i64 x1 x2)) else (if x7 = 8 then (some (Go.bits .xor .i64 x1 x2)) else (if x7 = 9 then (if 0 ≤ (IntKind.u64.wrap (x2)) then (some (shl .i64 x1 (IntKind.u64.wrap (x2)))) else (none)) else (if x7 = 10 then (if 0 ≤ (IntKind.u64.wrap (x2)) then (some (shr .i64 x1 (IntKind.u64.wrap (x2)))) else (none)) else (some 0))))))))
end
def impl_numExact.f (k : Nat) (a0 : Int) (a1 : Int) (a2 : Int) : Option (Int) := if a0 = 1 then (impl_numExact.j0 k a1 a2 a0 (a0 == 1)) else (impl_numExact.j0 k a1 a2 a0 (a0 == 11))
def impl_rangeCorners.f (k : Nat) (a0 : Int) (a1_0 : Int) (a1_1 : Int) (a2_0 : Int) (a2_1 : Int) : Option (Int × Int) := (impl_numExact.f k a0 a1_0 a2_0).bind fun t311 => ((impl_numExact.f k a0 a1_0 a2_1).bind fun t312 => ((impl_numExact.f k a0 a1_1 a2_0).bind fun t313 => ((impl_numExact.f k a0 a1_1 a2_1).bind fun t314 => (some (mn (mn (mn (mn t311 t311) t312) t313) t314, mx (mx (mx (mx t311 t311) t312) t313) t314)))))
def impl_rangeFrom.f (a0 : Int) (a1 : Int) : Option (Int × Int) := if (mx a0 (-2147483648)) > (mn a1 2147483647) then ((impl_rangeNone.f).bind fun bt318 => (some (bt318.1, bt318.2))) else (some (mx a0 (-2147483648), mn a1 2147483647))
def impl_NumWrap.f (a0 : Int) : Option (Int) := some (wrap64 (wrap32 (a0)))
def impl_rangeWrap.j0 : Nat → Int → Int → Bool → Option (Int × Int)
  | 0, _, _, _ => none
  | k + 1, x7, x8, x26 => if x26 = true then ((impl_rangeFrom.f (-2147483648) 2147483647).bind fun bt327 => (some (bt327.1, bt327.2))) else ((impl_NumWrap.f x7).bind fun t329 => ((impl_NumWrap.f x8).bind fun t330 => ((impl_rangeFrom.f t329 t330).bind fun bt331 => (some (bt331.1, bt331.2)))))
def impl_rangeWrap.f (k : Nat) (a0 : Int) (a1_0 : Int) (a1_1 : Int) (a2_0 : Int) (a2_1 : Int) : Option (Int × Int) := (impl_rangeCorners.f k a0 a1_0 a1_1 a2_0 a2_1).bind fun bt323 => (if (wrap64 (bt323.2 - bt323.1)) > 4294967295 then (impl_rangeWrap.j0 k bt323.1 bt323.2 true) else ((impl_NumWrap.f bt323.1).bind fun t325 => ((impl_NumWrap.f bt323.2).bind fun t326 => (impl_rangeWrap.j0 k bt323.1 bt323.2 (decide (t325 > t326))))))
def impl_RangeMeet.j0 : Nat → Bool → Int → Int → Int → Int → Option (Int × Int)
  | 0, _, _, _, _, _ => none
  | k + 1, x20, x334000, x334001, x335000, x335001 => if x20 = true then ((impl_rangeNone.f).bind fun bt340 => (some (bt340.1, bt340.2))) else ((impl_rangeFrom.f (mx x334000 x335000) (mn x334001 x335001)).bind fun bt342 => (some (bt342.1, bt342.2)))
def impl_RangeMeet.f (k : Nat) (a0_0 : Int) (a0_1 : Int) (a1_0 : Int) (a1_1 : Int) : Option (Int × Int) := (impl_RangeOk.f a0_0 a0_1).bind fun t336 => (if t336 = true then ((impl_RangeOk.f a1_0 a1_1).bind fun t337 => (if t337 = true then ((impl_Range_empty.f a0_0 a0_1).bind fun t338 => (if t338 = true then (impl_RangeMeet.j0 k true a0_0 a0_1 a1_0 a1_1) else ((impl_Range_empty.f a1_0 a1_1).bind fun t339 => (impl_RangeMeet.j0 k t339 a0_0 a0_1 a1_0 a1_1)))) else (impl_RangeMeet.j0 k true a0_0 a0_1 a1_0 a1_1))) else (impl_RangeMeet.j0 k true a0_0 a0_1 a1_0 a1_1))
def impl_rangeShift.j0 : Nat → List Int → Bool → Int → Int → Int → Int → Int → Int → Option (Int × Int × List Int)
  | 0, _, _, _, _, _, _, _, _ => none
  | k + 1, x10, x35, x346000, x346001, x350000, x350001, x353000, x353001 => if x35 = true then (if x10.length < 17592186044416 then ((some (x10 ++ [1] : List Int)).bind fun y361 => (if (!(x350000 == x346000) || (!(x350001 == x346001))) = true then (if y361.length < 17592186044416 then (some (x353000, x353001, (y361 ++ [3]))) else (none)) else (some (x353000, x353001, y361)))) else (none)) else (if (!(x350000 == x346000) || (!(x350001 == x346001))) = true then (if x10.length < 17592186044416 then (some (x353000, x353001, (x10 ++ [3]))) else (none)) else (some (x353000, x353001, x10)))
def impl_rangeShift.f (k : Nat) (a0 : Int) (a1_0 : Int) (a1_1 : Int) (a2_0 : Int) (a2_1 : Int) : Option (Int × Int × List Int) := (impl_RangeMeet.f k a2_0 a2_1 0 31).bind fun bt347 => ((impl_rangeNone.f).bind fun bt350 => ((impl_Range_empty.f bt347.1 bt347.2).bind fun t353 => (if t353 = true then (if (!(bt347.1 == a2_0) || (!(bt347.2 == a2_1))) = true then (if ([] : List Int).length < 17592186044416 then (some (bt350.1, bt350.2, (([] : List Int) ++ [3]))) else (none)) else (some (bt350.1, bt350.2, ([] : List Int)))) else ((impl_rangeCorners.f k a0 a1_0 a1_1 bt347.1 bt347.2).bind fun bt357 => ((impl_rangeFrom.f bt357.1 bt357.2).bind fun bt359 => (if bt357.1 < (-2147483648) then (impl_rangeShift.j0 k ([] : List Int) true a2_0 a2_1 bt347.1 bt347.2 bt359.1 bt359.2) else (impl_rangeShift.j0 k ([] : List Int) (decide (bt357.2 > 2147483647)) a2_0 a2_1 bt347.1 bt347.2 bt359.1 bt359.2)))))))
def impl_RangeHas.f (a0_0 : Int) (a0_1 : Int) (a1 : Int) : Option (Bool) := (impl_RangeOk.f a0_0 a0_1).bind fun t371 => (if t371 = true then (if a0_0 ≤ a1 then (some (decide (a1 ≤ a0_1))) else (some false)) else (some false))
def impl_rangeSides.f (k : Nat) (a0_0 : Int) (a0_1 : Int) : Option (Int × Int × Int × Int) := (impl_RangeMeet.f k a0_0 a0_1 (-2147483648) (-1)).bind fun bt374 => ((impl_RangeMeet.f k a0_0 a0_1 1 2147483647).bind fun bt376 => (some (bt374.1, bt374.2, bt376.1, bt376.2)))
mutual
def impl_rangeDiv.j0 : Nat → Int → Int → Bool → Int → Int → Int → Int → Int → Int → Int → Int → Option (Int × Int × List Int)
  | 0, _, _, _, _, _, _, _, _, _, _, _ => none
  | k + 1, x6, x7, x8, x379000, x379001, x380000, x380001, x386000, x386001, x386002, x386003 => (impl_Range_empty.f x386002 x386003).bind fun t391 => (if t391 = true then (impl_rangeDiv.j1 k x6 x7 x8 x379000 x379001 x380000 x380001) else ((impl_rangeCorners.f k 4 x379000 x379001 x386002 x386003).bind fun bt392 => (if x8 = true then (impl_rangeDiv.j1 k (mn bt392.1 x6) (mx bt392.2 x7) true x379000 x379001 x380000 x380001) else (impl_rangeDiv.j1 k bt392.1 bt392.2 true x379000 x379001 x380000 x380001))))
def impl_rangeDiv.j1 : Nat → Int → Int → Bool → Int → Int → Int → Int → Option (Int × Int × List Int)
  | 0, _, _, _, _, _, _, _ => none
  | k + 1, x6, x7, x8, x379000, x379001, x380000, x380001 => (impl_rangeNone.f).bind fun bt394 => (if x8 = true then ((impl_rangeFrom.f x6 x7).bind fun bt397 => (impl_rangeDiv.j2 k x379000 x379001 x380000 x380001 bt397.1 bt397.2)) else (impl_rangeDiv.j2 k x379000 x379001 x380000 x380001 bt394.1 bt394.2))
def impl_rangeDiv.j2 : Nat → Int → Int → Int → Int → Int → Int → Option (Int × Int × List Int)
  | 0, _, _, _, _, _, _ => none
  | k + 1, x379000, x379001, x380000, x380001, x397000, x397001 => (impl_RangeHas.f x379000 x379001 (-2147483648)).bind fun t399 => (if t399 = true then ((impl_RangeHas.f x380000 x380001 (-1)).bind fun t400 => (impl_rangeDiv.j3 k ([] : List Int) t400 x380000 x380001 x397000 x397001)) else (impl_rangeDiv.j3 k ([] : List Int) false x380000 x380001 x397000 x397001))
def impl_rangeDiv.j3 : Nat → List Int → Bool → Int → Int → Int → Int → Option (Int × Int × List Int)
  | 0, _, _, _, _, _, _ => none
  | k + 1, x17, x70, x380000, x380001, x397000, x397001 => if x70 = true then (if x17.length < 17592186044416 then ((some (x17 ++ [1] : List Int)).bind fun y401 => ((impl_RangeHas.f x380000 x380001 0).bind fun t404 => (if t404 = true then (if y401.length < 17592186044416 then (some (x397000, x397001, (y401 ++ [2]))) else (none)) else (some (x397000, x397001, y401))))) else (none)) else ((impl_RangeHas.f x380000 x380001 0).bind fun t408 => (if t408 = true then (if x17.length < 17592186044416 then (some (x397000, x397001, (x17 ++ [2]))) else (none)) else (some (x397000, x397001, x17))))
end
def impl_rangeDiv.f (k : Nat) (a0_0 : Int) (a0_1 : Int) (a1_0 : Int) (a1_1 : Int) : Option (Int × Int × List Int) := (impl_rangeSides.f k a1_0 a1_1).bind fun bt381 => ((impl_Range_empty.f bt381.1 bt381.2.1).bind fun t387 => (if t387 = true then (impl_rangeDiv.j0 k 0 0 false a0_0 a0_1 a1_0 a1_1 bt381.1 bt381.2.1 bt381.2.2.1 bt381.2.2.2) else ((impl_rangeCorners.f k 4 a0_0 a0_1 bt381.1 bt381.2.1).bind fun bt388 => (impl_rangeDiv.j0 k bt388.1 bt388.2 true a0_0 a0_1 a1_0 a1_1 bt381.1 bt381.2.1 bt381.2.2.1 bt381.2.2.2))))
def impl_Range_single.f (a0_0 : Int) (a0_1 : Int) : Option (Bool) := some (a0_0 == a0_1)
def impl_RangeJoin.j0 : Nat → Bool → Int → Int → Int → Int → Option (Int × Int)
  | 0, _, _, _, _, _ => none
  | k + 1, x5, x414000, x414001, x415000, x415001 => if x5 = true then ((impl_rangeNone.f).bind fun bt418 => (some (bt418.1, bt418.2))) else ((impl_Range_empty.f x414000 x414001).bind fun t420 => (if t420 = true then (some (x415000, x415001)) else ((impl_Range_empty.f x415000 x415001).bind fun t421 => (if t421 = true then (some (x414000, x414001)) else (some (mn x414000 x415000, mx x414001 x415001))))))
def impl_RangeJoin.f (k : Nat) (a0_0 : Int) (a0_1 : Int) (a1_0 : Int) (a1_1 : Int) : Option (Int × Int) := (impl_RangeOk.f a0_0 a0_1).bind fun t416 => (if t416 = true then ((impl_RangeOk.f a1_0 a1_1).bind fun t417 => (impl_RangeJoin.j0 k (!t417) a0_0 a0_1 a1_0 a1_1)) else (impl_RangeJoin.j0 k true a0_0 a0_1 a1_0 a1_1))
def impl_rangeRemBy.j0 : Nat → Int → Bool → Int → Int → Option (Int × Int)
  | 0, _, _, _, _ => none
  | k + 1, x2, x18, x423000, x423001 => if x18 = true then (some (x423000, x423001)) else (if x423000 < 0 then (if x423001 > 0 then (some (mx x423000 (wrap64 (1 - x2)), mn x423001 (wrap64 (x2 - 1)))) else (some (mx x423000 (wrap64 (1 - x2)), 0))) else (if x423001 > 0 then (some (0, mn x423001 (wrap64 (x2 - 1)))) else (some (0, 0))))
def impl_rangeRemBy.f (k : Nat) (a0_0 : Int) (a0_1 : Int) (a1 : Int) (a2 : Int) : Option (Int × Int) := if a0_0 > (wrap64 (-a1)) then (impl_rangeRemBy.j0 k a2 (decide (a0_1 < a1)) a0_0 a0_1) else (impl_rangeRemBy.j0 k a2 false a0_0 a0_1)
mutual
def impl_rangeRem.j0 : Nat → Bool → Int → Int → Int → Int → Option (Int × Int × List Int)
  | 0, _, _, _, _, _ => none
  | k + 1, x21, x426000, x426001, x427000, x427001 => if x21 = true then (if x427000 = 0 then (none) else (some (Int.tmod x426000 x427000, Int.tmod x426000 x427000, ([] : List Int)))) else ((impl_rangeSides.f k x427000 x427001).bind fun bt430 => ((impl_rangeNone.f).bind fun bt435 => ((impl_Range_empty.f bt430.1 bt430.2.1).bind fun t439 => (if t439 = true then (impl_rangeRem.j1 k x426000 x426001 x427000 x427001 bt430.1 bt430.2.1 bt430.2.2.1 bt430.2.2.2 bt435.1 bt435.2) else ((impl_rangeRemBy.f k x426000 x426001 (wrap64 (-bt430.2.1)) (wrap64 (-bt430.1))).bind fun bt440 => ((impl_RangeJoin.f k bt435.1 bt435.2 bt440.1 bt440.2).bind fun bt442 => (impl_rangeRem.j1 k x426000 x426001 x427000 x427001 bt430.1 bt430.2.1 bt430.2.2.1 bt430.2.2.2 bt442.1 bt442.2)))))))
def impl_rangeRem.j1 : Nat → Int → Int → Int → Int → Int → Int → Int → Int → Int → Int → Option (Int × Int × List Int)
  | 0, _, _, _, _, _, _, _, _, _, _ => none
  | k + 1, x426000, x426001, x427000, x427001, x435000, x435001, x435002, x435003, x438000, x438001 => (impl_Range_empty.f x435002 x435003).bind fun t445 => (if t445 = true then ((impl_RangeHas.f x427000 x427001 0).bind fun t446 => (if t446 = true then (some (x438000, x438001, (([2] : List Int)))) else (some (x438000, x438001, ([] : List Int))))) else ((impl_rangeRemBy.f k x426000 x426001 x435002 x435003).bind fun bt450 => ((impl_RangeJoin.f k x438000 x438001 bt450.1 bt450.2).bind fun bt452 => ((impl_RangeHas.f x427000 x427001 0).bind fun t454 => (if t454 = true then (some (bt452.1, bt452.2, (([2] : List Int)))) else (some (bt452.1, bt452.2, ([] : List Int))))))))
end
def impl_rangeRem.f (k : Nat) (a0_0 : Int) (a0_1 : Int) (a1_0 : Int) (a1_1 : Int) : Option (Int × Int × List Int) := (impl_Range_single.f a0_0 a0_1).bind fun t428 => (if t428 = true then ((impl_Range_single.f a1_0 a1_1).bind fun t429 => (if t429 = true then (impl_rangeRem.j0 k (a1_0 != 0) a0_0 a0_1 a1_0 a1_1) else (impl_rangeRem.j0 k false a0_0 a0_1 a1_0 a1_1))) else (impl_rangeRem.j0 k false a0_0 a0_1 a1_0 a1_1))
mutual
def impl_rangeBits.j0 : Nat → Int → Bool → Int → Int → Int → Int → Option (Int × Int)
  | 0, _, _, _, _, _, _ => none
  | k + 1, x0, x14, x459000, x459001, x460000, x460001 => if x14 = true then ((impl_numExact.f k x0 x459000 x460000).bind fun t463 => (some (t463, t463))) else (if x0 = 6 then (if x459000 ≥ 0 then (impl_rangeBits.j1 k (decide (x460000 ≥ 0)) x459000 x459001 x460000 x460001) else (impl_rangeBits.j1 k false x459000 x459001 x460000 x460001)) else (if x459000 < 0 then (impl_rangeBits.j2 k x0 true x459000 x459001 x460000 x460001) else (impl_rangeBits.j2 k x0 (decide (x460000 < 0)) x459000 x459001 x460000 x460001)))
def impl_rangeBits.j1 : Nat → Bool → Int → Int → Int → Int → Option (Int × Int)
  | 0, _, _, _, _, _ => none
  | k + 1, x26, x459000, x459001, x460000, x460001 => if x26 = true then (some (0, mn x459001 x460001)) else (if x459000 ≥ 0 then (some (0, x459001)) else (if x460000 ≥ 0 then (some (0, x460001)) else (some ((-2147483648), 2147483647))))
def impl_rangeBits.j2 : Nat → Int → Bool → Int → Int → Int → Int → Option (Int × Int)
  | 0, _, _, _, _, _, _ => none
  | k + 1, x0, x63, x459000, x459001, x460000, x460001 => if x63 = true then (some ((-2147483648), 2147483647)) else (if x0 = 7 then (impl_rangeBits.j3 k x459000 x459001 x460000 x460001 (mx x459000 x460000) 0) else (impl_rangeBits.j3 k x459000 x459001 x460000 x460001 0 0))
def impl_rangeBits.j3 : Nat → Int → Int → Int → Int → Int → Int → Option (Int × Int)
  | 0, _, _, _, _, _, _ => none
  | k + 1, x459000, x459001, x460000, x460001, x465000, x465001 => impl_rangeBits.l0 k x459000 x459001 x460000 x460001 x465000 x465001
def impl_rangeBits.l0 : Nat → Int → Int → Int → Int → Int → Int → Option (Int × Int)
  | 0, _, _, _, _, _, _ => none
  | k + 1, x459000, x459001, x460000, x460001, x465000, x465001 => if x465001 < (mx x459001 x460001) then (impl_rangeBits.l0 k x459000 x459001 x460000 x460001 x465000 (wrap64 ((wrap64 (2 * x465001)) + 1))) else (some (x465000, x465001))
end
def impl_rangeBits.f (k : Nat) (a0 : Int) (a1_0 : Int) (a1_1 : Int) (a2_0 : Int) (a2_1 : Int) : Option (Int × Int) := (impl_Range_single.f a1_0 a1_1).bind fun t461 => (if t461 = true then ((impl_Range_single.f a2_0 a2_1).bind fun t462 => (impl_rangeBits.j0 k a0 t462 a1_0 a1_1 a2_0 a2_1)) else (impl_rangeBits.j0 k a0 false a1_0 a1_1 a2_0 a2_1))
mutual
def impl_RangeDo.j0 : Nat → Int → Bool → Int → Int → Int → Int → Option (Int × Int × List Int)
  | 0, _, _, _, _, _, _ => none
  | k + 1, x0, x30, x466000, x466001, x467000, x467001 => if x30 = true then ((impl_rangeNone.f).bind fun bt473 => (some (bt473.1, bt473.2, ([] : List Int)))) else (if x0 = 1 then (impl_RangeDo.j1 k x0 x0 (x0 == 1) x466000 x466001 x467000 x467001) else (if x0 = 2 then (impl_RangeDo.j1 k x0 x0 (x0 == 2) x466000 x466001 x467000 x467001) else (impl_RangeDo.j1 k x0 x0 (x0 == 3) x466000 x466001 x467000 x467001)))
def impl_RangeDo.j1 : Nat → Int → Int → Bool → Int → Int → Int → Int → Option (Int × Int × List Int)
  | 0, _, _, _, _, _, _, _ => none
  | k + 1, x0, x32, x33, x466000, x466001, x467000, x467001 => if x33 = true then ((impl_rangeCorners.f k x0 x466000 x466001 x467000 x467001).bind fun bt475 => (if bt475.1 < (-2147483648) then (impl_RangeDo.j2 k bt475.1 bt475.2 true) else (impl_RangeDo.j2 k bt475.1 bt475.2 (decide (bt475.2 > 2147483647))))) else (if x32 = 11 then (impl_RangeDo.j3 k x0 x32 (x32 == 11) x466000 x466001 x467000 x467001) else (if x32 = 12 then (impl_RangeDo.j3 k x0 x32 (x32 == 12) x466000 x466001 x467000 x467001) else (impl_RangeDo.j3 k x0 x32 (x32 == 13) x466000 x466001 x467000 x467001)))
def impl_RangeDo.j2 : Nat → Int → Int → Bool → Option (Int × Int × List Int)
  | 0, _, _, _ => none
  | k + 1, x8, x9, x49 => if x49 = true then ((impl_rangeFrom.f x8 x9).bind fun bt477 => (some (bt477.1, bt477.2, (([1] : List Int))))) else ((impl_rangeFrom.f x8 x9).bind fun bt482 => (some (bt482.1, bt482.2, ([] : List Int))))
def impl_RangeDo.j3 : Nat → Int → Int → Bool → Int → Int → Int → Int → Option (Int × Int × List Int)
  | 0, _, _, _, _, _, _, _ => none
  | k + 1, x0, x32, x57, x466000, x466001, x467000, x467001 => if x57 = true then ((impl_rangeWrap.f k x0 x466000 x466001 x467000 x467001).bind fun bt484 => (some (bt484.1, bt484.2, ([] : List Int)))) else (if x32 = 9 then (impl_RangeDo.j4 k x0 x32 (x32 == 9) x466000 x466001 x467000 x467001) else (impl_RangeDo.j4 k x0 x32 (x32 == 10) x466000 x466001 x467000 x467001))
def impl_RangeDo.j4 : Nat → Int → Int → Bool → Int → Int → Int → Int → Option (Int × Int × List Int)
  | 0, _, _, _, _, _, _, _ => none
  | k + 1, x0, x32, x65, x466000, x466001, x467000, x467001 => if x65 = true then ((impl_rangeShift.f k x0 x466000 x466001 x467000 x467001).bind fun bt486 => (some (bt486.1, bt486.2.1, bt486.2.2))) else (if x32 = 4 then ((impl_rangeDiv.f k x466000 x466001 x467000 x467001).bind fun bt491 => (some (bt491.1, bt491.2.1, bt491.2.2))) else (if x32 = 5 then ((impl_rangeRem.f k x466000 x466001 x467000 x467001).bind fun bt496 => (some (bt496.1, bt496.2.1, bt496.2.2))) else ((impl_rangeBits.f k x0 x466000 x466001 x467000 x467001).bind fun bt501 => (some (bt501.1, bt501.2, ([] : List Int))))))
end
def impl_RangeDo.f (k : Nat) (a0 : Int) (a1_0 : Int) (a1_1 : Int) (a2_0 : Int) (a2_1 : Int) : Option (Int × Int × List Int) := (impl_numOp.f a0).bind fun t468 => (if t468 = true then ((impl_RangeOk.f a1_0 a1_1).bind fun t469 => (if t469 = true then ((impl_RangeOk.f a2_0 a2_1).bind fun t470 => (if t470 = true then ((impl_Range_empty.f a1_0 a1_1).bind fun t471 => (if t471 = true then (impl_RangeDo.j0 k a0 true a1_0 a1_1 a2_0 a2_1) else ((impl_Range_empty.f a2_0 a2_1).bind fun t472 => (impl_RangeDo.j0 k a0 t472 a1_0 a1_1 a2_0 a2_1)))) else (impl_RangeDo.j0 k a0 true a1_0 a1_1 a2_0 a2_1))) else (impl_RangeDo.j0 k a0 true a1_0 a1_1 a2_0 a2_1))) else (impl_RangeDo.j0 k a0 true a1_0 a1_1 a2_0 a2_1))
def impl_Val_span.f (a0_0 : Int) (a0_1 : Int) (a0_2 : Int) (a0_3 : Int) : Option (Int × Int) := some (a0_0, a0_1)
def impl_valNone.f  : Option (Int × Int × Int × Int) := some (1, 0, 0, 0)
def impl_RestOk.f (a0_0 : Int) (a0_1 : Int) : Option (Bool) := if a0_0 = 0 then ((impl_NumOk.f a0_1).bind fun t507 => (some t507)) else (if a0_0 ≥ 1 then (if a0_0 ≤ 65536 then (if a0_1 ≥ 0 then (some (decide (a0_1 < a0_0))) else (some false)) else (some false)) else (some false))
def impl_valOne.f (a0 : Int) : Option (Int × Int × Int × Int) := some (a0, a0, 0, a0)
def impl_restMod.f (a0 : Int) (a1 : Int) : Option (Int) := if a1 = 0 then (none) else (if (Int.tmod a0 a1) < 0 then (some (wrap64 ((Int.tmod a0 a1) + a1))) else (some (Int.tmod a0 a1)))
def impl_ValMake.j0 : Nat → Bool → Int → Int → Int → Int → Option (Int × Int × Int × Int)
  | 0, _, _, _, _, _ => none
  | k + 1, x18, x510000, x510001, x511000, x511001 => if x18 = true then ((impl_valNone.f).bind fun bt515 => (some (bt515.1, bt515.2.1, bt515.2.2.1, bt515.2.2.2))) else (if x511000 = 0 then ((impl_RangeHas.f x510000 x510001 x511001).bind fun t519 => (if t519 = true then ((impl_valOne.f x511001).bind fun bt520 => (some (bt520.1, bt520.2.1, bt520.2.2.1, bt520.2.2.2))) else ((impl_valNone.f).bind fun bt524 => (some (bt524.1, bt524.2.1, bt524.2.2.1, bt524.2.2.2))))) else ((impl_restMod.f (wrap64 (x511001 - x510000)) x511000).bind fun t528 => ((impl_restMod.f (wrap64 (x510001 - x511001)) x511000).bind fun t529 => (if (wrap64 (x510000 + t528)) > (wrap64 (x510001 - t529)) then ((impl_valNone.f).bind fun bt530 => (some (bt530.1, bt530.2.1, bt530.2.2.1, bt530.2.2.2))) else (if (wrap64 (x510000 + t528)) = (wrap64 (x510001 - t529)) then ((impl_valOne.f (wrap64 (x510000 + t528))).bind fun bt534 => (some (bt534.1, bt534.2.1, bt534.2.2.1, bt534.2.2.2))) else (some (wrap64 (x510000 + t528), wrap64 (x510001 - t529), x511000, x511001)))))))
def impl_ValMake.f (k : Nat) (a0_0 : Int) (a0_1 : Int) (a1_0 : Int) (a1_1 : Int) : Option (Int × Int × Int × Int) := (impl_RangeOk.f a0_0 a0_1).bind fun t512 => (if t512 = true then ((impl_RestOk.f a1_0 a1_1).bind fun t513 => (if t513 = true then ((impl_Range_empty.f a0_0 a0_1).bind fun t514 => (impl_ValMake.j0 k t514 a0_0 a0_1 a1_0 a1_1)) else (impl_ValMake.j0 k true a0_0 a0_1 a1_0 a1_1))) else (impl_ValMake.j0 k true a0_0 a0_1 a1_0 a1_1))
def impl_Val_rest.f (a0_0 : Int) (a0_1 : Int) (a0_2 : Int) (a0_3 : Int) : Option (Int × Int) := some (a0_2, a0_3)
def impl_ValOk.f (k : Nat) (a0_0 : Int) (a0_1 : Int) (a0_2 : Int) (a0_3 : Int) : Option (Bool) := (impl_Val_span.f a0_0 a0_1 a0_2 a0_3).bind fun bt541 => ((impl_Val_rest.f a0_0 a0_1 a0_2 a0_3).bind fun bt543 => ((impl_ValMake.f k bt541.1 bt541.2 bt543.1 bt543.2).bind fun bt545 => (some (a0_0 == bt545.1 && (a0_1 == bt545.2.1 && (a0_2 == bt545.2.2.1 && (a0_3 == bt545.2.2.2)))))))
def impl_Val_none.f (a0_0 : Int) (a0_1 : Int) (a0_2 : Int) (a0_3 : Int) : Option (Bool) := (impl_valNone.f).bind fun bt550 => (some (a0_0 == bt550.1 && (a0_1 == bt550.2.1 && (a0_2 == bt550.2.2.1 && (a0_3 == bt550.2.2.2)))))
mutual
def impl_NumDo.j0 : Nat → Int → Int → Int → Bool → Option (Int × Int)
  | 0, _, _, _, _ => none
  | k + 1, x0, x1, x2, x21 => if x21 = true then (some (0, 0)) else (if x0 = 4 then (impl_NumDo.j1 k x0 x1 x2 x0 (x0 == 4)) else (impl_NumDo.j1 k x0 x1 x2 x0 (x0 == 5)))
def impl_NumDo.j3 : Nat → Int → Int → Int → Option (Int × Int)
  | 0, _, _, _ => none
  | k + 1, x0, x1, x2 => (impl_numExact.f k x0 x1 x2).bind fun t557 => (if x0 = 11 then (impl_NumDo.j4 k t557 (x0 == 11)) else (if x0 = 12 then (impl_NumDo.j4 k t557 (x0 == 12)) else (impl_NumDo.j4 k t557 (x0 == 13))))
def impl_NumDo.j4 : Nat → Int → Bool → Option (Int × Int)
  | 0, _, _ => none
  | k + 1, x8, x42 => if x42 = true then ((impl_NumWrap.f x8).bind fun t558 => (some (t558, 0))) else ((impl_NumOk.f x8).bind fun t559 => (if t559 = true then (some (x8, 0)) else (some (0, 1))))
def impl_NumDo.j1 : Nat → Int → Int → Int → Int → Bool → Option (Int × Int)
  | 0, _, _, _, _, _ => none
  | k + 1, x0, x1, x2, x22, x23 => if x23 = true then (if x2 = 0 then (some (0, 2)) else (impl_NumDo.j3 k x0 x1 x2)) else (if x22 = 9 then (impl_NumDo.j2 k x0 x1 x2 (x22 == 9)) else (impl_NumDo.j2 k x0 x1 x2 (x22 == 10)))
def impl_NumDo.j2 : Nat → Int → Int → Int → Bool → Option (Int × Int)
  | 0, _, _, _, _ => none
  | k + 1, x0, x1, x2, x28 => if x28 = true then (if x2 < 0 then (some (0, 3)) else (if x2 > 31 then (some (0, 3)) else (impl_NumDo.j3 k x0 x1 x2))) else (impl_NumDo.j3 k x0 x1 x2)
end
def impl_NumDo.f (k : Nat) (a0 : Int) (a1 : Int) (a2 : Int) : Option (Int × Int) := (impl_numOp.f a0).bind fun t554 => (if t554 = true then ((impl_NumOk.f a1).bind fun t555 => (if t555 = true then ((impl_NumOk.f a2).bind fun t556 => (impl_NumDo.j0 k a0 a1 a2 (!t556))) else (impl_NumDo.j0 k a0 a1 a2 true))) else (impl_NumDo.j0 k a0 a1 a2 true))
def impl_restAll.f  : Option (Int × Int) := some (1, 0)
mutual
def impl_restGcd.l0 : Nat → Int → List Int → Int → Int → Option (Int)
  | 0, _, _, _, _ => none
  | k + 1, x3, x6, x7, x8 => if x8 < x7 then (if 0 ≤ x8 then (if x8 < (x6.length : Int) then (impl_restGcd.l1 k x3 (rd x6 x8) x6 x7 x8) else (none)) else (none)) else (if x3 < 0 then (some (wrap64 (-x3))) else (some x3))
def impl_restGcd.l1 : Nat → Int → Int → List Int → Int → Int → Option (Int)
  | 0, _, _, _, _, _ => none
  | k + 1, x3, x5, x6, x7, x8 => if x5 = 0 then (impl_restGcd.l0 k x3 x6 x7 (wrap64 (x8 + 1))) else (impl_restGcd.l1 k x5 (Int.tmod x3 x5) x6 x7 x8)
end
def impl_restGcd.f (k : Nat) (l0 : List Int) : Option (Int) := impl_restGcd.l0 k 0 l0 (l0.length : Int) 0
def impl_restOf.f (k : Nat) (a0 : Int) (a1 : Int) : Option (Int × Int) := if a1 > 65536 then ((impl_restGcd.f k (([a1, 65536] : List Int))).bind fun t566 => (if t566 = 0 then (some (0, a0)) else ((impl_restMod.f a0 t566).bind fun t567 => (some (t566, t567))))) else (if a1 = 0 then (some (0, a0)) else ((impl_restMod.f a0 a1).bind fun t568 => (some (a1, t568))))
mutual
def impl_RestDo.j0 : Nat → Int → Bool → Int → Int → Int → Int → Option (Int × Int)
  | 0, _, _, _, _, _, _ => none
  | k + 1, x0, x25, x570000, x570001, x571000, x571001 => if x25 = true then ((impl_restAll.f).bind fun bt575 => (some (bt575.1, bt575.2))) else (if x570000 = 0 then (impl_RestDo.j1 k x0 (x571000 == 0) x570000 x570001 x571000 x571001) else (impl_RestDo.j1 k x0 false x570000 x570001 x571000 x571001))
def impl_RestDo.j1 : Nat → Int → Bool → Int → Int → Int → Int → Option (Int × Int)
  | 0, _, _, _, _, _, _ => none
  | k + 1, x0, x34, x570000, x570001, x571000, x571001 => if x34 = true then ((impl_NumDo.f k x0 x570001 x571001).bind fun bt577 => (if bt577.2 = 0 then (some (0, bt577.1)) else ((impl_restAll.f).bind fun bt579 => (some (bt579.1, bt579.2))))) else (if x0 = 11 then (impl_RestDo.j2 k x0 4294967296 x570000 x570001 x571000 x571001) else (if x0 = 12 then (impl_RestDo.j2 k x0 4294967296 x570000 x570001 x571000 x571001) else (if x0 = 13 then (impl_RestDo.j2 k x0 4294967296 x570000 x570001 x571000 x571001) else (impl_RestDo.j2 k x0 0 x570000 x570001 x571000 x571001))))
def impl_RestDo.j2 : Nat → Int → Int → Int → Int → Int → Int → Option (Int × Int)
  | 0, _, _, _, _, _, _ => none
  | k + 1, x0, x9, x570000, x570001, x571000, x571001 => if x0 = 1 then (impl_RestDo.j3 k x9 x0 (x0 == 1) x570000 x570001 x571000 x571001) else (impl_RestDo.j3 k x9 x0 (x0 == 11) x570000 x570001 x571000 x571001)
def impl_RestDo.j3 : Nat → Int → Int → Bool → Int → Int → Int → Int → Option (Int × Int)
  | 0, _, _, _, _, _, _, _ => none
  | k + 1, x9, x54, x55, x570000, x570001, x571000, x571001 => if x55 = true then ((impl_restGcd.f k (([x570000, x571000, x9] : List Int))).bind fun t584 => ((impl_restOf.f k (wrap64 (x570001 + x571001)) t584).bind fun bt585 => (some (bt585.1, bt585.2)))) else (if x54 = 2 then (impl_RestDo.j4 k x9 x54 (x54 == 2) x570000 x570001 x571000 x571001) else (impl_RestDo.j4 k x9 x54 (x54 == 12) x570000 x570001 x571000 x571001))
def impl_RestDo.j4 : Nat → Int → Int → Bool → Int → Int → Int → Int → Option (Int × Int)
  | 0, _, _, _, _, _, _, _ => none
  | k + 1, x9, x54, x71, x570000, x570001, x571000, x571001 => if x71 = true then ((impl_restGcd.f k (([x570000, x571000, x9] : List Int))).bind fun t590 => ((impl_restOf.f k (wrap64 (x570001 - x571001)) t590).bind fun bt591 => (some (bt591.1, bt591.2)))) else (if x54 = 3 then (impl_RestDo.j5 k x9 x54 (x54 == 3) x570000 x570001 x571000 x571001) else (impl_RestDo.j5 k x9 x54 (x54 == 13) x570000 x570001 x571000 x571001))
def impl_RestDo.j5 : Nat → Int → Int → Bool → Int → Int → Int → Int → Option (Int × Int)
  | 0, _, _, _, _, _, _, _ => none
  | k + 1, x9, x54, x87, x570000, x570001, x571000, x571001 => if x87 = true then ((impl_restGcd.f k (([wrap64 (x570000 * x571000), wrap64 (x570000 * x571001), wrap64 (x571000 * x570001)] : List Int))).bind fun t596 => (if t596 = 0 then (some (0, 0)) else ((impl_restGcd.f k (([t596, x9] : List Int))).bind fun t600 => ((impl_restOf.f k (wrap64 (x570001 * x571001)) t600).bind fun bt601 => (some (bt601.1, bt601.2)))))) else (if x54 = 9 then (if x571000 = 0 then (if x571001 ≥ 0 then (impl_RestDo.j6 k (decide (x571001 ≤ 31)) x570000 x570001 x571000 x571001) else (impl_RestDo.j6 k false x570000 x570001 x571000 x571001)) else (impl_RestDo.j6 k false x570000 x570001 x571000 x571001)) else (if x54 = 5 then ((impl_restGcd.f k (([x570000, x571000, x571001] : List Int))).bind fun t610 => (if t610 = 0 then ((impl_restAll.f).bind fun bt611 => (some (bt611.1, bt611.2))) else ((impl_restOf.f k x570001 t610).bind fun bt613 => (some (bt613.1, bt613.2))))) else ((impl_restAll.f).bind fun bt615 => (some (bt615.1, bt615.2)))))
def impl_RestDo.j6 : Nat → Bool → Int → Int → Int → Int → Option (Int × Int)
  | 0, _, _, _, _, _ => none
  | k + 1, x134, x570000, x570001, x571000, x571001 => if x134 = true then (if 0 ≤ (IntKind.u64.wrap (x571001)) then ((impl_restOf.f k (wrap64 (x570001 * (shl .i64 1 (IntKind.u64.wrap (x571001))))) (wrap64 (x570000 * (shl .i64 1 (IntKind.u64.wrap (x571001)))))).bind fun bt603 => (some (bt603.1, bt603.2))) else (none)) else ((impl_restAll.f).bind fun bt605 => (some (bt605.1, bt605.2)))
end
def impl_RestDo.f (k : Nat) (a0 : Int) (a1_0 : Int) (a1_1 : Int) (a2_0 : Int) (a2_1 : Int) : Option (Int × Int) := (impl_numOp.f a0).bind fun t572 => (if t572 = true then ((impl_RestOk.f a1_0 a1_1).bind fun t573 => (if t573 = true then ((impl_RestOk.f a2_0 a2_1).bind fun t574 => (impl_RestDo.j0 k a0 (!t574) a1_0 a1_1 a2_0 a2_1)) else (impl_RestDo.j0 k a0 true a1_0 a1_1 a2_0 a2_1))) else (impl_RestDo.j0 k a0 true a1_0 a1_1 a2_0 a2_1))
def impl_ValDo.j0 : Nat → Int → Bool → Int → Int → Int → Int → Int → Int → Int → Int → Option (Int × Int × Int × Int × List Int)
  | 0, _, _, _, _, _, _, _, _, _, _ => none
  | k + 1, x0, x25, x618000, x618001, x618002, x618003, x619000, x619001, x619002, x619003 => if x25 = true then ((impl_valNone.f).bind fun bt624 => (some (bt624.1, bt624.2.1, bt624.2.2.1, bt624.2.2.2, ([] : List Int)))) else ((impl_Val_span.f x618000 x618001 x618002 x618003).bind fun bt628 => ((impl_Val_span.f x619000 x619001 x619002 x619003).bind fun bt630 => ((impl_RangeDo.f k x0 bt628.1 bt628.2 bt630.1 bt630.2).bind fun bt632 => ((impl_Val_rest.f x618000 x618001 x618002 x618003).bind fun bt638 => ((impl_Val_rest.f x619000 x619001 x619002 x619003).bind fun bt640 => ((impl_RestDo.f k x0 bt638.1 bt638.2 bt640.1 bt640.2).bind fun bt642 => ((impl_ValMake.f k bt632.1 bt632.2.1 bt642.1 bt642.2).bind fun bt644 => (some (bt644.1, bt644.2.1, bt644.2.2.1, bt644.2.2.2, bt632.2.2)))))))))
def impl_ValDo.f (k : Nat) (a0 : Int) (a1_0 : Int) (a1_1 : Int) (a1_2 : Int) (a1_3 : Int) (a2_0 : Int) (a2_1 : Int) (a2_2 : Int) (a2_3 : Int) : Option (Int × Int × Int × Int × List Int) := (impl_ValOk.f k a1_0 a1_1 a1_2 a1_3).bind fun t620 => (if t620 = true then ((impl_ValOk.f k a2_0 a2_1 a2_2 a2_3).bind fun t621 => (if t621 = true then ((impl_Val_none.f a1_0 a1_1 a1_2 a1_3).bind fun t622 => (if t622 = true then (impl_ValDo.j0 k a0 true a1_0 a1_1 a1_2 a1_3 a2_0 a2_1 a2_2 a2_3) else ((impl_Val_none.f a2_0 a2_1 a2_2 a2_3).bind fun t623 => (impl_ValDo.j0 k a0 t623 a1_0 a1_1 a1_2 a1_3 a2_0 a2_1 a2_2 a2_3)))) else (impl_ValDo.j0 k a0 true a1_0 a1_1 a1_2 a1_3 a2_0 a2_1 a2_2 a2_3))) else (impl_ValDo.j0 k a0 true a1_0 a1_1 a1_2 a1_3 a2_0 a2_1 a2_2 a2_3))
def spec_RangeMeet.j0 : Nat → Bool → Int → Int → Int → Int → Option (Int × Int)
  | 0, _, _, _, _, _ => none
  | k + 1, x22, x649000, x649001, x650000, x650001 => if x22 = true then ((spec_l8None.f).bind fun bt657 => (some (bt657.1, bt657.2))) else ((spec_l8Max.f x649000 x650000).bind fun t659 => ((spec_l8Min.f x649001 x650001).bind fun t660 => ((spec_l8Cut.f t659 t660).bind fun bt661 => (some (bt661.1, bt661.2)))))
def spec_RangeMeet.f (k : Nat) (a0_0 : Int) (a0_1 : Int) (a1_0 : Int) (a1_1 : Int) : Option (Int × Int) := (spec_RangeOk.f a0_0 a0_1).bind fun t651 => (if t651 = true then ((spec_RangeOk.f a1_0 a1_1).bind fun t652 => (if t652 = true then ((spec_l8None.f).bind fun bt653 => (if (a0_0 == bt653.1 && (a0_1 == bt653.2)) = true then (spec_RangeMeet.j0 k true a0_0 a0_1 a1_0 a1_1) else ((spec_l8None.f).bind fun bt655 => (spec_RangeMeet.j0 k (a1_0 == bt655.1 && (a1_1 == bt655.2)) a0_0 a0_1 a1_0 a1_1)))) else (spec_RangeMeet.j0 k true a0_0 a0_1 a1_0 a1_1))) else (spec_RangeMeet.j0 k true a0_0 a0_1 a1_0 a1_1))
def spec_l1Bits.l0 : Nat → Int → Int → Int → Int → Int → Option (Int)
  | 0, _, _, _, _, _ => none
  | k + 1, x0, x1, x2, x7, x8 => if x8 < 32 then ((spec_l1Mod.f x1 4294967296).bind fun t664 => (if 0 ≤ (IntKind.u64.wrap (x8)) then ((spec_l1Mod.f x2 4294967296).bind fun t665 => (if x0 = 7 then (if x0 = 8 then (spec_l1Bits.l0 k x0 x1 x2 (wrap64 (x7 + (shl .i64 (Int.tmod (wrap64 ((Int.tmod (shr .i64 t664 (IntKind.u64.wrap (x8))) 2) + (Int.tmod (shr .i64 t665 (IntKind.u64.wrap (x8))) 2))) 2) (IntKind.u64.wrap (x8))))) (wrap64 (x8 + 1))) else (spec_l1Bits.l0 k x0 x1 x2 (wrap64 (x7 + (shl .i64 (wrap64 ((wrap64 ((Int.tmod (shr .i64 t664 (IntKind.u64.wrap (x8))) 2) + (Int.tmod (shr .i64 t665 (IntKind.u64.wrap (x8))) 2))) - (wrap64 ((Int.tmod (shr .i64 t664 (IntKind.u64.wrap (x8))) 2) * (Int.tmod (shr .i64 t665 (IntKind.u64.wrap (x8))) 2))))) (IntKind.u64.wrap (x8))))) (wrap64 (x8 + 1)))) else (if x0 = 8 then (spec_l1Bits.l0 k x0 x1 x2 (wrap64 (x7 + (shl .i64 (Int.tmod (wrap64 ((Int.tmod (shr .i64 t664 (IntKind.u64.wrap (x8))) 2) + (Int.tmod (shr .i64 t665 (IntKind.u64.wrap (x8))) 2))) 2) (IntKind.u64.wrap (x8))))) (wrap64 (x8 + 1))) else (spec_l1Bits.l0 k x0 x1 x2 (wrap64 (x7 + (shl .i64 (wrap64 ((Int.tmod (shr .i64 t664 (IntKind.u64.wrap (x8))) 2) * (Int.tmod (shr .i64 t665 (IntKind.u64.wrap (x8))) 2))) (IntKind.u64.wrap (x8))))) (wrap64 (x8 + 1)))))) else (none))) else ((spec_NumWrap.f x7).bind fun t663 => (some t663))
def spec_l1Bits.f (k : Nat) (a0 : Int) (a1 : Int) (a2 : Int) : Option (Int) := spec_l1Bits.l0 k a0 a1 a2 0 0
def spec_l1Floor.f (a0 : Int) (a1 : Int) : Option (Int) := (spec_l1Mod.f a0 a1).bind fun t666 => (if a1 = 0 then (none) else (some (wrap64 (Int.tdiv (wrap64 (a0 - t666)) a1))))
mutual
def spec_l1Exact.j0 : Nat → Int → Int → Int → Bool → Option (Int)
  | 0, _, _, _, _ => none
  | k + 1, x0, x1, x2, x12 => if x12 = true then (some (wrap64 (x1 + x2))) else (if x0 = 2 then (spec_l1Exact.j1 k x0 x1 x2 true) else (spec_l1Exact.j1 k x0 x1 x2 (x0 == 12)))
def spec_l1Exact.j1 : Nat → Int → Int → Int → Bool → Option (Int)
  | 0, _, _, _, _ => none
  | k + 1, x0, x1, x2, x21 => if x21 = true then (some (wrap64 (x1 - x2))) else (if x0 = 3 then (spec_l1Exact.j2 k x0 x1 x2 true) else (spec_l1Exact.j2 k x0 x1 x2 (x0 == 13)))
def spec_l1Exact.j2 : Nat → Int → Int → Int → Bool → Option (Int)
  | 0, _, _, _, _ => none
  | k + 1, x0, x1, x2, x30 => if x30 = true then (some (wrap64 (x1 * x2))) else (if x0 = 4 then (if x2 = 0 then (none) else (some (wrap64 (Int.tdiv x1 x2)))) else (if x0 = 5 then (if x2 = 0 then (none) else (some (Int.tmod x1 x2))) else (if x0 = 9 then ((spec_l1Power.f k x2).bind fun t667 => (some (wrap64 (x1 * t667)))) else (if x0 = 10 then ((spec_l1Power.f k x2).bind fun t668 => ((spec_l1Floor.f x1 t668).bind fun t669 => (some t669))) else ((spec_l1Bits.f k x0 x1 x2).bind fun t670 => (some t670))))))
end
def spec_l1Exact.f (k : Nat) (a0 : Int) (a1 : Int) (a2 : Int) : Option (Int) := if a0 = 1 then (spec_l1Exact.j0 k a0 a1 a2 true) else (spec_l1Exact.j0 k a0 a1 a2 (a0 == 11))
def spec_l8R_add.j0 : Nat → Int → Bool → Bool → Int → Int → Option (Bool × Int × Int)
  | 0, _, _, _, _, _ => none
  | k + 1, x1, x16, x1000, x1001, x1002 => if x16 = true then (if x1000 = true then (if x1 > x1002 then (some (true, x1, x1)) else (some (true, x1, x1002))) else (some (true, x1, x1))) else (if x1000 = true then (if x1 > x1002 then (some (true, x1001, x1)) else (some (true, x1001, x1002))) else (some (true, x1001, x1)))
def spec_l8R_add.f (k : Nat) (s0_0 : Bool) (s0_1 : Int) (s0_2 : Int) (a1 : Int) : Option (Bool × Int × Int) := if s0_0 = true then (spec_l8R_add.j0 k a1 (decide (a1 < s0_1)) s0_0 s0_1 s0_2) else (spec_l8R_add.j0 k a1 true s0_0 s0_1 s0_2)
def spec_l8R_corners.f (k : Nat) (s0_0 : Bool) (s0_1 : Int) (s0_2 : Int) (a1 : Int) (a2_0 : Int) (a2_1 : Int) (a3_0 : Int) (a3_1 : Int) : Option (Bool × Int × Int) := (spec_l1Exact.f k a1 a2_0 a3_0).bind fun t673 => ((spec_l8R_add.f k s0_0 s0_1 s0_2 t673).bind fun bt674 => ((spec_l1Exact.f k a1 a2_0 a3_1).bind fun t677 => ((spec_l8R_add.f k bt674.1 bt674.2.1 bt674.2.2 t677).bind fun bt678 => ((spec_l1Exact.f k a1 a2_1 a3_0).bind fun t681 => ((spec_l8R_add.f k bt678.1 bt678.2.1 bt678.2.2 t681).bind fun bt682 => ((spec_l1Exact.f k a1 a2_1 a3_1).bind fun t685 => ((spec_l8R_add.f k bt682.1 bt682.2.1 bt682.2.2 t685).bind fun bt686 => (some (bt686.1, bt686.2.1, bt686.2.2)))))))))
def spec_RangeJoin.j0 : Nat → Bool → Int → Int → Int → Int → Option (Int × Int)
  | 0, _, _, _, _, _ => none
  | k + 1, x12, x690000, x690001, x691000, x691001 => if x12 = true then ((spec_l8None.f).bind fun bt694 => (some (bt694.1, bt694.2))) else ((spec_l8None.f).bind fun bt696 => (if (x690000 == bt696.1 && (x690001 == bt696.2)) = true then (some (x691000, x691001)) else ((spec_l8None.f).bind fun bt698 => (if (x691000 == bt698.1 && (x691001 == bt698.2)) = true then (some (x690000, x690001)) else ((spec_l8Min.f x690000 x691000).bind fun t700 => ((spec_l8Max.f x690001 x691001).bind fun t701 => (some (t700, t701))))))))
def spec_RangeJoin.f (k : Nat) (a0_0 : Int) (a0_1 : Int) (a1_0 : Int) (a1_1 : Int) : Option (Int × Int) := (spec_RangeOk.f a0_0 a0_1).bind fun t692 => (if t692 = true then ((spec_RangeOk.f a1_0 a1_1).bind fun t693 => (spec_RangeJoin.j0 k (!t693) a0_0 a0_1 a1_0 a1_1)) else (spec_RangeJoin.j0 k true a0_0 a0_1 a1_0 a1_1))
def spec_l8Rem.j0 : Nat → Int → Bool → Int → Int → Option (Int × Int)
  | 0, _, _, _, _ => none
  | k + 1, x2, x18, x703000, x703001 => if x18 = true then (some (x703000, x703001)) else (if x703000 < 0 then ((spec_l8Max.f x703000 (wrap64 (1 - x2))).bind fun t705 => (if x703001 > 0 then ((spec_l8Min.f x703001 (wrap64 (x2 - 1))).bind fun t706 => (some (t705, t706))) else (some (t705, 0)))) else (if x703001 > 0 then ((spec_l8Min.f x703001 (wrap64 (x2 - 1))).bind fun t707 => (some (0, t707))) else (some (0, 0))))
def spec_l8Rem.f (k : Nat) (a0_0 : Int) (a0_1 : Int) (a1 : Int) (a2 : Int) : Option (Int × Int) := if a0_0 > (wrap64 (-a1)) then (spec_l8Rem.j0 k a2 (decide (a0_1 < a1)) a0_0 a0_1) else (spec_l8Rem.j0 k a2 false a0_0 a0_1)
def spec_l8New.f  : Option (Bool × Int × Int) := some (false, 0, 0)
mutual
def spec_l8Div.j0 : Nat → Int → List Int → Bool → Int → Int → Int → Int → Int → Int → Int → Int → Option (Int × Int × List Int)
  | 0, _, _, _, _, _, _, _, _, _, _, _ => none
  | k + 1, x0, x8, x31, x710000, x710001, x711000, x711001, x718000, x718001, x721000, x721001 => if x31 = true then (if x8.length < 17592186044416 then (spec_l8Div.j1 k x0 (x8 ++ [1]) x710000 x710001 x711000 x711001 x718000 x718001 x721000 x721001) else (none)) else (spec_l8Div.j1 k x0 x8 x710000 x710001 x711000 x711001 x718000 x718001 x721000 x721001)
def spec_l8Div.j1 : Nat → Int → List Int → Int → Int → Int → Int → Int → Int → Int → Int → Option (Int × Int × List Int)
  | 0, _, _, _, _, _, _, _, _, _, _ => none
  | k + 1, x0, x8, x710000, x710001, x711000, x711001, x718000, x718001, x721000, x721001 => (spec_RangeHas.f x711000 x711001 0).bind fun t725 => (if t725 = true then (if x8.length < 17592186044416 then (spec_l8Div.j2 k x0 (x8 ++ [2]) x710000 x710001 x711000 x711001 x718000 x718001 x721000 x721001) else (none)) else (spec_l8Div.j2 k x0 x8 x710000 x710001 x711000 x711001 x718000 x718001 x721000 x721001))
def spec_l8Div.j2 : Nat → Int → List Int → Int → Int → Int → Int → Int → Int → Int → Int → Option (Int × Int × List Int)
  | 0, _, _, _, _, _, _, _, _, _, _ => none
  | k + 1, x0, x8, x710000, x710001, x711000, x711001, x718000, x718001, x721000, x721001 => if x0 = 5 then ((spec_l8None.f).bind fun bt729 => ((spec_l8None.f).bind fun bt732 => (if (!(x718000 == bt732.1) || (!(x718001 == bt732.2))) = true then ((spec_l8Rem.f k x710000 x710001 (wrap64 (-x718001)) (wrap64 (-x718000))).bind fun bt734 => ((spec_RangeJoin.f k bt729.1 bt729.2 bt734.1 bt734.2).bind fun bt736 => (spec_l8Div.j3 k x0 x8 x710000 x710001 x711000 x711001 x721000 x721001 bt736.1 bt736.2))) else (spec_l8Div.j3 k x0 x8 x710000 x710001 x711000 x711001 x721000 x721001 bt729.1 bt729.2)))) else ((spec_l8New.f).bind fun bt746 => ((spec_l8None.f).bind fun bt750 => (if (!(x718000 == bt750.1) || (!(x718001 == bt750.2))) = true then ((spec_l8R_corners.f k bt746.1 bt746.2.1 bt746.2.2 x0 x710000 x710001 x718000 x718001).bind fun bt752 => (spec_l8Div.j4 k x0 x8 x710000 x710001 x721000 x721001 bt752.1 bt752.2.1 bt752.2.2)) else (spec_l8Div.j4 k x0 x8 x710000 x710001 x721000 x721001 bt746.1 bt746.2.1 bt746.2.2))))
def spec_l8Div.j3 : Nat → Int → List Int → Int → Int → Int → Int → Int → Int → Int → Int → Option (Int × Int × List Int)
  | 0, _, _, _, _, _, _, _, _, _, _ => none
  | k + 1, x0, x8, x710000, x710001, x711000, x711001, x721000, x721001, x732000, x732001 => (spec_l8None.f).bind fun bt738 => (if (!(x721000 == bt738.1) || (!(x721001 == bt738.2))) = true then ((spec_l8Rem.f k x710000 x710001 x721000 x721001).bind fun bt740 => ((spec_RangeJoin.f k x732000 x732001 bt740.1 bt740.2).bind fun bt742 => (if x710000 = x710001 then (if x711000 = x711001 then (if x711000 = 0 then (some (bt742.1, bt742.2, x8)) else ((spec_l1Exact.f k x0 x710000 x711000).bind fun t744 => (some (t744, t744, x8)))) else (some (bt742.1, bt742.2, x8))) else (some (bt742.1, bt742.2, x8))))) else (if x710000 = x710001 then (if x711000 = x711001 then (if x711000 = 0 then (some (x732000, x732001, x8)) else ((spec_l1Exact.f k x0 x710000 x711000).bind fun t745 => (some (t745, t745, x8)))) else (some (x732000, x732001, x8))) else (some (x732000, x732001, x8))))
def spec_l8Div.j4 : Nat → Int → List Int → Int → Int → Int → Int → Bool → Int → Int → Option (Int × Int × List Int)
  | 0, _, _, _, _, _, _, _, _, _ => none
  | k + 1, x0, x8, x710000, x710001, x721000, x721001, x750000, x750001, x750002 => (spec_l8None.f).bind fun bt755 => (if (!(x721000 == bt755.1) || (!(x721001 == bt755.2))) = true then ((spec_l8R_corners.f k x750000 x750001 x750002 x0 x710000 x710001 x721000 x721001).bind fun bt757 => (spec_l8Div.j5 k x8 bt757.1 bt757.2.1 bt757.2.2)) else (spec_l8Div.j5 k x8 x750000 x750001 x750002))
def spec_l8Div.j5 : Nat → List Int → Bool → Int → Int → Option (Int × Int × List Int)
  | 0, _, _, _, _ => none
  | k + 1, x8, x750000, x750001, x750002 => if x750000 = true then ((spec_l8Cut.f x750001 x750002).bind fun bt760 => (some (bt760.1, bt760.2, x8))) else ((spec_l8None.f).bind fun bt762 => (some (bt762.1, bt762.2, x8)))
end
def spec_l8Div.f (k : Nat) (a0 : Int) (a1_0 : Int) (a1_1 : Int) (a2_0 : Int) (a2_1 : Int) : Option (Int × Int × List Int) := (some (([] : List Int) : List Int)).bind fun y712 => ((spec_RangeMeet.f k a2_0 a2_1 (-2147483648) (-1)).bind fun bt715 => ((spec_RangeMeet.f k a2_0 a2_1 1 2147483647).bind fun bt718 => (if a0 = 4 then (if a1_0 = (-2147483648) then ((spec_RangeHas.f a2_0 a2_1 (-1)).bind fun t721 => (spec_l8Div.j0 k a0 y712 t721 a1_0 a1_1 a2_0 a2_1 bt715.1 bt715.2 bt718.1 bt718.2)) else (spec_l8Div.j0 k a0 y712 false a1_0 a1_1 a2_0 a2_1 bt715.1 bt715.2 bt718.1 bt718.2)) else (spec_l8Div.j0 k a0 y712 false a1_0 a1_1 a2_0 a2_1 bt715.1 bt715.2 bt718.1 bt718.2))))
def spec_l8Mask.l0 : Nat → Int → Int → Option (Int)
  | 0, _, _ => none
  | k + 1, x0, x3 => if x3 < x0 then (spec_l8Mask.l0 k x0 (wrap64 ((wrap64 (2 * x3)) + 1))) else (some x3)
def spec_l8Mask.f (k : Nat) (a0 : Int) : Option (Int) := spec_l8Mask.l0 k a0 0
mutual
def spec_l8Bits.j0 : Nat → Int → Bool → Int → Int → Int → Int → Option (Int × Int)
  | 0, _, _, _, _, _, _ => none
  | k + 1, x0, x19, x765000, x765001, x766000, x766001 => if x19 = true then ((spec_l1Bits.f k x0 x765000 x766000).bind fun t767 => (some (t767, t767))) else (if x0 = 6 then (if x765000 ≥ 0 then (spec_l8Bits.j1 k x0 (decide (x766000 ≥ 0)) x765000 x765001 x766000 x766001) else (spec_l8Bits.j1 k x0 false x765000 x765001 x766000 x766001)) else (spec_l8Bits.j1 k x0 false x765000 x765001 x766000 x766001))
def spec_l8Bits.j1 : Nat → Int → Bool → Int → Int → Int → Int → Option (Int × Int)
  | 0, _, _, _, _, _, _ => none
  | k + 1, x0, x40, x765000, x765001, x766000, x766001 => if x40 = true then ((spec_l8Min.f x765001 x766001).bind fun t768 => (some (0, t768))) else (if x0 = 6 then (spec_l8Bits.j2 k x0 (decide (x765000 ≥ 0)) x765000 x765001 x766000 x766001) else (spec_l8Bits.j2 k x0 false x765000 x765001 x766000 x766001))
def spec_l8Bits.j2 : Nat → Int → Bool → Int → Int → Int → Int → Option (Int × Int)
  | 0, _, _, _, _, _, _ => none
  | k + 1, x0, x53, x765000, x765001, x766000, x766001 => if x53 = true then (some (0, x765001)) else (if x0 = 6 then (spec_l8Bits.j3 k x0 (decide (x766000 ≥ 0)) x765000 x765001 x766000 x766001) else (spec_l8Bits.j3 k x0 false x765000 x765001 x766000 x766001))
def spec_l8Bits.j3 : Nat → Int → Bool → Int → Int → Int → Int → Option (Int × Int)
  | 0, _, _, _, _, _, _ => none
  | k + 1, x0, x63, x765000, x765001, x766000, x766001 => if x63 = true then (some (0, x766001)) else (if x765000 ≥ 0 then (if x766000 ≥ 0 then (spec_l8Bits.j4 k x0 (x0 == 7) x765000 x765001 x766000 x766001) else (spec_l8Bits.j4 k x0 false x765000 x765001 x766000 x766001)) else (spec_l8Bits.j4 k x0 false x765000 x765001 x766000 x766001))
def spec_l8Bits.j4 : Nat → Int → Bool → Int → Int → Int → Int → Option (Int × Int)
  | 0, _, _, _, _, _, _ => none
  | k + 1, x0, x78, x765000, x765001, x766000, x766001 => if x78 = true then ((spec_l8Max.f x765000 x766000).bind fun t769 => ((spec_l8Max.f x765001 x766001).bind fun t770 => ((spec_l8Mask.f k t770).bind fun t771 => (some (t769, t771))))) else (if x765000 ≥ 0 then (if x766000 ≥ 0 then (spec_l8Bits.j5 k (x0 == 8) x765000 x765001 x766000 x766001) else (spec_l8Bits.j5 k false x765000 x765001 x766000 x766001)) else (spec_l8Bits.j5 k false x765000 x765001 x766000 x766001))
def spec_l8Bits.j5 : Nat → Bool → Int → Int → Int → Int → Option (Int × Int)
  | 0, _, _, _, _, _ => none
  | k + 1, x102, x765000, x765001, x766000, x766001 => if x102 = true then ((spec_l8Max.f x765001 x766001).bind fun t772 => ((spec_l8Mask.f k t772).bind fun t773 => (some (0, t773)))) else (some ((-2147483648), 2147483647))
end
def spec_l8Bits.f (k : Nat) (a0 : Int) (a1_0 : Int) (a1_1 : Int) (a2_0 : Int) (a2_1 : Int) : Option (Int × Int) := if a1_0 = a1_1 then (spec_l8Bits.j0 k a0 (a2_0 == a2_1) a1_0 a1_1 a2_0 a2_1) else (spec_l8Bits.j0 k a0 false a1_0 a1_1 a2_0 a2_1)
def spec_l8Wrapped.j0 : Nat → Int → Int → Bool → Option (Int × Int)
  | 0, _, _, _ => none
  | k + 1, x0, x1, x15 => if x15 = true then (some ((-2147483648), 2147483647)) else ((spec_NumWrap.f x0).bind fun t777 => ((spec_NumWrap.f x1).bind fun t778 => (some (t777, t778))))
def spec_l8Wrapped.f (k : Nat) (a0 : Int) (a1 : Int) : Option (Int × Int) := if (wrap64 (a1 - a0)) > 4294967295 then (spec_l8Wrapped.j0 k a0 a1 true) else ((spec_NumWrap.f a0).bind fun t775 => ((spec_NumWrap.f a1).bind fun t776 => (spec_l8Wrapped.j0 k a0 a1 (decide (t775 > t776)))))
mutual
def spec_RangeDo.j0 : Nat → Int → List Int → Bool → Int → Int → Int → Int → Option (Int × Int × List Int)
  | 0, _, _, _, _, _, _, _ => none
  | k + 1, x0, x8, x35, x780000, x780001, x781000, x781001 => if x35 = true then ((spec_l8None.f).bind fun bt792 => (some (bt792.1, bt792.2, x8))) else (if x0 = 4 then (spec_RangeDo.j1 k x0 x8 true x780000 x780001 x781000 x781001) else (spec_RangeDo.j1 k x0 x8 (x0 == 5) x780000 x780001 x781000 x781001))
def spec_RangeDo.j1 : Nat → Int → List Int → Bool → Int → Int → Int → Int → Option (Int × Int × List Int)
  | 0, _, _, _, _, _, _, _ => none
  | k + 1, x0, x8, x43, x780000, x780001, x781000, x781001 => if x43 = true then ((spec_l8Div.f k x0 x780000 x780001 x781000 x781001).bind fun bt794 => (some (bt794.1, bt794.2.1, bt794.2.2))) else ((spec_l1In.f x0 6 8).bind fun t799 => (if t799 = true then ((spec_l8Bits.f k x0 x780000 x780001 x781000 x781001).bind fun bt800 => (some (bt800.1, bt800.2, x8))) else (if x0 = 9 then (spec_RangeDo.j2 k x0 x8 true x780000 x780001 x781000 x781001 x781000 x781001) else (spec_RangeDo.j2 k x0 x8 (x0 == 10) x780000 x780001 x781000 x781001 x781000 x781001))))
def spec_RangeDo.j2 : Nat → Int → List Int → Bool → Int → Int → Int → Int → Int → Int → Option (Int × Int × List Int)
  | 0, _, _, _, _, _, _, _, _, _ => none
  | k + 1, x0, x8, x10, x780000, x780001, x781000, x781001, x803000, x803001 => if x10 = true then ((spec_RangeMeet.f k x781000 x781001 0 31).bind fun bt803 => (spec_RangeDo.j3 k x0 x8 x10 x780000 x780001 x781000 x781001 bt803.1 bt803.2)) else (spec_RangeDo.j3 k x0 x8 x10 x780000 x780001 x781000 x781001 x803000 x803001)
def spec_RangeDo.j3 : Nat → Int → List Int → Bool → Int → Int → Int → Int → Int → Int → Option (Int × Int × List Int)
  | 0, _, _, _, _, _, _, _, _, _ => none
  | k + 1, x0, x8, x10, x780000, x780001, x781000, x781001, x803000, x803001 => (spec_l8New.f).bind fun bt805 => ((spec_l8None.f).bind fun bt809 => (if (!(x803000 == bt809.1) || (!(x803001 == bt809.2))) = true then ((spec_l8R_corners.f k bt805.1 bt805.2.1 bt805.2.2 x0 x780000 x780001 x803000 x803001).bind fun bt811 => (spec_RangeDo.j4 k x0 x8 x10 x781000 x781001 x803000 x803001 bt811.1 bt811.2.1 bt811.2.2)) else (spec_RangeDo.j4 k x0 x8 x10 x781000 x781001 x803000 x803001 bt805.1 bt805.2.1 bt805.2.2)))
def spec_RangeDo.j4 : Nat → Int → List Int → Bool → Int → Int → Int → Int → Bool → Int → Int → Option (Int × Int × List Int)
  | 0, _, _, _, _, _, _, _, _, _, _ => none
  | k + 1, x0, x8, x10, x781000, x781001, x803000, x803001, x809000, x809001, x809002 => if x0 ≥ 11 then ((spec_l8Wrapped.f k x809001 x809002).bind fun bt814 => (some (bt814.1, bt814.2, x8))) else (if x809000 = true then (if x809001 < (-2147483648) then (spec_RangeDo.j5 k x8 x10 true x781000 x781001 x803000 x803001 x809000 x809001 x809002) else (spec_RangeDo.j5 k x8 x10 (decide (x809002 > 2147483647)) x781000 x781001 x803000 x803001 x809000 x809001 x809002)) else (spec_RangeDo.j5 k x8 x10 false x781000 x781001 x803000 x803001 x809000 x809001 x809002))
def spec_RangeDo.j5 : Nat → List Int → Bool → Bool → Int → Int → Int → Int → Bool → Int → Int → Option (Int × Int × List Int)
  | 0, _, _, _, _, _, _, _, _, _, _ => none
  | k + 1, x8, x10, x106, x781000, x781001, x803000, x803001, x809000, x809001, x809002 => if x106 = true then (if x8.length < 17592186044416 then (spec_RangeDo.j6 k (x8 ++ [1]) x10 x781000 x781001 x803000 x803001 x809000 x809001 x809002) else (none)) else (spec_RangeDo.j6 k x8 x10 x781000 x781001 x803000 x803001 x809000 x809001 x809002)
def spec_RangeDo.j6 : Nat → List Int → Bool → Int → Int → Int → Int → Bool → Int → Int → Option (Int × Int × List Int)
  | 0, _, _, _, _, _, _, _, _, _ => none
  | k + 1, x8, x10, x781000, x781001, x803000, x803001, x809000, x809001, x809002 => if x10 = true then (spec_RangeDo.j7 k x8 (!(x803000 == x781000) || (!(x803001 == x781001))) x809000 x809001 x809002) else (spec_RangeDo.j7 k x8 false x809000 x809001 x809002)
def spec_RangeDo.j7 : Nat → List Int → Bool → Bool → Int → Int → Option (Int × Int × List Int)
  | 0, _, _, _, _, _ => none
  | k + 1, x8, x115, x809000, x809001, x809002 => if x115 = true then (if x8.length < 17592186044416 then (spec_RangeDo.j8 k (x8 ++ [3]) x809000 x809001 x809002) else (none)) else (spec_RangeDo.j8 k x8 x809000 x809001 x809002)
def spec_RangeDo.j8 : Nat → List Int → Bool → Int → Int → Option (Int × Int × List Int)
  | 0, _, _, _, _ => none
  | k + 1, x8, x809000, x809001, x809002 => if x809000 = true then ((spec_l8Cut.f x809001 x809002).bind fun bt822 => (some (bt822.1, bt822.2, x8))) else ((spec_l8None.f).bind fun bt824 => (some (bt824.1, bt824.2, x8)))
end
def spec_RangeDo.f (k : Nat) (a0 : Int) (a1_0 : Int) (a1_1 : Int) (a2_0 : Int) (a2_1 : Int) : Option (Int × Int × List Int) := (some (([] : List Int) : List Int)).bind fun y782 => ((spec_l1In.f a0 1 13).bind fun t785 => (if t785 = true then ((spec_RangeOk.f a1_0 a1_1).bind fun t786 => (if t786 = true then ((spec_RangeOk.f a2_0 a2_1).bind fun t787 => (if t787 = true then ((spec_l8None.f).bind fun bt788 => (if (a1_0 == bt788.1 && (a1_1 == bt788.2)) = true then (spec_RangeDo.j0 k a0 y782 true a1_0 a1_1 a2_0 a2_1) else ((spec_l8None.f).bind fun bt790 => (spec_RangeDo.j0 k a0 y782 (a2_0 == bt790.1 && (a2_1 == bt790.2)) a1_0 a1_1 a2_0 a2_1)))) else (spec_RangeDo.j0 k a0 y782 true a1_0 a1_1 a2_0 a2_1))) else (spec_RangeDo.j0 k a0 y782 true a1_0 a1_1 a2_0 a2_1))) else (spec_RangeDo.j0 k a0 y782 true a1_0 a1_1 a2_0 a2_1)))
def spec_l10Range.f (a0_0 : Int) (a0_1 : Int) (a0_2 : Int) (a0_3 : Int) : Option (Int × Int) := some (a0_0, a0_1)
def spec_l10Rest.f (a0_0 : Int) (a0_1 : Int) (a0_2 : Int) (a0_3 : Int) : Option (Int × Int) := some (a0_2, a0_3)
def spec_ValOk.f (k : Nat) (a0_0 : Int) (a0_1 : Int) (a0_2 : Int) (a0_3 : Int) : Option (Bool) := (spec_l10None.f).bind fun bt831 => (if (a0_0 == bt831.1 && (a0_1 == bt831.2.1 && (a0_2 == bt831.2.2.1 && (a0_3 == bt831.2.2.2)))) = true then (some true) else ((spec_l10Range.f a0_0 a0_1 a0_2 a0_3).bind fun bt835 => ((spec_RangeOk.f bt835.1 bt835.2).bind fun t837 => (if t837 = true then ((spec_l10Rest.f a0_0 a0_1 a0_2 a0_3).bind fun bt838 => ((spec_RestOk.f bt838.1 bt838.2).bind fun t840 => (if t840 = true then ((spec_l10Range.f a0_0 a0_1 a0_2 a0_3).bind fun bt841 => ((spec_l10Rest.f a0_0 a0_1 a0_2 a0_3).bind fun bt843 => ((spec_ValMake.f k bt841.1 bt841.2 bt843.1 bt843.2).bind fun bt845 => (some (a0_0 == bt845.1 && (a0_1 == bt845.2.1 && (a0_2 == bt845.2.2.1 && (a0_3 == bt845.2.2.2)))))))) else (some false)))) else (some false)))))
mutual
def spec_NumDo.j0 : Nat → Int → Int → Int → Bool → Option (Int × Int)
  | 0, _, _, _, _ => none
  | k + 1, x0, x1, x2, x21 => if x21 = true then (some (0, 0)) else (if x0 = 4 then (spec_NumDo.j1 k x0 x1 x2 (x2 == 0)) else (if x0 = 5 then (spec_NumDo.j1 k x0 x1 x2 (x2 == 0)) else (spec_NumDo.j1 k x0 x1 x2 false)))
def spec_NumDo.j1 : Nat → Int → Int → Int → Bool → Option (Int × Int)
  | 0, _, _, _, _ => none
  | k + 1, x0, x1, x2, x31 => if x31 = true then (some (0, 2)) else (if x0 = 9 then ((spec_l1In.f x2 0 31).bind fun t852 => (spec_NumDo.j2 k x0 x1 x2 (!t852))) else (if x0 = 10 then ((spec_l1In.f x2 0 31).bind fun t853 => (spec_NumDo.j2 k x0 x1 x2 (!t853))) else (spec_NumDo.j2 k x0 x1 x2 false)))
def spec_NumDo.j2 : Nat → Int → Int → Int → Bool → Option (Int × Int)
  | 0, _, _, _, _ => none
  | k + 1, x0, x1, x2, x42 => if x42 = true then (some (0, 3)) else ((spec_l1Exact.f k x0 x1 x2).bind fun t854 => (if x0 ≥ 11 then ((spec_NumWrap.f t854).bind fun t855 => (some (t855, 0))) else ((spec_NumOk.f t854).bind fun t856 => (if t856 = true then (some (t854, 0)) else (some (0, 1))))))
end
def spec_NumDo.f (k : Nat) (a0 : Int) (a1 : Int) (a2 : Int) : Option (Int × Int) := (spec_l1In.f a0 1 13).bind fun t849 => (if t849 = true then ((spec_NumOk.f a1).bind fun t850 => (if t850 = true then ((spec_NumOk.f a2).bind fun t851 => (spec_NumDo.j0 k a0 a1 a2 (!t851))) else (spec_NumDo.j0 k a0 a1 a2 true))) else (spec_NumDo.j0 k a0 a1 a2 true))
def spec_l9Wraps.f (a0 : Int) : Option (Int) := if a0 ≥ 11 then (some 4294967296) else (some 0)
mutual
def spec_l9Gcd.j0 : Nat → Int → Int → Option (Int)
  | 0, _, _ => none
  | k + 1, x0, x1 => if x1 < 0 then (spec_l9Gcd.j1 k x0 (wrap64 (-x1))) else (spec_l9Gcd.j1 k x0 x1)
def spec_l9Gcd.j1 : Nat → Int → Int → Option (Int)
  | 0, _, _ => none
  | k + 1, x0, x1 => spec_l9Gcd.l0 k x0 x1
def spec_l9Gcd.l0 : Nat → Int → Int → Option (Int)
  | 0, _, _ => none
  | k + 1, x0, x1 => if x1 = 0 then (some x0) else (spec_l9Gcd.l0 k x1 (Int.tmod x0 x1))
end
def spec_l9Gcd.f (k : Nat) (a0 : Int) (a1 : Int) : Option (Int) := if a0 < 0 then (spec_l9Gcd.j0 k (wrap64 (-a0)) a1) else (spec_l9Gcd.j0 k a0 a1)
def spec_l9Make.f (k : Nat) (a0 : Int) (a1 : Int) : Option (Int × Int) := if a0 > 65536 then ((spec_l9Gcd.f k a0 65536).bind fun t858 => (if t858 = 0 then (some (0, a1)) else ((spec_l1Mod.f a1 t858).bind fun t859 => (some (t858, t859))))) else (if a0 = 0 then (some (0, a1)) else ((spec_l1Mod.f a1 a0).bind fun t860 => (some (a0, t860))))
mutual
def spec_RestDo.j0 : Nat → Int → Bool → Int → Int → Int → Int → Option (Int × Int)
  | 0, _, _, _, _, _, _ => none
  | k + 1, x0, x24, x862000, x862001, x863000, x863001 => if x24 = true then ((spec_l9All.f).bind fun bt867 => (some (bt867.1, bt867.2))) else (if x862000 = 0 then (spec_RestDo.j1 k x0 (x863000 == 0) x862000 x862001 x863000 x863001) else (spec_RestDo.j1 k x0 false x862000 x862001 x863000 x863001))
def spec_RestDo.j1 : Nat → Int → Bool → Int → Int → Int → Int → Option (Int × Int)
  | 0, _, _, _, _, _, _ => none
  | k + 1, x0, x33, x862000, x862001, x863000, x863001 => if x33 = true then ((spec_NumDo.f k x0 x862001 x863001).bind fun bt869 => (if bt869.2 = 0 then (some (0, bt869.1)) else ((spec_l9All.f).bind fun bt871 => (some (bt871.1, bt871.2))))) else ((spec_l9Wraps.f x0).bind fun t873 => (if x0 = 1 then (spec_RestDo.j2 k x0 t873 true x862000 x862001 x863000 x863001) else (spec_RestDo.j2 k x0 t873 (x0 == 11) x862000 x862001 x863000 x863001)))
def spec_RestDo.j2 : Nat → Int → Int → Bool → Int → Int → Int → Int → Option (Int × Int)
  | 0, _, _, _, _, _, _, _ => none
  | k + 1, x0, x9, x55, x862000, x862001, x863000, x863001 => if x55 = true then ((spec_l9Gcd.f k x862000 x863000).bind fun t874 => ((spec_l9Gcd.f k t874 x9).bind fun t875 => ((spec_l9Make.f k t875 (wrap64 (x862001 + x863001))).bind fun bt876 => (some (bt876.1, bt876.2))))) else (if x0 = 2 then (spec_RestDo.j3 k x0 x9 true x862000 x862001 x863000 x863001) else (spec_RestDo.j3 k x0 x9 (x0 == 12) x862000 x862001 x863000 x863001))
def spec_RestDo.j3 : Nat → Int → Int → Bool → Int → Int → Int → Int → Option (Int × Int)
  | 0, _, _, _, _, _, _, _ => none
  | k + 1, x0, x9, x74, x862000, x862001, x863000, x863001 => if x74 = true then ((spec_l9Gcd.f k x862000 x863000).bind fun t878 => ((spec_l9Gcd.f k t878 x9).bind fun t879 => ((spec_l9Make.f k t879 (wrap64 (x862001 - x863001))).bind fun bt880 => (some (bt880.1, bt880.2))))) else (if x0 = 9 then (if x863000 = 0 then ((spec_l1In.f x863001 0 31).bind fun t882 => (spec_RestDo.j4 k x0 x9 t882 x862000 x862001 x863000 x863001)) else (spec_RestDo.j4 k x0 x9 false x862000 x862001 x863000 x863001)) else (spec_RestDo.j4 k x0 x9 false x862000 x862001 x863000 x863001))
def spec_RestDo.j4 : Nat → Int → Int → Bool → Int → Int → Int → Int → Option (Int × Int)
  | 0, _, _, _, _, _, _, _ => none
  | k + 1, x0, x9, x99, x862000, x862001, x863000, x863001 => if x99 = true then ((spec_l1Power.f k x863001).bind fun t883 => ((spec_l1Power.f k x863001).bind fun t884 => ((spec_l9Make.f k (wrap64 (x862000 * t883)) (wrap64 (x862001 * t884))).bind fun bt885 => (some (bt885.1, bt885.2))))) else (if x0 = 3 then (spec_RestDo.j5 k x0 x9 true x862000 x862001 x863000 x863001) else (spec_RestDo.j5 k x0 x9 (x0 == 13) x862000 x862001 x863000 x863001))
def spec_RestDo.j5 : Nat → Int → Int → Bool → Int → Int → Int → Int → Option (Int × Int)
  | 0, _, _, _, _, _, _, _ => none
  | k + 1, x0, x9, x118, x862000, x862001, x863000, x863001 => if x118 = true then ((spec_l9Gcd.f k (wrap64 (x862000 * x863000)) (wrap64 (x862000 * x863001))).bind fun t887 => ((spec_l9Gcd.f k t887 (wrap64 (x863000 * x862001))).bind fun t888 => (if t888 = 0 then (some (0, 0)) else ((spec_l9Gcd.f k t888 x9).bind fun t889 => ((spec_l9Make.f k t889 (wrap64 (x862001 * x863001))).bind fun bt890 => (some (bt890.1, bt890.2))))))) else (if x0 = 5 then ((spec_l9Gcd.f k x863000 x863001).bind fun t892 => ((spec_l9Gcd.f k x862000 t892).bind fun t893 => (if t893 = 0 then ((spec_l9All.f).bind fun bt894 => (some (bt894.1, bt894.2))) else ((spec_l9Make.f k t893 x862001).bind fun bt896 => (some (bt896.1, bt896.2)))))) else ((spec_l9All.f).bind fun bt898 => (some (bt898.1, bt898.2))))
end
def spec_RestDo.f (k : Nat) (a0 : Int) (a1_0 : Int) (a1_1 : Int) (a2_0 : Int) (a2_1 : Int) : Option (Int × Int) := (spec_l1In.f a0 1 13).bind fun t864 => (if t864 = true then ((spec_RestOk.f a1_0 a1_1).bind fun t865 => (if t865 = true then ((spec_RestOk.f a2_0 a2_1).bind fun t866 => (spec_RestDo.j0 k a0 (!t866) a1_0 a1_1 a2_0 a2_1)) else (spec_RestDo.j0 k a0 true a1_0 a1_1 a2_0 a2_1))) else (spec_RestDo.j0 k a0 true a1_0 a1_1 a2_0 a2_1))
def spec_ValDo.j0 : Nat → Int → Bool → Int → Int → Int → Int → Int → Int → Int → Int → Option (Int × Int × Int × Int × List Int)
  | 0, _, _, _, _, _, _, _, _, _, _ => none
  | k + 1, x0, x27, x901000, x901001, x901002, x901003, x902000, x902001, x902002, x902003 => if x27 = true then ((spec_l10None.f).bind fun bt913 => (some (bt913.1, bt913.2.1, bt913.2.2.1, bt913.2.2.2, (([] : List Int))))) else ((spec_l10Range.f x901000 x901001 x901002 x901003).bind fun bt920 => ((spec_l10Range.f x902000 x902001 x902002 x902003).bind fun bt922 => ((spec_RangeDo.f k x0 bt920.1 bt920.2 bt922.1 bt922.2).bind fun bt924 => ((spec_l10Rest.f x901000 x901001 x901002 x901003).bind fun bt930 => ((spec_l10Rest.f x902000 x902001 x902002 x902003).bind fun bt932 => ((spec_RestDo.f k x0 bt930.1 bt930.2 bt932.1 bt932.2).bind fun bt934 => ((spec_ValMake.f k bt924.1 bt924.2.1 bt934.1 bt934.2).bind fun bt936 => (some (bt936.1, bt936.2.1, bt936.2.2.1, bt936.2.2.2, bt924.2.2)))))))))
def spec_ValDo.f (k : Nat) (a0 : Int) (a1_0 : Int) (a1_1 : Int) (a1_2 : Int) (a1_3 : Int) (a2_0 : Int) (a2_1 : Int) (a2_2 : Int) (a2_3 : Int) : Option (Int × Int × Int × Int × List Int) := (spec_ValOk.f k a1_0 a1_1 a1_2 a1_3).bind fun t903 => (if t903 = true then ((spec_ValOk.f k a2_0 a2_1 a2_2 a2_3).bind fun t904 => (if t904 = true then ((spec_l10None.f).bind fun bt905 => (if (a1_0 == bt905.1 && (a1_1 == bt905.2.1 && (a1_2 == bt905.2.2.1 && (a1_3 == bt905.2.2.2)))) = true then (spec_ValDo.j0 k a0 true a1_0 a1_1 a1_2 a1_3 a2_0 a2_1 a2_2 a2_3) else ((spec_l10None.f).bind fun bt909 => (spec_ValDo.j0 k a0 (a2_0 == bt909.1 && (a2_1 == bt909.2.1 && (a2_2 == bt909.2.2.1 && (a2_3 == bt909.2.2.2)))) a1_0 a1_1 a1_2 a1_3 a2_0 a2_1 a2_2 a2_3)))) else (spec_ValDo.j0 k a0 true a1_0 a1_1 a1_2 a1_3 a2_0 a2_1 a2_2 a2_3))) else (spec_ValDo.j0 k a0 true a1_0 a1_1 a1_2 a1_3 a2_0 a2_1 a2_2 a2_3))
def laws_at.f (l0 : List Int) (a1 : Int) : Option (Int) := if (l0.length : Int) = 0 then (some ((wrap64 (a1 * 37)) % 256)) else (if a1 < (l0.length : Int) then (if 0 ≤ a1 then (some (rd l0 a1)) else (none)) else (if 0 ≤ (Int.tmod a1 (l0.length : Int)) then (if (Int.tmod a1 (l0.length : Int)) < (l0.length : Int) then (if 0 ≤ (Int.tmod (wrap64 ((wrap64 (a1 * 5)) + 1)) (l0.length : Int)) then (if (Int.tmod (wrap64 ((wrap64 (a1 * 5)) + 1)) (l0.length : Int)) < (l0.length : Int) then (some (((((((rd l0 (Int.tmod a1 (l0.length : Int))) * 31) % 256) + (rd l0 (Int.tmod (wrap64 ((wrap64 (a1 * 5)) + 1)) (l0.length : Int)))) % 256) + ((a1) % 256)) % 256)) else (none)) else (none)) else (none)) else (none)))
def laws_wide.f (l0 : List Int) (a1 : Int) : Option (Int) := (laws_at.f l0 a1).bind fun t943 => ((laws_at.f l0 (wrap64 (a1 + 1))).bind fun t944 => ((laws_at.f l0 (wrap64 (a1 + 2))).bind fun t945 => ((laws_at.f l0 (wrap64 (a1 + 3))).bind fun t946 => (some (Go.bits .or .i64 (Go.bits .or .i64 (Go.bits .or .i64 (wrap64 ((wrap64 (t943)) * 16777216)) (wrap64 ((wrap64 (t944)) * 65536))) (wrap64 ((wrap64 (t945)) * 256))) (wrap64 (t946)))))))
def laws_ofVal.j0 : Nat → List Int → Int → Bool → Int → Int → Int → Int → Option (Int)
  | 0, _, _, _, _, _, _, _ => none
  | k + 1, x1, x2, x18, x948000, x948001, x948002, x948003 => if x18 = true then ((laws_at.f x1 x2).bind fun t949 => (some (wrap64 ((wrap64 (t949)) - 128)))) else (if x948002 = 0 then (some x948003) else ((laws_at.f x1 (wrap64 (x2 + 5))).bind fun t950 => (if (Int.tmod (wrap64 (t950)) 4) = 0 then (some x948000) else (if (Int.tmod (wrap64 (t950)) 4) = 1 then (some x948001) else ((laws_wide.f x1 x2).bind fun t951 => (if (wrap64 ((wrap64 (Int.tdiv (wrap64 (x948001 - x948000)) x948002)) + 1)) = 0 then (none) else (some (wrap64 (x948000 + (wrap64 (x948002 * (Int.tmod t951 (wrap64 ((wrap64 (Int.tdiv (wrap64 (x948001 - x948000)) x948002)) + 1))))))))))))))
def laws_ofVal.f (k : Nat) (a0_0 : Int) (a0_1 : Int) (a0_2 : Int) (a0_3 : Int) (l1 : List Int) (a2 : Int) : Option (Int) := (spec_ValOk.f k a0_0 a0_1 a0_2 a0_3).bind fun t948 => (if t948 = true then (laws_ofVal.j0 k l1 a2 (decide (a0_0 > a0_1)) a0_0 a0_1 a0_2 a0_3) else (laws_ofVal.j0 k l1 a2 true a0_0 a0_1 a0_2 a0_3))
def spec_RestHas.j0 : Nat → Int → Bool → Int → Int → Option (Bool)
  | 0, _, _, _, _ => none
  | k + 1, x1, x12, x953000, x953001 => if x12 = true then (some false) else (if x953000 = 0 then (some (x1 == x953001)) else ((spec_l1Mod.f x1 x953000).bind fun t955 => (some (t955 == x953001))))
def spec_RestHas.f (k : Nat) (a0_0 : Int) (a0_1 : Int) (a1 : Int) : Option (Bool) := (spec_RestOk.f a0_0 a0_1).bind fun t953 => (if t953 = true then ((spec_NumOk.f a1).bind fun t954 => (spec_RestHas.j0 k a1 (!t954) a0_0 a0_1)) else (spec_RestHas.j0 k a1 true a0_0 a0_1))
def spec_ValHas.f (k : Nat) (a0_0 : Int) (a0_1 : Int) (a0_2 : Int) (a0_3 : Int) (a1 : Int) : Option (Bool) := (spec_ValOk.f k a0_0 a0_1 a0_2 a0_3).bind fun t957 => (if t957 = true then ((spec_l10None.f).bind fun bt958 => (if (!(a0_0 == bt958.1) || (!(a0_1 == bt958.2.1) || (!(a0_2 == bt958.2.2.1) || (!(a0_3 == bt958.2.2.2))))) = true then ((spec_l10Range.f a0_0 a0_1 a0_2 a0_3).bind fun bt962 => ((spec_RangeHas.f bt962.1 bt962.2 a1).bind fun t964 => (if t964 = true then ((spec_l10Rest.f a0_0 a0_1 a0_2 a0_3).bind fun bt965 => ((spec_RestHas.f k bt965.1 bt965.2 a1).bind fun t967 => (some t967))) else (some false)))) else (some false))) else (some false))
def impl_RestHas.j0 : Nat → Int → Bool → Int → Int → Option (Bool)
  | 0, _, _, _, _ => none
  | k + 1, x1, x12, x969000, x969001 => if x12 = true then (some false) else (if x969000 = 0 then (some (x1 == x969001)) else ((impl_restMod.f x1 x969000).bind fun t971 => (some (t971 == x969001))))
def impl_RestHas.f (k : Nat) (a0_0 : Int) (a0_1 : Int) (a1 : Int) : Option (Bool) := (impl_RestOk.f a0_0 a0_1).bind fun t969 => (if t969 = true then ((impl_NumOk.f a1).bind fun t970 => (impl_RestHas.j0 k a1 (!t970) a0_0 a0_1)) else (impl_RestHas.j0 k a1 true a0_0 a0_1))
def impl_ValHas.f (k : Nat) (a0_0 : Int) (a0_1 : Int) (a0_2 : Int) (a0_3 : Int) (a1 : Int) : Option (Bool) := (impl_ValOk.f k a0_0 a0_1 a0_2 a0_3).bind fun t973 => (if t973 = true then ((impl_Val_span.f a0_0 a0_1 a0_2 a0_3).bind fun bt974 => ((impl_RangeHas.f bt974.1 bt974.2 a1).bind fun t976 => (if t976 = true then ((impl_Val_rest.f a0_0 a0_1 a0_2 a0_3).bind fun bt977 => ((impl_RestHas.f k bt977.1 bt977.2 a1).bind fun t979 => (some t979))) else (some false)))) else (some false))
mutual
def laws_FnValDo.j0 : Nat → List Int → Int → List Int → Bool → Int → Int → Int → Int → Int → Int → Int → Int → Int → Int → Int → Int → Option (Bool)
  | 0, _, _, _, _, _, _, _, _, _, _, _, _, _, _, _, _ => none
  | k + 1, x0, x3, x7, x51, x990000, x990001, x990002, x990003, x991000, x991001, x991002, x991003, x999000, x999001, x999002, x999003 => if x51 = true then (some false) else (laws_FnValDo.l0 k x0 x3 x7 0 x990000 x990001 x990002 x990003 x991000 x991001 x991002 x991003 x999000 x999001 x999002 x999003)
def laws_FnValDo.l0 : Nat → List Int → Int → List Int → Int → Int → Int → Int → Int → Int → Int → Int → Int → Int → Int → Int → Int → Option (Bool)
  | 0, _, _, _, _, _, _, _, _, _, _, _, _, _, _, _, _ => none
  | k + 1, x0, x3, x7, x10, x990000, x990001, x990002, x990003, x991000, x991001, x991002, x991003, x999000, x999001, x999002, x999003 => if x10 < 8 then ((laws_ofVal.f k x990000 x990001 x990002 x990003 x0 x10).bind fun t1009 => ((laws_ofVal.f k x991000 x991001 x991002 x991003 x0 (wrap64 (x10 + 13))).bind fun t1010 => ((spec_NumDo.f k x3 t1009 t1010).bind fun bt1011 => (if x3 ≥ 1 then (if x3 ≤ 13 then ((spec_ValHas.f k x990000 x990001 x990002 x990003 t1009).bind fun t1013 => (if t1013 = true then ((spec_ValHas.f k x991000 x991001 x991002 x991003 t1010).bind fun t1014 => (if t1014 = true then (if bt1011.2 = 0 then ((impl_ValHas.f k x999000 x999001 x999002 x999003 bt1011.1).bind fun t1015 => (if t1015 = true then (laws_FnValDo.l0 k x0 x3 x7 (wrap64 (x10 + 1)) x990000 x990001 x990002 x990003 x991000 x991001 x991002 x991003 x999000 x999001 x999002 x999003) else (some false))) else ((laws_has.f k x7 bt1011.2).bind fun t1016 => (if t1016 = true then (laws_FnValDo.l0 k x0 x3 x7 (wrap64 (x10 + 1)) x990000 x990001 x990002 x990003 x991000 x991001 x991002 x991003 x999000 x999001 x999002 x999003) else (some false)))) else (laws_FnValDo.l0 k x0 x3 x7 (wrap64 (x10 + 1)) x990000 x990001 x990002 x990003 x991000 x991001 x991002 x991003 x999000 x999001 x999002 x999003))) else (laws_FnValDo.l0 k x0 x3 x7 (wrap64 (x10 + 1)) x990000 x990001 x990002 x990003 x991000 x991001 x991002 x991003 x999000 x999001 x999002 x999003))) else (laws_FnValDo.l0 k x0 x3 x7 (wrap64 (x10 + 1)) x990000 x990001 x990002 x990003 x991000 x991001 x991002 x991003 x999000 x999001 x999002 x999003)) else (laws_FnValDo.l0 k x0 x3 x7 (wrap64 (x10 + 1)) x990000 x990001 x990002 x990003 x991000 x991001 x991002 x991003 x999000 x999001 x999002 x999003))))) else (some true)
end
def laws_FnValDo.f (k : Nat) (l0 : List Int) : Option (Bool) := if (l0.length : Int) > 1048576 then (some true) else ((spec_DrawValDo.f k l0).bind fun bt980 => ((impl_ValDo.f k bt980.1 bt980.2.1 bt980.2.2.1 bt980.2.2.2.1 bt980.2.2.2.2.1 bt980.2.2.2.2.2.1 bt980.2.2.2.2.2.2.1 bt980.2.2.2.2.2.2.2.1 bt980.2.2.2.2.2.2.2.2).bind fun bt991 => ((spec_ValDo.f k bt980.1 bt980.2.1 bt980.2.2.1 bt980.2.2.2.1 bt980.2.2.2.2.1 bt980.2.2.2.2.2.1 bt980.2.2.2.2.2.2.1 bt980.2.2.2.2.2.2.2.1 bt980.2.2.2.2.2.2.2.2).bind fun bt999 => (if (!(bt991.1 == bt999.1) || (!(bt991.2.1 == bt999.2.1) || (!(bt991.2.2.1 == bt999.2.2.1) || (!(bt991.2.2.2.1 == bt999.2.2.2.1))))) = true then (laws_FnValDo.j0 k l0 bt980.1 bt991.2.2.2.2 true bt980.2.1 bt980.2.2.1 bt980.2.2.2.1 bt980.2.2.2.2.1 bt980.2.2.2.2.2.1 bt980.2.2.2.2.2.2.1 bt980.2.2.2.2.2.2.2.1 bt980.2.2.2.2.2.2.2.2 bt991.1 bt991.2.1 bt991.2.2.1 bt991.2.2.2.1) else ((laws_sameInts.f k bt991.2.2.2.2 bt999.2.2.2.2).bind fun t1007 => (if t1007 = true then ((impl_ValOk.f k bt991.1 bt991.2.1 bt991.2.2.1 bt991.2.2.2.1).bind fun t1008 => (laws_FnValDo.j0 k l0 bt980.1 bt991.2.2.2.2 (!t1008) bt980.2.1 bt980.2.2.1 bt980.2.2.2.1 bt980.2.2.2.2.1 bt980.2.2.2.2.2.1 bt980.2.2.2.2.2.2.1 bt980.2.2.2.2.2.2.2.1 bt980.2.2.2.2.2.2.2.2 bt991.1 bt991.2.1 bt991.2.2.1 bt991.2.2.2.1)) else (laws_FnValDo.j0 k l0 bt980.1 bt991.2.2.2.2 true bt980.2.1 bt980.2.2.1 bt980.2.2.2.1 bt980.2.2.2.2.1 bt980.2.2.2.2.2.1 bt980.2.2.2.2.2.2.1 bt980.2.2.2.2.2.2.2.1 bt980.2.2.2.2.2.2.2.2 bt991.1 bt991.2.1 bt991.2.2.1 bt991.2.2.2.1)))))))
def laws_FnValDo.Pure : Prop := ∀ (l0 : List Int), l0.length ≤ maxLen → l0.length * 1 ≤ 140737488351232 → (∀ x ∈ l0, (Lit.int .u8 x).wf = true) → ∃ k, laws_FnValDo.f k l0 = some true
end Go.Proofs.Ytlbheepfmjbpnaa.PFnValDo
