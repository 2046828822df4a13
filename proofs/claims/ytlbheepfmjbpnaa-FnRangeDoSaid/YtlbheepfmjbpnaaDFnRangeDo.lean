/- The program's functions that the law reaches, as plain Lean functions. Conditions: none. -/
import Derived.Test.YtlbheepfmjbpnaaQFnRangeDox0
namespace Go.Proofs.Ytlbheepfmjbpnaa.PFnRangeDo
open Go.RowKit Go.Proofs.YtlbheepfmjbpnaaW.PrintWords Go.Proofs.YtlbheepfmjbpnaaW.PrintLast Go.Proofs.YtlbheepfmjbpnaaW.PrintMore
set_option linter.unusedVariables false

def spec_l1Open.f (l0 : List Int) : Option (List Int × Int) := if (l0.length : Int) > 2000 then (if 2000 ≤ (l0.length : Int) then (some (l0.take 2000, 0)) else (none)) else (some (l0, 0))
def spec_l1Rd_pick.j0 : Nat → Int → Bool → List Int → Int → Option (Int × Int)
  | 0, _, _, _, _ => none
  | k + 1, x1, x24, x1000, x1001 => if x24 = true then (some (0, x1001)) else (if (wrap64 (x1001 - 1)) < (x1000.length : Int) then (if 0 ≤ (wrap64 (x1001 - 1)) then (if x1 = 0 then (none) else (some (Int.tmod (wrap64 (rd x1000 (wrap64 (x1001 - 1)))) x1, x1001))) else (none)) else (if (x1000.length : Int) = 0 then (none) else (if 0 ≤ (Int.tmod (wrap64 (x1001 - 1)) (x1000.length : Int)) then (if (Int.tmod (wrap64 (x1001 - 1)) (x1000.length : Int)) < (x1000.length : Int) then (if 0 ≤ (Int.tmod (wrap64 ((wrap64 ((wrap64 (x1001 - 1)) * 7)) + 3)) (x1000.length : Int)) then (if (Int.tmod (wrap64 ((wrap64 ((wrap64 (x1001 - 1)) * 7)) + 3)) (x1000.length : Int)) < (x1000.length : Int) then (if x1 = 0 then (none) else (some (Int.tmod (Go.bits .xor .i64 (wrap64 ((wrap64 ((wrap64 ((wrap64 ((wrap64 (rd x1000 (Int.tmod (wrap64 (x1001 - 1)) (x1000.length : Int)))) * 131)) + (wrap64 ((wrap64 (rd x1000 (Int.tmod (wrap64 ((wrap64 ((wrap64 (x1001 - 1)) * 7)) + 3)) (x1000.length : Int)))) * 1117)))) + (wrap64 ((wrap64 (x1001 - 1)) * 29)))) + (wrap64 ((wrap64 (Int.tdiv (wrap64 (x1001 - 1)) (x1000.length : Int))) * 53)))) (wrap64 (Int.tdiv (wrap64 ((wrap64 ((wrap64 ((wrap64 ((wrap64 (rd x1000 (Int.tmod (wrap64 (x1001 - 1)) (x1000.length : Int)))) * 131)) + (wrap64 ((wrap64 (rd x1000 (Int.tmod (wrap64 ((wrap64 ((wrap64 (x1001 - 1)) * 7)) + 3)) (x1000.length : Int)))) * 1117)))) + (wrap64 ((wrap64 (x1001 - 1)) * 29)))) + (wrap64 ((wrap64 (Int.tdiv (wrap64 (x1001 - 1)) (x1000.length : Int))) * 53)))) 64))) x1, x1001))) else (none)) else (none)) else (none)) else (none))))
def spec_l1Rd_pick.f (k : Nat) (s0_0 : List Int) (s0_1 : Int) (a1 : Int) : Option (Int × Int) := if a1 < 1 then (spec_l1Rd_pick.j0 k a1 true s0_0 (wrap64 (s0_1 + 1))) else (spec_l1Rd_pick.j0 k a1 ((s0_0.length : Int) == 0) s0_0 (wrap64 (s0_1 + 1)))
def spec_l1Mod.f (a0 : Int) (a1 : Int) : Option (Int) := if a1 = 0 then (none) else (if (Int.tmod a0 a1) < 0 then (some (wrap64 ((Int.tmod a0 a1) + a1))) else (some (Int.tmod a0 a1)))
def spec_NumWrap.f (a0 : Int) : Option (Int) := (spec_l1Mod.f a0 4294967296).bind fun t107 => (if t107 > 2147483647 then (some (wrap64 (t107 - 4294967296))) else (some t107))
def spec_l1Power.l0 : Nat → Int → Int → Int → Option (Int)
  | 0, _, _, _ => none
  | k + 1, x0, x3, x4 => if x4 < x0 then (spec_l1Power.l0 k x0 (wrap64 (2 * x3)) (wrap64 (x4 + 1))) else (some x3)
def spec_l1Power.f (k : Nat) (a0 : Int) : Option (Int) := spec_l1Power.l0 k a0 1 0
def spec_l1Rd_num.l0 : Nat → Int → Int → List Int → Int → Option (Int × Int)
  | 0, _, _, _, _ => none
  | k + 1, x4, x5, x1000, x1001 => if x5 < 4 then ((spec_l1Rd_pick.f k x1000 x1001 256).bind fun bt126 => (spec_l1Rd_num.l0 k (wrap64 ((wrap64 (x4 * 256)) + bt126.1)) (wrap64 (x5 + 1)) x1000 bt126.2)) else ((spec_NumWrap.f x4).bind fun t128 => (some (t128, x1001)))
def spec_l1Rd_num.f (k : Nat) (s0_0 : List Int) (s0_1 : Int) : Option (Int × Int) := (spec_l1Rd_pick.f k s0_0 s0_1 10).bind fun bt108 => (if bt108.1 < 4 then ((spec_l1Rd_pick.f k s0_0 bt108.2 21).bind fun bt110 => (some (wrap64 (bt110.1 - 10), bt110.2))) else (if bt108.1 = 4 then ((spec_l1Rd_pick.f k s0_0 bt108.2 3).bind fun bt112 => (some (wrap64 (2147483647 - bt112.1), bt112.2))) else (if bt108.1 = 5 then ((spec_l1Rd_pick.f k s0_0 bt108.2 3).bind fun bt114 => (some (wrap64 ((-2147483648) + bt114.1), bt114.2))) else (if bt108.1 = 6 then ((spec_l1Rd_pick.f k s0_0 bt108.2 31).bind fun bt116 => ((spec_l1Power.f k bt116.1).bind fun t118 => ((spec_l1Rd_pick.f k s0_0 bt116.2 3).bind fun bt119 => (some (wrap64 ((wrap64 (t118 + bt119.1)) - 1), bt119.2))))) else (if bt108.1 = 7 then ((spec_l1Rd_pick.f k s0_0 bt108.2 31).bind fun bt121 => ((spec_l1Power.f k bt121.1).bind fun t123 => ((spec_l1Rd_pick.f k s0_0 bt121.2 3).bind fun bt124 => (some (wrap64 ((wrap64 ((wrap64 (-t123)) + bt124.1)) - 1), bt124.2))))) else (spec_l1Rd_num.l0 k 0 0 s0_0 bt108.2))))))
def spec_l1Rd_wild.f (k : Nat) (s0_0 : List Int) (s0_1 : Int) : Option (Int × Int) := (spec_l1Rd_pick.f k s0_0 s0_1 12).bind fun bt129 => (if bt129.1 = 0 then ((spec_l1Rd_pick.f k s0_0 bt129.2 3).bind fun bt131 => (some (wrap64 (2147483648 + bt131.1), bt131.2))) else (if bt129.1 = 1 then ((spec_l1Rd_pick.f k s0_0 bt129.2 3).bind fun bt133 => (some (wrap64 ((-2147483649) - bt133.1), bt133.2))) else (if bt129.1 = 2 then ((spec_l1Rd_pick.f k s0_0 bt129.2 2).bind fun bt135 => (some (wrap64 (9223372036854775807 - bt135.1), bt135.2))) else (if bt129.1 = 3 then ((spec_l1Rd_pick.f k s0_0 bt129.2 2).bind fun bt137 => (some (wrap64 ((-9223372036854775808) + bt137.1), bt137.2))) else ((spec_l1Rd_num.f k s0_0 bt129.2).bind fun bt139 => (some (bt139.1, bt139.2)))))))
def spec_l8None.f  : Option (Int × Int) := some (1, 0)
def spec_l8Min.f (a0 : Int) (a1 : Int) : Option (Int) := if a0 < a1 then (some a0) else (some a1)
def spec_l8Max.f (a0 : Int) (a1 : Int) : Option (Int) := if a0 > a1 then (some a0) else (some a1)
def spec_l8Cut.f (a0 : Int) (a1 : Int) : Option (Int × Int) := (spec_l8Max.f a0 (-2147483648)).bind fun t143 => ((spec_l8Min.f a1 2147483647).bind fun t144 => (if t143 > t144 then ((spec_l8None.f).bind fun bt145 => (some (bt145.1, bt145.2))) else (some (t143, t144))))
def spec_l8Range.f (k : Nat) (s0_0 : List Int) (s0_1 : Int) : Option (Int × Int × Int) := (spec_l1Rd_pick.f k s0_0 s0_1 12).bind fun bt148 => (if bt148.1 = 0 then ((spec_l8None.f).bind fun bt150 => (some (bt150.1, bt150.2, bt148.2))) else ((spec_l1Rd_num.f k s0_0 bt148.2).bind fun bt152 => (if bt148.1 < 3 then (some (bt152.1, bt152.1, bt152.2)) else (if bt148.1 < 7 then ((spec_l1Rd_pick.f k s0_0 bt152.2 40).bind fun bt154 => ((spec_l8Cut.f bt152.1 (wrap64 (bt152.1 + bt154.1))).bind fun bt156 => (some (bt156.1, bt156.2, bt154.2)))) else (if bt148.1 = 7 then (some ((-2147483648), 2147483647, bt152.2)) else ((spec_l1Rd_num.f k s0_0 bt152.2).bind fun bt158 => ((spec_l8Min.f bt152.1 bt158.1).bind fun t160 => ((spec_l8Max.f bt152.1 bt158.1).bind fun t161 => ((spec_l8Cut.f t160 t161).bind fun bt162 => (some (bt162.1, bt162.2, bt158.2)))))))))))
def spec_l8Wild.f (k : Nat) (s0_0 : List Int) (s0_1 : Int) : Option (Int × Int × Int) := (spec_l1Rd_pick.f k s0_0 s0_1 12).bind fun bt165 => (if bt165.1 = 0 then ((spec_l1Rd_wild.f k s0_0 bt165.2).bind fun bt167 => ((spec_l1Rd_wild.f k s0_0 bt167.2).bind fun bt169 => (some (bt167.1, bt169.1, bt169.2)))) else ((spec_l8Range.f k s0_0 bt165.2).bind fun bt171 => (some (bt171.1, bt171.2.1, bt171.2.2))))
def spec_l8Shift.j0 : Nat → Bool → List Int → Int → Option (Int × Int × Int)
  | 0, _, _, _ => none
  | k + 1, x11, x1000, x1001 => if x11 = true then ((spec_l1Rd_pick.f k x1000 x1001 36).bind fun bt175 => ((spec_l1Rd_pick.f k x1000 bt175.2 6).bind fun bt177 => ((spec_l8Cut.f (wrap64 (bt175.1 - 2)) (wrap64 ((wrap64 (bt175.1 - 2)) + bt177.1))).bind fun bt179 => (some (bt179.1, bt179.2, bt177.2))))) else ((spec_l8Range.f k x1000 x1001).bind fun bt181 => (some (bt181.1, bt181.2.1, bt181.2.2)))
def spec_l8Shift.f (k : Nat) (s0_0 : List Int) (s0_1 : Int) (a1 : Int) : Option (Int × Int × Int) := if a1 = 9 then (spec_l8Shift.j0 k true s0_0 s0_1) else (spec_l8Shift.j0 k (a1 == 10) s0_0 s0_1)
def spec_DrawRangeDo.f (k : Nat) (l0 : List Int) : Option (Int × Int × Int × Int × Int) := (spec_l1Open.f l0).bind fun bt186 => ((spec_l1Rd_pick.f k bt186.1 bt186.2 13).bind fun bt189 => ((spec_l1Rd_pick.f k bt186.1 bt189.2 30).bind fun bt191 => (if bt191.1 = 0 then ((spec_l1Rd_pick.f k bt186.1 bt191.2 16).bind fun bt193 => ((spec_l8Wild.f k bt186.1 bt193.2).bind fun bt195 => ((spec_l8Shift.f k bt186.1 bt195.2.2 (wrap64 (bt193.1 - 1))).bind fun bt199 => (some (wrap64 (bt193.1 - 1), bt195.1, bt195.2.1, bt199.1, bt199.2.1))))) else ((spec_l8Wild.f k bt186.1 bt191.2).bind fun bt202 => ((spec_l8Shift.f k bt186.1 bt202.2.2 (wrap64 (1 + bt189.1))).bind fun bt206 => (some (wrap64 (1 + bt189.1), bt202.1, bt202.2.1, bt206.1, bt206.2.1)))))))
def impl_rangeNone.f  : Option (Int × Int) := some (1, 0)
def impl_NumOk.f (a0 : Int) : Option (Bool) := if a0 ≥ (-2147483648) then (some (decide (a0 ≤ 2147483647))) else (some false)
def impl_RangeOk.f (a0_0 : Int) (a0_1 : Int) : Option (Bool) := (impl_rangeNone.f).bind fun bt211 => (if (a0_0 == bt211.1 && (a0_1 == bt211.2)) = true then (some true) else ((impl_NumOk.f a0_0).bind fun t213 => (if t213 = true then ((impl_NumOk.f a0_1).bind fun t214 => (if t214 = true then (some (decide (a0_0 ≤ a0_1))) else (some false))) else (some false))))
def impl_numOp.f (a0 : Int) : Option (Bool) := if a0 ≥ 1 then (some (decide (a0 ≤ 13))) else (some false)
def impl_Range_empty.f (a0_0 : Int) (a0_1 : Int) : Option (Bool) := some (decide (a0_0 > a0_1))
mutual
def impl_numExact.j0 : Nat → Int → Int → Int → Bool → Option (Int)
  | 0, _, _, _, _ => none
  | k + 1, x1, x2, x7, x8 => if x8 = true then (some (wrap64 (x1 + x2))) else (if x7 = 2 then (impl_numExact.j1 k x1 x2 x7 (x7 == 2)) else (impl_numExact.j1 k x1 x2 x7 (x7 == 12)))
def impl_numExact.j1 : Nat → Int → Int → Int → Bool → Option (Int)
  | 0, _, _, _, _ => none
  | k + 1, x1, x2, x7, x14 => if x14 = true then (some (wrap64 (x1 - x2))) else (if x7 = 3 then (impl_numExact.j2 k x1 x2 x7 (x7 == 3)) else (impl_numExact.j2 k x1 x2 x7 (x7 == 13)))
def impl_numExact.j2 : Nat → Int → Int → Int → Bool → Option (Int)
  | 0, _, _, _, _ => none
  | k + 1, x1, x2, x7, x20 => if x20 = true then (some (wrap64 (x1 * x2))) else (if x7 = 4 then (if x2 = 0 then (none) else (some (wrap64 (Int.tdiv x1 x2)))) else (if x7 = 5 then (if x2 = 0 then (none) else (some (Int.tmod x1 x2))) else (if x7 = 6 then (some (Go.bits .and .i64 x1 x2)) else (if x7 = 7 then (some (Go.bits .or .i64 x1 x2)) else (if x7 = 8 then (some (Go.bits .xor .i64 x1 x2)) else (if x7 = 9 then (if 0 ≤ (IntKind.u64.wrap (x2)) then (some (shl .i64 x1 (IntKind.u64.wrap (x2)))) else (none)) else (if x7 = 10 then (if 0 ≤ (IntKind.u64.wrap (x2)) then (some (shr .i64 x1 (IntKind.u64.wrap (x2)))) else (none)) else (some 0))))))))
end
def impl_numExact.f (k : Nat) (a0 : Int) (a1 : Int) (a2 : Int) : Option (Int) := if a0 = 1 then (impl_numExact.j0 k a1 a2 a0 (a0 == 1)) else (impl_numExact.j0 k a1 a2 a0 (a0 == 11))
def impl_rangeCorners.f (k : Nat) (a0 : Int) (a1_0 : Int) (a1_1 : Int) (a2_0 : Int) (a2_1 : Int) : Option (Int × Int) := (impl_numExact.f k a0 a1_0 a2_0).bind fun t218 => ((impl_numExact.f k a0 a1_0 a2_1).bind fun t219 => ((impl_numExact.f k a0 a1_1 a2_0).bind fun t220 => ((impl_numExact.f k a0 a1_1 a2_1).bind fun t221 => (some (mn (mn (mn (mn t218 t218) t219) t220) t221, mx (mx (mx (mx t218 t218) t219) t220) t221)))))
def impl_rangeFrom.f (a0 : Int) (a1 : Int) : Option (Int × Int) := if (mx a0 (-2147483648)) > (mn a1 2147483647) then ((impl_rangeNone.f).bind fun bt225 => (some (bt225.1, bt225.2))) else (some (mx a0 (-2147483648), mn a1 2147483647))
def impl_NumWrap.f (a0 : Int) : Option (Int) := some (wrap64 (wrap32 (a0)))
def impl_rangeWrap.j0 : Nat → Int → Int → Bool → Option (Int × Int)
  | 0, _, _, _ => none
  | k + 1, x7, x8, x26 => if x26 = true then ((impl_rangeFrom.f (-2147483648) 2147483647).bind fun bt234 => (some (bt234.1, bt234.2))) else ((impl_NumWrap.f x7).bind fun t236 => ((impl_NumWrap.f x8).bind fun t237 => ((impl_rangeFrom.f t236 t237).bind fun bt238 => (some (bt238.1, bt238.2)))))
def impl_rangeWrap.f (k : Nat) (a0 : Int) (a1_0 : Int) (a1_1 : Int) (a2_0 : Int) (a2_1 : Int) : Option (Int × Int) := (impl_rangeCorners.f k a0 a1_0 a1_1 a2_0 a2_1).bind fun bt230 => (if (wrap64 (bt230.2 - bt230.1)) > 4294967295 then (impl_rangeWrap.j0 k bt230.1 bt230.2 true) else ((impl_NumWrap.f bt230.1).bind fun t232 => ((impl_NumWrap.f bt230.2).bind fun t233 => (impl_rangeWrap.j0 k bt230.1 bt230.2 (decide (t232 > t233))))))
def impl_RangeMeet.j0 : Nat → Bool → Int → Int → Int → Int → Option (Int × Int)
  | 0, _, _, _, _, _ => none
  | k + 1, x20, x241000, x241001, x242000, x242001 => if x20 = true then ((impl_rangeNone.f).bind fun bt247 => (some (bt247.1, bt247.2))) else ((impl_rangeFrom.f (mx x241000 x242000) (mn x241001 x242001)).bind fun bt249 => (some (bt249.1, bt249.2)))
def impl_RangeMeet.f (k : Nat) (a0_0 : Int) (a0_1 : Int) (a1_0 : Int) (a1_1 : Int) : Option (Int × Int) := (impl_RangeOk.f a0_0 a0_1).bind fun t243 => (if t243 = true then ((impl_RangeOk.f a1_0 a1_1).bind fun t244 => (if t244 = true then ((impl_Range_empty.f a0_0 a0_1).bind fun t245 => (if t245 = true then (impl_RangeMeet.j0 k true a0_0 a0_1 a1_0 a1_1) else ((impl_Range_empty.f a1_0 a1_1).bind fun t246 => (impl_RangeMeet.j0 k t246 a0_0 a0_1 a1_0 a1_1)))) else (impl_RangeMeet.j0 k true a0_0 a0_1 a1_0 a1_1))) else (impl_RangeMeet.j0 k true a0_0 a0_1 a1_0 a1_1))
def impl_rangeShift.j0 : Nat → List Int → Bool → Int → Int → Int → Int → Int → Int → Option (Int × Int × List Int)
  | 0, _, _, _, _, _, _, _, _ => none
  | k + 1, x10, x35, x253000, x253001, x257000, x257001, x260000, x260001 => if x35 = true then (if x10.length < 17592186044416 then ((some (x10 ++ [1] : List Int)).bind fun y268 => (if (!(x257000 == x253000) || (!(x257001 == x253001))) = true then (if y268.length < 17592186044416 then (some (x260000, x260001, (y268 ++ [3]))) else (none)) else (some (x260000, x260001, y268)))) else (none)) else (if (!(x257000 == x253000) || (!(x257001 == x253001))) = true then (if x10.length < 17592186044416 then (some (x260000, x260001, (x10 ++ [3]))) else (none)) else (some (x260000, x260001, x10)))
def impl_rangeShift.f (k : Nat) (a0 : Int) (a1_0 : Int) (a1_1 : Int) (a2_0 : Int) (a2_1 : Int) : Option (Int × Int × List Int) := (impl_RangeMeet.f k a2_0 a2_1 0 31).bind fun bt254 => ((impl_rangeNone.f).bind fun bt257 => ((impl_Range_empty.f bt254.1 bt254.2).bind fun t260 => (if t260 = true then (if (!(bt254.1 == a2_0) || (!(bt254.2 == a2_1))) = true then (if ([] : List Int).length < 17592186044416 then (some (bt257.1, bt257.2, (([] : List Int) ++ [3]))) else (none)) else (some (bt257.1, bt257.2, ([] : List Int)))) else ((impl_rangeCorners.f k a0 a1_0 a1_1 bt254.1 bt254.2).bind fun bt264 => ((impl_rangeFrom.f bt264.1 bt264.2).bind fun bt266 => (if bt264.1 < (-2147483648) then (impl_rangeShift.j0 k ([] : List Int) true a2_0 a2_1 bt254.1 bt254.2 bt266.1 bt266.2) else (impl_rangeShift.j0 k ([] : List Int) (decide (bt264.2 > 2147483647)) a2_0 a2_1 bt254.1 bt254.2 bt266.1 bt266.2)))))))
def impl_RangeHas.f (a0_0 : Int) (a0_1 : Int) (a1 : Int) : Option (Bool) := (impl_RangeOk.f a0_0 a0_1).bind fun t278 => (if t278 = true then (if a0_0 ≤ a1 then (some (decide (a1 ≤ a0_1))) else (some false)) else (some false))
def impl_rangeSides.f (k : Nat) (a0_0 : Int) (a0_1 : Int) : Option (Int × Int × Int × Int) := (impl_RangeMeet.f k a0_0 a0_1 (-2147483648) (-1)).bind fun bt281 => ((impl_RangeMeet.f k a0_0 a0_1 1 2147483647).bind fun bt283 => (some (bt281.1, bt281.2, bt283.1, bt283.2)))
mutual
def impl_rangeDiv.j0 : Nat → Int → Int → Bool → Int → Int → Int → Int → Int → Int → Int → Int → Option (Int × Int × List Int)
  | 0, _, _, _, _, _, _, _, _, _, _, _ => none
  | k + 1, x6, x7, x8, x286000, x286001, x287000, x287001, x293000, x293001, x293002, x293003 => (impl_Range_empty.f x293002 x293003).bind fun t298 => (if t298 = true then (impl_rangeDiv.j1 k x6 x7 x8 x286000 x286001 x287000 x287001) else ((impl_rangeCorners.f k 4 x286000 x286001 x293002 x293003).bind fun bt299 => (if x8 = true then (impl_rangeDiv.j1 k (mn bt299.1 x6) (mx bt299.2 x7) true x286000 x286001 x287000 x287001) else (impl_rangeDiv.j1 k bt299.1 bt299.2 true x286000 x286001 x287000 x287001))))
def impl_rangeDiv.j1 : Nat → Int → Int → Bool → Int → Int → Int → Int → Option (Int × Int × List Int)
  | 0, _, _, _, _, _, _, _ => none
  | k + 1, x6, x7, x8, x286000, x286001, x287000, x287001 => (impl_rangeNone.f).bind fun bt301 => (if x8 = true then ((impl_rangeFrom.f x6 x7).bind fun bt304 => (impl_rangeDiv.j2 k x286000 x286001 x287000 x287001 bt304.1 bt304.2)) else (impl_rangeDiv.j2 k x286000 x286001 x287000 x287001 bt301.1 bt301.2))
def impl_rangeDiv.j2 : Nat → Int → Int → Int → Int → Int → Int → Option (Int × Int × List Int)
  | 0, _, _, _, _, _, _ => none
  | k + 1, x286000, x286001, x287000, x287001, x304000, x304001 => (impl_RangeHas.f x286000 x286001 (-2147483648)).bind fun t306 => (if t306 = true then ((impl_RangeHas.f x287000 x287001 (-1)).bind fun t307 => (impl_rangeDiv.j3 k ([] : List Int) t307 x287000 x287001 x304000 x304001)) else (impl_rangeDiv.j3 k ([] : List Int) false x287000 x287001 x304000 x304001))
def impl_rangeDiv.j3 : Nat → List Int → Bool → Int → Int → Int → Int → Option (Int × Int × List Int)
  | 0, _, _, _, _, _, _ => none
  | k + 1, x17, x70, x287000, x287001, x304000, x304001 => if x70 = true then (if x17.length < 17592186044416 then ((some (x17 ++ [1] : List Int)).bind fun y308 => ((impl_RangeHas.f x287000 x287001 0).bind fun t311 => (if t311 = true then (if y308.length < 17592186044416 then (some (x304000, x304001, (y308 ++ [2]))) else (none)) else (some (x304000, x304001, y308))))) else (none)) else ((impl_RangeHas.f x287000 x287001 0).bind fun t315 => (if t315 = true then (if x17.length < 17592186044416 then (some (x304000, x304001, (x17 ++ [2]))) else (none)) else (some (x304000, x304001, x17))))
end
def impl_rangeDiv.f (k : Nat) (a0_0 : Int) (a0_1 : Int) (a1_0 : Int) (a1_1 : Int) : Option (Int × Int × List Int) := (impl_rangeSides.f k a1_0 a1_1).bind fun bt288 => ((impl_Range_empty.f bt288.1 bt288.2.1).bind fun t294 => (if t294 = true then (impl_rangeDiv.j0 k 0 0 false a0_0 a0_1 a1_0 a1_1 bt288.1 bt288.2.1 bt288.2.2.1 bt288.2.2.2) else ((impl_rangeCorners.f k 4 a0_0 a0_1 bt288.1 bt288.2.1).bind fun bt295 => (impl_rangeDiv.j0 k bt295.1 bt295.2 true a0_0 a0_1 a1_0 a1_1 bt288.1 bt288.2.1 bt288.2.2.1 bt288.2.2.2))))
def impl_Range_single.f (a0_0 : Int) (a0_1 : Int) : Option (Bool) := some (a0_0 == a0_1)
def impl_RangeJoin.j0 : Nat → Bool → Int → Int → Int → Int → Option (Int × Int)
  | 0, _, _, _, _, _ => none
  | k + 1, x5, x321000, x321001, x322000, x322001 => if x5 = true then ((impl_rangeNone.f).bind fun bt325 => (some (bt325.1, bt325.2))) else ((impl_Range_empty.f x321000 x321001).bind fun t327 => (if t327 = true then (some (x322000, x322001)) else ((impl_Range_empty.f x322000 x322001).bind fun t328 => (if t328 = true then (some (x321000, x321001)) else (some (mn x321000 x322000, mx x321001 x322001))))))
def impl_RangeJoin.f (k : Nat) (a0_0 : Int) (a0_1 : Int) (a1_0 : Int) (a1_1 : Int) : Option (Int × Int) := (impl_RangeOk.f a0_0 a0_1).bind fun t323 => (if t323 = true then ((impl_RangeOk.f a1_0 a1_1).bind fun t324 => (impl_RangeJoin.j0 k (!t324) a0_0 a0_1 a1_0 a1_1)) else (impl_RangeJoin.j0 k true a0_0 a0_1 a1_0 a1_1))
def impl_rangeRemBy.j0 : Nat → Int → Bool → Int → Int → Option (Int × Int)
  | 0, _, _, _, _ => none
  | k + 1, x2, x18, x330000, x330001 => if x18 = true then (some (x330000, x330001)) else (if x330000 < 0 then (if x330001 > 0 then (some (mx x330000 (wrap64 (1 - x2)), mn x330001 (wrap64 (x2 - 1)))) else (some (mx x330000 (wrap64 (1 - x2)), 0))) else (if x330001 > 0 then (some (0, mn x330001 (wrap64 (x2 - 1)))) else (some (0, 0))))
def impl_rangeRemBy.f (k : Nat) (a0_0 : Int) (a0_1 : Int) (a1 : Int) (a2 : Int) : Option (Int × Int) := if a0_0 > (wrap64 (-a1)) then (impl_rangeRemBy.j0 k a2 (decide (a0_1 < a1)) a0_0 a0_1) else (impl_rangeRemBy.j0 k a2 false a0_0 a0_1)
mutual
def impl_rangeRem.j0 : Nat → Bool → Int → Int → Int → Int → Option (Int × Int × List Int)
  | 0, _, _, _, _, _ => none
  | k + 1, x21, x333000, x333001, x334000, x334001 => if x21 = true then (if x334000 = 0 then (none) else (some (Int.tmod x333000 x334000, Int.tmod x333000 x334000, ([] : List Int)))) else ((impl_rangeSides.f k x334000 x334001).bind fun bt337 => ((impl_rangeNone.f).bind fun bt342 => ((impl_Range_empty.f bt337.1 bt337.2.1).bind fun t346 => (if t346 = true then (impl_rangeRem.j1 k x333000 x333001 x334000 x334001 bt337.1 bt337.2.1 bt337.2.2.1 bt337.2.2.2 bt342.1 bt342.2) else ((impl_rangeRemBy.f k x333000 x333001 (wrap64 (-bt337.2.1)) (wrap64 (-bt337.1))).bind fun bt347 => ((impl_RangeJoin.f k bt342.1 bt342.2 bt347.1 bt347.2).bind fun bt349 => (impl_rangeRem.j1 k x333000 x333001 x334000 x334001 bt337.1 bt337.2.1 bt337.2.2.1 bt337.2.2.2 bt349.1 bt349.2)))))))
def impl_rangeRem.j1 : Nat → Int → Int → Int → Int → Int → Int → Int → Int → Int → Int → Option (Int × Int × List Int)
  | 0, _, _, _, _, _, _, _, _, _, _ => none
  | k + 1, x333000, x333001, x334000, x334001, x342000, x342001, x342002, x342003, x345000, x345001 => (impl_Range_empty.f x342002 x342003).bind fun t352 => (if t352 = true then ((impl_RangeHas.f x334000 x334001 0).bind fun t353 => (if t353 = true then (some (x345000, x345001, (([2] : List Int)))) else (some (x345000, x345001, ([] : List Int))))) else ((impl_rangeRemBy.f k x333000 x333001 x342002 x342003).bind fun bt357 => ((impl_RangeJoin.f k x345000 x345001 bt357.1 bt357.2).bind fun bt359 => ((impl_RangeHas.f x334000 x334001 0).bind fun t361 => (if t361 = true then (some (bt359.1, bt359.2, (([2] : List Int)))) else (some (bt359.1, bt359.2, ([] : List Int))))))))
end
def impl_rangeRem.f (k : Nat) (a0_0 : Int) (a0_1 : Int) (a1_0 : Int) (a1_1 : Int) : Option (Int × Int × List Int) := (impl_Range_single.f a0_0 a0_1).bind fun t335 => (if t335 = true then ((impl_Range_single.f a1_0 a1_1).bind fun t336 => (if t336 = true then (impl_rangeRem.j0 k (a1_0 != 0) a0_0 a0_1 a1_0 a1_1) else (impl_rangeRem.j0 k false a0_0 a0_1 a1_0 a1_1))) else (impl_rangeRem.j0 k false a0_0 a0_1 a1_0 a1_1))
mutual
def impl_rangeBits.j0 : Nat → Int → Bool → Int → Int → Int → Int → Option (Int × Int)
  | 0, _, _, _, _, _, _ => none
  | k + 1, x0, x14, x366000, x366001, x367000, x367001 => if x14 = true then ((impl_numExact.f k x0 x366000 x367000).bind fun t370 => (some (t370, t370))) else (if x0 = 6 then (if x366000 ≥ 0 then (impl_rangeBits.j1 k (decide (x367000 ≥ 0)) x366000 x366001 x367000 x367001) else (impl_rangeBits.j1 k false x366000 x366001 x367000 x367001)) else (if x366000 < 0 then (impl_rangeBits.j2 k x0 true x366000 x366001 x367000 x367001) else (impl_rangeBits.j2 k x0 (decide (x367000 < 0)) x366000 x366001 x367000 x367001)))
def impl_rangeBits.j1 : Nat → Bool → Int → Int → Int → Int → Option (Int × Int)
  | 0, _, _, _, _, _ => none
  | k + 1, x26, x366000, x366001, x367000, x367001 => if x26 = true then (some (0, mn x366001 x367001)) else (if x366000 ≥ 0 then (some (0, x366001)) else (if x367000 ≥ 0 then (some (0, x367001)) else (some ((-2147483648), 2147483647))))
def impl_rangeBits.j2 : Nat → Int → Bool → Int → Int → Int → Int → Option (Int × Int)
  | 0, _, _, _, _, _, _ => none
  | k + 1, x0, x63, x366000, x366001, x367000, x367001 => if x63 = true then (some ((-2147483648), 2147483647)) else (if x0 = 7 then (impl_rangeBits.j3 k x366000 x366001 x367000 x367001 (mx x366000 x367000) 0) else (impl_rangeBits.j3 k x366000 x366001 x367000 x367001 0 0))
def impl_rangeBits.j3 : Nat → Int → Int → Int → Int → Int → Int → Option (Int × Int)
  | 0, _, _, _, _, _, _ => none
  | k + 1, x366000, x366001, x367000, x367001, x372000, x372001 => impl_rangeBits.l0 k x366000 x366001 x367000 x367001 x372000 x372001
def impl_rangeBits.l0 : Nat → Int → Int → Int → Int → Int → Int → Option (Int × Int)
  | 0, _, _, _, _, _, _ => none
  | k + 1, x366000, x366001, x367000, x367001, x372000, x372001 => if x372001 < (mx x366001 x367001) then (impl_rangeBits.l0 k x366000 x366001 x367000 x367001 x372000 (wrap64 ((wrap64 (2 * x372001)) + 1))) else (some (x372000, x372001))
end
def impl_rangeBits.f (k : Nat) (a0 : Int) (a1_0 : Int) (a1_1 : Int) (a2_0 : Int) (a2_1 : Int) : Option (Int × Int) := (impl_Range_single.f a1_0 a1_1).bind fun t368 => (if t368 = true then ((impl_Range_single.f a2_0 a2_1).bind fun t369 => (impl_rangeBits.j0 k a0 t369 a1_0 a1_1 a2_0 a2_1)) else (impl_rangeBits.j0 k a0 false a1_0 a1_1 a2_0 a2_1))
mutual
def impl_RangeDo.j0 : Nat → Int → Bool → Int → Int → Int → Int → Option (Int × Int × List Int)
  | 0, _, _, _, _, _, _ => none
  | k + 1, x0, x30, x373000, x373001, x374000, x374001 => if x30 = true then ((impl_rangeNone.f).bind fun bt380 => (some (bt380.1, bt380.2, ([] : List Int)))) else (if x0 = 1 then (impl_RangeDo.j1 k x0 x0 (x0 == 1) x373000 x373001 x374000 x374001) else (if x0 = 2 then (impl_RangeDo.j1 k x0 x0 (x0 == 2) x373000 x373001 x374000 x374001) else (impl_RangeDo.j1 k x0 x0 (x0 == 3) x373000 x373001 x374000 x374001)))
def impl_RangeDo.j1 : Nat → Int → Int → Bool → Int → Int → Int → Int → Option (Int × Int × List Int)
  | 0, _, _, _, _, _, _, _ => none
  | k + 1, x0, x32, x33, x373000, x373001, x374000, x374001 => if x33 = true then ((impl_rangeCorners.f k x0 x373000 x373001 x374000 x374001).bind fun bt382 => (if bt382.1 < (-2147483648) then (impl_RangeDo.j2 k bt382.1 bt382.2 true) else (impl_RangeDo.j2 k bt382.1 bt382.2 (decide (bt382.2 > 2147483647))))) else (if x32 = 11 then (impl_RangeDo.j3 k x0 x32 (x32 == 11) x373000 x373001 x374000 x374001) else (if x32 = 12 then (impl_RangeDo.j3 k x0 x32 (x32 == 12) x373000 x373001 x374000 x374001) else (impl_RangeDo.j3 k x0 x32 (x32 == 13) x373000 x373001 x374000 x374001)))
def impl_RangeDo.j2 : Nat → Int → Int → Bool → Option (Int × Int × List Int)
  | 0, _, _, _ => none
  | k + 1, x8, x9, x49 => if x49 = true then ((impl_rangeFrom.f x8 x9).bind fun bt384 => (some (bt384.1, bt384.2, (([1] : List Int))))) else ((impl_rangeFrom.f x8 x9).bind fun bt389 => (some (bt389.1, bt389.2, ([] : List Int))))
def impl_RangeDo.j3 : Nat → Int → Int → Bool → Int → Int → Int → Int → Option (Int × Int × List Int)
  | 0, _, _, _, _, _, _, _ => none
  | k + 1, x0, x32, x57, x373000, x373001, x374000, x374001 => if x57 = true then ((impl_rangeWrap.f k x0 x373000 x373001 x374000 x374001).bind fun bt391 => (some (bt391.1, bt391.2, ([] : List Int)))) else (if x32 = 9 then (impl_RangeDo.j4 k x0 x32 (x32 == 9) x373000 x373001 x374000 x374001) else (impl_RangeDo.j4 k x0 x32 (x32 == 10) x373000 x373001 x374000 x374001))
def impl_RangeDo.j4 : Nat → Int → Int → Bool → Int → Int → Int → Int → Option (Int × Int × List Int)
  | 0, _, _, _, _, _, _, _ => none
  | k + 1, x0, x32, x65, x373000, x373001, x374000, x374001 => if x65 = true then ((impl_rangeShift.f k x0 x373000 x373001 x374000 x374001).bind fun bt393 => (some (bt393.1, bt393.2.1, bt393.2.2))) else (if x32 = 4 then ((impl_rangeDiv.f k x373000 x373001 x374000 x374001).bind fun bt398 => (some (bt398.1, bt398.2.1, bt398.2.2))) else (if x32 = 5 then ((impl_rangeRem.f k x373000 x373001 x374000 x374001).bind fun bt403 => (some (bt403.1, bt403.2.1, bt403.2.2))) else ((impl_rangeBits.f k x0 x373000 x373001 x374000 x374001).bind fun bt408 => (some (bt408.1, bt408.2, ([] : List Int))))))
end
def impl_RangeDo.f (k : Nat) (a0 : Int) (a1_0 : Int) (a1_1 : Int) (a2_0 : Int) (a2_1 : Int) : Option (Int × Int × List Int) := (impl_numOp.f a0).bind fun t375 => (if t375 = true then ((impl_RangeOk.f a1_0 a1_1).bind fun t376 => (if t376 = true then ((impl_RangeOk.f a2_0 a2_1).bind fun t377 => (if t377 = true then ((impl_Range_empty.f a1_0 a1_1).bind fun t378 => (if t378 = true then (impl_RangeDo.j0 k a0 true a1_0 a1_1 a2_0 a2_1) else ((impl_Range_empty.f a2_0 a2_1).bind fun t379 => (impl_RangeDo.j0 k a0 t379 a1_0 a1_1 a2_0 a2_1)))) else (impl_RangeDo.j0 k a0 true a1_0 a1_1 a2_0 a2_1))) else (impl_RangeDo.j0 k a0 true a1_0 a1_1 a2_0 a2_1))) else (impl_RangeDo.j0 k a0 true a1_0 a1_1 a2_0 a2_1))
def spec_l1In.f (a0 : Int) (a1 : Int) (a2 : Int) : Option (Bool) := if a0 ≥ a1 then (some (decide (a0 ≤ a2))) else (some false)
def spec_NumOk.f (a0 : Int) : Option (Bool) := (spec_l1In.f a0 (-2147483648) 2147483647).bind fun t410 => (some t410)
def spec_RangeOk.f (a0_0 : Int) (a0_1 : Int) : Option (Bool) := (spec_l8None.f).bind fun bt412 => (if (a0_0 == bt412.1 && (a0_1 == bt412.2)) = true then (some true) else ((spec_NumOk.f a0_0).bind fun t414 => (if t414 = true then ((spec_NumOk.f a0_1).bind fun t415 => (if t415 = true then (some (decide (a0_0 ≤ a0_1))) else (some false))) else (some false))))
def spec_RangeMeet.j0 : Nat → Bool → Int → Int → Int → Int → Option (Int × Int)
  | 0, _, _, _, _, _ => none
  | k + 1, x22, x417000, x417001, x418000, x418001 => if x22 = true then ((spec_l8None.f).bind fun bt425 => (some (bt425.1, bt425.2))) else ((spec_l8Max.f x417000 x418000).bind fun t427 => ((spec_l8Min.f x417001 x418001).bind fun t428 => ((spec_l8Cut.f t427 t428).bind fun bt429 => (some (bt429.1, bt429.2)))))
def spec_RangeMeet.f (k : Nat) (a0_0 : Int) (a0_1 : Int) (a1_0 : Int) (a1_1 : Int) : Option (Int × Int) := (spec_RangeOk.f a0_0 a0_1).bind fun t419 => (if t419 = true then ((spec_RangeOk.f a1_0 a1_1).bind fun t420 => (if t420 = true then ((spec_l8None.f).bind fun bt421 => (if (a0_0 == bt421.1 && (a0_1 == bt421.2)) = true then (spec_RangeMeet.j0 k true a0_0 a0_1 a1_0 a1_1) else ((spec_l8None.f).bind fun bt423 => (spec_RangeMeet.j0 k (a1_0 == bt423.1 && (a1_1 == bt423.2)) a0_0 a0_1 a1_0 a1_1)))) else (spec_RangeMeet.j0 k true a0_0 a0_1 a1_0 a1_1))) else (spec_RangeMeet.j0 k true a0_0 a0_1 a1_0 a1_1))
def spec_l1Bits.l0 : Nat → Int → Int → Int → Int → Int → Option (Int)
  | 0, _, _, _, _, _ => none
  | k + 1, x0, x1, x2, x7, x8 => if x8 < 32 then ((spec_l1Mod.f x1 4294967296).bind fun t432 => (if 0 ≤ (IntKind.u64.wrap (x8)) then ((spec_l1Mod.f x2 4294967296).bind fun t433 => (if x0 = 7 then (if x0 = 8 then (spec_l1Bits.l0 k x0 x1 x2 (wrap64 (x7 + (shl .i64 (Int.tmod (wrap64 ((Int.tmod (shr .i64 t432 (IntKind.u64.wrap (x8))) 2) + (Int.tmod (shr .i64 t433 (IntKind.u64.wrap (x8))) 2))) 2) (IntKind.u64.wrap (x8))))) (wrap64 (x8 + 1))) else (spec_l1Bits.l0 k x0 x1 x2 (wrap64 (x7 + (shl .i64 (wrap64 ((wrap64 ((Int.tmod (shr .i64 t432 (IntKind.u64.wrap (x8))) 2) + (Int.tmod (shr .i64 t433 (IntKind.u64.wrap (x8))) 2))) - (wrap64 ((Int.tmod (shr .i64 t432 (IntKind.u64.wrap (x8))) 2) * (Int.tmod (shr .i64 t433 (IntKind.u64.wrap (x8))) 2))))) (IntKind.u64.wrap (x8))))) (wrap64 (x8 + 1)))) else (if x0 = 8 then (spec_l1Bits.l0 k x0 x1 x2 (wrap64 (x7 + (shl .i64 (Int.tmod (wrap64 ((Int.tmod (shr .i64 t432 (IntKind.u64.wrap (x8))) 2) + (Int.tmod (shr .i64 t433 (IntKind.u64.wrap (x8))) 2))) 2) (IntKind.u64.wrap (x8))))) (wrap64 (x8 + 1))) else (spec_l1Bits.l0 k x0 x1 x2 (wrap64 (x7 + (shl .i64 (wrap64 ((Int.tmod (shr .i64 t432 (IntKind.u64.wrap (x8))) 2) * (Int.tmod (shr .i64 t433 (IntKind.u64.wrap (x8))) 2))) (IntKind.u64.wrap (x8))))) (wrap64 (x8 + 1)))))) else (none))) else ((spec_NumWrap.f x7).bind fun t431 => (some t431))
def spec_l1Bits.f (k : Nat) (a0 : Int) (a1 : Int) (a2 : Int) : Option (Int) := spec_l1Bits.l0 k a0 a1 a2 0 0
def spec_l1Floor.f (a0 : Int) (a1 : Int) : Option (Int) := (spec_l1Mod.f a0 a1).bind fun t434 => (if a1 = 0 then (none) else (some (wrap64 (Int.tdiv (wrap64 (a0 - t434)) a1))))
mutual
def spec_l1Exact.j0 : Nat → Int → Int → Int → Bool → Option (Int)
  | 0, _, _, _, _ => none
  | k + 1, x0, x1, x2, x12 => if x12 = true then (some (wrap64 (x1 + x2))) else (if x0 = 2 then (spec_l1Exact.j1 k x0 x1 x2 true) else (spec_l1Exact.j1 k x0 x1 x2 (x0 == 12)))
def spec_l1Exact.j1 : Nat → Int → Int → Int → Bool → Option (Int)
  | 0, _, _, _, _ => none
  | k + 1, x0, x1, x2, x21 => if x21 = true then (some (wrap64 (x1 - x2))) else (if x0 = 3 then (spec_l1Exact.j2 k x0 x1 x2 true) else (spec_l1Exact.j2 k x0 x1 x2 (x0 == 13)))
def spec_l1Exact.j2 : Nat → Int → Int → Int → Bool → Option (Int)
  | 0, _, _, _, _ => none
  | k + 1, x0, x1, x2, x30 => if x30 = true then (some (wrap64 (x1 * x2))) else (if x0 = 4 then (if x2 = 0 then (none) else (some (wrap64 (Int.tdiv x1 x2)))) else (if x0 = 5 then (if x2 = 0 then (none) else (some (Int.tmod x1 x2))) else (if x0 = 9 then ((spec_l1Power.f k x2).bind fun t435 => (some (wrap64 (x1 * t435)))) else (if x0 = 10 then ((spec_l1Power.f k x2).bind fun t436 => ((spec_l1Floor.f x1 t436).bind fun t437 => (some t437))) else ((spec_l1Bits.f k x0 x1 x2).bind fun t438 => (some t438))))))
end
def spec_l1Exact.f (k : Nat) (a0 : Int) (a1 : Int) (a2 : Int) : Option (Int) := if a0 = 1 then (spec_l1Exact.j0 k a0 a1 a2 true) else (spec_l1Exact.j0 k a0 a1 a2 (a0 == 11))
def spec_l8R_add.j0 : Nat → Int → Bool → Bool → Int → Int → Option (Bool × Int × Int)
  | 0, _, _, _, _, _ => none
  | k + 1, x1, x16, x1000, x1001, x1002 => if x16 = true then (if x1000 = true then (if x1 > x1002 then (some (true, x1, x1)) else (some (true, x1, x1002))) else (some (true, x1, x1))) else (if x1000 = true then (if x1 > x1002 then (some (true, x1001, x1)) else (some (true, x1001, x1002))) else (some (true, x1001, x1)))
def spec_l8R_add.f (k : Nat) (s0_0 : Bool) (s0_1 : Int) (s0_2 : Int) (a1 : Int) : Option (Bool × Int × Int) := if s0_0 = true then (spec_l8R_add.j0 k a1 (decide (a1 < s0_1)) s0_0 s0_1 s0_2) else (spec_l8R_add.j0 k a1 true s0_0 s0_1 s0_2)
def spec_l8R_corners.f (k : Nat) (s0_0 : Bool) (s0_1 : Int) (s0_2 : Int) (a1 : Int) (a2_0 : Int) (a2_1 : Int) (a3_0 : Int) (a3_1 : Int) : Option (Bool × Int × Int) := (spec_l1Exact.f k a1 a2_0 a3_0).bind fun t441 => ((spec_l8R_add.f k s0_0 s0_1 s0_2 t441).bind fun bt442 => ((spec_l1Exact.f k a1 a2_0 a3_1).bind fun t445 => ((spec_l8R_add.f k bt442.1 bt442.2.1 bt442.2.2 t445).bind fun bt446 => ((spec_l1Exact.f k a1 a2_1 a3_0).bind fun t449 => ((spec_l8R_add.f k bt446.1 bt446.2.1 bt446.2.2 t449).bind fun bt450 => ((spec_l1Exact.f k a1 a2_1 a3_1).bind fun t453 => ((spec_l8R_add.f k bt450.1 bt450.2.1 bt450.2.2 t453).bind fun bt454 => (some (bt454.1, bt454.2.1, bt454.2.2)))))))))
def spec_RangeHas.f (a0_0 : Int) (a0_1 : Int) (a1 : Int) : Option (Bool) := (spec_RangeOk.f a0_0 a0_1).bind fun t458 => (if t458 = true then ((spec_l1In.f a1 a0_0 a0_1).bind fun t459 => (some t459)) else (some false))
def spec_RangeJoin.j0 : Nat → Bool → Int → Int → Int → Int → Option (Int × Int)
  | 0, _, _, _, _, _ => none
  | k + 1, x12, x461000, x461001, x462000, x462001 => if x12 = true then ((spec_l8None.f).bind fun bt465 => (some (bt465.1, bt465.2))) else ((spec_l8None.f).bind fun bt467 => (if (x461000 == bt467.1 && (x461001 == bt467.2)) = true then (some (x462000, x462001)) else ((spec_l8None.f).bind fun bt469 => (if (x462000 == bt469.1 && (x462001 == bt469.2)) = true then (some (x461000, x461001)) else ((spec_l8Min.f x461000 x462000).bind fun t471 => ((spec_l8Max.f x461001 x462001).bind fun t472 => (some (t471, t472))))))))
def spec_RangeJoin.f (k : Nat) (a0_0 : Int) (a0_1 : Int) (a1_0 : Int) (a1_1 : Int) : Option (Int × Int) := (spec_RangeOk.f a0_0 a0_1).bind fun t463 => (if t463 = true then ((spec_RangeOk.f a1_0 a1_1).bind fun t464 => (spec_RangeJoin.j0 k (!t464) a0_0 a0_1 a1_0 a1_1)) else (spec_RangeJoin.j0 k true a0_0 a0_1 a1_0 a1_1))
def spec_l8Rem.j0 : Nat → Int → Bool → Int → Int → Option (Int × Int)
  | 0, _, _, _, _ => none
  | k + 1, x2, x18, x474000, x474001 => if x18 = true then (some (x474000, x474001)) else (if x474000 < 0 then ((spec_l8Max.f x474000 (wrap64 (1 - x2))).bind fun t476 => (if x474001 > 0 then ((spec_l8Min.f x474001 (wrap64 (x2 - 1))).bind fun t477 => (some (t476, t477))) else (some (t476, 0)))) else (if x474001 > 0 then ((spec_l8Min.f x474001 (wrap64 (x2 - 1))).bind fun t478 => (some (0, t478))) else (some (0, 0))))
def spec_l8Rem.f (k : Nat) (a0_0 : Int) (a0_1 : Int) (a1 : Int) (a2 : Int) : Option (Int × Int) := if a0_0 > (wrap64 (-a1)) then (spec_l8Rem.j0 k a2 (decide (a0_1 < a1)) a0_0 a0_1) else (spec_l8Rem.j0 k a2 false a0_0 a0_1)
def spec_l8New.f  : Option (Bool × Int × Int) := some (false, 0, 0)
mutual
def spec_l8Div.j0 : Nat → Int → List Int → Bool → Int → Int → Int → Int → Int → Int → Int → Int → Option (Int × Int × List Int)
  | 0, _, _, _, _, _, _, _, _, _, _, _ => none
  | k + 1, x0, x8, x31, x481000, x481001, x482000, x482001, x489000, x489001, x492000, x492001 => if x31 = true then (if x8.length < 17592186044416 then (spec_l8Div.j1 k x0 (x8 ++ [1]) x481000 x481001 x482000 x482001 x489000 x489001 x492000 x492001) else (none)) else (spec_l8Div.j1 k x0 x8 x481000 x481001 x482000 x482001 x489000 x489001 x492000 x492001)
def spec_l8Div.j1 : Nat → Int → List Int → Int → Int → Int → Int → Int → Int → Int → Int → Option (Int × Int × List Int)
  | 0, _, _, _, _, _, _, _, _, _, _ => none
  | k + 1, x0, x8, x481000, x481001, x482000, x482001, x489000, x489001, x492000, x492001 => (spec_RangeHas.f x482000 x482001 0).bind fun t496 => (if t496 = true then (if x8.length < 17592186044416 then (spec_l8Div.j2 k x0 (x8 ++ [2]) x481000 x481001 x482000 x482001 x489000 x489001 x492000 x492001) else (none)) else (spec_l8Div.j2 k x0 x8 x481000 x481001 x482000 x482001 x489000 x489001 x492000 x492001))
def spec_l8Div.j2 : Nat → Int → List Int → Int → Int → Int → Int → Int → Int → Int → Int → Option (Int × Int × List Int)
  | 0, _, _, _, _, _, _, _, _, _, _ => none
  | k + 1, x0, x8, x481000, x481001, x482000, x482001, x489000, x489001, x492000, x492001 => if x0 = 5 then ((spec_l8None.f).bind fun bt500 => ((spec_l8None.f).bind fun bt503 => (if (!(x489000 == bt503.1) || (!(x489001 == bt503.2))) = true then ((spec_l8Rem.f k x481000 x481001 (wrap64 (-x489001)) (wrap64 (-x489000))).bind fun bt505 => ((spec_RangeJoin.f k bt500.1 bt500.2 bt505.1 bt505.2).bind fun bt507 => (spec_l8Div.j3 k x0 x8 x481000 x481001 x482000 x482001 x492000 x492001 bt507.1 bt507.2))) else (spec_l8Div.j3 k x0 x8 x481000 x481001 x482000 x482001 x492000 x492001 bt500.1 bt500.2)))) else ((spec_l8New.f).bind fun bt517 => ((spec_l8None.f).bind fun bt521 => (if (!(x489000 == bt521.1) || (!(x489001 == bt521.2))) = true then ((spec_l8R_corners.f k bt517.1 bt517.2.1 bt517.2.2 x0 x481000 x481001 x489000 x489001).bind fun bt523 => (spec_l8Div.j4 k x0 x8 x481000 x481001 x492000 x492001 bt523.1 bt523.2.1 bt523.2.2)) else (spec_l8Div.j4 k x0 x8 x481000 x481001 x492000 x492001 bt517.1 bt517.2.1 bt517.2.2))))
def spec_l8Div.j3 : Nat → Int → List Int → Int → Int → Int → Int → Int → Int → Int → Int → Option (Int × Int × List Int)
  | 0, _, _, _, _, _, _, _, _, _, _ => none
  | k + 1, x0, x8, x481000, x481001, x482000, x482001, x492000, x492001, x503000, x503001 => (spec_l8None.f).bind fun bt509 => (if (!(x492000 == bt509.1) || (!(x492001 == bt509.2))) = true then ((spec_l8Rem.f k x481000 x481001 x492000 x492001).bind fun bt511 => ((spec_RangeJoin.f k x503000 x503001 bt511.1 bt511.2).bind fun bt513 => (if x481000 = x481001 then (if x482000 = x482001 then (if x482000 = 0 then (some (bt513.1, bt513.2, x8)) else ((spec_l1Exact.f k x0 x481000 x482000).bind fun t515 => (some (t515, t515, x8)))) else (some (bt513.1, bt513.2, x8))) else (some (bt513.1, bt513.2, x8))))) else (if x481000 = x481001 then (if x482000 = x482001 then (if x482000 = 0 then (some (x503000, x503001, x8)) else ((spec_l1Exact.f k x0 x481000 x482000).bind fun t516 => (some (t516, t516, x8)))) else (some (x503000, x503001, x8))) else (some (x503000, x503001, x8))))
def spec_l8Div.j4 : Nat → Int → List Int → Int → Int → Int → Int → Bool → Int → Int → Option (Int × Int × List Int)
  | 0, _, _, _, _, _, _, _, _, _ => none
  | k + 1, x0, x8, x481000, x481001, x492000, x492001, x521000, x521001, x521002 => (spec_l8None.f).bind fun bt526 => (if (!(x492000 == bt526.1) || (!(x492001 == bt526.2))) = true then ((spec_l8R_corners.f k x521000 x521001 x521002 x0 x481000 x481001 x492000 x492001).bind fun bt528 => (spec_l8Div.j5 k x8 bt528.1 bt528.2.1 bt528.2.2)) else (spec_l8Div.j5 k x8 x521000 x521001 x521002))
def spec_l8Div.j5 : Nat → List Int → Bool → Int → Int → Option (Int × Int × List Int)
  | 0, _, _, _, _ => none
  | k + 1, x8, x521000, x521001, x521002 => if x521000 = true then ((spec_l8Cut.f x521001 x521002).bind fun bt531 => (some (bt531.1, bt531.2, x8))) else ((spec_l8None.f).bind fun bt533 => (some (bt533.1, bt533.2, x8)))
end
def spec_l8Div.f (k : Nat) (a0 : Int) (a1_0 : Int) (a1_1 : Int) (a2_0 : Int) (a2_1 : Int) : Option (Int × Int × List Int) := (some (([] : List Int) : List Int)).bind fun y483 => ((spec_RangeMeet.f k a2_0 a2_1 (-2147483648) (-1)).bind fun bt486 => ((spec_RangeMeet.f k a2_0 a2_1 1 2147483647).bind fun bt489 => (if a0 = 4 then (if a1_0 = (-2147483648) then ((spec_RangeHas.f a2_0 a2_1 (-1)).bind fun t492 => (spec_l8Div.j0 k a0 y483 t492 a1_0 a1_1 a2_0 a2_1 bt486.1 bt486.2 bt489.1 bt489.2)) else (spec_l8Div.j0 k a0 y483 false a1_0 a1_1 a2_0 a2_1 bt486.1 bt486.2 bt489.1 bt489.2)) else (spec_l8Div.j0 k a0 y483 false a1_0 a1_1 a2_0 a2_1 bt486.1 bt486.2 bt489.1 bt489.2))))
def spec_l8Mask.l0 : Nat → Int → Int → Option (Int)
  | 0, _, _ => none
  | k + 1, x0, x3 => if x3 < x0 then (spec_l8Mask.l0 k x0 (wrap64 ((wrap64 (2 * x3)) + 1))) else (some x3)
def spec_l8Mask.f (k : Nat) (a0 : Int) : Option (Int) := spec_l8Mask.l0 k a0 0
mutual
def spec_l8Bits.j0 : Nat → Int → Bool → Int → Int → Int → Int → Option (Int × Int)
  | 0, _, _, _, _, _, _ => none
  | k + 1, x0, x19, x536000, x536001, x537000, x537001 => if x19 = true then ((spec_l1Bits.f k x0 x536000 x537000).bind fun t538 => (some (t538, t538))) else (if x0 = 6 then (if x536000 ≥ 0 then (spec_l8Bits.j1 k x0 (decide (x537000 ≥ 0)) x536000 x536001 x537000 x537001) else (spec_l8Bits.j1 k x0 false x536000 x536001 x537000 x537001)) else (spec_l8Bits.j1 k x0 false x536000 x536001 x537000 x537001))
def spec_l8Bits.j1 : Nat → Int → Bool → Int → Int → Int → Int → Option (Int × Int)
  | 0, _, _, _, _, _, _ => none
  | k + 1, x0, x40, x536000, x536001, x537000, x537001 => if x40 = true then ((spec_l8Min.f x536001 x537001).bind fun t539 => (some (0, t539))) else (if x0 = 6 then (spec_l8Bits.j2 k x0 (decide (x536000 ≥ 0)) x536000 x536001 x537000 x537001) else (spec_l8Bits.j2 k x0 false x536000 x536001 x537000 x537001))
def spec_l8Bits.j2 : Nat → Int → Bool → Int → Int → Int → Int → Option (Int × Int)
  | 0, _, _, _, _, _, _ => none
  | k + 1, x0, x53, x536000, x536001, x537000, x537001 => if x53 = true then (some (0, x536001)) else (if x0 = 6 then (spec_l8Bits.j3 k x0 (decide (x537000 ≥ 0)) x536000 x536001 x537000 x537001) else (spec_l8Bits.j3 k x0 false x536000 x536001 x537000 x537001))
def spec_l8Bits.j3 : Nat → Int → Bool → Int → Int → Int → Int → Option (Int × Int)
  | 0, _, _, _, _, _, _ => none
  | k + 1, x0, x63, x536000, x536001, x537000, x537001 => if x63 = true then (some (0, x537001)) else (if x536000 ≥ 0 then (if x537000 ≥ 0 then (spec_l8Bits.j4 k x0 (x0 == 7) x536000 x536001 x537000 x537001) else (spec_l8Bits.j4 k x0 false x536000 x536001 x537000 x537001)) else (spec_l8Bits.j4 k x0 false x536000 x536001 x537000 x537001))
def spec_l8Bits.j4 : Nat → Int → Bool → Int → Int → Int → Int → Option (Int × Int)
  | 0, _, _, _, _, _, _ => none
  | k + 1, x0, x78, x536000, x536001, x537000, x537001 => if x78 = true then ((spec_l8Max.f x536000 x537000).bind fun t540 => ((spec_l8Max.f x536001 x537001).bind fun t541 => ((spec_l8Mask.f k t541).bind fun t542 => (some (t540, t542))))) else (if x536000 ≥ 0 then (if x537000 ≥ 0 then (spec_l8Bits.j5 k (x0 == 8) x536000 x536001 x537000 x537001) else (spec_l8Bits.j5 k false x536000 x536001 x537000 x537001)) else (spec_l8Bits.j5 k false x536000 x536001 x537000 x537001))
def spec_l8Bits.j5 : Nat → Bool → Int → Int → Int → Int → Option (Int × Int)
  | 0, _, _, _, _, _ => none
  | k + 1, x102, x536000, x536001, x537000, x537001 => if x102 = true then ((spec_l8Max.f x536001 x537001).bind fun t543 => ((spec_l8Mask.f k t543).bind fun t544 => (some (0, t544)))) else (some ((-2147483648), 2147483647))
end
def spec_l8Bits.f (k : Nat) (a0 : Int) (a1_0 : Int) (a1_1 : Int) (a2_0 : Int) (a2_1 : Int) : Option (Int × Int) := if a1_0 = a1_1 then (spec_l8Bits.j0 k a0 (a2_0 == a2_1) a1_0 a1_1 a2_0 a2_1) else (spec_l8Bits.j0 k a0 false a1_0 a1_1 a2_0 a2_1)
def spec_l8Wrapped.j0 : Nat → Int → Int → Bool → Option (Int × Int)
  | 0, _, _, _ => none
  | k + 1, x0, x1, x15 => if x15 = true then (some ((-2147483648), 2147483647)) else ((spec_NumWrap.f x0).bind fun t548 => ((spec_NumWrap.f x1).bind fun t549 => (some (t548, t549))))
def spec_l8Wrapped.f (k : Nat) (a0 : Int) (a1 : Int) : Option (Int × Int) := if (wrap64 (a1 - a0)) > 4294967295 then (spec_l8Wrapped.j0 k a0 a1 true) else ((spec_NumWrap.f a0).bind fun t546 => ((spec_NumWrap.f a1).bind fun t547 => (spec_l8Wrapped.j0 k a0 a1 (decide (t546 > t547)))))
mutual
def spec_RangeDo.j0 : Nat → Int → List Int → Bool → Int → Int → Int → Int → Option (Int × Int × List Int)
  | 0, _, _, _, _, _, _, _ => none
  | k + 1, x0, x8, x35, x551000, x551001, x552000, x552001 => if x35 = true then ((spec_l8None.f).bind fun bt563 => (some (bt563.1, bt563.2, x8))) else (if x0 = 4 then (spec_RangeDo.j1 k x0 x8 true x551000 x551001 x552000 x552001) else (spec_RangeDo.j1 k x0 x8 (x0 == 5) x551000 x551001 x552000 x552001))
def spec_RangeDo.j1 : Nat → Int → List Int → Bool → Int → Int → Int → Int → Option (Int × Int × List Int)
  | 0, _, _, _, _, _, _, _ => none
  | k + 1, x0, x8, x43, x551000, x551001, x552000, x552001 => if x43 = true then ((spec_l8Div.f k x0 x551000 x551001 x552000 x552001).bind fun bt565 => (some (bt565.1, bt565.2.1, bt565.2.2))) else ((spec_l1In.f x0 6 8).bind fun t570 => (if t570 = true then ((spec_l8Bits.f k x0 x551000 x551001 x552000 x552001).bind fun bt571 => (some (bt571.1, bt571.2, x8))) else (if x0 = 9 then (spec_RangeDo.j2 k x0 x8 true x551000 x551001 x552000 x552001 x552000 x552001) else (spec_RangeDo.j2 k x0 x8 (x0 == 10) x551000 x551001 x552000 x552001 x552000 x552001))))
def spec_RangeDo.j2 : Nat → Int → List Int → Bool → Int → Int → Int → Int → Int → Int → Option (Int × Int × List Int)
  | 0, _, _, _, _, _, _, _, _, _ => none
  | k + 1, x0, x8, x10, x551000, x551001, x552000, x552001, x574000, x574001 => if x10 = true then ((spec_RangeMeet.f k x552000 x552001 0 31).bind fun bt574 => (spec_RangeDo.j3 k x0 x8 x10 x551000 x551001 x552000 x552001 bt574.1 bt574.2)) else (spec_RangeDo.j3 k x0 x8 x10 x551000 x551001 x552000 x552001 x574000 x574001)
def spec_RangeDo.j3 : Nat → Int → List Int → Bool → Int → Int → Int → Int → Int → Int → Option (Int × Int × List Int)
  | 0, _, _, _, _, _, _, _, _, _ => none
  | k + 1, x0, x8, x10, x551000, x551001, x552000, x552001, x574000, x574001 => (spec_l8New.f).bind fun bt576 => ((spec_l8None.f).bind fun bt580 => (if (!(x574000 == bt580.1) || (!(x574001 == bt580.2))) = true then ((spec_l8R_corners.f k bt576.1 bt576.2.1 bt576.2.2 x0 x551000 x551001 x574000 x574001).bind fun bt582 => (spec_RangeDo.j4 k x0 x8 x10 x552000 x552001 x574000 x574001 bt582.1 bt582.2.1 bt582.2.2)) else (spec_RangeDo.j4 k x0 x8 x10 x552000 x552001 x574000 x574001 bt576.1 bt576.2.1 bt576.2.2)))
def spec_RangeDo.j4 : Nat → Int → List Int → Bool → Int → Int → Int → Int → Bool → Int → Int → Option (Int × Int × List Int)
  | 0, _, _, _, _, _, _, _, _, _, _ => none
  | k + 1, x0, x8, x10, x552000, x552001, x574000, x574001, x580000, x580001, x580002 => if x0 ≥ 11 then ((spec_l8Wrapped.f k x580001 x580002).bind fun bt585 => (some (bt585.1, bt585.2, x8))) else (if x580000 = true then (if x580001 < (-2147483648) then (spec_RangeDo.j5 k x8 x10 true x552000 x552001 x574000 x574001 x580000 x580001 x580002) else (spec_RangeDo.j5 k x8 x10 (decide (x580002 > 2147483647)) x552000 x552001 x574000 x574001 x580000 x580001 x580002)) else (spec_RangeDo.j5 k x8 x10 false x552000 x552001 x574000 x574001 x580000 x580001 x580002))
def spec_RangeDo.j5 : Nat → List Int → Bool → Bool → Int → Int → Int → Int → Bool → Int → Int → Option (Int × Int × List Int)
  | 0, _, _, _, _, _, _, _, _, _, _ => none
  | k + 1, x8, x10, x106, x552000, x552001, x574000, x574001, x580000, x580001, x580002 => if x106 = true then (if x8.length < 17592186044416 then (spec_RangeDo.j6 k (x8 ++ [1]) x10 x552000 x552001 x574000 x574001 x580000 x580001 x580002) else (none)) else (spec_RangeDo.j6 k x8 x10 x552000 x552001 x574000 x574001 x580000 x580001 x580002)
def spec_RangeDo.j6 : Nat → List Int → Bool → Int → Int → Int → Int → Bool → Int → Int → Option (Int × Int × List Int)
  | 0, _, _, _, _, _, _, _, _, _ => none
  | k + 1, x8, x10, x552000, x552001, x574000, x574001, x580000, x580001, x580002 => if x10 = true then (spec_RangeDo.j7 k x8 (!(x574000 == x552000) || (!(x574001 == x552001))) x580000 x580001 x580002) else (spec_RangeDo.j7 k x8 false x580000 x580001 x580002)
def spec_RangeDo.j7 : Nat → List Int → Bool → Bool → Int → Int → Option (Int × Int × List Int)
  | 0, _, _, _, _, _ => none
  | k + 1, x8, x115, x580000, x580001, x580002 => if x115 = true then (if x8.length < 17592186044416 then (spec_RangeDo.j8 k (x8 ++ [3]) x580000 x580001 x580002) else (none)) else (spec_RangeDo.j8 k x8 x580000 x580001 x580002)
def spec_RangeDo.j8 : Nat → List Int → Bool → Int → Int → Option (Int × Int × List Int)
  | 0, _, _, _, _ => none
  | k + 1, x8, x580000, x580001, x580002 => if x580000 = true then ((spec_l8Cut.f x580001 x580002).bind fun bt593 => (some (bt593.1, bt593.2, x8))) else ((spec_l8None.f).bind fun bt595 => (some (bt595.1, bt595.2, x8)))
end
def spec_RangeDo.f (k : Nat) (a0 : Int) (a1_0 : Int) (a1_1 : Int) (a2_0 : Int) (a2_1 : Int) : Option (Int × Int × List Int) := (some (([] : List Int) : List Int)).bind fun y553 => ((spec_l1In.f a0 1 13).bind fun t556 => (if t556 = true then ((spec_RangeOk.f a1_0 a1_1).bind fun t557 => (if t557 = true then ((spec_RangeOk.f a2_0 a2_1).bind fun t558 => (if t558 = true then ((spec_l8None.f).bind fun bt559 => (if (a1_0 == bt559.1 && (a1_1 == bt559.2)) = true then (spec_RangeDo.j0 k a0 y553 true a1_0 a1_1 a2_0 a2_1) else ((spec_l8None.f).bind fun bt561 => (spec_RangeDo.j0 k a0 y553 (a2_0 == bt561.1 && (a2_1 == bt561.2)) a1_0 a1_1 a2_0 a2_1)))) else (spec_RangeDo.j0 k a0 y553 true a1_0 a1_1 a2_0 a2_1))) else (spec_RangeDo.j0 k a0 y553 true a1_0 a1_1 a2_0 a2_1))) else (spec_RangeDo.j0 k a0 y553 true a1_0 a1_1 a2_0 a2_1)))
def laws_sameInts.l0 : Nat → List Int → List Int → Int → Option (Bool)
  | 0, _, _, _ => none
  | k + 1, x0, x1, x5 => if x5 < (x0.length : Int) then (if 0 ≤ x5 then (if x5 < (x1.length : Int) then (if (rd x0 x5) = (rd x1 x5) then (laws_sameInts.l0 k x0 x1 (wrap64 (x5 + 1))) else (some false)) else (none)) else (none)) else (some true)
def laws_sameInts.f (k : Nat) (l0 : List Int) (l1 : List Int) : Option (Bool) := if (l0.length : Int) = (l1.length : Int) then (laws_sameInts.l0 k l0 l1 0) else (some false)
def laws_at.f (l0 : List Int) (a1 : Int) : Option (Int) := if (l0.length : Int) = 0 then (some ((wrap64 (a1 * 37)) % 256)) else (if a1 < (l0.length : Int) then (if 0 ≤ a1 then (some (rd l0 a1)) else (none)) else (if 0 ≤ (Int.tmod a1 (l0.length : Int)) then (if (Int.tmod a1 (l0.length : Int)) < (l0.length : Int) then (if 0 ≤ (Int.tmod (wrap64 ((wrap64 (a1 * 5)) + 1)) (l0.length : Int)) then (if (Int.tmod (wrap64 ((wrap64 (a1 * 5)) + 1)) (l0.length : Int)) < (l0.length : Int) then (some (((((((rd l0 (Int.tmod a1 (l0.length : Int))) * 31) % 256) + (rd l0 (Int.tmod (wrap64 ((wrap64 (a1 * 5)) + 1)) (l0.length : Int)))) % 256) + ((a1) % 256)) % 256)) else (none)) else (none)) else (none)) else (none)))
def laws_wide.f (l0 : List Int) (a1 : Int) : Option (Int) := (laws_at.f l0 a1).bind fun t602 => ((laws_at.f l0 (wrap64 (a1 + 1))).bind fun t603 => ((laws_at.f l0 (wrap64 (a1 + 2))).bind fun t604 => ((laws_at.f l0 (wrap64 (a1 + 3))).bind fun t605 => (some (Go.bits .or .i64 (Go.bits .or .i64 (Go.bits .or .i64 (wrap64 ((wrap64 (t602)) * 16777216)) (wrap64 ((wrap64 (t603)) * 65536))) (wrap64 ((wrap64 (t604)) * 256))) (wrap64 (t605)))))))
def laws_within.j0 : Nat → List Int → Int → Bool → Int → Int → Option (Int)
  | 0, _, _, _, _, _ => none
  | k + 1, x1, x2, x18, x607000, x607001 => if x18 = true then ((laws_at.f x1 x2).bind fun t608 => (some (wrap64 ((wrap64 (t608)) - 128)))) else ((laws_at.f x1 (wrap64 (x2 + 5))).bind fun t609 => (if (Int.tmod (wrap64 (t609)) 4) = 0 then ((laws_at.f x1 x2).bind fun t610 => (if (wrap64 ((wrap64 (x607001 - x607000)) + 1)) = 0 then (none) else (some (wrap64 (x607000 + (Int.tmod (Int.tmod (wrap64 (t610)) 3) (wrap64 ((wrap64 (x607001 - x607000)) + 1)))))))) else (if (Int.tmod (wrap64 (t609)) 4) = 1 then ((laws_at.f x1 x2).bind fun t611 => (if (wrap64 ((wrap64 (x607001 - x607000)) + 1)) = 0 then (none) else (some (wrap64 (x607001 - (Int.tmod (Int.tmod (wrap64 (t611)) 3) (wrap64 ((wrap64 (x607001 - x607000)) + 1)))))))) else ((laws_wide.f x1 x2).bind fun t612 => (if (wrap64 ((wrap64 (x607001 - x607000)) + 1)) = 0 then (none) else (some (wrap64 (x607000 + (Int.tmod t612 (wrap64 ((wrap64 (x607001 - x607000)) + 1)))))))))))
def laws_within.f (k : Nat) (a0_0 : Int) (a0_1 : Int) (l1 : List Int) (a2 : Int) : Option (Int) := if a0_0 > a0_1 then (laws_within.j0 k l1 a2 true a0_0 a0_1) else ((spec_RangeOk.f a0_0 a0_1).bind fun t607 => (laws_within.j0 k l1 a2 (!t607) a0_0 a0_1))
mutual
def impl_NumDo.j0 : Nat → Int → Int → Int → Bool → Option (Int × Int)
  | 0, _, _, _, _ => none
  | k + 1, x0, x1, x2, x21 => if x21 = true then (some (0, 0)) else (if x0 = 4 then (impl_NumDo.j1 k x0 x1 x2 x0 (x0 == 4)) else (impl_NumDo.j1 k x0 x1 x2 x0 (x0 == 5)))
def impl_NumDo.j3 : Nat → Int → Int → Int → Option (Int × Int)
  | 0, _, _, _ => none
  | k + 1, x0, x1, x2 => (impl_numExact.f k x0 x1 x2).bind fun t616 => (if x0 = 11 then (impl_NumDo.j4 k t616 (x0 == 11)) else (if x0 = 12 then (impl_NumDo.j4 k t616 (x0 == 12)) else (impl_NumDo.j4 k t616 (x0 == 13))))
def impl_NumDo.j4 : Nat → Int → Bool → Option (Int × Int)
  | 0, _, _ => none
  | k + 1, x8, x42 => if x42 = true then ((impl_NumWrap.f x8).bind fun t617 => (some (t617, 0))) else ((impl_NumOk.f x8).bind fun t618 => (if t618 = true then (some (x8, 0)) else (some (0, 1))))
def impl_NumDo.j1 : Nat → Int → Int → Int → Int → Bool → Option (Int × Int)
  | 0, _, _, _, _, _ => none
  | k + 1, x0, x1, x2, x22, x23 => if x23 = true then (if x2 = 0 then (some (0, 2)) else (impl_NumDo.j3 k x0 x1 x2)) else (if x22 = 9 then (impl_NumDo.j2 k x0 x1 x2 (x22 == 9)) else (impl_NumDo.j2 k x0 x1 x2 (x22 == 10)))
def impl_NumDo.j2 : Nat → Int → Int → Int → Bool → Option (Int × Int)
  | 0, _, _, _, _ => none
  | k + 1, x0, x1, x2, x28 => if x28 = true then (if x2 < 0 then (some (0, 3)) else (if x2 > 31 then (some (0, 3)) else (impl_NumDo.j3 k x0 x1 x2))) else (impl_NumDo.j3 k x0 x1 x2)
end
def impl_NumDo.f (k : Nat) (a0 : Int) (a1 : Int) (a2 : Int) : Option (Int × Int) := (impl_numOp.f a0).bind fun t613 => (if t613 = true then ((impl_NumOk.f a1).bind fun t614 => (if t614 = true then ((impl_NumOk.f a2).bind fun t615 => (impl_NumDo.j0 k a0 a1 a2 (!t615))) else (impl_NumDo.j0 k a0 a1 a2 true))) else (impl_NumDo.j0 k a0 a1 a2 true))
def laws_has.l0 : Nat → List Int → Int → Int → Option (Bool)
  | 0, _, _, _ => none
  | k + 1, x0, x1, x5 => if x5 < (x0.length : Int) then (if 0 ≤ x5 then (if (rd x0 x5) = x1 then (some true) else (laws_has.l0 k x0 x1 (wrap64 (x5 + 1)))) else (none)) else (some false)
def laws_has.f (k : Nat) (l0 : List Int) (a1 : Int) : Option (Bool) := laws_has.l0 k l0 a1 0
mutual
def laws_FnRangeDo.j0 : Nat → List Int → Int → List Int → Bool → Int → Int → Int → Int → Int → Int → Option (Bool)
  | 0, _, _, _, _, _, _, _, _, _, _ => none
  | k + 1, x0, x3, x7, x46, x626000, x626001, x627000, x627001, x633000, x633001 => if x46 = true then (some false) else ((spec_RangeOk.f x626000 x626001).bind fun t640 => (if t640 = true then ((spec_RangeOk.f x627000 x627001).bind fun t641 => (if t641 = true then (if x626000 > x626001 then (laws_FnRangeDo.j1 k x0 x3 x7 true x626000 x626001 x627000 x627001 x633000 x633001) else (if x627000 > x627001 then (laws_FnRangeDo.j1 k x0 x3 x7 true x626000 x626001 x627000 x627001 x633000 x633001) else (if x3 < 1 then (laws_FnRangeDo.j1 k x0 x3 x7 true x626000 x626001 x627000 x627001 x633000 x633001) else (laws_FnRangeDo.j1 k x0 x3 x7 (decide (x3 > 13)) x626000 x626001 x627000 x627001 x633000 x633001)))) else (laws_FnRangeDo.j1 k x0 x3 x7 true x626000 x626001 x627000 x627001 x633000 x633001))) else (laws_FnRangeDo.j1 k x0 x3 x7 true x626000 x626001 x627000 x627001 x633000 x633001)))
def laws_FnRangeDo.j1 : Nat → List Int → Int → List Int → Bool → Int → Int → Int → Int → Int → Int → Option (Bool)
  | 0, _, _, _, _, _, _, _, _, _, _ => none
  | k + 1, x0, x3, x7, x76, x626000, x626001, x627000, x627001, x633000, x633001 => if x76 = true then (if (x633000 == 1 && (x633001 == 0)) = true then (some ((x7.length : Int) == 0)) else (some false)) else (laws_FnRangeDo.l0 k x0 x3 x7 0 x626000 x626001 x627000 x627001 x633000 x633001)
def laws_FnRangeDo.l0 : Nat → List Int → Int → List Int → Int → Int → Int → Int → Int → Int → Int → Option (Bool)
  | 0, _, _, _, _, _, _, _, _, _, _ => none
  | k + 1, x0, x3, x7, x10, x626000, x626001, x627000, x627001, x633000, x633001 => if x10 < 8 then ((laws_within.f k x626000 x626001 x0 x10).bind fun t643 => ((laws_within.f k x627000 x627001 x0 (wrap64 (x10 + 11))).bind fun t644 => ((impl_NumDo.f k x3 t643 t644).bind fun bt645 => (if bt645.2 = 0 then ((impl_RangeHas.f x633000 x633001 bt645.1).bind fun t647 => (if t647 = true then (laws_FnRangeDo.l0 k x0 x3 x7 (wrap64 (x10 + 1)) x626000 x626001 x627000 x627001 x633000 x633001) else (some false))) else ((laws_has.f k x7 bt645.2).bind fun t648 => (if t648 = true then (laws_FnRangeDo.l0 k x0 x3 x7 (wrap64 (x10 + 1)) x626000 x626001 x627000 x627001 x633000 x633001) else (some false))))))) else ((impl_RangeOk.f x633000 x633001).bind fun t642 => (some t642))
end
def laws_FnRangeDo.f (k : Nat) (l0 : List Int) : Option (Bool) := if (l0.length : Int) > 1048576 then (some true) else ((spec_DrawRangeDo.f k l0).bind fun bt620 => ((impl_RangeDo.f k bt620.1 bt620.2.1 bt620.2.2.1 bt620.2.2.2.1 bt620.2.2.2.2).bind fun bt627 => ((spec_RangeDo.f k bt620.1 bt620.2.1 bt620.2.2.1 bt620.2.2.2.1 bt620.2.2.2.2).bind fun bt633 => (if (!(bt627.1 == bt633.1) || (!(bt627.2.1 == bt633.2.1))) = true then (laws_FnRangeDo.j0 k l0 bt620.1 bt627.2.2 true bt620.2.1 bt620.2.2.1 bt620.2.2.2.1 bt620.2.2.2.2 bt627.1 bt627.2.1) else ((laws_sameInts.f k bt627.2.2 bt633.2.2).bind fun t639 => (laws_FnRangeDo.j0 k l0 bt620.1 bt627.2.2 (!t639) bt620.2.1 bt620.2.2.1 bt620.2.2.2.1 bt620.2.2.2.2 bt627.1 bt627.2.1))))))
def laws_FnRangeDo.Pure : Prop := ∀ (l0 : List Int), l0.length ≤ maxLen → l0.length * 1 ≤ 140737488351232 → (∀ x ∈ l0, (Lit.int .u8 x).wf = true) → ∃ k, laws_FnRangeDo.f k l0 = some true
end Go.Proofs.Ytlbheepfmjbpnaa.PFnRangeDo
