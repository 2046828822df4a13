/- The program's functions that the law reaches, as plain Lean functions. Conditions: none. -/
import Derived.Test.YtkekcenlleebeaaQFnRestDox0
namespace Go.Proofs.Ytkekcenlleebeaa.PFnRestDo
open Go.RowKit Go.Proofs.YtkekcenlleebeaaW.PrintWords Go.Proofs.YtkekcenlleebeaaW.PrintLast Go.Proofs.YtkekcenlleebeaaW.PrintMore
set_option linter.unusedVariables false

def laws_at.f (l0 : List Int) (a1 : Int) : Option (Int) := if (l0.length : Int) = 0 then (some ((wrap64 (a1 * 37)) % 256)) else (if a1 < (l0.length : Int) then (if 0 ≤ a1 then (some (rd l0 a1)) else (none)) else (if 0 ≤ (Int.tmod a1 (l0.length : Int)) then (if (Int.tmod a1 (l0.length : Int)) < (l0.length : Int) then (if 0 ≤ (Int.tmod (wrap64 ((wrap64 (a1 * 5)) + 1)) (l0.length : Int)) then (if (Int.tmod (wrap64 ((wrap64 (a1 * 5)) + 1)) (l0.length : Int)) < (l0.length : Int) then (some (((((((rd l0 (Int.tmod a1 (l0.length : Int))) * 31) % 256) + (rd l0 (Int.tmod (wrap64 ((wrap64 (a1 * 5)) + 1)) (l0.length : Int)))) % 256) + ((a1) % 256)) % 256)) else (none)) else (none)) else (none)) else (none)))
def spec_l1Mod.f (a0 : Int) (a1 : Int) : Option (Int) := if a1 = 0 then (none) else (if (Int.tmod a0 a1) < 0 then (some (wrap64 ((Int.tmod a0 a1) + a1))) else (some (Int.tmod a0 a1)))
def spec_NumWrap.f (a0 : Int) : Option (Int) := (spec_l1Mod.f a0 4294967296).bind fun t104 => (if t104 > 2147483647 then (some (wrap64 (t104 - 4294967296))) else (some t104))
def laws_wide.f (l0 : List Int) (a1 : Int) : Option (Int) := (laws_at.f l0 a1).bind fun t105 => ((laws_at.f l0 (wrap64 (a1 + 1))).bind fun t106 => ((laws_at.f l0 (wrap64 (a1 + 2))).bind fun t107 => ((laws_at.f l0 (wrap64 (a1 + 3))).bind fun t108 => (some (Go.bits .or .i64 (Go.bits .or .i64 (Go.bits .or .i64 (wrap64 ((wrap64 (t105)) * 16777216)) (wrap64 ((wrap64 (t106)) * 65536))) (wrap64 ((wrap64 (t107)) * 256))) (wrap64 (t108)))))))
def spec_l1In.f (a0 : Int) (a1 : Int) (a2 : Int) : Option (Bool) := if a0 ≥ a1 then (some (decide (a0 ≤ a2))) else (some false)
def spec_NumOk.f (a0 : Int) : Option (Bool) := (spec_l1In.f a0 (-2147483648) 2147483647).bind fun t109 => (some t109)
def spec_RestOk.f (a0_0 : Int) (a0_1 : Int) : Option (Bool) := if a0_0 = 0 then ((spec_NumOk.f a0_1).bind fun t111 => (some t111)) else ((spec_l1In.f a0_0 1 65536).bind fun t112 => (if t112 = true then ((spec_l1In.f a0_1 0 (wrap64 (a0_0 - 1))).bind fun t113 => (some t113)) else (some false)))
def laws_ofRest.j0 : Nat → List Int → Int → Bool → Int → Int → Option (Int)
  | 0, _, _, _, _, _ => none
  | k + 1, x1, x2, x15, x115000, x115001 => if x15 = true then (some x115001) else ((laws_at.f x1 x2).bind fun t116 => ((laws_at.f x1 (wrap64 (x2 + 3))).bind fun t117 => (if (Int.tmod t117 3) = 0 then ((laws_wide.f x1 x2).bind fun t118 => (if x115000 = 0 then (none) else ((spec_NumWrap.f (wrap64 (x115001 + (wrap64 (x115000 * (wrap64 ((wrap64 (Int.tdiv t118 x115000)) - 16384))))))).bind fun t119 => (some t119)))) else ((spec_NumWrap.f (wrap64 (x115001 + (wrap64 (x115000 * (wrap64 ((wrap64 (t116)) - 128))))))).bind fun t120 => (some t120)))))
def laws_ofRest.f (k : Nat) (a0_0 : Int) (a0_1 : Int) (l1 : List Int) (a2 : Int) : Option (Int) := (spec_RestOk.f a0_0 a0_1).bind fun t115 => (if t115 = true then (laws_ofRest.j0 k l1 a2 (a0_0 == 0) a0_0 a0_1) else (laws_ofRest.j0 k l1 a2 true a0_0 a0_1))
def spec_RestHas.j0 : Nat → Int → Bool → Int → Int → Option (Bool)
  | 0, _, _, _, _ => none
  | k + 1, x1, x12, x122000, x122001 => if x12 = true then (some false) else (if x122000 = 0 then (some (x1 == x122001)) else ((spec_l1Mod.f x1 x122000).bind fun t124 => (some (t124 == x122001))))
def spec_RestHas.f (k : Nat) (a0_0 : Int) (a0_1 : Int) (a1 : Int) : Option (Bool) := (spec_RestOk.f a0_0 a0_1).bind fun t122 => (if t122 = true then ((spec_NumOk.f a1).bind fun t123 => (spec_RestHas.j0 k a1 (!t123) a0_0 a0_1)) else (spec_RestHas.j0 k a1 true a0_0 a0_1))
def spec_l1Open.f (l0 : List Int) : Option (List Int × Int) := if (l0.length : Int) > 2000 then (if 2000 ≤ (l0.length : Int) then (some (l0.take 2000, 0)) else (none)) else (some (l0, 0))
def spec_l1Rd_pick.j0 : Nat → Int → Bool → List Int → Int → Option (Int × Int)
  | 0, _, _, _, _ => none
  | k + 1, x1, x24, x1000, x1001 => if x24 = true then (some (0, x1001)) else (if (wrap64 (x1001 - 1)) < (x1000.length : Int) then (if 0 ≤ (wrap64 (x1001 - 1)) then (if x1 = 0 then (none) else (some (Int.tmod (wrap64 (rd x1000 (wrap64 (x1001 - 1)))) x1, x1001))) else (none)) else (if (x1000.length : Int) = 0 then (none) else (if 0 ≤ (Int.tmod (wrap64 (x1001 - 1)) (x1000.length : Int)) then (if (Int.tmod (wrap64 (x1001 - 1)) (x1000.length : Int)) < (x1000.length : Int) then (if 0 ≤ (Int.tmod (wrap64 ((wrap64 ((wrap64 (x1001 - 1)) * 7)) + 3)) (x1000.length : Int)) then (if (Int.tmod (wrap64 ((wrap64 ((wrap64 (x1001 - 1)) * 7)) + 3)) (x1000.length : Int)) < (x1000.length : Int) then (if x1 = 0 then (none) else (some (Int.tmod (Go.bits .xor .i64 (wrap64 ((wrap64 ((wrap64 ((wrap64 ((wrap64 (rd x1000 (Int.tmod (wrap64 (x1001 - 1)) (x1000.length : Int)))) * 131)) + (wrap64 ((wrap64 (rd x1000 (Int.tmod (wrap64 ((wrap64 ((wrap64 (x1001 - 1)) * 7)) + 3)) (x1000.length : Int)))) * 1117)))) + (wrap64 ((wrap64 (x1001 - 1)) * 29)))) + (wrap64 ((wrap64 (Int.tdiv (wrap64 (x1001 - 1)) (x1000.length : Int))) * 53)))) (wrap64 (Int.tdiv (wrap64 ((wrap64 ((wrap64 ((wrap64 ((wrap64 (rd x1000 (Int.tmod (wrap64 (x1001 - 1)) (x1000.length : Int)))) * 131)) + (wrap64 ((wrap64 (rd x1000 (Int.tmod (wrap64 ((wrap64 ((wrap64 (x1001 - 1)) * 7)) + 3)) (x1000.length : Int)))) * 1117)))) + (wrap64 ((wrap64 (x1001 - 1)) * 29)))) + (wrap64 ((wrap64 (Int.tdiv (wrap64 (x1001 - 1)) (x1000.length : Int))) * 53)))) 64))) x1, x1001))) else (none)) else (none)) else (none)) else (none))))
def spec_l1Rd_pick.f (k : Nat) (s0_0 : List Int) (s0_1 : Int) (a1 : Int) : Option (Int × Int) := if a1 < 1 then (spec_l1Rd_pick.j0 k a1 true s0_0 (wrap64 (s0_1 + 1))) else (spec_l1Rd_pick.j0 k a1 ((s0_0.length : Int) == 0) s0_0 (wrap64 (s0_1 + 1)))
def spec_l1Power.l0 : Nat → Int → Int → Int → Option (Int)
  | 0, _, _, _ => none
  | k + 1, x0, x3, x4 => if x4 < x0 then (spec_l1Power.l0 k x0 (wrap64 (2 * x3)) (wrap64 (x4 + 1))) else (some x3)
def spec_l1Power.f (k : Nat) (a0 : Int) : Option (Int) := spec_l1Power.l0 k a0 1 0
def spec_l1Rd_num.l0 : Nat → Int → Int → List Int → Int → Option (Int × Int)
  | 0, _, _, _, _ => none
  | k + 1, x4, x5, x1000, x1001 => if x5 < 4 then ((spec_l1Rd_pick.f k x1000 x1001 256).bind fun bt149 => (spec_l1Rd_num.l0 k (wrap64 ((wrap64 (x4 * 256)) + bt149.1)) (wrap64 (x5 + 1)) x1000 bt149.2)) else ((spec_NumWrap.f x4).bind fun t151 => (some (t151, x1001)))
def spec_l1Rd_num.f (k : Nat) (s0_0 : List Int) (s0_1 : Int) : Option (Int × Int) := (spec_l1Rd_pick.f k s0_0 s0_1 10).bind fun bt131 => (if bt131.1 < 4 then ((spec_l1Rd_pick.f k s0_0 bt131.2 21).bind fun bt133 => (some (wrap64 (bt133.1 - 10), bt133.2))) else (if bt131.1 = 4 then ((spec_l1Rd_pick.f k s0_0 bt131.2 3).bind fun bt135 => (some (wrap64 (2147483647 - bt135.1), bt135.2))) else (if bt131.1 = 5 then ((spec_l1Rd_pick.f k s0_0 bt131.2 3).bind fun bt137 => (some (wrap64 ((-2147483648) + bt137.1), bt137.2))) else (if bt131.1 = 6 then ((spec_l1Rd_pick.f k s0_0 bt131.2 31).bind fun bt139 => ((spec_l1Power.f k bt139.1).bind fun t141 => ((spec_l1Rd_pick.f k s0_0 bt139.2 3).bind fun bt142 => (some (wrap64 ((wrap64 (t141 + bt142.1)) - 1), bt142.2))))) else (if bt131.1 = 7 then ((spec_l1Rd_pick.f k s0_0 bt131.2 31).bind fun bt144 => ((spec_l1Power.f k bt144.1).bind fun t146 => ((spec_l1Rd_pick.f k s0_0 bt144.2 3).bind fun bt147 => (some (wrap64 ((wrap64 ((wrap64 (-t146)) + bt147.1)) - 1), bt147.2))))) else (spec_l1Rd_num.l0 k 0 0 s0_0 bt131.2))))))
def spec_l1Rd_wild.f (k : Nat) (s0_0 : List Int) (s0_1 : Int) : Option (Int × Int) := (spec_l1Rd_pick.f k s0_0 s0_1 12).bind fun bt152 => (if bt152.1 = 0 then ((spec_l1Rd_pick.f k s0_0 bt152.2 3).bind fun bt154 => (some (wrap64 (2147483648 + bt154.1), bt154.2))) else (if bt152.1 = 1 then ((spec_l1Rd_pick.f k s0_0 bt152.2 3).bind fun bt156 => (some (wrap64 ((-2147483649) - bt156.1), bt156.2))) else (if bt152.1 = 2 then ((spec_l1Rd_pick.f k s0_0 bt152.2 2).bind fun bt158 => (some (wrap64 (9223372036854775807 - bt158.1), bt158.2))) else (if bt152.1 = 3 then ((spec_l1Rd_pick.f k s0_0 bt152.2 2).bind fun bt160 => (some (wrap64 ((-9223372036854775808) + bt160.1), bt160.2))) else ((spec_l1Rd_num.f k s0_0 bt152.2).bind fun bt162 => (some (bt162.1, bt162.2)))))))
def spec_l9All.f  : Option (Int × Int) := some (1, 0)
def spec_l9Rest.f (k : Nat) (s0_0 : List Int) (s0_1 : Int) : Option (Int × Int × Int) := (spec_l1Rd_pick.f k s0_0 s0_1 8).bind fun bt166 => (if bt166.1 < 2 then ((spec_l1Rd_num.f k s0_0 bt166.2).bind fun bt168 => (some (0, bt168.1, bt168.2))) else (if bt166.1 = 2 then ((spec_l9All.f).bind fun bt170 => (some (bt170.1, bt170.2, bt166.2))) else ((spec_l1Rd_pick.f k s0_0 bt166.2 24).bind fun bt172 => (if bt166.1 = 3 then ((some (([64, 4096, 65536, 65535, 32768, 60000] : List Int) : List Int)).bind fun y174 => ((spec_l1Rd_pick.f k s0_0 bt172.2 6).bind fun bt177 => (if 0 ≤ bt177.1 then (if bt177.1 < (y174.length : Int) then ((spec_l1Rd_pick.f k s0_0 bt177.2 256).bind fun bt180 => ((spec_l1Rd_pick.f k s0_0 bt180.2 256).bind fun bt182 => (if (rd y174 bt177.1) = 0 then (none) else (some (rd y174 bt177.1, Int.tmod (wrap64 ((wrap64 (bt180.1 * 256)) + bt182.1)) (rd y174 bt177.1), bt182.2))))) else (none)) else (none)))) else ((spec_l1Rd_pick.f k s0_0 bt172.2 256).bind fun bt184 => ((spec_l1Rd_pick.f k s0_0 bt184.2 256).bind fun bt186 => (if (wrap64 (1 + bt172.1)) = 0 then (none) else (some (wrap64 (1 + bt172.1), Int.tmod (wrap64 ((wrap64 (bt184.1 * 256)) + bt186.1)) (wrap64 (1 + bt172.1)), bt186.2)))))))))
def spec_l9Wild.f (k : Nat) (s0_0 : List Int) (s0_1 : Int) : Option (Int × Int × Int) := (spec_l1Rd_pick.f k s0_0 s0_1 14).bind fun bt189 => (if bt189.1 = 0 then ((some (([(-1), 0, 1, 65536, 65537] : List Int) : List Int)).bind fun y191 => ((spec_l1Rd_pick.f k s0_0 bt189.2 5).bind fun bt194 => (if 0 ≤ bt194.1 then (if bt194.1 < (y191.length : Int) then ((spec_l1Rd_wild.f k s0_0 bt194.2).bind fun bt197 => (some (rd y191 bt194.1, bt197.1, bt197.2))) else (none)) else (none)))) else ((spec_l9Rest.f k s0_0 bt189.2).bind fun bt199 => (some (bt199.1, bt199.2.1, bt199.2.2))))
def spec_DrawRestDo.j0 : Nat → Int → List Int → Int → Option (Int × Int × Int × Int × Int)
  | 0, _, _, _ => none
  | k + 1, x6, x207000, x207001 => (spec_l9Wild.f k x207000 x207001).bind fun bt213 => ((spec_l9Wild.f k x207000 bt213.2.2).bind fun bt217 => (if x6 = 9 then ((spec_l1Rd_pick.f k x207000 bt217.2.2 3).bind fun bt221 => (if bt221.1 > 0 then ((spec_l1Rd_pick.f k x207000 bt221.2 34).bind fun bt223 => (some (x6, bt213.1, bt213.2.1, 0, wrap64 (bt223.1 - 1)))) else (some (x6, bt213.1, bt213.2.1, bt217.1, bt217.2.1)))) else (some (x6, bt213.1, bt213.2.1, bt217.1, bt217.2.1))))
def spec_DrawRestDo.f (k : Nat) (l0 : List Int) : Option (Int × Int × Int × Int × Int) := (spec_l1Open.f l0).bind fun bt204 => ((spec_l1Rd_pick.f k bt204.1 bt204.2 13).bind fun bt207 => ((spec_l1Rd_pick.f k bt204.1 bt207.2 30).bind fun bt209 => (if bt209.1 = 0 then ((spec_l1Rd_pick.f k bt204.1 bt209.2 16).bind fun bt211 => (spec_DrawRestDo.j0 k (wrap64 (bt211.1 - 1)) bt204.1 bt211.2)) else (spec_DrawRestDo.j0 k (wrap64 (1 + bt207.1)) bt204.1 bt209.2))))
def impl_NumOk.f (a0 : Int) : Option (Bool) := if a0 ≥ (-2147483648) then (some (decide (a0 ≤ 2147483647))) else (some false)
def impl_RestOk.f (a0_0 : Int) (a0_1 : Int) : Option (Bool) := if a0_0 = 0 then ((impl_NumOk.f a0_1).bind fun t226 => (some t226)) else (if a0_0 ≥ 1 then (if a0_0 ≤ 65536 then (if a0_1 ≥ 0 then (some (decide (a0_1 < a0_0))) else (some false)) else (some false)) else (some false))
def impl_numOp.f (a0 : Int) : Option (Bool) := if a0 ≥ 1 then (some (decide (a0 ≤ 13))) else (some false)
mutual
def impl_numExact.j0 : Nat → Int → Int → Int → Bool → Option (Int)
  | 0, _, _, _, _ => none
  | k + 1, x1, x2, x7, x8 => if x8 = true then (some (wrap64 (x1 + x2))) else (if x7 = 2 then (impl_numExact.j1 k x1 x2 x7 (x7 == 2)) else (impl_numExact.j1 k x1 x2 x7 (x7 == 12)))
def impl_numExact.j1 : Nat → Int → Int → Int → Bool → Option (Int)
  | 0, _, _, _, _ => none
  | k + 1, x1, x2, x7, x14 => if x14 = true then (some (wrap64 (x1 - x2))) else (if x7 = 3 then (impl_numExact.j2 k x1 x2 x7 (x7 == 3)) else (impl_numExact.j2 k x1 x2 x7 (x7 == 13)))
def impl_numExact.j2 : Nat → Int → Int → Int → Bool → Option (Int)
  | 0, _, _, _, _ => none
  | k + 1, x1, x2, x7, x20 => if x20 = true then (some (wrap64 (x1 * x2))) else (if x7 = 4 then (if x2 = 0 then (none) else (some (wrap64 (Int.tdiv x1 x2)))) else (if x7 = 5 then (if x2 = 0 then (none) else (some (Int.tmod x1 x2))) else (if x7 = 6 then (some (Go.bits .and .i64 x1 x2)) else (if x7 = 7 then (some (Go.bits .or .i64 x1 x2)) else (if x7 = 8 then (some (Go.bits .xor .i64 x1 x2)) else (if x7 = 9 then (if 0 ≤ (IntKind.u64.wrap (x2)) then (some (shl .i64 x1 (IntKind.u64.wrap (x2)))) else (none)) else (if x7 = 10 then (if 0 ≤ (IntKind.u64.wrap (x2)) then (some (shr .i64 x1 (IntKind.u64.wrap (x2)))) else (none)) else (some 0))))))))
end
def impl_numExact.f (k : Nat) (a0 : Int) (a1 : Int) (a2 : Int) : Option (Int) := if a0 = 1 then (impl_numExact.j0 k a1 a2 a0 (a0 == 1)) else (impl_numExact.j0 k a1 a2 a0 (a0 == 11))
def impl_NumWrap.f (a0 : Int) : Option (Int) := some (wrap64 (wrap32 (a0)))
mutual
def impl_NumDo.j0 : Nat → Int → Int → Int → Bool → Option (Int × Int)
  | 0, _, _, _, _ => none
  | k + 1, x0, x1, x2, x21 => if x21 = true then (some (0, 0)) else (if x0 = 4 then (impl_NumDo.j1 k x0 x1 x2 x0 (x0 == 4)) else (impl_NumDo.j1 k x0 x1 x2 x0 (x0 == 5)))
def impl_NumDo.j3 : Nat → Int → Int → Int → Option (Int × Int)
  | 0, _, _, _ => none
  | k + 1, x0, x1, x2 => (impl_numExact.f k x0 x1 x2).bind fun t230 => (if x0 = 11 then (impl_NumDo.j4 k t230 (x0 == 11)) else (if x0 = 12 then (impl_NumDo.j4 k t230 (x0 == 12)) else (impl_NumDo.j4 k t230 (x0 == 13))))
def impl_NumDo.j4 : Nat → Int → Bool → Option (Int × Int)
  | 0, _, _ => none
  | k + 1, x8, x42 => if x42 = true then ((impl_NumWrap.f x8).bind fun t231 => (some (t231, 0))) else ((impl_NumOk.f x8).bind fun t232 => (if t232 = true then (some (x8, 0)) else (some (0, 1))))
def impl_NumDo.j1 : Nat → Int → Int → Int → Int → Bool → Option (Int × Int)
  | 0, _, _, _, _, _ => none
  | k + 1, x0, x1, x2, x22, x23 => if x23 = true then (if x2 = 0 then (some (0, 2)) else (impl_NumDo.j3 k x0 x1 x2)) else (if x22 = 9 then (impl_NumDo.j2 k x0 x1 x2 (x22 == 9)) else (impl_NumDo.j2 k x0 x1 x2 (x22 == 10)))
def impl_NumDo.j2 : Nat → Int → Int → Int → Bool → Option (Int × Int)
  | 0, _, _, _, _ => none
  | k + 1, x0, x1, x2, x28 => if x28 = true then (if x2 < 0 then (some (0, 3)) else (if x2 > 31 then (some (0, 3)) else (impl_NumDo.j3 k x0 x1 x2))) else (impl_NumDo.j3 k x0 x1 x2)
end
def impl_NumDo.f (k : Nat) (a0 : Int) (a1 : Int) (a2 : Int) : Option (Int × Int) := (impl_numOp.f a0).bind fun t227 => (if t227 = true then ((impl_NumOk.f a1).bind fun t228 => (if t228 = true then ((impl_NumOk.f a2).bind fun t229 => (impl_NumDo.j0 k a0 a1 a2 (!t229))) else (impl_NumDo.j0 k a0 a1 a2 true))) else (impl_NumDo.j0 k a0 a1 a2 true))
def impl_restAll.f  : Option (Int × Int) := some (1, 0)
def impl_restMod.f (a0 : Int) (a1 : Int) : Option (Int) := if a1 = 0 then (none) else (if (Int.tmod a0 a1) < 0 then (some (wrap64 ((Int.tmod a0 a1) + a1))) else (some (Int.tmod a0 a1)))
mutual
def impl_restGcd.l0 : Nat → Int → List Int → Int → Int → Option (Int)
  | 0, _, _, _, _ => none
  | k + 1, x3, x6, x7, x8 => if x8 < x7 then (if 0 ≤ x8 then (if x8 < (x6.length : Int) then (impl_restGcd.l1 k x3 (rd x6 x8) x6 x7 x8) else (none)) else (none)) else (if x3 < 0 then (some (wrap64 (-x3))) else (some x3))
def impl_restGcd.l1 : Nat → Int → Int → List Int → Int → Int → Option (Int)
  | 0, _, _, _, _, _ => none
  | k + 1, x3, x5, x6, x7, x8 => if x5 = 0 then (impl_restGcd.l0 k x3 x6 x7 (wrap64 (x8 + 1))) else (impl_restGcd.l1 k x5 (Int.tmod x3 x5) x6 x7 x8)
end
def impl_restGcd.f (k : Nat) (l0 : List Int) : Option (Int) := impl_restGcd.l0 k 0 l0 (l0.length : Int) 0
def impl_restOf.f (k : Nat) (a0 : Int) (a1 : Int) : Option (Int × Int) := if a1 > 65536 then ((impl_restGcd.f k (([a1, 65536] : List Int))).bind fun t239 => (if t239 = 0 then (some (0, a0)) else ((impl_restMod.f a0 t239).bind fun t240 => (some (t239, t240))))) else (if a1 = 0 then (some (0, a0)) else ((impl_restMod.f a0 a1).bind fun t241 => (some (a1, t241))))
mutual
def impl_RestDo.j0 : Nat → Int → Bool → Int → Int → Int → Int → Option (Int × Int)
  | 0, _, _, _, _, _, _ => none
  | k + 1, x0, x25, x243000, x243001, x244000, x244001 => if x25 = true then ((impl_restAll.f).bind fun bt248 => (some (bt248.1, bt248.2))) else (if x243000 = 0 then (impl_RestDo.j1 k x0 (x244000 == 0) x243000 x243001 x244000 x244001) else (impl_RestDo.j1 k x0 false x243000 x243001 x244000 x244001))
def impl_RestDo.j1 : Nat → Int → Bool → Int → Int → Int → Int → Option (Int × Int)
  | 0, _, _, _, _, _, _ => none
  | k + 1, x0, x34, x243000, x243001, x244000, x244001 => if x34 = true then ((impl_NumDo.f k x0 x243001 x244001).bind fun bt250 => (if bt250.2 = 0 then (some (0, bt250.1)) else ((impl_restAll.f).bind fun bt252 => (some (bt252.1, bt252.2))))) else (if x0 = 11 then (impl_RestDo.j2 k x0 4294967296 x243000 x243001 x244000 x244001) else (if x0 = 12 then (impl_RestDo.j2 k x0 4294967296 x243000 x243001 x244000 x244001) else (if x0 = 13 then (impl_RestDo.j2 k x0 4294967296 x243000 x243001 x244000 x244001) else (impl_RestDo.j2 k x0 0 x243000 x243001 x244000 x244001))))
def impl_RestDo.j2 : Nat → Int → Int → Int → Int → Int → Int → Option (Int × Int)
  | 0, _, _, _, _, _, _ => none
  | k + 1, x0, x9, x243000, x243001, x244000, x244001 => if x0 = 1 then (impl_RestDo.j3 k x9 x0 (x0 == 1) x243000 x243001 x244000 x244001) else (impl_RestDo.j3 k x9 x0 (x0 == 11) x243000 x243001 x244000 x244001)
def impl_RestDo.j3 : Nat → Int → Int → Bool → Int → Int → Int → Int → Option (Int × Int)
  | 0, _, _, _, _, _, _, _ => none
  | k + 1, x9, x54, x55, x243000, x243001, x244000, x244001 => if x55 = true then ((impl_restGcd.f k (([x243000, x244000, x9] : List Int))).bind fun t257 => ((impl_restOf.f k (wrap64 (x243001 + x244001)) t257).bind fun bt258 => (some (bt258.1, bt258.2)))) else (if x54 = 2 then (impl_RestDo.j4 k x9 x54 (x54 == 2) x243000 x243001 x244000 x244001) else (impl_RestDo.j4 k x9 x54 (x54 == 12) x243000 x243001 x244000 x244001))
def impl_RestDo.j4 : Nat → Int → Int → Bool → Int → Int → Int → Int → Option (Int × Int)
  | 0, _, _, _, _, _, _, _ => none
  | k + 1, x9, x54, x71, x243000, x243001, x244000, x244001 => if x71 = true then ((impl_restGcd.f k (([x243000, x244000, x9] : List Int))).bind fun t263 => ((impl_restOf.f k (wrap64 (x243001 - x244001)) t263).bind fun bt264 => (some (bt264.1, bt264.2)))) else (if x54 = 3 then (impl_RestDo.j5 k x9 x54 (x54 == 3) x243000 x243001 x244000 x244001) else (impl_RestDo.j5 k x9 x54 (x54 == 13) x243000 x243001 x244000 x244001))
def impl_RestDo.j5 : Nat → Int → Int → Bool → Int → Int → Int → Int → Option (Int × Int)
  | 0, _, _, _, _, _, _, _ => none
  | k + 1, x9, x54, x87, x243000, x243001, x244000, x244001 => if x87 = true then ((impl_restGcd.f k (([wrap64 (x243000 * x244000), wrap64 (x243000 * x244001), wrap64 (x244000 * x243001)] : List Int))).bind fun t269 => (if t269 = 0 then (some (0, 0)) else ((impl_restGcd.f k (([t269, x9] : List Int))).bind fun t273 => ((impl_restOf.f k (wrap64 (x243001 * x244001)) t273).bind fun bt274 => (some (bt274.1, bt274.2)))))) else (if x54 = 9 then (if x244000 = 0 then (if x244001 ≥ 0 then (impl_RestDo.j6 k (decide (x244001 ≤ 31)) x243000 x243001 x244000 x244001) else (impl_RestDo.j6 k false x243000 x243001 x244000 x244001)) else (impl_RestDo.j6 k false x243000 x243001 x244000 x244001)) else (if x54 = 5 then ((impl_restGcd.f k (([x243000, x244000, x244001] : List Int))).bind fun t283 => (if t283 = 0 then ((impl_restAll.f).bind fun bt284 => (some (bt284.1, bt284.2))) else ((impl_restOf.f k x243001 t283).bind fun bt286 => (some (bt286.1, bt286.2))))) else ((impl_restAll.f).bind fun bt288 => (some (bt288.1, bt288.2)))))
def impl_RestDo.j6 : Nat → Bool → Int → Int → Int → Int → Option (Int × Int)
  | 0, _, _, _, _, _ => none
  | k + 1, x134, x243000, x243001, x244000, x244001 => if x134 = true then (if 0 ≤ (IntKind.u64.wrap (x244001)) then ((impl_restOf.f k (wrap64 (x243001 * (shl .i64 1 (IntKind.u64.wrap (x244001))))) (wrap64 (x243000 * (shl .i64 1 (IntKind.u64.wrap (x244001)))))).bind fun bt276 => (some (bt276.1, bt276.2))) else (none)) else ((impl_restAll.f).bind fun bt278 => (some (bt278.1, bt278.2)))
end
def impl_RestDo.f (k : Nat) (a0 : Int) (a1_0 : Int) (a1_1 : Int) (a2_0 : Int) (a2_1 : Int) : Option (Int × Int) := (impl_numOp.f a0).bind fun t245 => (if t245 = true then ((impl_RestOk.f a1_0 a1_1).bind fun t246 => (if t246 = true then ((impl_RestOk.f a2_0 a2_1).bind fun t247 => (impl_RestDo.j0 k a0 (!t247) a1_0 a1_1 a2_0 a2_1)) else (impl_RestDo.j0 k a0 true a1_0 a1_1 a2_0 a2_1))) else (impl_RestDo.j0 k a0 true a1_0 a1_1 a2_0 a2_1))
def spec_l1Floor.f (a0 : Int) (a1 : Int) : Option (Int) := (spec_l1Mod.f a0 a1).bind fun t290 => (if a1 = 0 then (none) else (some (wrap64 (Int.tdiv (wrap64 (a0 - t290)) a1))))
def spec_l1Bits.l0 : Nat → Int → Int → Int → Int → Int → Option (Int)
  | 0, _, _, _, _, _ => none
  | k + 1, x0, x1, x2, x7, x8 => if x8 < 32 then ((spec_l1Mod.f x1 4294967296).bind fun t292 => (if 0 ≤ (IntKind.u64.wrap (x8)) then ((spec_l1Mod.f x2 4294967296).bind fun t293 => (if x0 = 7 then (if x0 = 8 then (spec_l1Bits.l0 k x0 x1 x2 (wrap64 (x7 + (shl .i64 (Int.tmod (wrap64 ((Int.tmod (shr .i64 t292 (IntKind.u64.wrap (x8))) 2) + (Int.tmod (shr .i64 t293 (IntKind.u64.wrap (x8))) 2))) 2) (IntKind.u64.wrap (x8))))) (wrap64 (x8 + 1))) else (spec_l1Bits.l0 k x0 x1 x2 (wrap64 (x7 + (shl .i64 (wrap64 ((wrap64 ((Int.tmod (shr .i64 t292 (IntKind.u64.wrap (x8))) 2) + (Int.tmod (shr .i64 t293 (IntKind.u64.wrap (x8))) 2))) - (wrap64 ((Int.tmod (shr .i64 t292 (IntKind.u64.wrap (x8))) 2) * (Int.tmod (shr .i64 t293 (IntKind.u64.wrap (x8))) 2))))) (IntKind.u64.wrap (x8))))) (wrap64 (x8 + 1)))) else (if x0 = 8 then (spec_l1Bits.l0 k x0 x1 x2 (wrap64 (x7 + (shl .i64 (Int.tmod (wrap64 ((Int.tmod (shr .i64 t292 (IntKind.u64.wrap (x8))) 2) + (Int.tmod (shr .i64 t293 (IntKind.u64.wrap (x8))) 2))) 2) (IntKind.u64.wrap (x8))))) (wrap64 (x8 + 1))) else (spec_l1Bits.l0 k x0 x1 x2 (wrap64 (x7 + (shl .i64 (wrap64 ((Int.tmod (shr .i64 t292 (IntKind.u64.wrap (x8))) 2) * (Int.tmod (shr .i64 t293 (IntKind.u64.wrap (x8))) 2))) (IntKind.u64.wrap (x8))))) (wrap64 (x8 + 1)))))) else (none))) else ((spec_NumWrap.f x7).bind fun t291 => (some t291))
def spec_l1Bits.f (k : Nat) (a0 : Int) (a1 : Int) (a2 : Int) : Option (Int) := spec_l1Bits.l0 k a0 a1 a2 0 0
mutual
def spec_l1Exact.j0 : Nat → Int → Int → Int → Bool → Option (Int)
  | 0, _, _, _, _ => none
  | k + 1, x0, x1, x2, x12 => if x12 = true then (some (wrap64 (x1 + x2))) else (if x0 = 2 then (spec_l1Exact.j1 k x0 x1 x2 true) else (spec_l1Exact.j1 k x0 x1 x2 (x0 == 12)))
def spec_l1Exact.j1 : Nat → Int → Int → Int → Bool → Option (Int)
  | 0, _, _, _, _ => none
  | k + 1, x0, x1, x2, x21 => if x21 = true then (some (wrap64 (x1 - x2))) else (if x0 = 3 then (spec_l1Exact.j2 k x0 x1 x2 true) else (spec_l1Exact.j2 k x0 x1 x2 (x0 == 13)))
def spec_l1Exact.j2 : Nat → Int → Int → Int → Bool → Option (Int)
  | 0, _, _, _, _ => none
  | k + 1, x0, x1, x2, x30 => if x30 = true then (some (wrap64 (x1 * x2))) else (if x0 = 4 then (if x2 = 0 then (none) else (some (wrap64 (Int.tdiv x1 x2)))) else (if x0 = 5 then (if x2 = 0 then (none) else (some (Int.tmod x1 x2))) else (if x0 = 9 then ((spec_l1Power.f k x2).bind fun t294 => (some (wrap64 (x1 * t294)))) else (if x0 = 10 then ((spec_l1Power.f k x2).bind fun t295 => ((spec_l1Floor.f x1 t295).bind fun t296 => (some t296))) else ((spec_l1Bits.f k x0 x1 x2).bind fun t297 => (some t297))))))
end
def spec_l1Exact.f (k : Nat) (a0 : Int) (a1 : Int) (a2 : Int) : Option (Int) := if a0 = 1 then (spec_l1Exact.j0 k a0 a1 a2 true) else (spec_l1Exact.j0 k a0 a1 a2 (a0 == 11))
mutual
def spec_NumDo.j0 : Nat → Int → Int → Int → Bool → Option (Int × Int)
  | 0, _, _, _, _ => none
  | k + 1, x0, x1, x2, x21 => if x21 = true then (some (0, 0)) else (if x0 = 4 then (spec_NumDo.j1 k x0 x1 x2 (x2 == 0)) else (if x0 = 5 then (spec_NumDo.j1 k x0 x1 x2 (x2 == 0)) else (spec_NumDo.j1 k x0 x1 x2 false)))
def spec_NumDo.j1 : Nat → Int → Int → Int → Bool → Option (Int × Int)
  | 0, _, _, _, _ => none
  | k + 1, x0, x1, x2, x31 => if x31 = true then (some (0, 2)) else (if x0 = 9 then ((spec_l1In.f x2 0 31).bind fun t301 => (spec_NumDo.j2 k x0 x1 x2 (!t301))) else (if x0 = 10 then ((spec_l1In.f x2 0 31).bind fun t302 => (spec_NumDo.j2 k x0 x1 x2 (!t302))) else (spec_NumDo.j2 k x0 x1 x2 false)))
def spec_NumDo.j2 : Nat → Int → Int → Int → Bool → Option (Int × Int)
  | 0, _, _, _, _ => none
  | k + 1, x0, x1, x2, x42 => if x42 = true then (some (0, 3)) else ((spec_l1Exact.f k x0 x1 x2).bind fun t303 => (if x0 ≥ 11 then ((spec_NumWrap.f t303).bind fun t304 => (some (t304, 0))) else ((spec_NumOk.f t303).bind fun t305 => (if t305 = true then (some (t303, 0)) else (some (0, 1))))))
end
def spec_NumDo.f (k : Nat) (a0 : Int) (a1 : Int) (a2 : Int) : Option (Int × Int) := (spec_l1In.f a0 1 13).bind fun t298 => (if t298 = true then ((spec_NumOk.f a1).bind fun t299 => (if t299 = true then ((spec_NumOk.f a2).bind fun t300 => (spec_NumDo.j0 k a0 a1 a2 (!t300))) else (spec_NumDo.j0 k a0 a1 a2 true))) else (spec_NumDo.j0 k a0 a1 a2 true))
def spec_l9Wraps.f (a0 : Int) : Option (Int) := if a0 ≥ 11 then (some 4294967296) else (some 0)
mutual
def spec_l9Gcd.j0 : Nat → Int → Int → Option (Int)
  | 0, _, _ => none
  | k + 1, x0, x1 => if x1 < 0 then (spec_l9Gcd.j1 k x0 (wrap64 (-x1))) else (spec_l9Gcd.j1 k x0 x1)
def spec_l9Gcd.j1 : Nat → Int → Int → Option (Int)
  | 0, _, _ => none
  | k + 1, x0, x1 => spec_l9Gcd.l0 k x0 x1
def spec_l9Gcd.l0 : Nat → Int → Int → Option (Int)
  | 0, _, _ => none
  | k + 1, x0, x1 => if x1 = 0 then (some x0) else (spec_l9Gcd.l0 k x1 (Int.tmod x0 x1))
end
def spec_l9Gcd.f (k : Nat) (a0 : Int) (a1 : Int) : Option (Int) := if a0 < 0 then (spec_l9Gcd.j0 k (wrap64 (-a0)) a1) else (spec_l9Gcd.j0 k a0 a1)
def spec_l9Make.f (k : Nat) (a0 : Int) (a1 : Int) : Option (Int × Int) := if a0 > 65536 then ((spec_l9Gcd.f k a0 65536).bind fun t307 => (if t307 = 0 then (some (0, a1)) else ((spec_l1Mod.f a1 t307).bind fun t308 => (some (t307, t308))))) else (if a0 = 0 then (some (0, a1)) else ((spec_l1Mod.f a1 a0).bind fun t309 => (some (a0, t309))))
mutual
def spec_RestDo.j0 : Nat → Int → Bool → Int → Int → Int → Int → Option (Int × Int)
  | 0, _, _, _, _, _, _ => none
  | k + 1, x0, x24, x311000, x311001, x312000, x312001 => if x24 = true then ((spec_l9All.f).bind fun bt316 => (some (bt316.1, bt316.2))) else (if x311000 = 0 then (spec_RestDo.j1 k x0 (x312000 == 0) x311000 x311001 x312000 x312001) else (spec_RestDo.j1 k x0 false x311000 x311001 x312000 x312001))
def spec_RestDo.j1 : Nat → Int → Bool → Int → Int → Int → Int → Option (Int × Int)
  | 0, _, _, _, _, _, _ => none
  | k + 1, x0, x33, x311000, x311001, x312000, x312001 => if x33 = true then ((spec_NumDo.f k x0 x311001 x312001).bind fun bt318 => (if bt318.2 = 0 then (some (0, bt318.1)) else ((spec_l9All.f).bind fun bt320 => (some (bt320.1, bt320.2))))) else ((spec_l9Wraps.f x0).bind fun t322 => (if x0 = 1 then (spec_RestDo.j2 k x0 t322 true x311000 x311001 x312000 x312001) else (spec_RestDo.j2 k x0 t322 (x0 == 11) x311000 x311001 x312000 x312001)))
def spec_RestDo.j2 : Nat → Int → Int → Bool → Int → Int → Int → Int → Option (Int × Int)
  | 0, _, _, _, _, _, _, _ => none
  | k + 1, x0, x9, x55, x311000, x311001, x312000, x312001 => if x55 = true then ((spec_l9Gcd.f k x311000 x312000).bind fun t323 => ((spec_l9Gcd.f k t323 x9).bind fun t324 => ((spec_l9Make.f k t324 (wrap64 (x311001 + x312001))).bind fun bt325 => (some (bt325.1, bt325.2))))) else (if x0 = 2 then (spec_RestDo.j3 k x0 x9 true x311000 x311001 x312000 x312001) else (spec_RestDo.j3 k x0 x9 (x0 == 12) x311000 x311001 x312000 x312001))
def spec_RestDo.j3 : Nat → Int → Int → Bool → Int → Int → Int → Int → Option (Int × Int)
  | 0, _, _, _, _, _, _, _ => none
  | k + 1, x0, x9, x74, x311000, x311001, x312000, x312001 => if x74 = true then ((spec_l9Gcd.f k x311000 x312000).bind fun t327 => ((spec_l9Gcd.f k t327 x9).bind fun t328 => ((spec_l9Make.f k t328 (wrap64 (x311001 - x312001))).bind fun bt329 => (some (bt329.1, bt329.2))))) else (if x0 = 9 then (if x312000 = 0 then ((spec_l1In.f x312001 0 31).bind fun t331 => (spec_RestDo.j4 k x0 x9 t331 x311000 x311001 x312000 x312001)) else (spec_RestDo.j4 k x0 x9 false x311000 x311001 x312000 x312001)) else (spec_RestDo.j4 k x0 x9 false x311000 x311001 x312000 x312001))
def spec_RestDo.j4 : Nat → Int → Int → Bool → Int → Int → Int → Int → Option (Int × Int)
  | 0, _, _, _, _, _, _, _ => none
  | k + 1, x0, x9, x99, x311000, x311001, x312000, x312001 => if x99 = true then ((spec_l1Power.f k x312001).bind fun t332 => ((spec_l1Power.f k x312001).bind fun t333 => ((spec_l9Make.f k (wrap64 (x311000 * t332)) (wrap64 (x311001 * t333))).bind fun bt334 => (some (bt334.1, bt334.2))))) else (if x0 = 3 then (spec_RestDo.j5 k x0 x9 true x311000 x311001 x312000 x312001) else (spec_RestDo.j5 k x0 x9 (x0 == 13) x311000 x311001 x312000 x312001))
def spec_RestDo.j5 : Nat → Int → Int → Bool → Int → Int → Int → Int → Option (Int × Int)
  | 0, _, _, _, _, _, _, _ => none
  | k + 1, x0, x9, x118, x311000, x311001, x312000, x312001 => if x118 = true then ((spec_l9Gcd.f k (wrap64 (x311000 * x312000)) (wrap64 (x311000 * x312001))).bind fun t336 => ((spec_l9Gcd.f k t336 (wrap64 (x312000 * x311001))).bind fun t337 => (if t337 = 0 then (some (0, 0)) else ((spec_l9Gcd.f k t337 x9).bind fun t338 => ((spec_l9Make.f k t338 (wrap64 (x311001 * x312001))).bind fun bt339 => (some (bt339.1, bt339.2))))))) else (if x0 = 5 then ((spec_l9Gcd.f k x312000 x312001).bind fun t341 => ((spec_l9Gcd.f k x311000 t341).bind fun t342 => (if t342 = 0 then ((spec_l9All.f).bind fun bt343 => (some (bt343.1, bt343.2))) else ((spec_l9Make.f k t342 x311001).bind fun bt345 => (some (bt345.1, bt345.2)))))) else ((spec_l9All.f).bind fun bt347 => (some (bt347.1, bt347.2))))
end
def spec_RestDo.f (k : Nat) (a0 : Int) (a1_0 : Int) (a1_1 : Int) (a2_0 : Int) (a2_1 : Int) : Option (Int × Int) := (spec_l1In.f a0 1 13).bind fun t313 => (if t313 = true then ((spec_RestOk.f a1_0 a1_1).bind fun t314 => (if t314 = true then ((spec_RestOk.f a2_0 a2_1).bind fun t315 => (spec_RestDo.j0 k a0 (!t315) a1_0 a1_1 a2_0 a2_1)) else (spec_RestDo.j0 k a0 true a1_0 a1_1 a2_0 a2_1))) else (spec_RestDo.j0 k a0 true a1_0 a1_1 a2_0 a2_1))
def impl_RestHas.j0 : Nat → Int → Bool → Int → Int → Option (Bool)
  | 0, _, _, _, _ => none
  | k + 1, x1, x12, x350000, x350001 => if x12 = true then (some false) else (if x350000 = 0 then (some (x1 == x350001)) else ((impl_restMod.f x1 x350000).bind fun t352 => (some (t352 == x350001))))
def impl_RestHas.f (k : Nat) (a0_0 : Int) (a0_1 : Int) (a1 : Int) : Option (Bool) := (impl_RestOk.f a0_0 a0_1).bind fun t350 => (if t350 = true then ((impl_NumOk.f a1).bind fun t351 => (impl_RestHas.j0 k a1 (!t351) a0_0 a0_1)) else (impl_RestHas.j0 k a1 true a0_0 a0_1))
mutual
def laws_FnRestDo.j0 : Nat → List Int → Int → Bool → Int → Int → Int → Int → Int → Int → Option (Bool)
  | 0, _, _, _, _, _, _, _, _, _ => none
  | k + 1, x0, x3, x35, x359000, x359001, x360000, x360001, x363000, x363001 => if x35 = true then (some false) else ((spec_RestOk.f x359000 x359001).bind fun t366 => (if t366 = true then ((spec_RestOk.f x360000 x360001).bind fun t367 => (laws_FnRestDo.j1 k x0 x3 (!t367) x359000 x359001 x360000 x360001 x363000 x363001)) else (laws_FnRestDo.j1 k x0 x3 true x359000 x359001 x360000 x360001 x363000 x363001)))
def laws_FnRestDo.j1 : Nat → List Int → Int → Bool → Int → Int → Int → Int → Int → Int → Option (Bool)
  | 0, _, _, _, _, _, _, _, _, _ => none
  | k + 1, x0, x3, x43, x359000, x359001, x360000, x360001, x363000, x363001 => if x43 = true then (some (x363000 == 1 && (x363001 == 0))) else (laws_FnRestDo.l0 k x0 x3 0 x359000 x359001 x360000 x360001 x363000 x363001)
def laws_FnRestDo.l0 : Nat → List Int → Int → Int → Int → Int → Int → Int → Int → Int → Option (Bool)
  | 0, _, _, _, _, _, _, _, _, _ => none
  | k + 1, x0, x3, x7, x359000, x359001, x360000, x360001, x363000, x363001 => if x7 < 8 then ((laws_ofRest.f k x359000 x359001 x0 x7).bind fun t368 => ((laws_ofRest.f k x360000 x360001 x0 (wrap64 (x7 + 13))).bind fun t369 => ((spec_NumDo.f k x3 t368 t369).bind fun bt370 => (if x3 ≥ 1 then (if x3 ≤ 13 then ((spec_RestHas.f k x359000 x359001 t368).bind fun t372 => (if t372 = true then ((spec_RestHas.f k x360000 x360001 t369).bind fun t373 => (if t373 = true then (if bt370.2 = 0 then ((impl_RestHas.f k x363000 x363001 bt370.1).bind fun t374 => (if t374 = true then (laws_FnRestDo.l0 k x0 x3 (wrap64 (x7 + 1)) x359000 x359001 x360000 x360001 x363000 x363001) else (some false))) else (laws_FnRestDo.l0 k x0 x3 (wrap64 (x7 + 1)) x359000 x359001 x360000 x360001 x363000 x363001)) else (laws_FnRestDo.l0 k x0 x3 (wrap64 (x7 + 1)) x359000 x359001 x360000 x360001 x363000 x363001))) else (laws_FnRestDo.l0 k x0 x3 (wrap64 (x7 + 1)) x359000 x359001 x360000 x360001 x363000 x363001))) else (laws_FnRestDo.l0 k x0 x3 (wrap64 (x7 + 1)) x359000 x359001 x360000 x360001 x363000 x363001)) else (laws_FnRestDo.l0 k x0 x3 (wrap64 (x7 + 1)) x359000 x359001 x360000 x360001 x363000 x363001))))) else (some true)
end
def laws_FnRestDo.f (k : Nat) (l0 : List Int) : Option (Bool) := if (l0.length : Int) > 1048576 then (some true) else ((spec_DrawRestDo.f k l0).bind fun bt353 => ((impl_RestDo.f k bt353.1 bt353.2.1 bt353.2.2.1 bt353.2.2.2.1 bt353.2.2.2.2).bind fun bt360 => ((spec_RestDo.f k bt353.1 bt353.2.1 bt353.2.2.1 bt353.2.2.2.1 bt353.2.2.2.2).bind fun bt363 => (if (!(bt360.1 == bt363.1) || (!(bt360.2 == bt363.2))) = true then (laws_FnRestDo.j0 k l0 bt353.1 true bt353.2.1 bt353.2.2.1 bt353.2.2.2.1 bt353.2.2.2.2 bt360.1 bt360.2) else ((impl_RestOk.f bt360.1 bt360.2).bind fun t365 => (laws_FnRestDo.j0 k l0 bt353.1 (!t365) bt353.2.1 bt353.2.2.1 bt353.2.2.2.1 bt353.2.2.2.2 bt360.1 bt360.2))))))
def laws_FnRestDo.Pure : Prop := ∀ (l0 : List Int), l0.length ≤ maxLen → l0.length * 1 ≤ 140737488351232 → (∀ x ∈ l0, (Lit.int .u8 x).wf = true) → ∃ k, laws_FnRestDo.f k l0 = some true
end Go.Proofs.Ytkekcenlleebeaa.PFnRestDo
