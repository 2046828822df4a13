/- The program's functions that the law reaches, as plain Lean functions. Conditions: none. -/
import Derived.Test.YtnmgckdgmplddaaQFnExactAbsHasx0
namespace Go.Proofs.Ytnmgckdgmplddaa.PFnExactAbsHas
open Go.RowKit Go.Proofs.YtnmgckdgmplddaaW.PrintWords Go.Proofs.YtnmgckdgmplddaaW.PrintLast Go.Proofs.YtnmgckdgmplddaaW.PrintMore
set_option linter.unusedVariables false

def laws_szValS.f (l0 : List (S81)) (a1 : Int) : Option (Int) := if (wrap64 (a1 - (l0.length : Int))) < 0 then (some (-1)) else (some (wrap64 (a1 - (l0.length : Int))))
def laws_szIntS.f (l0 : List Int) (a1 : Int) : Option (Int) := if (wrap64 (a1 - (l0.length : Int))) < 0 then (some (-1)) else (some (wrap64 (a1 - (l0.length : Int))))
def laws_szRefVal.f (a0_0 : Bool) (l0_1 : List Int) (a0_2 : Int) (a0_3 : Int) (a0_4 : Int) (a0_5 : Int) (a1 : Int) : Option (Int) := (laws_szIntS.f l0_1 a1).bind fun t102 => (if t102 < 0 then (some (-1)) else (some t102))
def laws_szRefValS.l0 : Nat → List (S83) → Int → Int → Option (Int)
  | 0, _, _, _ => none
  | k + 1, x0, x1, x5 => if x5 < (x0.length : Int) then (if 0 ≤ x5 then ((laws_szRefVal.f ((rd_T83 x0 x5).f0) ((rd_T83 x0 x5).f1) ((rd_T83 x0 x5).f2.f0) ((rd_T83 x0 x5).f2.f1) ((rd_T83 x0 x5).f2.f2) ((rd_T83 x0 x5).f2.f3) x1).bind fun t104 => (if t104 < 0 then (some (-1)) else (laws_szRefValS.l0 k x0 t104 (wrap64 (x5 + 1))))) else (none)) else (some x1)
def laws_szRefValS.f (k : Nat) (l0 : List (S83)) (a1 : Int) : Option (Int) := if (wrap64 (a1 - (l0.length : Int))) < 0 then (some (-1)) else (laws_szRefValS.l0 k l0 (wrap64 (a1 - (l0.length : Int))) 0)
def laws_szGaps.f (a0_0 : Int) (l0_1 : List Int) (a1 : Int) : Option (Int) := (laws_szIntS.f l0_1 a1).bind fun t106 => (if t106 < 0 then (some (-1)) else (some t106))
def laws_szAbs.f (k : Nat) (a0_0 : Bool) (l0_1 : List (S81)) (l0_2 : List (S83)) (l0_3 : List (S81)) (a0_4 : Int) (l0_5 : List Int) (a1 : Int) : Option (Int) := (laws_szValS.f l0_1 a1).bind fun t108 => (if t108 < 0 then (some (-1)) else ((laws_szRefValS.f k l0_2 t108).bind fun t109 => (if t109 < 0 then (some (-1)) else ((laws_szValS.f l0_3 t109).bind fun t110 => (if t110 < 0 then (some (-1)) else ((laws_szGaps.f a0_4 l0_5 t110).bind fun t111 => (if t111 < 0 then (some (-1)) else (some t111))))))))
def laws_szRefS.f (l0 : List (S72)) (a1 : Int) : Option (Int) := if (wrap64 (a1 - (l0.length : Int))) < 0 then (some (-1)) else (some (wrap64 (a1 - (l0.length : Int))))
def laws_szCells.f (l0_0 : List Int) (a1 : Int) : Option (Int) := (laws_szIntS.f l0_0 a1).bind fun t113 => (if t113 < 0 then (some (-1)) else (some t113))
def laws_szCellsS.l0 : Nat → List (S56) → Int → Int → Option (Int)
  | 0, _, _, _ => none
  | k + 1, x0, x1, x5 => if x5 < (x0.length : Int) then (if 0 ≤ x5 then ((laws_szCells.f ((rd_T56 x0 x5).f0) x1).bind fun t115 => (if t115 < 0 then (some (-1)) else (laws_szCellsS.l0 k x0 t115 (wrap64 (x5 + 1))))) else (none)) else (some x1)
def laws_szCellsS.f (k : Nat) (l0 : List (S56)) (a1 : Int) : Option (Int) := if (wrap64 (a1 - (l0.length : Int))) < 0 then (some (-1)) else (laws_szCellsS.l0 k l0 (wrap64 (a1 - (l0.length : Int))) 0)
def spec_l10None.f  : Option (Int × Int × Int × Int) := some (1, 0, 0, 0)
def spec_l10Range.f (a0_0 : Int) (a0_1 : Int) (a0_2 : Int) (a0_3 : Int) : Option (Int × Int) := some (a0_0, a0_1)
def spec_l10Rest.f (a0_0 : Int) (a0_1 : Int) (a0_2 : Int) (a0_3 : Int) : Option (Int × Int) := some (a0_2, a0_3)
def spec_l1In.f (a0 : Int) (a1 : Int) (a2 : Int) : Option (Bool) := if a0 ≥ a1 then (some (decide (a0 ≤ a2))) else (some false)
def spec_NumOk.f (a0 : Int) : Option (Bool) := (spec_l1In.f a0 (-2147483648) 2147483647).bind fun t121 => (some t121)
def spec_l8None.f  : Option (Int × Int) := some (1, 0)
def spec_RangeOk.f (a0_0 : Int) (a0_1 : Int) : Option (Bool) := (spec_l8None.f).bind fun bt124 => (if (a0_0 == bt124.1 && (a0_1 == bt124.2)) = true then (some true) else ((spec_NumOk.f a0_0).bind fun t126 => (if t126 = true then ((spec_NumOk.f a0_1).bind fun t127 => (if t127 = true then (some (decide (a0_0 ≤ a0_1))) else (some false))) else (some false))))
def spec_RestOk.f (a0_0 : Int) (a0_1 : Int) : Option (Bool) := if a0_0 = 0 then ((spec_NumOk.f a0_1).bind fun t129 => (some t129)) else ((spec_l1In.f a0_0 1 65536).bind fun t130 => (if t130 = true then ((spec_l1In.f a0_1 0 (wrap64 (a0_0 - 1))).bind fun t131 => (some t131)) else (some false)))
def spec_RangeHas.f (a0_0 : Int) (a0_1 : Int) (a1 : Int) : Option (Bool) := (spec_RangeOk.f a0_0 a0_1).bind fun t133 => (if t133 = true then ((spec_l1In.f a1 a0_0 a0_1).bind fun t134 => (some t134)) else (some false))
def spec_l1Mod.f (a0 : Int) (a1 : Int) : Option (Int) := if a1 = 0 then (none) else (if (Int.tmod a0 a1) < 0 then (some (wrap64 ((Int.tmod a0 a1) + a1))) else (some (Int.tmod a0 a1)))
def spec_l10One.f (a0 : Int) : Option (Int × Int × Int × Int) := some (a0, a0, 0, a0)
def spec_ValMake.j0 : Nat → Bool → Int → Int → Int → Int → Option (Int × Int × Int × Int)
  | 0, _, _, _, _, _ => none
  | k + 1, x19, x137000, x137001, x138000, x138001 => if x19 = true then ((spec_l10None.f).bind fun bt143 => (some (bt143.1, bt143.2.1, bt143.2.2.1, bt143.2.2.2))) else (if x138000 = 0 then ((spec_RangeHas.f x137000 x137001 x138001).bind fun t147 => (if t147 = true then ((spec_l10One.f x138001).bind fun bt148 => (some (bt148.1, bt148.2.1, bt148.2.2.1, bt148.2.2.2))) else ((spec_l10None.f).bind fun bt152 => (some (bt152.1, bt152.2.1, bt152.2.2.1, bt152.2.2.2))))) else ((spec_l1Mod.f (wrap64 (x138001 - x137000)) x138000).bind fun t156 => ((spec_l1Mod.f (wrap64 (x137001 - x138001)) x138000).bind fun t157 => (if (wrap64 (x137000 + t156)) > (wrap64 (x137001 - t157)) then ((spec_l10None.f).bind fun bt158 => (some (bt158.1, bt158.2.1, bt158.2.2.1, bt158.2.2.2))) else (if (wrap64 (x137000 + t156)) = (wrap64 (x137001 - t157)) then ((spec_l10One.f (wrap64 (x137000 + t156))).bind fun bt162 => (some (bt162.1, bt162.2.1, bt162.2.2.1, bt162.2.2.2))) else (some (wrap64 (x137000 + t156), wrap64 (x137001 - t157), x138000, x138001)))))))
def spec_ValMake.f (k : Nat) (a0_0 : Int) (a0_1 : Int) (a1_0 : Int) (a1_1 : Int) : Option (Int × Int × Int × Int) := (spec_RangeOk.f a0_0 a0_1).bind fun t139 => (if t139 = true then ((spec_RestOk.f a1_0 a1_1).bind fun t140 => (if t140 = true then ((spec_l8None.f).bind fun bt141 => (spec_ValMake.j0 k (a0_0 == bt141.1 && (a0_1 == bt141.2)) a0_0 a0_1 a1_0 a1_1)) else (spec_ValMake.j0 k true a0_0 a0_1 a1_0 a1_1))) else (spec_ValMake.j0 k true a0_0 a0_1 a1_0 a1_1))
def spec_ValOk.f (k : Nat) (a0_0 : Int) (a0_1 : Int) (a0_2 : Int) (a0_3 : Int) : Option (Bool) := (spec_l10None.f).bind fun bt167 => (if (a0_0 == bt167.1 && (a0_1 == bt167.2.1 && (a0_2 == bt167.2.2.1 && (a0_3 == bt167.2.2.2)))) = true then (some true) else ((spec_l10Range.f a0_0 a0_1 a0_2 a0_3).bind fun bt171 => ((spec_RangeOk.f bt171.1 bt171.2).bind fun t173 => (if t173 = true then ((spec_l10Rest.f a0_0 a0_1 a0_2 a0_3).bind fun bt174 => ((spec_RestOk.f bt174.1 bt174.2).bind fun t176 => (if t176 = true then ((spec_l10Range.f a0_0 a0_1 a0_2 a0_3).bind fun bt177 => ((spec_l10Rest.f a0_0 a0_1 a0_2 a0_3).bind fun bt179 => ((spec_ValMake.f k bt177.1 bt177.2 bt179.1 bt179.2).bind fun bt181 => (some (a0_0 == bt181.1 && (a0_1 == bt181.2.1 && (a0_2 == bt181.2.2.1 && (a0_3 == bt181.2.2.2)))))))) else (some false)))) else (some false)))))
mutual
def spec_l12RefOk.j0 : Nat → Bool → Bool → List Int → Int → Int → Int → Int → Option (Bool)
  | 0, _, _, _, _, _, _, _ => none
  | k + 1, x29, x186000, x186001, x186002, x186003, x186004, x186005 => if x29 = true then (some false) else (spec_l12RefOk.l0 k 0 x186000 x186001 x186002 x186003 x186004 x186005)
def spec_l12RefOk.l0 : Nat → Int → Bool → List Int → Int → Int → Int → Int → Option (Bool)
  | 0, _, _, _, _, _, _, _ => none
  | k + 1, x3, x186000, x186001, x186002, x186003, x186004, x186005 => if x3 < (x186001.length : Int) then (if 0 ≤ x3 then (if (rd x186001 x3) < 0 then (some false) else (if x3 > 0 then (if 0 ≤ (wrap64 (x3 - 1)) then (if (wrap64 (x3 - 1)) < (x186001.length : Int) then (if (rd x186001 (wrap64 (x3 - 1))) ≥ (rd x186001 x3) then (some false) else (spec_l12RefOk.l0 k (wrap64 (x3 + 1)) x186000 x186001 x186002 x186003 x186004 x186005)) else (none)) else (none)) else (spec_l12RefOk.l0 k (wrap64 (x3 + 1)) x186000 x186001 x186002 x186003 x186004 x186005))) else (none)) else (some true)
end
def spec_l12RefOk.f (k : Nat) (a0_0 : Bool) (l0_1 : List Int) (a0_2 : Int) (a0_3 : Int) (a0_4 : Int) (a0_5 : Int) : Option (Bool) := (spec_ValOk.f k a0_2 a0_3 a0_4 a0_5).bind fun t186 => (if t186 = true then ((spec_l10None.f).bind fun bt187 => (if (((l0_1.length : Int) == 0) != (a0_2 == bt187.1 && (a0_3 == bt187.2.1 && (a0_4 == bt187.2.2.1 && (a0_5 == bt187.2.2.2))))) = true then (spec_l12RefOk.j0 k true a0_0 l0_1 a0_2 a0_3 a0_4 a0_5) else (if a0_0 = true then (spec_l12RefOk.j0 k false a0_0 l0_1 a0_2 a0_3 a0_4 a0_5) else (spec_l12RefOk.j0 k ((l0_1.length : Int) == 0) a0_0 l0_1 a0_2 a0_3 a0_4 a0_5)))) else (spec_l12RefOk.j0 k true a0_0 l0_1 a0_2 a0_3 a0_4 a0_5))
def spec_l12Vals.l0 : Nat → List (S60) → Int → Option (Bool)
  | 0, _, _ => none
  | k + 1, x0, x3 => if x3 < (x0.length : Int) then (if 0 ≤ x3 then ((spec_ValOk.f k ((rd_T60 x0 x3).f0) ((rd_T60 x0 x3).f1) ((rd_T60 x0 x3).f2) ((rd_T60 x0 x3).f3)).bind fun t195 => (if t195 = true then ((spec_l10None.f).bind fun bt197 => (if (((rd_T60 x0 x3).f0) == bt197.1 && (((rd_T60 x0 x3).f1) == bt197.2.1 && (((rd_T60 x0 x3).f2) == bt197.2.2.1 && (((rd_T60 x0 x3).f3) == bt197.2.2.2)))) = true then (some false) else (spec_l12Vals.l0 k x0 (wrap64 (x3 + 1))))) else (some false))) else (none)) else (some true)
def spec_l12Vals.f (k : Nat) (l0 : List (S60)) : Option (Bool) := spec_l12Vals.l0 k l0 0
def spec_l11At.f (a0_0 : Int) (l0_1 : List Int) (a1 : Int) (a2 : Int) : Option (Int) := if 0 ≤ (wrap64 ((wrap64 (a1 * (wrap64 (a0_0 + 1)))) + a2)) then (if (wrap64 ((wrap64 (a1 * (wrap64 (a0_0 + 1)))) + a2)) < (l0_1.length : Int) then (some (rd l0_1 (wrap64 ((wrap64 (a1 * (wrap64 (a0_0 + 1)))) + a2)))) else (none)) else (none)
mutual
def spec_GapsOk.j0 : Nat → Bool → Int → List Int → Option (Bool)
  | 0, _, _, _ => none
  | k + 1, x22, x204000, x204001 => if x22 = true then (some false) else (spec_GapsOk.l0 k 0 x204000 x204001)
def spec_GapsOk.l0 : Nat → Int → Int → List Int → Option (Bool)
  | 0, _, _, _ => none
  | k + 1, x3, x204000, x204001 => if x3 ≤ x204000 then (spec_GapsOk.l1 k x3 0 x204000 x204001) else (some true)
def spec_GapsOk.l1 : Nat → Int → Int → Int → List Int → Option (Bool)
  | 0, _, _, _, _ => none
  | k + 1, x3, x4, x204000, x204001 => if x4 ≤ x204000 then ((spec_l11At.f x204000 x204001 x3 x4).bind fun t205 => ((spec_l1In.f t205 (-1099511627776) 1099511627776).bind fun t206 => (if t206 = true then (if x3 = x4 then (if t205 = 0 then (spec_GapsOk.l1 k x3 (wrap64 (x4 + 1)) x204000 x204001) else (some false)) else (spec_GapsOk.l1 k x3 (wrap64 (x4 + 1)) x204000 x204001)) else (some false)))) else (spec_GapsOk.l0 k (wrap64 (x3 + 1)) x204000 x204001)
end
def spec_GapsOk.f (k : Nat) (a0_0 : Int) (l0_1 : List Int) : Option (Bool) := (spec_l1In.f a0_0 0 12).bind fun t204 => (if t204 = true then (spec_GapsOk.j0 k ((l0_1.length : Int) != (wrap64 ((wrap64 (a0_0 + 1)) * (wrap64 (a0_0 + 1))))) a0_0 l0_1) else (spec_GapsOk.j0 k true a0_0 l0_1))
def spec_AbsOk.l0 : Nat → Int → Bool → List (S60) → List (S63) → List (S60) → Int → List Int → Option (Bool)
  | 0, _, _, _, _, _, _, _ => none
  | k + 1, x3, x208000, x208001, x208002, x208003, x208004, x208005 => if x3 < (x208002.length : Int) then (if 0 ≤ x3 then ((spec_l12RefOk.f k ((rd_T63 x208002 x3).f0) ((rd_T63 x208002 x3).f1) ((rd_T63 x208002 x3).f2.f0) ((rd_T63 x208002 x3).f2.f1) ((rd_T63 x208002 x3).f2.f2) ((rd_T63 x208002 x3).f2.f3)).bind fun t209 => (if t209 = true then (spec_AbsOk.l0 k (wrap64 (x3 + 1)) x208000 x208001 x208002 x208003 x208004 x208005) else (some false))) else (none)) else ((spec_l12Vals.f k x208001).bind fun t210 => (if t210 = true then ((spec_l12Vals.f k x208003).bind fun t211 => (if t211 = true then ((spec_GapsOk.f k x208004 x208005).bind fun t212 => (if t212 = true then (some (x208004 == (x208001.length : Int))) else (some false))) else (some false))) else (some false)))
def spec_AbsOk.f (k : Nat) (a0_0 : Bool) (l0_1 : List (S60)) (l0_2 : List (S63)) (l0_3 : List (S60)) (a0_4 : Int) (l0_5 : List Int) : Option (Bool) := if a0_0 = true then (spec_AbsOk.l0 k 0 a0_0 l0_1 l0_2 l0_3 a0_4 l0_5) else (if (l0_1.length : Int) = 0 then (if (l0_2.length : Int) = 0 then (if (l0_3.length : Int) = 0 then (if a0_4 = 0 then (some ((l0_5.length : Int) == 0)) else (some false)) else (some false)) else (some false)) else (some false))
def spec_RestHas.j0 : Nat → Int → Bool → Int → Int → Option (Bool)
  | 0, _, _, _, _ => none
  | k + 1, x1, x12, x214000, x214001 => if x12 = true then (some false) else (if x214000 = 0 then (some (x1 == x214001)) else ((spec_l1Mod.f x1 x214000).bind fun t216 => (some (t216 == x214001))))
def spec_RestHas.f (k : Nat) (a0_0 : Int) (a0_1 : Int) (a1 : Int) : Option (Bool) := (spec_RestOk.f a0_0 a0_1).bind fun t214 => (if t214 = true then ((spec_NumOk.f a1).bind fun t215 => (spec_RestHas.j0 k a1 (!t215) a0_0 a0_1)) else (spec_RestHas.j0 k a1 true a0_0 a0_1))
def spec_ValHas.f (k : Nat) (a0_0 : Int) (a0_1 : Int) (a0_2 : Int) (a0_3 : Int) (a1 : Int) : Option (Bool) := (spec_ValOk.f k a0_0 a0_1 a0_2 a0_3).bind fun t218 => (if t218 = true then ((spec_l10None.f).bind fun bt219 => (if (!(a0_0 == bt219.1) || (!(a0_1 == bt219.2.1) || (!(a0_2 == bt219.2.2.1) || (!(a0_3 == bt219.2.2.2))))) = true then ((spec_l10Range.f a0_0 a0_1 a0_2 a0_3).bind fun bt223 => ((spec_RangeHas.f bt223.1 bt223.2 a1).bind fun t225 => (if t225 = true then ((spec_l10Rest.f a0_0 a0_1 a0_2 a0_3).bind fun bt226 => ((spec_RestHas.f k bt226.1 bt226.2 a1).bind fun t228 => (some t228))) else (some false)))) else (some false))) else (some false))
def spec_l12Place.l0 : Nat → List Int → Int → Int → Option (Int)
  | 0, _, _, _ => none
  | k + 1, x0, x1, x5 => if x5 < (x0.length : Int) then (if 0 ≤ x5 then (if (rd x0 x5) = x1 then (some x5) else (spec_l12Place.l0 k x0 x1 (wrap64 (x5 + 1)))) else (none)) else (some (-1))
def spec_l12Place.f (k : Nat) (l0 : List Int) (a1 : Int) : Option (Int) := spec_l12Place.l0 k l0 a1 0
def spec_l12RefHas.f (k : Nat) (a0_0 : Bool) (l0_1 : List Int) (a0_2 : Int) (a0_3 : Int) (a0_4 : Int) (a0_5 : Int) (a1_0 : Int) (a1_1 : Int) : Option (Bool) := if a1_0 < 0 then (some a0_0) else ((spec_l12Place.f k l0_1 a1_0).bind fun t232 => (if t232 ≥ 0 then ((spec_ValHas.f k a0_2 a0_3 a0_4 a0_5 a1_1).bind fun t233 => (some t233)) else (some false)))
def spec_l11Num.f (l0 : List Int) (a1 : Int) : Option (Int) := if a1 = 0 then (some 0) else (if 0 ≤ (wrap64 (a1 - 1)) then (if (wrap64 (a1 - 1)) < (l0.length : Int) then (some (rd l0 (wrap64 (a1 - 1)))) else (none)) else (none))
mutual
def spec_GapsHas.j0 : Nat → List Int → Bool → Int → List Int → Option (Bool)
  | 0, _, _, _, _ => none
  | k + 1, x1, x17, x236000, x236001 => if x17 = true then (some false) else (spec_GapsHas.l0 k x1 0 x236000 x236001)
def spec_GapsHas.l0 : Nat → List Int → Int → Int → List Int → Option (Bool)
  | 0, _, _, _, _ => none
  | k + 1, x1, x5, x236000, x236001 => if x5 < (x1.length : Int) then (if 0 ≤ x5 then ((spec_NumOk.f (rd x1 x5)).bind fun t238 => (if t238 = true then (spec_GapsHas.l0 k x1 (wrap64 (x5 + 1)) x236000 x236001) else (some false))) else (none)) else (spec_GapsHas.l1 k x1 0 x236000 x236001)
def spec_GapsHas.l1 : Nat → List Int → Int → Int → List Int → Option (Bool)
  | 0, _, _, _, _ => none
  | k + 1, x1, x6, x236000, x236001 => if x6 ≤ x236000 then (spec_GapsHas.l2 k x1 x6 0 x236000 x236001) else (some true)
def spec_GapsHas.l2 : Nat → List Int → Int → Int → Int → List Int → Option (Bool)
  | 0, _, _, _, _, _ => none
  | k + 1, x1, x6, x7, x236000, x236001 => if x7 ≤ x236000 then ((spec_l11Num.f x1 x6).bind fun t239 => ((spec_l11Num.f x1 x7).bind fun t240 => ((spec_l11At.f x236000 x236001 x6 x7).bind fun t241 => (if (wrap64 (t239 - t240)) > t241 then (some false) else (spec_GapsHas.l2 k x1 x6 (wrap64 (x7 + 1)) x236000 x236001))))) else (spec_GapsHas.l1 k x1 (wrap64 (x6 + 1)) x236000 x236001)
end
def spec_GapsHas.f (k : Nat) (a0_0 : Int) (l0_1 : List Int) (l1 : List Int) : Option (Bool) := (spec_GapsOk.f k a0_0 l0_1).bind fun t236 => (if t236 = true then (spec_GapsHas.j0 k l1 ((l1.length : Int) != a0_0) a0_0 l0_1) else (spec_GapsHas.j0 k l1 true a0_0 l0_1))
mutual
def spec_AbsHas.j0 : Nat → List Int → List (S65) → List (S66) → Bool → Bool → List (S60) → List (S63) → List (S60) → Int → List Int → Option (Bool)
  | 0, _, _, _, _, _, _, _, _, _, _ => none
  | k + 1, x1, x2, x3, x44, x243000, x243001, x243002, x243003, x243004, x243005 => if x44 = true then (some false) else (spec_AbsHas.l0 k x1 x2 x3 0 x243000 x243001 x243002 x243003 x243004 x243005)
def spec_AbsHas.l0 : Nat → List Int → List (S65) → List (S66) → Int → Bool → List (S60) → List (S63) → List (S60) → Int → List Int → Option (Bool)
  | 0, _, _, _, _, _, _, _, _, _, _ => none
  | k + 1, x1, x2, x3, x9, x243000, x243001, x243002, x243003, x243004, x243005 => if x9 < (x1.length : Int) then (if 0 ≤ x9 then (if x9 < (x243001.length : Int) then ((spec_ValHas.f k ((rd_T60 x243001 x9).f0) ((rd_T60 x243001 x9).f1) ((rd_T60 x243001 x9).f2) ((rd_T60 x243001 x9).f3) (rd x1 x9)).bind fun t246 => (if t246 = true then (spec_AbsHas.l0 k x1 x2 x3 (wrap64 (x9 + 1)) x243000 x243001 x243002 x243003 x243004 x243005) else (some false))) else (none)) else (none)) else (spec_AbsHas.l1 k x1 x2 x3 0 x243000 x243001 x243002 x243003 x243004 x243005)
def spec_AbsHas.l1 : Nat → List Int → List (S65) → List (S66) → Int → Bool → List (S60) → List (S63) → List (S60) → Int → List Int → Option (Bool)
  | 0, _, _, _, _, _, _, _, _, _, _ => none
  | k + 1, x1, x2, x3, x10, x243000, x243001, x243002, x243003, x243004, x243005 => if x10 < (x2.length : Int) then (if 0 ≤ x10 then (if x10 < (x243002.length : Int) then ((spec_l12RefHas.f k ((rd_T63 x243002 x10).f0) ((rd_T63 x243002 x10).f1) ((rd_T63 x243002 x10).f2.f0) ((rd_T63 x243002 x10).f2.f1) ((rd_T63 x243002 x10).f2.f2) ((rd_T63 x243002 x10).f2.f3) ((rd_T65 x2 x10).f0) ((rd_T65 x2 x10).f1)).bind fun t249 => (if t249 = true then (spec_AbsHas.l1 k x1 x2 x3 (wrap64 (x10 + 1)) x243000 x243001 x243002 x243003 x243004 x243005) else (some false))) else (none)) else (none)) else (spec_AbsHas.l2 k x1 x3 0 x243000 x243001 x243002 x243003 x243004 x243005)
def spec_AbsHas.l2 : Nat → List Int → List (S66) → Int → Bool → List (S60) → List (S63) → List (S60) → Int → List Int → Option (Bool)
  | 0, _, _, _, _, _, _, _, _, _ => none
  | k + 1, x1, x3, x11, x243000, x243001, x243002, x243003, x243004, x243005 => if x11 < (x3.length : Int) then (spec_AbsHas.l3 k x1 x3 x11 0 x243000 x243001 x243002 x243003 x243004 x243005) else ((spec_GapsHas.f k x243004 x243005 x1).bind fun t250 => (some t250))
def spec_AbsHas.l3 : Nat → List Int → List (S66) → Int → Int → Bool → List (S60) → List (S63) → List (S60) → Int → List Int → Option (Bool)
  | 0, _, _, _, _, _, _, _, _, _, _ => none
  | k + 1, x1, x3, x11, x12, x243000, x243001, x243002, x243003, x243004, x243005 => if 0 ≤ x11 then (if x11 < (x3.length : Int) then (if x12 < (((rd_T66 x3 x11).f0).length : Int) then (if x11 < (x243003.length : Int) then (if 0 ≤ x12 then ((spec_ValHas.f k ((rd_T60 x243003 x11).f0) ((rd_T60 x243003 x11).f1) ((rd_T60 x243003 x11).f2) ((rd_T60 x243003 x11).f3) (rd ((rd_T66 x3 x11).f0) x12)).bind fun t255 => (if t255 = true then (spec_AbsHas.l3 k x1 x3 x11 (wrap64 (x12 + 1)) x243000 x243001 x243002 x243003 x243004 x243005) else (some false))) else (none)) else (none)) else (spec_AbsHas.l2 k x1 x3 (wrap64 (x11 + 1)) x243000 x243001 x243002 x243003 x243004 x243005)) else (none)) else (none)
end
def spec_AbsHas.f (k : Nat) (a0_0 : Bool) (l0_1 : List (S60)) (l0_2 : List (S63)) (l0_3 : List (S60)) (a0_4 : Int) (l0_5 : List Int) (l1 : List Int) (l2 : List (S65)) (l3 : List (S66)) : Option (Bool) := (spec_AbsOk.f k a0_0 l0_1 l0_2 l0_3 a0_4 l0_5).bind fun t243 => (if t243 = true then (if a0_0 = true then (if (l1.length : Int) = (l0_1.length : Int) then (if (l2.length : Int) = (l0_2.length : Int) then (spec_AbsHas.j0 k l1 l2 l3 ((l3.length : Int) != (l0_3.length : Int)) a0_0 l0_1 l0_2 l0_3 a0_4 l0_5) else (spec_AbsHas.j0 k l1 l2 l3 true a0_0 l0_1 l0_2 l0_3 a0_4 l0_5)) else (spec_AbsHas.j0 k l1 l2 l3 true a0_0 l0_1 l0_2 l0_3 a0_4 l0_5)) else (spec_AbsHas.j0 k l1 l2 l3 true a0_0 l0_1 l0_2 l0_3 a0_4 l0_5)) else (spec_AbsHas.j0 k l1 l2 l3 true a0_0 l0_1 l0_2 l0_3 a0_4 l0_5))
def laws_toVal.f (a0_0 : Int) (a0_1 : Int) (a0_2 : Int) (a0_3 : Int) : Option (Int × Int × Int × Int) := some (a0_0, a0_1, a0_2, a0_3)
def laws_toValS.l0 : Nat → List (S81) → List (S60) → Int → Option ((List (S60)))
  | 0, _, _, _ => none
  | k + 1, x0, x3, x4 => if x4 < (x0.length : Int) then (if 0 ≤ x4 then ((laws_toVal.f ((rd_T81 x0 x4).f0) ((rd_T81 x0 x4).f1) ((rd_T81 x0 x4).f2) ((rd_T81 x0 x4).f3)).bind fun bt263 => (if x4 < (x3.length : Int) then (laws_toValS.l0 k x0 (x3.set (x4 : Int).toNat (⟨bt263.1, bt263.2.1, bt263.2.2.1, bt263.2.2.2⟩ : S60)) (wrap64 (x4 + 1))) else (none))) else (none)) else (some x3)
def laws_toValS.f (k : Nat) (l0 : List (S81)) : Option ((List (S60))) := if 0 ≤ (l0.length : Int) then (if ((l0.length : Int) : Int).toNat ≤ 8796093022208 then (laws_toValS.l0 k l0 (List.replicate ((l0.length : Int) : Int).toNat z60) 0) else (none)) else (none)
def laws_toIntS.l0 : Nat → List Int → List Int → Int → Option (List Int)
  | 0, _, _, _ => none
  | k + 1, x0, x3, x4 => if x4 < (x0.length : Int) then (if 0 ≤ x4 then (if x4 < (x3.length : Int) then (laws_toIntS.l0 k x0 (x3.set (x4 : Int).toNat (rd x0 x4)) (wrap64 (x4 + 1))) else (none)) else (none)) else (some x3)
def laws_toIntS.f (k : Nat) (l0 : List Int) : Option (List Int) := if 0 ≤ (l0.length : Int) then (if ((l0.length : Int) : Int).toNat ≤ 35184372088832 then (laws_toIntS.l0 k l0 (List.replicate ((l0.length : Int) : Int).toNat 0) 0) else (none)) else (none)
def laws_toRefVal.f (k : Nat) (a0_0 : Bool) (l0_1 : List Int) (a0_2 : Int) (a0_3 : Int) (a0_4 : Int) (a0_5 : Int) : Option (Bool × List Int × Int × Int × Int × Int) := (laws_toIntS.f k l0_1).bind fun t276 => ((laws_toVal.f a0_2 a0_3 a0_4 a0_5).bind fun bt279 => (some (a0_0, t276, bt279.1, bt279.2.1, bt279.2.2.1, bt279.2.2.2)))
def laws_toRefValS.l0 : Nat → List (S83) → List (S63) → Int → Option ((List (S63)))
  | 0, _, _, _ => none
  | k + 1, x0, x3, x4 => if x4 < (x0.length : Int) then (if 0 ≤ x4 then ((laws_toRefVal.f k ((rd_T83 x0 x4).f0) ((rd_T83 x0 x4).f1) ((rd_T83 x0 x4).f2.f0) ((rd_T83 x0 x4).f2.f1) ((rd_T83 x0 x4).f2.f2) ((rd_T83 x0 x4).f2.f3)).bind fun bt287 => (if x4 < (x3.length : Int) then (laws_toRefValS.l0 k x0 (x3.set (x4 : Int).toNat (⟨bt287.1, bt287.2.1, (⟨bt287.2.2.1, bt287.2.2.2.1, bt287.2.2.2.2.1, bt287.2.2.2.2.2⟩ : S60)⟩ : S63)) (wrap64 (x4 + 1))) else (none))) else (none)) else (some x3)
def laws_toRefValS.f (k : Nat) (l0 : List (S83)) : Option ((List (S63))) := if 0 ≤ (l0.length : Int) then (if ((l0.length : Int) : Int).toNat ≤ 4398046511104 then (laws_toRefValS.l0 k l0 (List.replicate ((l0.length : Int) : Int).toNat z63) 0) else (none)) else (none)
def laws_toGaps.f (k : Nat) (a0_0 : Int) (l0_1 : List Int) : Option (Int × List Int) := (laws_toIntS.f k l0_1).bind fun t299 => (some (a0_0, t299))
def laws_toAbs.f (k : Nat) (a0_0 : Bool) (l0_1 : List (S81)) (l0_2 : List (S83)) (l0_3 : List (S81)) (a0_4 : Int) (l0_5 : List Int) : Option (Bool × (List (S60)) × (List (S63)) × (List (S60)) × Int × List Int) := (laws_toValS.f k l0_1).bind fun t305 => ((laws_toRefValS.f k l0_2).bind fun t308 => ((laws_toValS.f k l0_3).bind fun t311 => ((laws_toGaps.f k a0_4 l0_5).bind fun bt314 => (some (a0_0, t305, t308, t311, bt314.1, bt314.2)))))
def laws_toRef.f (a0_0 : Int) (a0_1 : Int) : Option (Int × Int) := some (a0_0, a0_1)
def laws_toRefS.l0 : Nat → List (S72) → List (S65) → Int → Option ((List (S65)))
  | 0, _, _, _ => none
  | k + 1, x0, x3, x4 => if x4 < (x0.length : Int) then (if 0 ≤ x4 then ((laws_toRef.f ((rd_T72 x0 x4).f0) ((rd_T72 x0 x4).f1)).bind fun bt325 => (if x4 < (x3.length : Int) then (laws_toRefS.l0 k x0 (x3.set (x4 : Int).toNat (⟨bt325.1, bt325.2⟩ : S65)) (wrap64 (x4 + 1))) else (none))) else (none)) else (some x3)
def laws_toRefS.f (k : Nat) (l0 : List (S72)) : Option ((List (S65))) := if 0 ≤ (l0.length : Int) then (if ((l0.length : Int) : Int).toNat ≤ 17592186044416 then (laws_toRefS.l0 k l0 (List.replicate ((l0.length : Int) : Int).toNat z65) 0) else (none)) else (none)
def laws_toCells.f (k : Nat) (l0_0 : List Int) : Option (List Int) := (laws_toIntS.f k l0_0).bind fun t331 => (some t331)
def laws_toCellsS.l0 : Nat → List (S56) → List (S66) → Int → Option ((List (S66)))
  | 0, _, _, _ => none
  | k + 1, x0, x3, x4 => if x4 < (x0.length : Int) then (if 0 ≤ x4 then ((laws_toCells.f k ((rd_T56 x0 x4).f0)).bind fun t338 => (if x4 < (x3.length : Int) then (laws_toCellsS.l0 k x0 (x3.set (x4 : Int).toNat (⟨t338⟩ : S66)) (wrap64 (x4 + 1))) else (none))) else (none)) else (some x3)
def laws_toCellsS.f (k : Nat) (l0 : List (S56)) : Option ((List (S66))) := if 0 ≤ (l0.length : Int) then (if ((l0.length : Int) : Int).toNat ≤ 11728124029610 then (laws_toCellsS.l0 k l0 (List.replicate ((l0.length : Int) : Int).toNat z66) 0) else (none)) else (none)
def impl_valNone.f  : Option (Int × Int × Int × Int) := some (1, 0, 0, 0)
def impl_Val_none.f (a0_0 : Int) (a0_1 : Int) (a0_2 : Int) (a0_3 : Int) : Option (Bool) := (impl_valNone.f).bind fun bt344 => (some (a0_0 == bt344.1 && (a0_1 == bt344.2.1 && (a0_2 == bt344.2.2.1 && (a0_3 == bt344.2.2.2)))))
def impl_Val_span.f (a0_0 : Int) (a0_1 : Int) (a0_2 : Int) (a0_3 : Int) : Option (Int × Int) := some (a0_0, a0_1)
def impl_Val_rest.f (a0_0 : Int) (a0_1 : Int) (a0_2 : Int) (a0_3 : Int) : Option (Int × Int) := some (a0_2, a0_3)
def impl_NumOk.f (a0 : Int) : Option (Bool) := if a0 ≥ (-2147483648) then (some (decide (a0 ≤ 2147483647))) else (some false)
def impl_rangeNone.f  : Option (Int × Int) := some (1, 0)
def impl_RangeOk.f (a0_0 : Int) (a0_1 : Int) : Option (Bool) := (impl_rangeNone.f).bind fun bt354 => (if (a0_0 == bt354.1 && (a0_1 == bt354.2)) = true then (some true) else ((impl_NumOk.f a0_0).bind fun t356 => (if t356 = true then ((impl_NumOk.f a0_1).bind fun t357 => (if t357 = true then (some (decide (a0_0 ≤ a0_1))) else (some false))) else (some false))))
def impl_RangeHas.f (a0_0 : Int) (a0_1 : Int) (a1 : Int) : Option (Bool) := (impl_RangeOk.f a0_0 a0_1).bind fun t359 => (if t359 = true then (if a0_0 ≤ a1 then (some (decide (a1 ≤ a0_1))) else (some false)) else (some false))
def impl_RestOk.f (a0_0 : Int) (a0_1 : Int) : Option (Bool) := if a0_0 = 0 then ((impl_NumOk.f a0_1).bind fun t361 => (some t361)) else (if a0_0 ≥ 1 then (if a0_0 ≤ 65536 then (if a0_1 ≥ 0 then (some (decide (a0_1 < a0_0))) else (some false)) else (some false)) else (some false))
def impl_restMod.f (a0 : Int) (a1 : Int) : Option (Int) := if a1 = 0 then (none) else (if (Int.tmod a0 a1) < 0 then (some (wrap64 ((Int.tmod a0 a1) + a1))) else (some (Int.tmod a0 a1)))
def impl_Range_empty.f (a0_0 : Int) (a0_1 : Int) : Option (Bool) := some (decide (a0_0 > a0_1))
def impl_valOne.f (a0 : Int) : Option (Int × Int × Int × Int) := some (a0, a0, 0, a0)
def impl_ValMake.j0 : Nat → Bool → Int → Int → Int → Int → Option (Int × Int × Int × Int)
  | 0, _, _, _, _, _ => none
  | k + 1, x18, x365000, x365001, x366000, x366001 => if x18 = true then ((impl_valNone.f).bind fun bt370 => (some (bt370.1, bt370.2.1, bt370.2.2.1, bt370.2.2.2))) else (if x366000 = 0 then ((impl_RangeHas.f x365000 x365001 x366001).bind fun t374 => (if t374 = true then ((impl_valOne.f x366001).bind fun bt375 => (some (bt375.1, bt375.2.1, bt375.2.2.1, bt375.2.2.2))) else ((impl_valNone.f).bind fun bt379 => (some (bt379.1, bt379.2.1, bt379.2.2.1, bt379.2.2.2))))) else ((impl_restMod.f (wrap64 (x366001 - x365000)) x366000).bind fun t383 => ((impl_restMod.f (wrap64 (x365001 - x366001)) x366000).bind fun t384 => (if (wrap64 (x365000 + t383)) > (wrap64 (x365001 - t384)) then ((impl_valNone.f).bind fun bt385 => (some (bt385.1, bt385.2.1, bt385.2.2.1, bt385.2.2.2))) else (if (wrap64 (x365000 + t383)) = (wrap64 (x365001 - t384)) then ((impl_valOne.f (wrap64 (x365000 + t383))).bind fun bt389 => (some (bt389.1, bt389.2.1, bt389.2.2.1, bt389.2.2.2))) else (some (wrap64 (x365000 + t383), wrap64 (x365001 - t384), x366000, x366001)))))))
def impl_ValMake.f (k : Nat) (a0_0 : Int) (a0_1 : Int) (a1_0 : Int) (a1_1 : Int) : Option (Int × Int × Int × Int) := (impl_RangeOk.f a0_0 a0_1).bind fun t367 => (if t367 = true then ((impl_RestOk.f a1_0 a1_1).bind fun t368 => (if t368 = true then ((impl_Range_empty.f a0_0 a0_1).bind fun t369 => (impl_ValMake.j0 k t369 a0_0 a0_1 a1_0 a1_1)) else (impl_ValMake.j0 k true a0_0 a0_1 a1_0 a1_1))) else (impl_ValMake.j0 k true a0_0 a0_1 a1_0 a1_1))
def impl_ValOk.f (k : Nat) (a0_0 : Int) (a0_1 : Int) (a0_2 : Int) (a0_3 : Int) : Option (Bool) := (impl_Val_span.f a0_0 a0_1 a0_2 a0_3).bind fun bt394 => ((impl_Val_rest.f a0_0 a0_1 a0_2 a0_3).bind fun bt396 => ((impl_ValMake.f k bt394.1 bt394.2 bt396.1 bt396.2).bind fun bt398 => (some (a0_0 == bt398.1 && (a0_1 == bt398.2.1 && (a0_2 == bt398.2.2.1 && (a0_3 == bt398.2.2.2)))))))
mutual
def impl_refOk.j0 : Nat → Bool → Bool → List Int → Int → Int → Int → Int → Option (Bool)
  | 0, _, _, _, _, _, _, _ => none
  | k + 1, x19, x403000, x403001, x403002, x403003, x403004, x403005 => if x19 = true then (some false) else (impl_refOk.l0 k (-1) x403001 (x403001.length : Int) 0 x403000 x403001 x403002 x403003 x403004 x403005)
def impl_refOk.l0 : Nat → Int → List Int → Int → Int → Bool → List Int → Int → Int → Int → Int → Option (Bool)
  | 0, _, _, _, _, _, _, _, _, _, _ => none
  | k + 1, x3, x21, x22, x23, x403000, x403001, x403002, x403003, x403004, x403005 => if x23 < x22 then (if 0 ≤ x23 then (if x23 < (x21.length : Int) then (if (rd x21 x23) ≤ x3 then (some false) else (impl_refOk.l0 k (rd x21 x23) x21 x22 (wrap64 (x23 + 1)) x403000 x403001 x403002 x403003 x403004 x403005)) else (none)) else (none)) else (if x403000 = true then (some true) else (some (decide ((x403001.length : Int) > 0))))
end
def impl_refOk.f (k : Nat) (a0_0 : Bool) (l0_1 : List Int) (a0_2 : Int) (a0_3 : Int) (a0_4 : Int) (a0_5 : Int) : Option (Bool) := (impl_ValOk.f k a0_2 a0_3 a0_4 a0_5).bind fun t403 => (if t403 = true then ((impl_Val_none.f a0_2 a0_3 a0_4 a0_5).bind fun t404 => (impl_refOk.j0 k (t404 != ((l0_1.length : Int) == 0)) a0_0 l0_1 a0_2 a0_3 a0_4 a0_5)) else (impl_refOk.j0 k true a0_0 l0_1 a0_2 a0_3 a0_4 a0_5))
def impl_Gaps_at.f (a0_0 : Int) (l0_1 : List Int) (a1 : Int) (a2 : Int) : Option (Int) := some (wrap64 ((wrap64 (a1 * (wrap64 (a0_0 + 1)))) + a2))
mutual
def impl_GapsOk.j0 : Nat → Bool → Int → List Int → Option (Bool)
  | 0, _, _, _ => none
  | k + 1, x26, x408000, x408001 => if x26 = true then (some false) else (impl_GapsOk.l0 k (wrap64 (x408000 + 1)) 0 x408000 x408001)
def impl_GapsOk.l0 : Nat → Int → Int → Int → List Int → Option (Bool)
  | 0, _, _, _, _ => none
  | k + 1, x29, x30, x408000, x408001 => if x30 < x29 then ((impl_Gaps_at.f x408000 x408001 x30 x30).bind fun t408 => (if 0 ≤ t408 then (if t408 < (x408001.length : Int) then (if (rd x408001 t408) = 0 then (impl_GapsOk.l0 k x29 (wrap64 (x30 + 1)) x408000 x408001) else (some false)) else (none)) else (none))) else (impl_GapsOk.l1 k x408001 (x408001.length : Int) 0)
def impl_GapsOk.l1 : Nat → List Int → Int → Int → Option (Bool)
  | 0, _, _, _ => none
  | k + 1, x44, x45, x46 => if x46 < x45 then (if 0 ≤ x46 then (if x46 < (x44.length : Int) then (if (rd x44 x46) < (-1099511627776) then (some false) else (if (rd x44 x46) > 1099511627776 then (some false) else (impl_GapsOk.l1 k x44 x45 (wrap64 (x46 + 1))))) else (none)) else (none)) else (some true)
end
def impl_GapsOk.f (k : Nat) (a0_0 : Int) (l0_1 : List Int) : Option (Bool) := if a0_0 < 0 then (impl_GapsOk.j0 k true a0_0 l0_1) else (if a0_0 > 12 then (impl_GapsOk.j0 k true a0_0 l0_1) else (impl_GapsOk.j0 k ((l0_1.length : Int) != (wrap64 ((wrap64 (a0_0 + 1)) * (wrap64 (a0_0 + 1))))) a0_0 l0_1))
mutual
def impl_AbsOk.l0 : Nat → List (S60) → Int → Int → Bool → List (S60) → List (S63) → List (S60) → Int → List Int → Option (Bool)
  | 0, _, _, _, _, _, _, _, _, _ => none
  | k + 1, x42, x43, x44, x412000, x412001, x412002, x412003, x412004, x412005 => if x44 < x43 then (if 0 ≤ x44 then (if x44 < (x42.length : Int) then ((impl_Val_none.f ((rd_T60 x42 x44).f0) ((rd_T60 x42 x44).f1) ((rd_T60 x42 x44).f2) ((rd_T60 x42 x44).f3)).bind fun t414 => (if t414 = true then (some false) else ((impl_ValOk.f k ((rd_T60 x42 x44).f0) ((rd_T60 x42 x44).f1) ((rd_T60 x42 x44).f2) ((rd_T60 x42 x44).f3)).bind fun t415 => (if t415 = true then (impl_AbsOk.l0 k x42 x43 (wrap64 (x44 + 1)) x412000 x412001 x412002 x412003 x412004 x412005) else (some false))))) else (none)) else (none)) else (impl_AbsOk.l1 k x412003 (x412003.length : Int) 0 x412000 x412001 x412002 x412003 x412004 x412005)
def impl_AbsOk.l1 : Nat → List (S60) → Int → Int → Bool → List (S60) → List (S63) → List (S60) → Int → List Int → Option (Bool)
  | 0, _, _, _, _, _, _, _, _, _ => none
  | k + 1, x57, x58, x59, x412000, x412001, x412002, x412003, x412004, x412005 => if x59 < x58 then (if 0 ≤ x59 then (if x59 < (x57.length : Int) then ((impl_Val_none.f ((rd_T60 x57 x59).f0) ((rd_T60 x57 x59).f1) ((rd_T60 x57 x59).f2) ((rd_T60 x57 x59).f3)).bind fun t418 => (if t418 = true then (some false) else ((impl_ValOk.f k ((rd_T60 x57 x59).f0) ((rd_T60 x57 x59).f1) ((rd_T60 x57 x59).f2) ((rd_T60 x57 x59).f3)).bind fun t419 => (if t419 = true then (impl_AbsOk.l1 k x57 x58 (wrap64 (x59 + 1)) x412000 x412001 x412002 x412003 x412004 x412005) else (some false))))) else (none)) else (none)) else (impl_AbsOk.l2 k x412002 (x412002.length : Int) 0 x412000 x412001 x412002 x412003 x412004 x412005)
def impl_AbsOk.l2 : Nat → List (S63) → Int → Int → Bool → List (S60) → List (S63) → List (S60) → Int → List Int → Option (Bool)
  | 0, _, _, _, _, _, _, _, _, _ => none
  | k + 1, x72, x73, x74, x412000, x412001, x412002, x412003, x412004, x412005 => if x74 < x73 then (if 0 ≤ x74 then (if x74 < (x72.length : Int) then ((impl_refOk.f k ((rd_T63 x72 x74).f0) ((rd_T63 x72 x74).f1) ((rd_T63 x72 x74).f2.f0) ((rd_T63 x72 x74).f2.f1) ((rd_T63 x72 x74).f2.f2) ((rd_T63 x72 x74).f2.f3)).bind fun t422 => (if t422 = true then (impl_AbsOk.l2 k x72 x73 (wrap64 (x74 + 1)) x412000 x412001 x412002 x412003 x412004 x412005) else (some false))) else (none)) else (none)) else ((impl_GapsOk.f k x412004 x412005).bind fun t423 => (if t423 = true then (some (x412004 == (x412001.length : Int))) else (some false)))
end
def impl_AbsOk.f (k : Nat) (a0_0 : Bool) (l0_1 : List (S60)) (l0_2 : List (S63)) (l0_3 : List (S60)) (a0_4 : Int) (l0_5 : List Int) : Option (Bool) := if a0_0 = true then (impl_AbsOk.l0 k l0_1 (l0_1.length : Int) 0 a0_0 l0_1 l0_2 l0_3 a0_4 l0_5) else (if (l0_1.length : Int) = 0 then (if (l0_2.length : Int) = 0 then (if (l0_3.length : Int) = 0 then (if a0_4 = 0 then (some ((l0_5.length : Int) == 0)) else (some false)) else (some false)) else (some false)) else (some false))
def impl_RestHas.j0 : Nat → Int → Bool → Int → Int → Option (Bool)
  | 0, _, _, _, _ => none
  | k + 1, x1, x12, x425000, x425001 => if x12 = true then (some false) else (if x425000 = 0 then (some (x1 == x425001)) else ((impl_restMod.f x1 x425000).bind fun t427 => (some (t427 == x425001))))
def impl_RestHas.f (k : Nat) (a0_0 : Int) (a0_1 : Int) (a1 : Int) : Option (Bool) := (impl_RestOk.f a0_0 a0_1).bind fun t425 => (if t425 = true then ((impl_NumOk.f a1).bind fun t426 => (impl_RestHas.j0 k a1 (!t426) a0_0 a0_1)) else (impl_RestHas.j0 k a1 true a0_0 a0_1))
def impl_ValHas.f (k : Nat) (a0_0 : Int) (a0_1 : Int) (a0_2 : Int) (a0_3 : Int) (a1 : Int) : Option (Bool) := (impl_ValOk.f k a0_0 a0_1 a0_2 a0_3).bind fun t429 => (if t429 = true then ((impl_Val_span.f a0_0 a0_1 a0_2 a0_3).bind fun bt430 => ((impl_RangeHas.f bt430.1 bt430.2 a1).bind fun t432 => (if t432 = true then ((impl_Val_rest.f a0_0 a0_1 a0_2 a0_3).bind fun bt433 => ((impl_RestHas.f k bt433.1 bt433.2 a1).bind fun t435 => (some t435))) else (some false)))) else (some false))
def impl_absHasArray.l0 : Nat → Int → List Int → Int → Int → Option (Bool)
  | 0, _, _, _, _ => none
  | k + 1, x1, x7, x8, x9 => if x9 < x8 then (if 0 ≤ x9 then (if x9 < (x7.length : Int) then (if (rd x7 x9) = x1 then (some true) else (impl_absHasArray.l0 k x1 x7 x8 (wrap64 (x9 + 1)))) else (none)) else (none)) else (some false)
def impl_absHasArray.f (k : Nat) (l0 : List Int) (a1 : Int) : Option (Bool) := impl_absHasArray.l0 k a1 l0 (l0.length : Int) 0
mutual
def impl_GapsHas.j0 : Nat → List Int → Bool → Int → List Int → Option (Bool)
  | 0, _, _, _, _ => none
  | k + 1, x1, x22, x438000, x438001 => if x22 = true then (some false) else (if 0 ≤ (wrap64 (x438000 + 1)) then (if (wrap64 (x438000 + 1) : Int).toNat ≤ 35184372088832 then ((some (List.replicate 0 0 : List Int)).bind fun y439 => (if y439.length < 17592186044416 then (impl_GapsHas.l0 k (y439 ++ [0]) x1 (x1.length : Int) 0 x438000 x438001) else (none))) else (none)) else (none))
def impl_GapsHas.l0 : Nat → List Int → List Int → Int → Int → Int → List Int → Option (Bool)
  | 0, _, _, _, _, _, _ => none
  | k + 1, x5, x30, x31, x32, x438000, x438001 => if x32 < x31 then (if 0 ≤ x32 then (if x32 < (x30.length : Int) then ((impl_NumOk.f (rd x30 x32)).bind fun t446 => (if t446 = true then (if x5.length < 17592186044416 then (impl_GapsHas.l0 k (x5 ++ [rd x30 x32]) x30 x31 (wrap64 (x32 + 1)) x438000 x438001) else (none)) else (some false))) else (none)) else (none)) else (impl_GapsHas.l1 k x5 x5 (x5.length : Int) 0 x438000 x438001)
def impl_GapsHas.l1 : Nat → List Int → List Int → Int → Int → Int → List Int → Option (Bool)
  | 0, _, _, _, _, _, _ => none
  | k + 1, x5, x44, x45, x46, x438000, x438001 => if x46 < x45 then (if 0 ≤ x46 then (if x46 < (x44.length : Int) then (impl_GapsHas.l2 k x5 x46 (rd x44 x46) x44 x45 x46 x5 (x5.length : Int) 0 x438000 x438001) else (none)) else (none)) else (some true)
def impl_GapsHas.l2 : Nat → List Int → Int → Int → List Int → Int → Int → List Int → Int → Int → Int → List Int → Option (Bool)
  | 0, _, _, _, _, _, _, _, _, _, _, _ => none
  | k + 1, x5, x8, x9, x44, x45, x46, x51, x52, x53, x438000, x438001 => if x53 < x52 then (if 0 ≤ x53 then (if x53 < (x51.length : Int) then ((impl_Gaps_at.f x438000 x438001 x8 x53).bind fun t452 => (if 0 ≤ t452 then (if t452 < (x438001.length : Int) then (if (rd x438001 t452) = 1099511627776 then (impl_GapsHas.l2 k x5 x8 x9 x44 x45 x46 x51 x52 (wrap64 (x53 + 1)) x438000 x438001) else (if (wrap64 (x9 - (rd x51 x53))) > (rd x438001 t452) then (some false) else (impl_GapsHas.l2 k x5 x8 x9 x44 x45 x46 x51 x52 (wrap64 (x53 + 1)) x438000 x438001))) else (none)) else (none))) else (none)) else (none)) else (impl_GapsHas.l1 k x5 x44 x45 (wrap64 (x46 + 1)) x438000 x438001)
end
def impl_GapsHas.f (k : Nat) (a0_0 : Int) (l0_1 : List Int) (l1 : List Int) : Option (Bool) := (impl_GapsOk.f k a0_0 l0_1).bind fun t438 => (if t438 = true then (impl_GapsHas.j0 k l1 ((l1.length : Int) != a0_0) a0_0 l0_1) else (impl_GapsHas.j0 k l1 true a0_0 l0_1))
mutual
def impl_AbsHas.j0 : Nat → List Int → List (S65) → List (S66) → Bool → Bool → List (S60) → List (S63) → List (S60) → Int → List Int → Option (Bool)
  | 0, _, _, _, _, _, _, _, _, _, _ => none
  | k + 1, x1, x2, x3, x49, x455000, x455001, x455002, x455003, x455004, x455005 => if x49 = true then (some false) else (impl_AbsHas.l0 k x1 x2 x3 x1 (x1.length : Int) 0 x455000 x455001 x455002 x455003 x455004 x455005)
def impl_AbsHas.l0 : Nat → List Int → List (S65) → List (S66) → List Int → Int → Int → Bool → List (S60) → List (S63) → List (S60) → Int → List Int → Option (Bool)
  | 0, _, _, _, _, _, _, _, _, _, _, _, _ => none
  | k + 1, x1, x2, x3, x50, x51, x52, x455000, x455001, x455002, x455003, x455004, x455005 => if x52 < x51 then (if 0 ≤ x52 then (if x52 < (x50.length : Int) then (if x52 < (x455001.length : Int) then ((impl_ValHas.f k ((rd_T60 x455001 x52).f0) ((rd_T60 x455001 x52).f1) ((rd_T60 x455001 x52).f2) ((rd_T60 x455001 x52).f3) (rd x50 x52)).bind fun t458 => (if t458 = true then (impl_AbsHas.l0 k x1 x2 x3 x50 x51 (wrap64 (x52 + 1)) x455000 x455001 x455002 x455003 x455004 x455005) else (some false))) else (none)) else (none)) else (none)) else (impl_AbsHas.l1 k x1 x3 x2 (x2.length : Int) 0 x455000 x455001 x455002 x455003 x455004 x455005)
def impl_AbsHas.l1 : Nat → List Int → List (S66) → List (S65) → Int → Int → Bool → List (S60) → List (S63) → List (S60) → Int → List Int → Option (Bool)
  | 0, _, _, _, _, _, _, _, _, _, _, _ => none
  | k + 1, x1, x3, x66, x67, x68, x455000, x455001, x455002, x455003, x455004, x455005 => if x68 < x67 then (if 0 ≤ x68 then (if x68 < (x66.length : Int) then (if x68 < (x455002.length : Int) then (if ((rd_T65 x66 x68).f0) < 0 then (if ((rd_T63 x455002 x68).f0 = true) then (impl_AbsHas.l1 k x1 x3 x66 x67 (wrap64 (x68 + 1)) x455000 x455001 x455002 x455003 x455004 x455005) else (some false)) else ((impl_absHasArray.f k ((rd_T63 x455002 x68).f1) ((rd_T65 x66 x68).f0)).bind fun t463 => (if t463 = true then ((impl_ValHas.f k ((rd_T63 x455002 x68).f2.f0) ((rd_T63 x455002 x68).f2.f1) ((rd_T63 x455002 x68).f2.f2) ((rd_T63 x455002 x68).f2.f3) ((rd_T65 x66 x68).f1)).bind fun t464 => (if t464 = true then (impl_AbsHas.l1 k x1 x3 x66 x67 (wrap64 (x68 + 1)) x455000 x455001 x455002 x455003 x455004 x455005) else (some false))) else (some false)))) else (none)) else (none)) else (none)) else (impl_AbsHas.l2 k x1 x3 (x3.length : Int) 0 x455000 x455001 x455002 x455003 x455004 x455005)
def impl_AbsHas.l2 : Nat → List Int → List (S66) → Int → Int → Bool → List (S60) → List (S63) → List (S60) → Int → List Int → Option (Bool)
  | 0, _, _, _, _, _, _, _, _, _, _ => none
  | k + 1, x1, x99, x100, x101, x455000, x455001, x455002, x455003, x455004, x455005 => if x101 < x100 then (if 0 ≤ x101 then (if x101 < (x99.length : Int) then (impl_AbsHas.l3 k x1 x101 x99 x100 x101 ((rd_T66 x99 x101).f0) (((rd_T66 x99 x101).f0).length : Int) 0 x455000 x455001 x455002 x455003 x455004 x455005) else (none)) else (none)) else ((impl_GapsHas.f k x455004 x455005 x1).bind fun t465 => (some t465))
def impl_AbsHas.l3 : Nat → List Int → Int → List (S66) → Int → Int → List Int → Int → Int → Bool → List (S60) → List (S63) → List (S60) → Int → List Int → Option (Bool)
  | 0, _, _, _, _, _, _, _, _, _, _, _, _, _, _ => none
  | k + 1, x1, x14, x99, x100, x101, x107, x108, x109, x455000, x455001, x455002, x455003, x455004, x455005 => if x109 < x108 then (if 0 ≤ x109 then (if x109 < (x107.length : Int) then (if 0 ≤ x14 then (if x14 < (x455003.length : Int) then ((impl_ValHas.f k ((rd_T60 x455003 x14).f0) ((rd_T60 x455003 x14).f1) ((rd_T60 x455003 x14).f2) ((rd_T60 x455003 x14).f3) (rd x107 x109)).bind fun t470 => (if t470 = true then (impl_AbsHas.l3 k x1 x14 x99 x100 x101 x107 x108 (wrap64 (x109 + 1)) x455000 x455001 x455002 x455003 x455004 x455005) else (some false))) else (none)) else (none)) else (none)) else (none)) else (impl_AbsHas.l2 k x1 x99 x100 (wrap64 (x101 + 1)) x455000 x455001 x455002 x455003 x455004 x455005)
end
def impl_AbsHas.f (k : Nat) (a0_0 : Bool) (l0_1 : List (S60)) (l0_2 : List (S63)) (l0_3 : List (S60)) (a0_4 : Int) (l0_5 : List Int) (l1 : List Int) (l2 : List (S65)) (l3 : List (S66)) : Option (Bool) := (impl_AbsOk.f k a0_0 l0_1 l0_2 l0_3 a0_4 l0_5).bind fun t455 => (if t455 = true then (if a0_0 = true then (if (l1.length : Int) = (l0_1.length : Int) then (if (l2.length : Int) = (l0_2.length : Int) then (impl_AbsHas.j0 k l1 l2 l3 ((l3.length : Int) != (l0_3.length : Int)) a0_0 l0_1 l0_2 l0_3 a0_4 l0_5) else (impl_AbsHas.j0 k l1 l2 l3 true a0_0 l0_1 l0_2 l0_3 a0_4 l0_5)) else (impl_AbsHas.j0 k l1 l2 l3 true a0_0 l0_1 l0_2 l0_3 a0_4 l0_5)) else (impl_AbsHas.j0 k l1 l2 l3 true a0_0 l0_1 l0_2 l0_3 a0_4 l0_5)) else (impl_AbsHas.j0 k l1 l2 l3 true a0_0 l0_1 l0_2 l0_3 a0_4 l0_5))
def laws_eqVal.f (a0_0 : Int) (a0_1 : Int) (a0_2 : Int) (a0_3 : Int) (a1_0 : Int) (a1_1 : Int) (a1_2 : Int) (a1_3 : Int) : Option (Bool) := if a0_0 = a1_0 then (if a0_1 = a1_1 then (if a0_2 = a1_2 then (if a0_3 = a1_3 then (some true) else (some false)) else (some false)) else (some false)) else (some false)
def laws_eqValS.l0 : Nat → List (S60) → List (S60) → Int → Option (Bool)
  | 0, _, _, _ => none
  | k + 1, x0, x1, x5 => if x5 < (x0.length : Int) then (if 0 ≤ x5 then (if x5 < (x1.length : Int) then ((laws_eqVal.f ((rd_T60 x0 x5).f0) ((rd_T60 x0 x5).f1) ((rd_T60 x0 x5).f2) ((rd_T60 x0 x5).f3) ((rd_T60 x1 x5).f0) ((rd_T60 x1 x5).f1) ((rd_T60 x1 x5).f2) ((rd_T60 x1 x5).f3)).bind fun t475 => (if t475 = true then (laws_eqValS.l0 k x0 x1 (wrap64 (x5 + 1))) else (some false))) else (none)) else (none)) else (some true)
def laws_eqValS.f (k : Nat) (l0 : List (S60)) (l1 : List (S60)) : Option (Bool) := if (l0.length : Int) = (l1.length : Int) then (laws_eqValS.l0 k l0 l1 0) else (some false)
def laws_eqIntS.l0 : Nat → List Int → List Int → Int → Option (Bool)
  | 0, _, _, _ => none
  | k + 1, x0, x1, x5 => if x5 < (x0.length : Int) then (if 0 ≤ x5 then (if x5 < (x1.length : Int) then (if (rd x0 x5) = (rd x1 x5) then (laws_eqIntS.l0 k x0 x1 (wrap64 (x5 + 1))) else (some false)) else (none)) else (none)) else (some true)
def laws_eqIntS.f (k : Nat) (l0 : List Int) (l1 : List Int) : Option (Bool) := if (l0.length : Int) = (l1.length : Int) then (laws_eqIntS.l0 k l0 l1 0) else (some false)
def laws_eqRefVal.f (k : Nat) (a0_0 : Bool) (l0_1 : List Int) (a0_2 : Int) (a0_3 : Int) (a0_4 : Int) (a0_5 : Int) (a1_0 : Bool) (l1_1 : List Int) (a1_2 : Int) (a1_3 : Int) (a1_4 : Int) (a1_5 : Int) : Option (Bool) := if (a0_0 != a1_0) = true then (some false) else ((laws_eqIntS.f k l0_1 l1_1).bind fun t480 => (if t480 = true then ((laws_eqVal.f a0_2 a0_3 a0_4 a0_5 a1_2 a1_3 a1_4 a1_5).bind fun t481 => (if t481 = true then (some true) else (some false))) else (some false)))
def laws_eqRefValS.l0 : Nat → List (S63) → List (S63) → Int → Option (Bool)
  | 0, _, _, _ => none
  | k + 1, x0, x1, x5 => if x5 < (x0.length : Int) then (if 0 ≤ x5 then (if x5 < (x1.length : Int) then ((laws_eqRefVal.f k ((rd_T63 x0 x5).f0) ((rd_T63 x0 x5).f1) ((rd_T63 x0 x5).f2.f0) ((rd_T63 x0 x5).f2.f1) ((rd_T63 x0 x5).f2.f2) ((rd_T63 x0 x5).f2.f3) ((rd_T63 x1 x5).f0) ((rd_T63 x1 x5).f1) ((rd_T63 x1 x5).f2.f0) ((rd_T63 x1 x5).f2.f1) ((rd_T63 x1 x5).f2.f2) ((rd_T63 x1 x5).f2.f3)).bind fun t484 => (if t484 = true then (laws_eqRefValS.l0 k x0 x1 (wrap64 (x5 + 1))) else (some false))) else (none)) else (none)) else (some true)
def laws_eqRefValS.f (k : Nat) (l0 : List (S63)) (l1 : List (S63)) : Option (Bool) := if (l0.length : Int) = (l1.length : Int) then (laws_eqRefValS.l0 k l0 l1 0) else (some false)
def laws_eqGaps.f (k : Nat) (a0_0 : Int) (l0_1 : List Int) (a1_0 : Int) (l1_1 : List Int) : Option (Bool) := if a0_0 = a1_0 then ((laws_eqIntS.f k l0_1 l1_1).bind fun t487 => (if t487 = true then (some true) else (some false))) else (some false)
def laws_eqAbs.f (k : Nat) (a0_0 : Bool) (l0_1 : List (S60)) (l0_2 : List (S63)) (l0_3 : List (S60)) (a0_4 : Int) (l0_5 : List Int) (a1_0 : Bool) (l1_1 : List (S60)) (l1_2 : List (S63)) (l1_3 : List (S60)) (a1_4 : Int) (l1_5 : List Int) : Option (Bool) := if (a0_0 != a1_0) = true then (some false) else ((laws_eqValS.f k l0_1 l1_1).bind fun t490 => (if t490 = true then ((laws_eqRefValS.f k l0_2 l1_2).bind fun t491 => (if t491 = true then ((laws_eqValS.f k l0_3 l1_3).bind fun t492 => (if t492 = true then ((laws_eqGaps.f k a0_4 l0_5 a1_4 l1_5).bind fun t493 => (if t493 = true then (some true) else (some false))) else (some false))) else (some false))) else (some false)))
def laws_eqRef.f (a0_0 : Int) (a0_1 : Int) (a1_0 : Int) (a1_1 : Int) : Option (Bool) := if a0_0 = a1_0 then (if a0_1 = a1_1 then (some true) else (some false)) else (some false)
def laws_eqRefS.l0 : Nat → List (S65) → List (S65) → Int → Option (Bool)
  | 0, _, _, _ => none
  | k + 1, x0, x1, x5 => if x5 < (x0.length : Int) then (if 0 ≤ x5 then (if x5 < (x1.length : Int) then ((laws_eqRef.f ((rd_T65 x0 x5).f0) ((rd_T65 x0 x5).f1) ((rd_T65 x1 x5).f0) ((rd_T65 x1 x5).f1)).bind fun t498 => (if t498 = true then (laws_eqRefS.l0 k x0 x1 (wrap64 (x5 + 1))) else (some false))) else (none)) else (none)) else (some true)
def laws_eqRefS.f (k : Nat) (l0 : List (S65)) (l1 : List (S65)) : Option (Bool) := if (l0.length : Int) = (l1.length : Int) then (laws_eqRefS.l0 k l0 l1 0) else (some false)
def laws_eqCells.f (k : Nat) (l0_0 : List Int) (l1_0 : List Int) : Option (Bool) := (laws_eqIntS.f k l0_0 l1_0).bind fun t501 => (if t501 = true then (some true) else (some false))
def laws_eqCellsS.l0 : Nat → List (S66) → List (S66) → Int → Option (Bool)
  | 0, _, _, _ => none
  | k + 1, x0, x1, x5 => if x5 < (x0.length : Int) then (if 0 ≤ x5 then (if x5 < (x1.length : Int) then ((laws_eqCells.f k ((rd_T66 x0 x5).f0) ((rd_T66 x1 x5).f0)).bind fun t504 => (if t504 = true then (laws_eqCellsS.l0 k x0 x1 (wrap64 (x5 + 1))) else (some false))) else (none)) else (none)) else (some true)
def laws_eqCellsS.f (k : Nat) (l0 : List (S66)) (l1 : List (S66)) : Option (Bool) := if (l0.length : Int) = (l1.length : Int) then (laws_eqCellsS.l0 k l0 l1 0) else (some false)
def laws_FnExactAbsHas.f (k : Nat) (a0_0 : Bool) (l0_1 : List (S81)) (l0_2 : List (S83)) (l0_3 : List (S81)) (a0_4 : Int) (l0_5 : List Int) (l1 : List Int) (l2 : List (S72)) (l3 : List (S56)) : Option (Bool) := if (l1.length : Int) > 1048576 then (some true) else ((laws_szAbs.f k a0_0 l0_1 l0_2 l0_3 a0_4 l0_5 1048576).bind fun t506 => (if t506 < 0 then (some true) else ((laws_szRefS.f l2 t506).bind fun t507 => (if t507 < 0 then (some true) else ((laws_szCellsS.f k l3 t507).bind fun t508 => (if t508 < 0 then (some true) else ((laws_toAbs.f k a0_0 l0_1 l0_2 l0_3 a0_4 l0_5).bind fun bt509 => ((laws_toIntS.f k l1).bind fun t523 => ((laws_toRefS.f k l2).bind fun t526 => ((laws_toCellsS.f k l3).bind fun t529 => ((spec_AbsHas.f k bt509.1 bt509.2.1 bt509.2.2.1 bt509.2.2.2.1 bt509.2.2.2.2.1 bt509.2.2.2.2.2 t523 t526 t529).bind fun t532 => ((laws_toAbs.f k a0_0 l0_1 l0_2 l0_3 a0_4 l0_5).bind fun bt533 => ((laws_toIntS.f k l1).bind fun t548 => ((laws_toRefS.f k l2).bind fun t551 => ((laws_toCellsS.f k l3).bind fun t554 => ((impl_AbsHas.f k bt533.1 bt533.2.1 bt533.2.2.1 bt533.2.2.2.1 bt533.2.2.2.2.1 bt533.2.2.2.2.2 t548 t551 t554).bind fun t557 => (if (t557 != t532) = true then (some false) else ((laws_toAbs.f k a0_0 l0_1 l0_2 l0_3 a0_4 l0_5).bind fun bt558 => ((laws_eqAbs.f k bt533.1 bt533.2.1 bt533.2.2.1 bt533.2.2.2.1 bt533.2.2.2.2.1 bt533.2.2.2.2.2 bt558.1 bt558.2.1 bt558.2.2.1 bt558.2.2.2.1 bt558.2.2.2.2.1 bt558.2.2.2.2.2).bind fun t572 => (if t572 = true then ((laws_toIntS.f k l1).bind fun t573 => ((laws_eqIntS.f k t548 t573).bind fun t576 => (if t576 = true then ((laws_toRefS.f k l2).bind fun t577 => ((laws_eqRefS.f k t551 t577).bind fun t580 => (if t580 = true then ((laws_toCellsS.f k l3).bind fun t581 => ((laws_eqCellsS.f k t554 t581).bind fun t584 => (if t584 = true then (some true) else (some false)))) else (some false)))) else (some false)))) else (some false)))))))))))))))))))))
end Go.Proofs.Ytnmgckdgmplddaa.PFnExactAbsHas
