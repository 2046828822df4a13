/- The program's functions that the law reaches, as plain Lean functions. Conditions: none. -/
import Derived.Test.YtklkdpcopfjmcaaGreatQFnExactAbsJoinx0V
namespace Go.Proofs.YtklkdpcopfjmcaaGreat.PFnExactAbsJoin
open Go.RowKit Go.Proofs.YtklkdpcopfjmcaaGreatW.PrintWords Go.Proofs.YtklkdpcopfjmcaaGreatW.PrintLast Go.Proofs.YtklkdpcopfjmcaaGreatW.PrintMore
set_option linter.unusedVariables false

def laws_szValS.f (l0 : List (S116)) (a1 : Int) : Option (Int):=if (wrap64 (a1 - (l0.length : Int))) < 0 then (some (-1)) else (some (wrap64 (a1 - (l0.length : Int))))
def laws_szIntS.f (l0 : List Int) (a1 : Int) : Option (Int):=if (wrap64 (a1 - (l0.length : Int))) < 0 then (some (-1)) else (some (wrap64 (a1 - (l0.length : Int))))
def laws_szRefVal.f (a0_0 : Bool) (l0_1 : List Int) (a0_2 : Int) (a0_3 : Int) (a0_4 : Int) (a0_5 : Int) (a1 : Int) : Option (Int):=(laws_szIntS.f l0_1 a1).bind fun b=>(if b < 0 then (some (-1)) else (some b))
def laws_szRefValS.l0 : Nat→List (S118)→Int→Int→Option (Int)
  | 0,_,_,_=>none
  | k + 1,b,c,d=>if d < (b.length : Int) then (if 0 ≤ d then ((laws_szRefVal.f ((rd_T118 b d).f0) ((rd_T118 b d).f1) ((rd_T118 b d).f2.f0) ((rd_T118 b d).f2.f1) ((rd_T118 b d).f2.f2) ((rd_T118 b d).f2.f3) c).bind fun e=>(if e < 0 then (some (-1)) else (laws_szRefValS.l0 k b e (wrap64 (d + 1))))) else (none)) else (some c)
def laws_szRefValS.f (k : Nat) (l0 : List (S118)) (a1 : Int) : Option (Int):=if (wrap64 (a1 - (l0.length : Int))) < 0 then (some (-1)) else (laws_szRefValS.l0 k l0 (wrap64 (a1 - (l0.length : Int))) 0)
def laws_szGaps.f (a0_0 : Int) (l0_1 : List Int) (a1 : Int) : Option (Int):=(laws_szIntS.f l0_1 a1).bind fun b=>(if b < 0 then (some (-1)) else (some b))
def laws_szAbs.f (k : Nat) (a0_0 : Bool) (l0_1 : List (S116)) (l0_2 : List (S118)) (l0_3 : List (S116)) (a0_4 : Int) (l0_5 : List Int) (a1 : Int) : Option (Int):=(laws_szValS.f l0_1 a1).bind fun b=>(if b < 0 then (some (-1)) else ((laws_szRefValS.f k l0_2 b).bind fun c=>(if c < 0 then (some (-1)) else ((laws_szValS.f l0_3 c).bind fun d=>(if d < 0 then (some (-1)) else ((laws_szGaps.f a0_4 l0_5 d).bind fun e=>(if e < 0 then (some (-1)) else (some e))))))))
def spec_l10None.f  : Option (Int × Int × Int × Int):=some (1,0,0,0)
def spec_l10One.f (a0 : Int) : Option (Int × Int × Int × Int):=some (a0,a0,0,a0)
def spec_l1In.f (a0 : Int) (a1 : Int) (a2 : Int) : Option (Bool):=if a0 ≥ a1 then (some (decide (a0 ≤ a2))) else (some false)
def spec_NumOk.f (a0 : Int) : Option (Bool):=(spec_l1In.f a0 (-2147483648) 2147483647).bind fun b=>(some b)
def spec_l8None.f  : Option (Int × Int):=some (1,0)
def spec_RangeOk.f (a0_0 : Int) (a0_1 : Int) : Option (Bool):=(spec_l8None.f).bind fun b=>(if (a0_0 == b.1 && (a0_1 == b.2)) = true then (some true) else ((spec_NumOk.f a0_0).bind fun c=>(if c = true then ((spec_NumOk.f a0_1).bind fun d=>(if d = true then (some (decide (a0_0 ≤ a0_1))) else (some false))) else (some false))))
def spec_RangeHas.f (a0_0 : Int) (a0_1 : Int) (a1 : Int) : Option (Bool):=(spec_RangeOk.f a0_0 a0_1).bind fun b=>(if b = true then ((spec_l1In.f a1 a0_0 a0_1).bind fun c=>(some c)) else (some false))
def spec_RestOk.f (a0_0 : Int) (a0_1 : Int) : Option (Bool):=if a0_0 = 0 then ((spec_NumOk.f a0_1).bind fun b=>(some b)) else ((spec_l1In.f a0_0 1 65536).bind fun c=>(if c = true then ((spec_l1In.f a0_1 0 (wrap64 (a0_0 - 1))).bind fun d=>(some d)) else (some false)))
def spec_l1Mod.f (a0 : Int) (a1 : Int) : Option (Int):=if a1 = 0 then (none) else (if (Int.tmod a0 a1) < 0 then (some (wrap64 ((Int.tmod a0 a1) + a1))) else (some (Int.tmod a0 a1)))
def spec_ValMake.j0 : Nat→Bool→Int→Int→Int→Int→Option (Int × Int × Int × Int)
  | 0,_,_,_,_,_=>none
  | k + 1,b,c,d,e,g=>if b = true then ((spec_l10None.f).bind fun h=>(some (h.1,h.2.1,h.2.2.1,h.2.2.2))) else (if e = 0 then ((spec_RangeHas.f c d g).bind fun i=>(if i = true then ((spec_l10One.f g).bind fun j=>(some (j.1,j.2.1,j.2.2.1,j.2.2.2))) else ((spec_l10None.f).bind fun l=>(some (l.1,l.2.1,l.2.2.1,l.2.2.2))))) else ((spec_l1Mod.f (wrap64 (g - c)) e).bind fun m=>((spec_l1Mod.f (wrap64 (d - g)) e).bind fun n=>(if (wrap64 (c + m)) > (wrap64 (d - n)) then ((spec_l10None.f).bind fun o=>(some (o.1,o.2.1,o.2.2.1,o.2.2.2))) else (if (wrap64 (c + m)) = (wrap64 (d - n)) then ((spec_l10One.f (wrap64 (c + m))).bind fun p=>(some (p.1,p.2.1,p.2.2.1,p.2.2.2))) else (some (wrap64 (c + m),wrap64 (d - n),e,g)))))))
def spec_ValMake.f (k : Nat) (a0_0 : Int) (a0_1 : Int) (a1_0 : Int) (a1_1 : Int) : Option (Int × Int × Int × Int):=(spec_RangeOk.f a0_0 a0_1).bind fun b=>(if b = true then ((spec_RestOk.f a1_0 a1_1).bind fun c=>(if c = true then ((spec_l8None.f).bind fun d=>(spec_ValMake.j0 k (a0_0 == d.1 && (a0_1 == d.2)) a0_0 a0_1 a1_0 a1_1)) else (spec_ValMake.j0 k true a0_0 a0_1 a1_0 a1_1))) else (spec_ValMake.j0 k true a0_0 a0_1 a1_0 a1_1))
def spec_l10Range.f (a0_0 : Int) (a0_1 : Int) (a0_2 : Int) (a0_3 : Int) : Option (Int × Int):=some (a0_0,a0_1)
def spec_l10Rest.f (a0_0 : Int) (a0_1 : Int) (a0_2 : Int) (a0_3 : Int) : Option (Int × Int):=some (a0_2,a0_3)
def spec_ValOk.f (k : Nat) (a0_0 : Int) (a0_1 : Int) (a0_2 : Int) (a0_3 : Int) : Option (Bool):=(spec_l10None.f).bind fun b=>(if (a0_0 == b.1 && (a0_1 == b.2.1 && (a0_2 == b.2.2.1 && (a0_3 == b.2.2.2)))) = true then (some true) else ((spec_l10Range.f a0_0 a0_1 a0_2 a0_3).bind fun c=>((spec_RangeOk.f c.1 c.2).bind fun d=>(if d = true then ((spec_l10Rest.f a0_0 a0_1 a0_2 a0_3).bind fun e=>((spec_RestOk.f e.1 e.2).bind fun g=>(if g = true then ((spec_l10Range.f a0_0 a0_1 a0_2 a0_3).bind fun h=>((spec_l10Rest.f a0_0 a0_1 a0_2 a0_3).bind fun i=>((spec_ValMake.f k h.1 h.2 i.1 i.2).bind fun j=>(some (a0_0 == j.1 && (a0_1 == j.2.1 && (a0_2 == j.2.2.1 && (a0_3 == j.2.2.2)))))))) else (some false)))) else (some false)))))
mutual
def spec_l12RefOk.j0 : Nat→Bool→Bool→List Int→Int→Int→Int→Int→Option (Bool)
  | 0,_,_,_,_,_,_,_=>none
  | k + 1,b,c,d,e,f,g,h=>if b = true then (some false) else (spec_l12RefOk.l0 k 0 c d e f g h)
def spec_l12RefOk.l0 : Nat→Int→Bool→List Int→Int→Int→Int→Int→Option (Bool)
  | 0,_,_,_,_,_,_,_=>none
  | k + 1,b,c,d,e,f,g,h=>if b < (d.length : Int) then (if 0 ≤ b then (if (rd d b) < 0 then (some false) else (if b > 0 then (if 0 ≤ (wrap64 (b - 1)) then (if (wrap64 (b - 1)) < (d.length : Int) then (if (rd d (wrap64 (b - 1))) ≥ (rd d b) then (some false) else (spec_l12RefOk.l0 k (wrap64 (b + 1)) c d e f g h)) else (none)) else (none)) else (spec_l12RefOk.l0 k (wrap64 (b + 1)) c d e f g h))) else (none)) else (some true)
end
def spec_l12RefOk.f (k : Nat) (a0_0 : Bool) (l0_1 : List Int) (a0_2 : Int) (a0_3 : Int) (a0_4 : Int) (a0_5 : Int) : Option (Bool):=(spec_ValOk.f k a0_2 a0_3 a0_4 a0_5).bind fun b=>(if b = true then ((spec_l10None.f).bind fun c=>(if (((l0_1.length : Int) == 0) != (a0_2 == c.1 && (a0_3 == c.2.1 && (a0_4 == c.2.2.1 && (a0_5 == c.2.2.2))))) = true then (spec_l12RefOk.j0 k true a0_0 l0_1 a0_2 a0_3 a0_4 a0_5) else (if a0_0 = true then (spec_l12RefOk.j0 k false a0_0 l0_1 a0_2 a0_3 a0_4 a0_5) else (spec_l12RefOk.j0 k ((l0_1.length : Int) == 0) a0_0 l0_1 a0_2 a0_3 a0_4 a0_5)))) else (spec_l12RefOk.j0 k true a0_0 l0_1 a0_2 a0_3 a0_4 a0_5))
def spec_l12Vals.l0 : Nat→List (S58)→Int→Option (Bool)
  | 0,_,_=>none
  | k + 1,b,c=>if c < (b.length : Int) then (if 0 ≤ c then ((spec_ValOk.f k ((rd_T58 b c).f0) ((rd_T58 b c).f1) ((rd_T58 b c).f2) ((rd_T58 b c).f3)).bind fun d=>(if d = true then ((spec_l10None.f).bind fun e=>(if (((rd_T58 b c).f0) == e.1 && (((rd_T58 b c).f1) == e.2.1 && (((rd_T58 b c).f2) == e.2.2.1 && (((rd_T58 b c).f3) == e.2.2.2)))) = true then (some false) else (spec_l12Vals.l0 k b (wrap64 (c + 1))))) else (some false))) else (none)) else (some true)
def spec_l12Vals.f (k : Nat) (l0 : List (S58)) : Option (Bool):=spec_l12Vals.l0 k l0 0
def spec_l11At.f (a0_0 : Int) (l0_1 : List Int) (a1 : Int) (a2 : Int) : Option (Int):=if 0 ≤ (wrap64 ((wrap64 (a1 * (wrap64 (a0_0 + 1)))) + a2)) then (if (wrap64 ((wrap64 (a1 * (wrap64 (a0_0 + 1)))) + a2)) < (l0_1.length : Int) then (some (rd l0_1 (wrap64 ((wrap64 (a1 * (wrap64 (a0_0 + 1)))) + a2)))) else (none)) else (none)
mutual
def spec_GapsOk.j0 : Nat→Bool→Int→List Int→Option (Bool)
  | 0,_,_,_=>none
  | k + 1,b,c,d=>if b = true then (some false) else (spec_GapsOk.l0 k 0 c d)
def spec_GapsOk.l0 : Nat→Int→Int→List Int→Option (Bool)
  | 0,_,_,_=>none
  | k + 1,b,c,d=>if b ≤ c then (spec_GapsOk.l1 k b 0 c d) else (some true)
def spec_GapsOk.l1 : Nat→Int→Int→Int→List Int→Option (Bool)
  | 0,_,_,_,_=>none
  | k + 1,b,c,d,e=>if c ≤ d then ((spec_l11At.f d e b c).bind fun g=>((spec_l1In.f g (-1099511627776) 1099511627776).bind fun h=>(if h = true then (if b = c then (if g = 0 then (spec_GapsOk.l1 k b (wrap64 (c + 1)) d e) else (some false)) else (spec_GapsOk.l1 k b (wrap64 (c + 1)) d e)) else (some false)))) else (spec_GapsOk.l0 k (wrap64 (b + 1)) d e)
end
def spec_GapsOk.f (k : Nat) (a0_0 : Int) (l0_1 : List Int) : Option (Bool):=(spec_l1In.f a0_0 0 12).bind fun b=>(if b = true then (spec_GapsOk.j0 k ((l0_1.length : Int) != (wrap64 ((wrap64 (a0_0 + 1)) * (wrap64 (a0_0 + 1))))) a0_0 l0_1) else (spec_GapsOk.j0 k true a0_0 l0_1))
def spec_AbsOk.l0 : Nat→Int→Bool→List (S58)→List (S84)→List (S58)→Int→List Int→Option (Bool)
  | 0,_,_,_,_,_,_,_=>none
  | k + 1,b,c,d,e,g,h,i=>if b < (e.length : Int) then (if 0 ≤ b then ((spec_l12RefOk.f k ((rd_T84 e b).f0) ((rd_T84 e b).f1) ((rd_T84 e b).f2.f0) ((rd_T84 e b).f2.f1) ((rd_T84 e b).f2.f2) ((rd_T84 e b).f2.f3)).bind fun j=>(if j = true then (spec_AbsOk.l0 k (wrap64 (b + 1)) c d e g h i) else (some false))) else (none)) else ((spec_l12Vals.f k d).bind fun l=>(if l = true then ((spec_l12Vals.f k g).bind fun m=>(if m = true then ((spec_GapsOk.f k h i).bind fun n=>(if n = true then (some (h == (d.length : Int))) else (some false))) else (some false))) else (some false)))
def spec_AbsOk.f (k : Nat) (a0_0 : Bool) (l0_1 : List (S58)) (l0_2 : List (S84)) (l0_3 : List (S58)) (a0_4 : Int) (l0_5 : List Int) : Option (Bool):=if a0_0 = true then (spec_AbsOk.l0 k 0 a0_0 l0_1 l0_2 l0_3 a0_4 l0_5) else (if (l0_1.length : Int) = 0 then (if (l0_2.length : Int) = 0 then (if (l0_3.length : Int) = 0 then (if a0_4 = 0 then (some ((l0_5.length : Int) == 0)) else (some false)) else (some false)) else (some false)) else (some false))
mutual
def spec_l12Both.l0 : Nat→List Int→List Int→List Int→Int→Int→Option (List Int)
  | 0,_,_,_,_,_=>none
  | k + 1,b,c,d,e,f=>if e < (b.length : Int) then (spec_l12Both.j1 k b c d e f true) else (spec_l12Both.j1 k b c d e f (decide (f < (c.length : Int))))
def spec_l12Both.j1 : Nat→List Int→List Int→List Int→Int→Int→Bool→Option (List Int)
  | 0,_,_,_,_,_,_=>none
  | k + 1,b,c,d,e,f,g=>if g = true then (if f ≥ (c.length : Int) then (spec_l12Both.j2 k b c d e f true) else (if e < (b.length : Int) then (if 0 ≤ e then (if 0 ≤ f then (if f < (c.length : Int) then (spec_l12Both.j2 k b c d e f (decide ((rd b e) < (rd c f)))) else (none)) else (none)) else (none)) else (spec_l12Both.j2 k b c d e f false))) else (some d)
def spec_l12Both.j2 : Nat→List Int→List Int→List Int→Int→Int→Bool→Option (List Int)
  | 0,_,_,_,_,_,_=>none
  | k + 1,b,c,d,e,f,g=>if g = true then (if 0 ≤ e then (if e < (b.length : Int) then (if d.length < 17592186044416 then (spec_l12Both.l0 k b c (d ++ [rd b e]) (wrap64 (e + 1)) f) else (none)) else (none)) else (none)) else (if e < (b.length : Int) then (if 0 ≤ e then (if 0 ≤ f then (if f < (c.length : Int) then (if (rd b e) = (rd c f) then (if d.length < 17592186044416 then (spec_l12Both.l0 k b c (d ++ [rd c f]) (wrap64 (e + 1)) (wrap64 (f + 1))) else (none)) else (if d.length < 17592186044416 then (spec_l12Both.l0 k b c (d ++ [rd c f]) e (wrap64 (f + 1))) else (none))) else (none)) else (none)) else (none)) else (if 0 ≤ f then (if f < (c.length : Int) then (if d.length < 17592186044416 then (spec_l12Both.l0 k b c (d ++ [rd c f]) e (wrap64 (f + 1))) else (none)) else (none)) else (none)))
end
def spec_l12Both.f (k : Nat) (l0 : List Int) (l1 : List Int) : Option (List Int):=spec_l12Both.l0 k l0 l1 (([] : List Int)) 0 0
def spec_l11Copy.l0 : Nat→Int→Int→List Int→Int→List Int→Option (Int × List Int)
  | 0,_,_,_,_,_=>none
  | k + 1,b,c,d,e,f=>if b < (d.length : Int) then (if 0 ≤ b then (if f.length < 17592186044416 then (spec_l11Copy.l0 k (wrap64 (b + 1)) c d e (f ++ [rd d b])) else (none)) else (none)) else (some (e,f))
def spec_l11Copy.f (k : Nat) (a0_0 : Int) (l0_1 : List Int) : Option (Int × List Int):=spec_l11Copy.l0 k 0 a0_0 l0_1 a0_0 ([] : List Int)
mutual
def spec_l12Copy.l0 : Nat→Int→Bool→List (S58)→List (S84)→List (S58)→Int→List Int→Bool→List (S58)→Int→List Int→Option (Bool × (List (S58)) × (List (S84)) × (List (S58)) × Int × List Int)
  | 0,_,_,_,_,_,_,_,_,_,_,_=>none
  | k + 1,b,c,d,e,f,g,h,i,j,l,m=>if b < (d.length : Int) then (if 0 ≤ b then (if j.length < 4398046511104 then (spec_l12Copy.l0 k (wrap64 (b + 1)) c d e f g h i (j ++ [(⟨(rd_T58 d b).f0,(rd_T58 d b).f1,(rd_T58 d b).f2,(rd_T58 d b).f3⟩ : S58)]) l m) else (none)) else (none)) else (spec_l12Copy.l1 k 0 c d e f g h i j ([] : List (S84)) l m)
def spec_l12Copy.l1 : Nat→Int→Bool→List (S58)→List (S84)→List (S58)→Int→List Int→Bool→List (S58)→List (S84)→Int→List Int→Option (Bool × (List (S58)) × (List (S84)) × (List (S58)) × Int × List Int)
  | 0,_,_,_,_,_,_,_,_,_,_,_,_=>none
  | k + 1,b,c,d,e,g,h,i,j,l,m,n,o=>if b < (e.length : Int) then (if 0 ≤ b then ((spec_l12Both.f k ((rd_T84 e b).f1) (([] : List Int))).bind fun p=>(if m.length < 2199023255552 then (spec_l12Copy.l1 k (wrap64 (b + 1)) c d e g h i j l (m ++ [(⟨(rd_T84 e b).f0,p,(⟨(rd_T84 e b).f2.f0,(rd_T84 e b).f2.f1,(rd_T84 e b).f2.f2,(rd_T84 e b).f2.f3⟩ : S58)⟩ : S84)]) n o) else (none))) else (none)) else (spec_l12Copy.l2 k 0 c d e g h i j l m ([] : List (S58)) n o)
def spec_l12Copy.l2 : Nat→Int→Bool→List (S58)→List (S84)→List (S58)→Int→List Int→Bool→List (S58)→List (S84)→List (S58)→Int→List Int→Option (Bool × (List (S58)) × (List (S84)) × (List (S58)) × Int × List Int)
  | 0,_,_,_,_,_,_,_,_,_,_,_,_,_=>none
  | k + 1,b,c,d,e,f,g,h,i,j,l,m,n,o=>if b < (f.length : Int) then (if 0 ≤ b then (if m.length < 4398046511104 then (spec_l12Copy.l2 k (wrap64 (b + 1)) c d e f g h i j l (m ++ [(⟨(rd_T58 f b).f0,(rd_T58 f b).f1,(rd_T58 f b).f2,(rd_T58 f b).f3⟩ : S58)]) n o) else (none)) else (none)) else (some (i,j,l,m,n,o))
end
def spec_l12Copy.f (k : Nat) (a0_0 : Bool) (l0_1 : List (S58)) (l0_2 : List (S84)) (l0_3 : List (S58)) (a0_4 : Int) (l0_5 : List Int) : Option (Bool × (List (S58)) × (List (S84)) × (List (S58)) × Int × List Int):=(spec_l11Copy.f k a0_4 l0_5).bind fun b=>(spec_l12Copy.l0 k 0 a0_0 l0_1 l0_2 l0_3 a0_4 l0_5 a0_0 ([] : List (S58)) b.1 b.2)
def spec_l12Like.f (a0_0 : Bool) (l0_1 : List (S58)) (l0_2 : List (S84)) (l0_3 : List (S58)) (a0_4 : Int) (l0_5 : List Int) (a1_0 : Bool) (l1_1 : List (S58)) (l1_2 : List (S84)) (l1_3 : List (S58)) (a1_4 : Int) (l1_5 : List Int) : Option (Bool):=if (l0_1.length : Int) = (l1_1.length : Int) then (if (l0_2.length : Int) = (l1_2.length : Int) then (some ((l0_3.length : Int) == (l1_3.length : Int))) else (some false)) else (some false)
def spec_l11Two.f (k : Nat) (a0_0 : Int) (l0_1 : List Int) (a1_0 : Int) (l1_1 : List Int) : Option (Bool):=(spec_GapsOk.f k a0_0 l0_1).bind fun b=>(if b = true then ((spec_GapsOk.f k a1_0 l1_1).bind fun c=>(if c = true then (some (a0_0 == a1_0)) else (some false))) else (some false))
def spec_l8Max.f (a0 : Int) (a1 : Int) : Option (Int):=if a0 > a1 then (some a0) else (some a1)
def spec_GapsJoin.l0 : Nat→Int→Int→List Int→Int→List Int→Int→List Int→Option (Int × List Int)
  | 0,_,_,_,_,_,_,_=>none
  | k + 1,b,c,d,e,g,h,i=>if b < (d.length : Int) then (if 0 ≤ b then (if b < (g.length : Int) then ((spec_l8Max.f (rd d b) (rd g b)).bind fun j=>(if i.length < 17592186044416 then (spec_GapsJoin.l0 k (wrap64 (b + 1)) c d e g h (i ++ [j])) else (none))) else (none)) else (none)) else (some (h,i))
def spec_GapsJoin.f (k : Nat) (a0_0 : Int) (l0_1 : List Int) (a1_0 : Int) (l1_1 : List Int) : Option (Int × List Int):=(spec_l11Two.f k a0_0 l0_1 a1_0 l1_1).bind fun b=>(if b = true then (spec_GapsJoin.l0 k 0 a0_0 l0_1 a1_0 l1_1 a0_0 ([] : List Int)) else (some (0,([] : List Int))))
def spec_l9All.f  : Option (Int × Int):=some (1,0)
mutual
def spec_l9Gcd.j0 : Nat→Int→Int→Option (Int)
  | 0,_,_=>none
  | k + 1,b,c=>if c < 0 then (spec_l9Gcd.j1 k b (wrap64 (-c))) else (spec_l9Gcd.j1 k b c)
def spec_l9Gcd.j1 : Nat→Int→Int→Option (Int)
  | 0,_,_=>none
  | k + 1,b,c=>spec_l9Gcd.l0 k b c
def spec_l9Gcd.l0 : Nat→Int→Int→Option (Int)
  | 0,_,_=>none
  | k + 1,b,c=>if c = 0 then (some b) else (spec_l9Gcd.l0 k c (Int.tmod b c))
end
def spec_l9Gcd.f (k : Nat) (a0 : Int) (a1 : Int) : Option (Int):=if a0 < 0 then (spec_l9Gcd.j0 k (wrap64 (-a0)) a1) else (spec_l9Gcd.j0 k a0 a1)
def spec_l9Make.f (k : Nat) (a0 : Int) (a1 : Int) : Option (Int × Int):=if a0 > 65536 then ((spec_l9Gcd.f k a0 65536).bind fun b=>(if b = 0 then (some (0,a1)) else ((spec_l1Mod.f a1 b).bind fun c=>(some (b,c))))) else (if a0 = 0 then (some (0,a1)) else ((spec_l1Mod.f a1 a0).bind fun d=>(some (a0,d))))
def spec_RestJoin.j0 : Nat→Bool→Int→Int→Int→Int→Option (Int × Int)
  | 0,_,_,_,_,_=>none
  | k + 1,b,c,d,e,g=>if b = true then ((spec_l9All.f).bind fun h=>(some (h.1,h.2))) else ((spec_l9Gcd.f k c e).bind fun i=>((spec_l9Gcd.f k i (wrap64 (d - g))).bind fun j=>((spec_l9Make.f k j d).bind fun l=>(some (l.1,l.2)))))
def spec_RestJoin.f (k : Nat) (a0_0 : Int) (a0_1 : Int) (a1_0 : Int) (a1_1 : Int) : Option (Int × Int):=(spec_RestOk.f a0_0 a0_1).bind fun b=>(if b = true then ((spec_RestOk.f a1_0 a1_1).bind fun c=>(spec_RestJoin.j0 k (!c) a0_0 a0_1 a1_0 a1_1)) else (spec_RestJoin.j0 k true a0_0 a0_1 a1_0 a1_1))
def spec_l8Min.f (a0 : Int) (a1 : Int) : Option (Int):=if a0 < a1 then (some a0) else (some a1)
def spec_RangeJoin.j0 : Nat→Bool→Int→Int→Int→Int→Option (Int × Int)
  | 0,_,_,_,_,_=>none
  | k + 1,b,c,d,e,g=>if b = true then ((spec_l8None.f).bind fun h=>(some (h.1,h.2))) else ((spec_l8None.f).bind fun i=>(if (c == i.1 && (d == i.2)) = true then (some (e,g)) else ((spec_l8None.f).bind fun j=>(if (e == j.1 && (g == j.2)) = true then (some (c,d)) else ((spec_l8Min.f c e).bind fun l=>((spec_l8Max.f d g).bind fun m=>(some (l,m))))))))
def spec_RangeJoin.f (k : Nat) (a0_0 : Int) (a0_1 : Int) (a1_0 : Int) (a1_1 : Int) : Option (Int × Int):=(spec_RangeOk.f a0_0 a0_1).bind fun b=>(if b = true then ((spec_RangeOk.f a1_0 a1_1).bind fun c=>(spec_RangeJoin.j0 k (!c) a0_0 a0_1 a1_0 a1_1)) else (spec_RangeJoin.j0 k true a0_0 a0_1 a1_0 a1_1))
def spec_ValJoin.j0 : Nat→Bool→Int→Int→Int→Int→Int→Int→Int→Int→Option (Int × Int × Int × Int)
  | 0,_,_,_,_,_,_,_,_,_=>none
  | k + 1,b,c,d,e,g,h,i,j,l=>if b = true then ((spec_l10None.f).bind fun m=>(some (m.1,m.2.1,m.2.2.1,m.2.2.2))) else ((spec_l10None.f).bind fun n=>(if (c == n.1 && (d == n.2.1 && (e == n.2.2.1 && (g == n.2.2.2)))) = true then (some (h,i,j,l)) else ((spec_l10None.f).bind fun o=>(if (h == o.1 && (i == o.2.1 && (j == o.2.2.1 && (l == o.2.2.2)))) = true then (some (c,d,e,g)) else ((spec_l10Range.f c d e g).bind fun p=>((spec_l10Range.f h i j l).bind fun q=>((spec_RangeJoin.f k p.1 p.2 q.1 q.2).bind fun r=>((spec_l10Rest.f c d e g).bind fun s=>((spec_l10Rest.f h i j l).bind fun u=>((spec_RestJoin.f k s.1 s.2 u.1 u.2).bind fun v=>((spec_ValMake.f k r.1 r.2 v.1 v.2).bind fun w=>(some (w.1,w.2.1,w.2.2.1,w.2.2.2)))))))))))))
def spec_ValJoin.f (k : Nat) (a0_0 : Int) (a0_1 : Int) (a0_2 : Int) (a0_3 : Int) (a1_0 : Int) (a1_1 : Int) (a1_2 : Int) (a1_3 : Int) : Option (Int × Int × Int × Int):=(spec_ValOk.f k a0_0 a0_1 a0_2 a0_3).bind fun b=>(if b = true then ((spec_ValOk.f k a1_0 a1_1 a1_2 a1_3).bind fun c=>(spec_ValJoin.j0 k (!c) a0_0 a0_1 a0_2 a0_3 a1_0 a1_1 a1_2 a1_3)) else (spec_ValJoin.j0 k true a0_0 a0_1 a0_2 a0_3 a1_0 a1_1 a1_2 a1_3))
def spec_l12Val.f (k : Nat) (a0_0 : Int) (a0_1 : Int) (a0_2 : Int) (a0_3 : Int) (a1_0 : Int) (a1_1 : Int) (a1_2 : Int) (a1_3 : Int) (a2 : Bool) (l3 : List Int) : Option (Int × Int × Int × Int):=if a2 = true then (none) else ((spec_ValJoin.f k a0_0 a0_1 a0_2 a0_3 a1_0 a1_1 a1_2 a1_3).bind fun b=>(some (b.1,b.2.1,b.2.2.1,b.2.2.2)))
mutual
def spec_l12Mix.j0 : Nat→Bool→List Int→Bool→Bool→List (S58)→List (S84)→List (S58)→Int→List Int→Bool→List (S58)→List (S84)→List (S58)→Int→List Int→Option (Bool × (List (S58)) × (List (S84)) × (List (S58)) × Int × List Int)
  | 0,_,_,_,_,_,_,_,_,_,_,_,_,_,_,_=>none
  | k + 1,b,c,d,e,g,h,i,j,l,m,n,o,p,q,r=>if d = true then (some (false,([] : List (S58)),([] : List (S84)),([] : List (S58)),0,([] : List Int))) else (if e = true then (if m = true then ((spec_GapsJoin.f k j l q r).bind fun s=>(if b = true then (none) else (spec_l12Mix.j1 k b c e g h i j l m n o p q r true s.1 s.2))) else ((spec_l12Copy.f k e g h i j l).bind fun u=>(some (u.1,u.2.1,u.2.2.1,u.2.2.2.1,u.2.2.2.2.1,u.2.2.2.2.2)))) else ((spec_l12Copy.f k m n o p q r).bind fun v=>(some (v.1,v.2.1,v.2.2.1,v.2.2.2.1,v.2.2.2.2.1,v.2.2.2.2.2))))
def spec_l12Mix.j1 : Nat→Bool→List Int→Bool→List (S58)→List (S84)→List (S58)→Int→List Int→Bool→List (S58)→List (S84)→List (S58)→Int→List Int→Bool→Int→List Int→Option (Bool × (List (S58)) × (List (S84)) × (List (S58)) × Int × List Int)
  | 0,_,_,_,_,_,_,_,_,_,_,_,_,_,_,_,_,_=>none
  | k + 1,b,c,d,e,f,g,h,i,j,l,m,n,o,p,q,r,s=>spec_l12Mix.l0 k b c 0 d e f g h i j l m n o p q ([] : List (S58)) r s
def spec_l12Mix.l0 : Nat→Bool→List Int→Int→Bool→List (S58)→List (S84)→List (S58)→Int→List Int→Bool→List (S58)→List (S84)→List (S58)→Int→List Int→Bool→List (S58)→Int→List Int→Option (Bool × (List (S58)) × (List (S84)) × (List (S58)) × Int × List Int)
  | 0,_,_,_,_,_,_,_,_,_,_,_,_,_,_,_,_,_,_,_=>none
  | k + 1,b,c,d,e,g,h,i,j,l,m,n,o,p,q,r,s,u,v,w=>if d < (g.length : Int) then (if 0 ≤ d then (if d < (n.length : Int) then ((spec_l12Val.f k ((rd_T58 g d).f0) ((rd_T58 g d).f1) ((rd_T58 g d).f2) ((rd_T58 g d).f3) ((rd_T58 n d).f0) ((rd_T58 n d).f1) ((rd_T58 n d).f2) ((rd_T58 n d).f3) b c).bind fun x=>(if u.length < 4398046511104 then (spec_l12Mix.l0 k b c (wrap64 (d + 1)) e g h i j l m n o p q r s (u ++ [(⟨x.1,x.2.1,x.2.2.1,x.2.2.2⟩ : S58)]) v w) else (none))) else (none)) else (none)) else (spec_l12Mix.l1 k b c 0 e g h i j l m n o p q r s u ([] : List (S84)) v w)
def spec_l12Mix.l1 : Nat→Bool→List Int→Int→Bool→List (S58)→List (S84)→List (S58)→Int→List Int→Bool→List (S58)→List (S84)→List (S58)→Int→List Int→Bool→List (S58)→List (S84)→Int→List Int→Option (Bool × (List (S58)) × (List (S84)) × (List (S58)) × Int × List Int)
  | 0,_,_,_,_,_,_,_,_,_,_,_,_,_,_,_,_,_,_,_,_=>none
  | k + 1,b,c,d,e,g,h,i,j,l,m,n,o,p,q,r,s,u,v,w,x=>if d < (h.length : Int) then (if 0 ≤ d then (if d < (o.length : Int) then (if (rd_T84 h d).f0 = true then ((spec_l12Both.f k ((rd_T84 h d).f1) ((rd_T84 o d).f1)).bind fun y=>((spec_l12Val.f k ((rd_T84 h d).f2.f0) ((rd_T84 h d).f2.f1) ((rd_T84 h d).f2.f2) ((rd_T84 h d).f2.f3) ((rd_T84 o d).f2.f0) ((rd_T84 o d).f2.f1) ((rd_T84 o d).f2.f2) ((rd_T84 o d).f2.f3) b c).bind fun z=>(if v.length < 2199023255552 then (spec_l12Mix.l1 k b c (wrap64 (d + 1)) e g h i j l m n o p q r s u (v ++ [(⟨true,y,(⟨z.1,z.2.1,z.2.2.1,z.2.2.2⟩ : S58)⟩ : S84)]) w x) else (none)))) else ((spec_l12Both.f k ((rd_T84 h d).f1) ((rd_T84 o d).f1)).bind fun aa=>((spec_l12Val.f k ((rd_T84 h d).f2.f0) ((rd_T84 h d).f2.f1) ((rd_T84 h d).f2.f2) ((rd_T84 h d).f2.f3) ((rd_T84 o d).f2.f0) ((rd_T84 o d).f2.f1) ((rd_T84 o d).f2.f2) ((rd_T84 o d).f2.f3) b c).bind fun ab=>(if v.length < 2199023255552 then (spec_l12Mix.l1 k b c (wrap64 (d + 1)) e g h i j l m n o p q r s u (v ++ [(⟨(rd_T84 o d).f0,aa,(⟨ab.1,ab.2.1,ab.2.2.1,ab.2.2.2⟩ : S58)⟩ : S84)]) w x) else (none))))) else (none)) else (none)) else (spec_l12Mix.l2 k b c 0 e g h i j l m n o p q r s u v ([] : List (S58)) w x)
def spec_l12Mix.l2 : Nat→Bool→List Int→Int→Bool→List (S58)→List (S84)→List (S58)→Int→List Int→Bool→List (S58)→List (S84)→List (S58)→Int→List Int→Bool→List (S58)→List (S84)→List (S58)→Int→List Int→Option (Bool × (List (S58)) × (List (S84)) × (List (S58)) × Int × List Int)
  | 0,_,_,_,_,_,_,_,_,_,_,_,_,_,_,_,_,_,_,_,_,_=>none
  | k + 1,b,c,d,e,g,h,i,j,l,m,n,o,p,q,r,s,u,v,w,x,y=>if d < (i.length : Int) then (if 0 ≤ d then (if d < (p.length : Int) then ((spec_l12Val.f k ((rd_T58 i d).f0) ((rd_T58 i d).f1) ((rd_T58 i d).f2) ((rd_T58 i d).f3) ((rd_T58 p d).f0) ((rd_T58 p d).f1) ((rd_T58 p d).f2) ((rd_T58 p d).f3) b c).bind fun z=>(if w.length < 4398046511104 then (spec_l12Mix.l2 k b c (wrap64 (d + 1)) e g h i j l m n o p q r s u v (w ++ [(⟨z.1,z.2.1,z.2.2.1,z.2.2.2⟩ : S58)]) x y) else (none))) else (none)) else (none)) else (some (s,u,v,w,x,y))
end
def spec_l12Mix.f (k : Nat) (a0_0 : Bool) (l0_1 : List (S58)) (l0_2 : List (S84)) (l0_3 : List (S58)) (a0_4 : Int) (l0_5 : List Int) (a1_0 : Bool) (l1_1 : List (S58)) (l1_2 : List (S84)) (l1_3 : List (S58)) (a1_4 : Int) (l1_5 : List Int) (a2 : Bool) (l3 : List Int) : Option (Bool × (List (S58)) × (List (S84)) × (List (S58)) × Int × List Int):=(spec_AbsOk.f k a0_0 l0_1 l0_2 l0_3 a0_4 l0_5).bind fun b=>(if b = true then ((spec_AbsOk.f k a1_0 l1_1 l1_2 l1_3 a1_4 l1_5).bind fun c=>(if c = true then (if a0_0 = true then (if a1_0 = true then ((spec_l12Like.f a0_0 l0_1 l0_2 l0_3 a0_4 l0_5 a1_0 l1_1 l1_2 l1_3 a1_4 l1_5).bind fun d=>(spec_l12Mix.j0 k a2 l3 (!d) a0_0 l0_1 l0_2 l0_3 a0_4 l0_5 a1_0 l1_1 l1_2 l1_3 a1_4 l1_5)) else (spec_l12Mix.j0 k a2 l3 false a0_0 l0_1 l0_2 l0_3 a0_4 l0_5 a1_0 l1_1 l1_2 l1_3 a1_4 l1_5)) else (spec_l12Mix.j0 k a2 l3 false a0_0 l0_1 l0_2 l0_3 a0_4 l0_5 a1_0 l1_1 l1_2 l1_3 a1_4 l1_5)) else (spec_l12Mix.j0 k a2 l3 true a0_0 l0_1 l0_2 l0_3 a0_4 l0_5 a1_0 l1_1 l1_2 l1_3 a1_4 l1_5))) else (spec_l12Mix.j0 k a2 l3 true a0_0 l0_1 l0_2 l0_3 a0_4 l0_5 a1_0 l1_1 l1_2 l1_3 a1_4 l1_5))
def spec_AbsJoin.f (k : Nat) (a0_0 : Bool) (l0_1 : List (S58)) (l0_2 : List (S84)) (l0_3 : List (S58)) (a0_4 : Int) (l0_5 : List Int) (a1_0 : Bool) (l1_1 : List (S58)) (l1_2 : List (S84)) (l1_3 : List (S58)) (a1_4 : Int) (l1_5 : List Int) : Option (Bool × (List (S58)) × (List (S84)) × (List (S58)) × Int × List Int):=(spec_l12Mix.f k a0_0 l0_1 l0_2 l0_3 a0_4 l0_5 a1_0 l1_1 l1_2 l1_3 a1_4 l1_5 false (([] : List Int))).bind fun b=>(some (b.1,b.2.1,b.2.2.1,b.2.2.2.1,b.2.2.2.2.1,b.2.2.2.2.2))
def laws_toVal.f (a0_0 : Int) (a0_1 : Int) (a0_2 : Int) (a0_3 : Int) : Option (Int × Int × Int × Int):=some (a0_0,a0_1,a0_2,a0_3)
def laws_toValS.l0 : Nat→List (S116)→List (S58)→Int→Option ((List (S58)))
  | 0,_,_,_=>none
  | k + 1,b,c,d=>if d < (b.length : Int) then (if 0 ≤ d then ((laws_toVal.f ((rd_T116 b d).f0) ((rd_T116 b d).f1) ((rd_T116 b d).f2) ((rd_T116 b d).f3)).bind fun e=>(if d < (c.length : Int) then (laws_toValS.l0 k b (c.set (d : Int).toNat (⟨e.1,e.2.1,e.2.2.1,e.2.2.2⟩ : S58)) (wrap64 (d + 1))) else (none))) else (none)) else (some c)
def laws_toValS.f (k : Nat) (l0 : List (S116)) : Option ((List (S58))):=if 0 ≤ (l0.length : Int) then (if ((l0.length : Int) : Int).toNat ≤ 8796093022208 then (laws_toValS.l0 k l0 (List.replicate ((l0.length : Int) : Int).toNat z58) 0) else (none)) else (none)
def laws_toIntS.l0 : Nat→List Int→List Int→Int→Option (List Int)
  | 0,_,_,_=>none
  | k + 1,b,c,d=>if d < (b.length : Int) then (if 0 ≤ d then (if d < (c.length : Int) then (laws_toIntS.l0 k b (c.set (d : Int).toNat (rd b d)) (wrap64 (d + 1))) else (none)) else (none)) else (some c)
def laws_toIntS.f (k : Nat) (l0 : List Int) : Option (List Int):=if 0 ≤ (l0.length : Int) then (if ((l0.length : Int) : Int).toNat ≤ 35184372088832 then (laws_toIntS.l0 k l0 (List.replicate ((l0.length : Int) : Int).toNat 0) 0) else (none)) else (none)
def laws_toRefVal.f (k : Nat) (a0_0 : Bool) (l0_1 : List Int) (a0_2 : Int) (a0_3 : Int) (a0_4 : Int) (a0_5 : Int) : Option (Bool × List Int × Int × Int × Int × Int):=(laws_toIntS.f k l0_1).bind fun b=>((laws_toVal.f a0_2 a0_3 a0_4 a0_5).bind fun c=>(some (a0_0,b,c.1,c.2.1,c.2.2.1,c.2.2.2)))
def laws_toRefValS.l0 : Nat→List (S118)→List (S84)→Int→Option ((List (S84)))
  | 0,_,_,_=>none
  | k + 1,b,c,d=>if d < (b.length : Int) then (if 0 ≤ d then ((laws_toRefVal.f k ((rd_T118 b d).f0) ((rd_T118 b d).f1) ((rd_T118 b d).f2.f0) ((rd_T118 b d).f2.f1) ((rd_T118 b d).f2.f2) ((rd_T118 b d).f2.f3)).bind fun e=>(if d < (c.length : Int) then (laws_toRefValS.l0 k b (c.set (d : Int).toNat (⟨e.1,e.2.1,(⟨e.2.2.1,e.2.2.2.1,e.2.2.2.2.1,e.2.2.2.2.2⟩ : S58)⟩ : S84)) (wrap64 (d + 1))) else (none))) else (none)) else (some c)
def laws_toRefValS.f (k : Nat) (l0 : List (S118)) : Option ((List (S84))):=if 0 ≤ (l0.length : Int) then (if ((l0.length : Int) : Int).toNat ≤ 4398046511104 then (laws_toRefValS.l0 k l0 (List.replicate ((l0.length : Int) : Int).toNat z84) 0) else (none)) else (none)
def laws_toGaps.f (k : Nat) (a0_0 : Int) (l0_1 : List Int) : Option (Int × List Int):=(laws_toIntS.f k l0_1).bind fun b=>(some (a0_0,b))
def laws_toAbs.f (k : Nat) (a0_0 : Bool) (l0_1 : List (S116)) (l0_2 : List (S118)) (l0_3 : List (S116)) (a0_4 : Int) (l0_5 : List Int) : Option (Bool × (List (S58)) × (List (S84)) × (List (S58)) × Int × List Int):=(laws_toValS.f k l0_1).bind fun b=>((laws_toRefValS.f k l0_2).bind fun c=>((laws_toValS.f k l0_3).bind fun d=>((laws_toGaps.f k a0_4 l0_5).bind fun e=>(some (a0_0,b,c,d,e.1,e.2)))))
def impl_valNone.f  : Option (Int × Int × Int × Int):=some (1,0,0,0)
def impl_Val_none.f (a0_0 : Int) (a0_1 : Int) (a0_2 : Int) (a0_3 : Int) : Option (Bool):=(impl_valNone.f).bind fun b=>(some (a0_0 == b.1 && (a0_1 == b.2.1 && (a0_2 == b.2.2.1 && (a0_3 == b.2.2.2)))))
def impl_NumOk.f (a0 : Int) : Option (Bool):=if a0 ≥ (-2147483648) then (some (decide (a0 ≤ 2147483647))) else (some false)
def impl_rangeNone.f  : Option (Int × Int):=some (1,0)
def impl_RangeOk.f (a0_0 : Int) (a0_1 : Int) : Option (Bool):=(impl_rangeNone.f).bind fun b=>(if (a0_0 == b.1 && (a0_1 == b.2)) = true then (some true) else ((impl_NumOk.f a0_0).bind fun c=>(if c = true then ((impl_NumOk.f a0_1).bind fun d=>(if d = true then (some (decide (a0_0 ≤ a0_1))) else (some false))) else (some false))))
def impl_RangeHas.f (a0_0 : Int) (a0_1 : Int) (a1 : Int) : Option (Bool):=(impl_RangeOk.f a0_0 a0_1).bind fun b=>(if b = true then (if a0_0 ≤ a1 then (some (decide (a1 ≤ a0_1))) else (some false)) else (some false))
def impl_RestOk.f (a0_0 : Int) (a0_1 : Int) : Option (Bool):=if a0_0 = 0 then ((impl_NumOk.f a0_1).bind fun b=>(some b)) else (if a0_0 ≥ 1 then (if a0_0 ≤ 65536 then (if a0_1 ≥ 0 then (some (decide (a0_1 < a0_0))) else (some false)) else (some false)) else (some false))
def impl_Range_empty.f (a0_0 : Int) (a0_1 : Int) : Option (Bool):=some (decide (a0_0 > a0_1))
def impl_valOne.f (a0 : Int) : Option (Int × Int × Int × Int):=some (a0,a0,0,a0)
def impl_restMod.f (a0 : Int) (a1 : Int) : Option (Int):=if a1 = 0 then (none) else (if (Int.tmod a0 a1) < 0 then (some (wrap64 ((Int.tmod a0 a1) + a1))) else (some (Int.tmod a0 a1)))
def impl_ValMake.j0 : Nat→Bool→Int→Int→Int→Int→Option (Int × Int × Int × Int)
  | 0,_,_,_,_,_=>none
  | k + 1,b,c,d,e,g=>if b = true then ((impl_valNone.f).bind fun h=>(some (h.1,h.2.1,h.2.2.1,h.2.2.2))) else (if e = 0 then ((impl_RangeHas.f c d g).bind fun i=>(if i = true then ((impl_valOne.f g).bind fun j=>(some (j.1,j.2.1,j.2.2.1,j.2.2.2))) else ((impl_valNone.f).bind fun l=>(some (l.1,l.2.1,l.2.2.1,l.2.2.2))))) else ((impl_restMod.f (wrap64 (g - c)) e).bind fun m=>((impl_restMod.f (wrap64 (d - g)) e).bind fun n=>(if (wrap64 (c + m)) > (wrap64 (d - n)) then ((impl_valNone.f).bind fun o=>(some (o.1,o.2.1,o.2.2.1,o.2.2.2))) else (if (wrap64 (c + m)) = (wrap64 (d - n)) then ((impl_valOne.f (wrap64 (c + m))).bind fun p=>(some (p.1,p.2.1,p.2.2.1,p.2.2.2))) else (some (wrap64 (c + m),wrap64 (d - n),e,g)))))))
def impl_ValMake.f (k : Nat) (a0_0 : Int) (a0_1 : Int) (a1_0 : Int) (a1_1 : Int) : Option (Int × Int × Int × Int):=(impl_RangeOk.f a0_0 a0_1).bind fun b=>(if b = true then ((impl_RestOk.f a1_0 a1_1).bind fun c=>(if c = true then ((impl_Range_empty.f a0_0 a0_1).bind fun d=>(impl_ValMake.j0 k d a0_0 a0_1 a1_0 a1_1)) else (impl_ValMake.j0 k true a0_0 a0_1 a1_0 a1_1))) else (impl_ValMake.j0 k true a0_0 a0_1 a1_0 a1_1))
def impl_Val_span.f (a0_0 : Int) (a0_1 : Int) (a0_2 : Int) (a0_3 : Int) : Option (Int × Int):=some (a0_0,a0_1)
def impl_Val_rest.f (a0_0 : Int) (a0_1 : Int) (a0_2 : Int) (a0_3 : Int) : Option (Int × Int):=some (a0_2,a0_3)
def impl_ValOk.f (k : Nat) (a0_0 : Int) (a0_1 : Int) (a0_2 : Int) (a0_3 : Int) : Option (Bool):=(impl_Val_span.f a0_0 a0_1 a0_2 a0_3).bind fun b=>((impl_Val_rest.f a0_0 a0_1 a0_2 a0_3).bind fun c=>((impl_ValMake.f k b.1 b.2 c.1 c.2).bind fun d=>(some (a0_0 == d.1 && (a0_1 == d.2.1 && (a0_2 == d.2.2.1 && (a0_3 == d.2.2.2)))))))
mutual
def impl_refOk.j0 : Nat→Bool→Bool→List Int→Int→Int→Int→Int→Option (Bool)
  | 0,_,_,_,_,_,_,_=>none
  | k + 1,b,c,d,e,f,g,h=>if b = true then (some false) else (impl_refOk.l0 k (-1) d (d.length : Int) 0 c d e f g h)
def impl_refOk.l0 : Nat→Int→List Int→Int→Int→Bool→List Int→Int→Int→Int→Int→Option (Bool)
  | 0,_,_,_,_,_,_,_,_,_,_=>none
  | k + 1,b,c,d,e,f,g,h,i,j,l=>if e < d then (if 0 ≤ e then (if e < (c.length : Int) then (if (rd c e) ≤ b then (some false) else (impl_refOk.l0 k (rd c e) c d (wrap64 (e + 1)) f g h i j l)) else (none)) else (none)) else (if f = true then (some true) else (some (decide ((g.length : Int) > 0))))
end
def impl_refOk.f (k : Nat) (a0_0 : Bool) (l0_1 : List Int) (a0_2 : Int) (a0_3 : Int) (a0_4 : Int) (a0_5 : Int) : Option (Bool):=(impl_ValOk.f k a0_2 a0_3 a0_4 a0_5).bind fun b=>(if b = true then ((impl_Val_none.f a0_2 a0_3 a0_4 a0_5).bind fun c=>(impl_refOk.j0 k (c != ((l0_1.length : Int) == 0)) a0_0 l0_1 a0_2 a0_3 a0_4 a0_5)) else (impl_refOk.j0 k true a0_0 l0_1 a0_2 a0_3 a0_4 a0_5))
def impl_Gaps_at.f (a0_0 : Int) (l0_1 : List Int) (a1 : Int) (a2 : Int) : Option (Int):=some (wrap64 ((wrap64 (a1 * (wrap64 (a0_0 + 1)))) + a2))
mutual
def impl_GapsOk.j0 : Nat→Bool→Int→List Int→Option (Bool)
  | 0,_,_,_=>none
  | k + 1,b,c,d=>if b = true then (some false) else (impl_GapsOk.l0 k (wrap64 (c + 1)) 0 c d)
def impl_GapsOk.l0 : Nat→Int→Int→Int→List Int→Option (Bool)
  | 0,_,_,_,_=>none
  | k + 1,b,c,d,e=>if c < b then ((impl_Gaps_at.f d e c c).bind fun g=>(if 0 ≤ g then (if g < (e.length : Int) then (if (rd e g) = 0 then (impl_GapsOk.l0 k b (wrap64 (c + 1)) d e) else (some false)) else (none)) else (none))) else (impl_GapsOk.l1 k e (e.length : Int) 0)
def impl_GapsOk.l1 : Nat→List Int→Int→Int→Option (Bool)
  | 0,_,_,_=>none
  | k + 1,b,c,d=>if d < c then (if 0 ≤ d then (if d < (b.length : Int) then (if (rd b d) < (-1099511627776) then (some false) else (if (rd b d) > 1099511627776 then (some false) else (impl_GapsOk.l1 k b c (wrap64 (d + 1))))) else (none)) else (none)) else (some true)
end
def impl_GapsOk.f (k : Nat) (a0_0 : Int) (l0_1 : List Int) : Option (Bool):=if a0_0 < 0 then (impl_GapsOk.j0 k true a0_0 l0_1) else (if a0_0 > 12 then (impl_GapsOk.j0 k true a0_0 l0_1) else (impl_GapsOk.j0 k ((l0_1.length : Int) != (wrap64 ((wrap64 (a0_0 + 1)) * (wrap64 (a0_0 + 1))))) a0_0 l0_1))
mutual
def impl_AbsOk.l0 : Nat→List (S58)→Int→Int→Bool→List (S58)→List (S84)→List (S58)→Int→List Int→Option (Bool)
  | 0,_,_,_,_,_,_,_,_,_=>none
  | k + 1,b,c,d,e,g,h,i,j,l=>if d < c then (if 0 ≤ d then (if d < (b.length : Int) then ((impl_Val_none.f ((rd_T58 b d).f0) ((rd_T58 b d).f1) ((rd_T58 b d).f2) ((rd_T58 b d).f3)).bind fun m=>(if m = true then (some false) else ((impl_ValOk.f k ((rd_T58 b d).f0) ((rd_T58 b d).f1) ((rd_T58 b d).f2) ((rd_T58 b d).f3)).bind fun n=>(if n = true then (impl_AbsOk.l0 k b c (wrap64 (d + 1)) e g h i j l) else (some false))))) else (none)) else (none)) else (impl_AbsOk.l1 k i (i.length : Int) 0 e g h i j l)
def impl_AbsOk.l1 : Nat→List (S58)→Int→Int→Bool→List (S58)→List (S84)→List (S58)→Int→List Int→Option (Bool)
  | 0,_,_,_,_,_,_,_,_,_=>none
  | k + 1,b,c,d,e,g,h,i,j,l=>if d < c then (if 0 ≤ d then (if d < (b.length : Int) then ((impl_Val_none.f ((rd_T58 b d).f0) ((rd_T58 b d).f1) ((rd_T58 b d).f2) ((rd_T58 b d).f3)).bind fun m=>(if m = true then (some false) else ((impl_ValOk.f k ((rd_T58 b d).f0) ((rd_T58 b d).f1) ((rd_T58 b d).f2) ((rd_T58 b d).f3)).bind fun n=>(if n = true then (impl_AbsOk.l1 k b c (wrap64 (d + 1)) e g h i j l) else (some false))))) else (none)) else (none)) else (impl_AbsOk.l2 k h (h.length : Int) 0 e g h i j l)
def impl_AbsOk.l2 : Nat→List (S84)→Int→Int→Bool→List (S58)→List (S84)→List (S58)→Int→List Int→Option (Bool)
  | 0,_,_,_,_,_,_,_,_,_=>none
  | k + 1,b,c,d,e,g,h,i,j,l=>if d < c then (if 0 ≤ d then (if d < (b.length : Int) then ((impl_refOk.f k ((rd_T84 b d).f0) ((rd_T84 b d).f1) ((rd_T84 b d).f2.f0) ((rd_T84 b d).f2.f1) ((rd_T84 b d).f2.f2) ((rd_T84 b d).f2.f3)).bind fun m=>(if m = true then (impl_AbsOk.l2 k b c (wrap64 (d + 1)) e g h i j l) else (some false))) else (none)) else (none)) else ((impl_GapsOk.f k j l).bind fun n=>(if n = true then (some (j == (g.length : Int))) else (some false)))
end
def impl_AbsOk.f (k : Nat) (a0_0 : Bool) (l0_1 : List (S58)) (l0_2 : List (S84)) (l0_3 : List (S58)) (a0_4 : Int) (l0_5 : List Int) : Option (Bool):=if a0_0 = true then (impl_AbsOk.l0 k l0_1 (l0_1.length : Int) 0 a0_0 l0_1 l0_2 l0_3 a0_4 l0_5) else (if (l0_1.length : Int) = 0 then (if (l0_2.length : Int) = 0 then (if (l0_3.length : Int) = 0 then (if a0_4 = 0 then (some ((l0_5.length : Int) == 0)) else (some false)) else (some false)) else (some false)) else (some false))
def impl_absAlike.f (a0_0 : Bool) (l0_1 : List (S58)) (l0_2 : List (S84)) (l0_3 : List (S58)) (a0_4 : Int) (l0_5 : List Int) (a1_0 : Bool) (l1_1 : List (S58)) (l1_2 : List (S84)) (l1_3 : List (S58)) (a1_4 : Int) (l1_5 : List Int) : Option (Bool):=if (l0_1.length : Int) = (l1_1.length : Int) then (if (l0_2.length : Int) = (l1_2.length : Int) then (some ((l0_3.length : Int) == (l1_3.length : Int))) else (some false)) else (some false)
def impl_Gaps_clone.f (a0_0 : Int) (l0_1 : List Int) : Option (Int × List Int):=if ([] : List Int).length + l0_1.length < 17592186044416 then (some (a0_0,(([] : List Int) ++ l0_1))) else (none)
def impl_RefVal_clone.f (a0_0 : Bool) (l0_1 : List Int) (a0_2 : Int) (a0_3 : Int) (a0_4 : Int) (a0_5 : Int) : Option (Bool × List Int × Int × Int × Int × Int):=if ([] : List Int).length + l0_1.length < 17592186044416 then (some (a0_0,(([] : List Int) ++ l0_1),a0_2,a0_3,a0_4,a0_5)) else (none)
def impl_Abs_clone.l0 : Nat→List (S84)→Int→Int→Bool→List (S58)→List (S84)→List (S58)→Int→List Int→Option (Bool × (List (S58)) × (List (S84)) × (List (S58)) × Int × List Int)
  | 0,_,_,_,_,_,_,_,_,_=>none
  | k + 1,b,c,d,e,g,h,i,j,l=>if d < c then (if 0 ≤ d then (if d < (b.length : Int) then ((impl_RefVal_clone.f ((rd_T84 b d).f0) ((rd_T84 b d).f1) ((rd_T84 b d).f2.f0) ((rd_T84 b d).f2.f1) ((rd_T84 b d).f2.f2) ((rd_T84 b d).f2.f3)).bind fun m=>(if h.length < 2199023255552 then (impl_Abs_clone.l0 k b c (wrap64 (d + 1)) e g (h ++ [(⟨m.1,m.2.1,(⟨m.2.2.1,m.2.2.2.1,m.2.2.2.2.1,m.2.2.2.2.2⟩ : S58)⟩ : S84)]) i j l) else (none))) else (none)) else (none)) else (some (e,g,h,i,j,l))
def impl_Abs_clone.f (k : Nat) (a0_0 : Bool) (l0_1 : List (S58)) (l0_2 : List (S84)) (l0_3 : List (S58)) (a0_4 : Int) (l0_5 : List Int) : Option (Bool × (List (S58)) × (List (S84)) × (List (S58)) × Int × List Int):=if ([] : List (S58)).length + l0_1.length < 4398046511104 then (if ([] : List (S58)).length + l0_3.length < 4398046511104 then ((impl_Gaps_clone.f a0_4 l0_5).bind fun b=>(impl_Abs_clone.l0 k l0_2 (l0_2.length : Int) 0 a0_0 (([] : List (S58)) ++ l0_1) ([] : List (S84)) (([] : List (S58)) ++ l0_3) b.1 b.2)) else (none)) else (none)
mutual
def impl_absMerge.l0 : Nat→List Int→List Int→List Int→Option (List Int)
  | 0,_,_,_=>none
  | k + 1,b,c,d=>if (b.length : Int) > 0 then (impl_absMerge.j1 k b c d true) else (impl_absMerge.j1 k b c d (decide ((c.length : Int) > 0)))
def impl_absMerge.j1 : Nat→List Int→List Int→List Int→Bool→Option (List Int)
  | 0,_,_,_,_=>none
  | k + 1,b,c,d,e=>if e = true then (if (c.length : Int) = 0 then (impl_absMerge.j2 k b c d true) else (if (b.length : Int) > 0 then (if 0 < (b.length : Int) then (if 0 < (c.length : Int) then (impl_absMerge.j2 k b c d (decide ((rd b 0) < (rd c 0)))) else (none)) else (none)) else (impl_absMerge.j2 k b c d false))) else (some d)
def impl_absMerge.j2 : Nat→List Int→List Int→List Int→Bool→Option (List Int)
  | 0,_,_,_,_=>none
  | k + 1,b,c,d,e=>if e = true then (if 0 < (b.length : Int) then (if d.length < 17592186044416 then (if 1 ≤ (b.length : Int) then (impl_absMerge.l0 k (b.drop 1) c (d ++ [rd b 0])) else (none)) else (none)) else (none)) else (if (b.length : Int) = 0 then (if 0 < (c.length : Int) then (if d.length < 17592186044416 then (if 1 ≤ (c.length : Int) then (impl_absMerge.l0 k b (c.drop 1) (d ++ [rd c 0])) else (none)) else (none)) else (none)) else (if 0 < (c.length : Int) then (if 0 < (b.length : Int) then (if (rd c 0) < (rd b 0) then (if d.length < 17592186044416 then (if 1 ≤ (c.length : Int) then (impl_absMerge.l0 k b (c.drop 1) (d ++ [rd c 0])) else (none)) else (none)) else (if d.length < 17592186044416 then (if 1 ≤ (b.length : Int) then (if 1 ≤ (c.length : Int) then (impl_absMerge.l0 k (b.drop 1) (c.drop 1) (d ++ [rd b 0])) else (none)) else (none)) else (none))) else (none)) else (none)))
end
def impl_absMerge.f (k : Nat) (l0 : List Int) (l1 : List Int) : Option (List Int):=impl_absMerge.l0 k l0 l1 ([] : List Int)
def impl_RangeJoin.j0 : Nat→Bool→Int→Int→Int→Int→Option (Int × Int)
  | 0,_,_,_,_,_=>none
  | k + 1,b,c,d,e,g=>if b = true then ((impl_rangeNone.f).bind fun h=>(some (h.1,h.2))) else ((impl_Range_empty.f c d).bind fun i=>(if i = true then (some (e,g)) else ((impl_Range_empty.f e g).bind fun j=>(if j = true then (some (c,d)) else (some (mn c e,mx d g))))))
def impl_RangeJoin.f (k : Nat) (a0_0 : Int) (a0_1 : Int) (a1_0 : Int) (a1_1 : Int) : Option (Int × Int):=(impl_RangeOk.f a0_0 a0_1).bind fun b=>(if b = true then ((impl_RangeOk.f a1_0 a1_1).bind fun c=>(impl_RangeJoin.j0 k (!c) a0_0 a0_1 a1_0 a1_1)) else (impl_RangeJoin.j0 k true a0_0 a0_1 a1_0 a1_1))
def impl_restAll.f  : Option (Int × Int):=some (1,0)
mutual
def impl_restGcd.l0 : Nat→Int→List Int→Int→Int→Option (Int)
  | 0,_,_,_,_=>none
  | k + 1,b,c,d,e=>if e < d then (if 0 ≤ e then (if e < (c.length : Int) then (impl_restGcd.l1 k b (rd c e) c d e) else (none)) else (none)) else (if b < 0 then (some (wrap64 (-b))) else (some b))
def impl_restGcd.l1 : Nat→Int→Int→List Int→Int→Int→Option (Int)
  | 0,_,_,_,_,_=>none
  | k + 1,b,c,d,e,f=>if c = 0 then (impl_restGcd.l0 k b d e (wrap64 (f + 1))) else (impl_restGcd.l1 k c (Int.tmod b c) d e f)
end
def impl_restGcd.f (k : Nat) (l0 : List Int) : Option (Int):=impl_restGcd.l0 k 0 l0 (l0.length : Int) 0
def impl_restOf.f (k : Nat) (a0 : Int) (a1 : Int) : Option (Int × Int):=if a1 > 65536 then ((impl_restGcd.f k (([a1,65536] : List Int))).bind fun b=>(if b = 0 then (some (0,a0)) else ((impl_restMod.f a0 b).bind fun c=>(some (b,c))))) else (if a1 = 0 then (some (0,a0)) else ((impl_restMod.f a0 a1).bind fun d=>(some (a1,d))))
def impl_RestJoin.j0 : Nat→Bool→Int→Int→Int→Int→Option (Int × Int)
  | 0,_,_,_,_,_=>none
  | k + 1,b,c,d,e,g=>if b = true then ((impl_restAll.f).bind fun h=>(some (h.1,h.2))) else ((impl_restGcd.f k (([c,e,wrap64 (d - g)] : List Int))).bind fun i=>((impl_restOf.f k d i).bind fun j=>(some (j.1,j.2))))
def impl_RestJoin.f (k : Nat) (a0_0 : Int) (a0_1 : Int) (a1_0 : Int) (a1_1 : Int) : Option (Int × Int):=(impl_RestOk.f a0_0 a0_1).bind fun b=>(if b = true then ((impl_RestOk.f a1_0 a1_1).bind fun c=>(impl_RestJoin.j0 k (!c) a0_0 a0_1 a1_0 a1_1)) else (impl_RestJoin.j0 k true a0_0 a0_1 a1_0 a1_1))
def impl_ValJoin.j0 : Nat→Bool→Int→Int→Int→Int→Int→Int→Int→Int→Option (Int × Int × Int × Int)
  | 0,_,_,_,_,_,_,_,_,_=>none
  | k + 1,b,c,d,e,g,h,i,j,l=>if b = true then ((impl_valNone.f).bind fun m=>(some (m.1,m.2.1,m.2.2.1,m.2.2.2))) else ((impl_Val_none.f c d e g).bind fun n=>(if n = true then (some (h,i,j,l)) else ((impl_Val_none.f h i j l).bind fun o=>(if o = true then (some (c,d,e,g)) else ((impl_Val_span.f c d e g).bind fun p=>((impl_Val_span.f h i j l).bind fun q=>((impl_RangeJoin.f k p.1 p.2 q.1 q.2).bind fun r=>((impl_Val_rest.f c d e g).bind fun s=>((impl_Val_rest.f h i j l).bind fun u=>((impl_RestJoin.f k s.1 s.2 u.1 u.2).bind fun v=>((impl_ValMake.f k r.1 r.2 v.1 v.2).bind fun w=>(some (w.1,w.2.1,w.2.2.1,w.2.2.2)))))))))))))
def impl_ValJoin.f (k : Nat) (a0_0 : Int) (a0_1 : Int) (a0_2 : Int) (a0_3 : Int) (a1_0 : Int) (a1_1 : Int) (a1_2 : Int) (a1_3 : Int) : Option (Int × Int × Int × Int):=(impl_ValOk.f k a0_0 a0_1 a0_2 a0_3).bind fun b=>(if b = true then ((impl_ValOk.f k a1_0 a1_1 a1_2 a1_3).bind fun c=>(impl_ValJoin.j0 k (!c) a0_0 a0_1 a0_2 a0_3 a1_0 a1_1 a1_2 a1_3)) else (impl_ValJoin.j0 k true a0_0 a0_1 a0_2 a0_3 a1_0 a1_1 a1_2 a1_3))
mutual
def impl_GapsJoin.j0 : Nat→Bool→Int→List Int→Int→List Int→Option (Int × List Int)
  | 0,_,_,_,_,_=>none
  | k + 1,b,c,d,e,g=>if b = true then (some (0,([] : List Int))) else ((impl_Gaps_clone.f c d).bind fun h=>(impl_GapsJoin.l0 k g (g.length : Int) 0 h.1 h.2))
def impl_GapsJoin.l0 : Nat→List Int→Int→Int→Int→List Int→Option (Int × List Int)
  | 0,_,_,_,_,_=>none
  | k + 1,b,c,d,e,f=>if d < c then (if 0 ≤ d then (if d < (b.length : Int) then (if d < (f.length : Int) then (impl_GapsJoin.l0 k b c (wrap64 (d + 1)) e (f.set (d : Int).toNat (mx (rd f d) (rd b d)))) else (none)) else (none)) else (none)) else (some (e,f))
end
def impl_GapsJoin.f (k : Nat) (a0_0 : Int) (l0_1 : List Int) (a1_0 : Int) (l1_1 : List Int) : Option (Int × List Int):=(impl_GapsOk.f k a0_0 l0_1).bind fun b=>(if b = true then ((impl_GapsOk.f k a1_0 l1_1).bind fun c=>(if c = true then (impl_GapsJoin.j0 k (a0_0 != a1_0) a0_0 l0_1 a1_0 l1_1) else (impl_GapsJoin.j0 k true a0_0 l0_1 a1_0 l1_1))) else (impl_GapsJoin.j0 k true a0_0 l0_1 a1_0 l1_1))
mutual
def impl_absBoth_ValJoin_GapsJoin.j0 : Nat→Bool→Bool→List (S58)→List (S84)→List (S58)→Int→List Int→Bool→List (S58)→List (S84)→List (S58)→Int→List Int→Option (Bool × (List (S58)) × (List (S84)) × (List (S58)) × Int × List Int)
  | 0,_,_,_,_,_,_,_,_,_,_,_,_,_=>none
  | k + 1,b,c,d,e,g,h,i,j,l,m,n,o,p=>if b = true then (some (false,([] : List (S58)),([] : List (S84)),([] : List (S58)),0,([] : List Int))) else (if c = true then (if j = true then ((impl_absAlike.f c d e g h i j l m n o p).bind fun q=>(if q = true then ((impl_GapsJoin.f k h i o p).bind fun r=>(impl_absBoth_ValJoin_GapsJoin.l0 k d (d.length : Int) 0 c d e g h i j l m n o p true ([] : List (S58)) r.1 r.2)) else (some (false,([] : List (S58)),([] : List (S84)),([] : List (S58)),0,([] : List Int))))) else ((impl_Abs_clone.f k c d e g h i).bind fun s=>(some (s.1,s.2.1,s.2.2.1,s.2.2.2.1,s.2.2.2.2.1,s.2.2.2.2.2)))) else ((impl_Abs_clone.f k j l m n o p).bind fun u=>(some (u.1,u.2.1,u.2.2.1,u.2.2.2.1,u.2.2.2.2.1,u.2.2.2.2.2))))
def impl_absBoth_ValJoin_GapsJoin.l0 : Nat→List (S58)→Int→Int→Bool→List (S58)→List (S84)→List (S58)→Int→List Int→Bool→List (S58)→List (S84)→List (S58)→Int→List Int→Bool→List (S58)→Int→List Int→Option (Bool × (List (S58)) × (List (S84)) × (List (S58)) × Int × List Int)
  | 0,_,_,_,_,_,_,_,_,_,_,_,_,_,_,_,_,_,_,_=>none
  | k + 1,b,c,d,e,g,h,i,j,l,m,n,o,p,q,r,s,u,v,w=>if d < c then (if 0 ≤ d then (if d < (b.length : Int) then (if d < (n.length : Int) then ((impl_ValJoin.f k ((rd_T58 b d).f0) ((rd_T58 b d).f1) ((rd_T58 b d).f2) ((rd_T58 b d).f3) ((rd_T58 n d).f0) ((rd_T58 n d).f1) ((rd_T58 n d).f2) ((rd_T58 n d).f3)).bind fun x=>(if u.length < 4398046511104 then (impl_absBoth_ValJoin_GapsJoin.l0 k b c (wrap64 (d + 1)) e g h i j l m n o p q r s (u ++ [(⟨x.1,x.2.1,x.2.2.1,x.2.2.2⟩ : S58)]) v w) else (none))) else (none)) else (none)) else (none)) else (impl_absBoth_ValJoin_GapsJoin.l1 k i (i.length : Int) 0 e g h i j l m n o p q r s u ([] : List (S58)) v w)
def impl_absBoth_ValJoin_GapsJoin.l1 : Nat→List (S58)→Int→Int→Bool→List (S58)→List (S84)→List (S58)→Int→List Int→Bool→List (S58)→List (S84)→List (S58)→Int→List Int→Bool→List (S58)→List (S58)→Int→List Int→Option (Bool × (List (S58)) × (List (S84)) × (List (S58)) × Int × List Int)
  | 0,_,_,_,_,_,_,_,_,_,_,_,_,_,_,_,_,_,_,_,_=>none
  | k + 1,b,c,d,e,g,h,i,j,l,m,n,o,p,q,r,s,u,v,w,x=>if d < c then (if 0 ≤ d then (if d < (b.length : Int) then (if d < (p.length : Int) then ((impl_ValJoin.f k ((rd_T58 b d).f0) ((rd_T58 b d).f1) ((rd_T58 b d).f2) ((rd_T58 b d).f3) ((rd_T58 p d).f0) ((rd_T58 p d).f1) ((rd_T58 p d).f2) ((rd_T58 p d).f3)).bind fun y=>(if v.length < 4398046511104 then (impl_absBoth_ValJoin_GapsJoin.l1 k b c (wrap64 (d + 1)) e g h i j l m n o p q r s u (v ++ [(⟨y.1,y.2.1,y.2.2.1,y.2.2.2⟩ : S58)]) w x) else (none))) else (none)) else (none)) else (none)) else (impl_absBoth_ValJoin_GapsJoin.l2 k h (h.length : Int) 0 m n o p q r s u ([] : List (S84)) v w x)
def impl_absBoth_ValJoin_GapsJoin.l2 : Nat→List (S84)→Int→Int→Bool→List (S58)→List (S84)→List (S58)→Int→List Int→Bool→List (S58)→List (S84)→List (S58)→Int→List Int→Option (Bool × (List (S58)) × (List (S84)) × (List (S58)) × Int × List Int)
  | 0,_,_,_,_,_,_,_,_,_,_,_,_,_,_,_=>none
  | k + 1,b,c,d,e,g,h,i,j,l,m,n,o,p,q,r=>if d < c then (if 0 ≤ d then (if d < (b.length : Int) then (if d < (h.length : Int) then (if (rd_T84 b d).f0 = true then ((impl_absMerge.f k ((rd_T84 b d).f1) ((rd_T84 h d).f1)).bind fun s=>((impl_ValJoin.f k ((rd_T84 b d).f2.f0) ((rd_T84 b d).f2.f1) ((rd_T84 b d).f2.f2) ((rd_T84 b d).f2.f3) ((rd_T84 h d).f2.f0) ((rd_T84 h d).f2.f1) ((rd_T84 h d).f2.f2) ((rd_T84 h d).f2.f3)).bind fun u=>(if o.length < 2199023255552 then (impl_absBoth_ValJoin_GapsJoin.l2 k b c (wrap64 (d + 1)) e g h i j l m n (o ++ [(⟨true,s,(⟨u.1,u.2.1,u.2.2.1,u.2.2.2⟩ : S58)⟩ : S84)]) p q r) else (none)))) else ((impl_absMerge.f k ((rd_T84 b d).f1) ((rd_T84 h d).f1)).bind fun v=>((impl_ValJoin.f k ((rd_T84 b d).f2.f0) ((rd_T84 b d).f2.f1) ((rd_T84 b d).f2.f2) ((rd_T84 b d).f2.f3) ((rd_T84 h d).f2.f0) ((rd_T84 h d).f2.f1) ((rd_T84 h d).f2.f2) ((rd_T84 h d).f2.f3)).bind fun w=>(if o.length < 2199023255552 then (impl_absBoth_ValJoin_GapsJoin.l2 k b c (wrap64 (d + 1)) e g h i j l m n (o ++ [(⟨(rd_T84 h d).f0,v,(⟨w.1,w.2.1,w.2.2.1,w.2.2.2⟩ : S58)⟩ : S84)]) p q r) else (none))))) else (none)) else (none)) else (none)) else (some (m,n,o,p,q,r))
end
def impl_absBoth_ValJoin_GapsJoin.f (k : Nat) (a0_0 : Bool) (l0_1 : List (S58)) (l0_2 : List (S84)) (l0_3 : List (S58)) (a0_4 : Int) (l0_5 : List Int) (a1_0 : Bool) (l1_1 : List (S58)) (l1_2 : List (S84)) (l1_3 : List (S58)) (a1_4 : Int) (l1_5 : List Int)   : Option (Bool × (List (S58)) × (List (S84)) × (List (S58)) × Int × List Int):=(impl_AbsOk.f k a0_0 l0_1 l0_2 l0_3 a0_4 l0_5).bind fun b=>(if b = true then ((impl_AbsOk.f k a1_0 l1_1 l1_2 l1_3 a1_4 l1_5).bind fun c=>(impl_absBoth_ValJoin_GapsJoin.j0 k (!c) a0_0 l0_1 l0_2 l0_3 a0_4 l0_5 a1_0 l1_1 l1_2 l1_3 a1_4 l1_5)) else (impl_absBoth_ValJoin_GapsJoin.j0 k true a0_0 l0_1 l0_2 l0_3 a0_4 l0_5 a1_0 l1_1 l1_2 l1_3 a1_4 l1_5))
def impl_AbsJoin.f (k : Nat) (a0_0 : Bool) (l0_1 : List (S58)) (l0_2 : List (S84)) (l0_3 : List (S58)) (a0_4 : Int) (l0_5 : List Int) (a1_0 : Bool) (l1_1 : List (S58)) (l1_2 : List (S84)) (l1_3 : List (S58)) (a1_4 : Int) (l1_5 : List Int) : Option (Bool × (List (S58)) × (List (S84)) × (List (S58)) × Int × List Int):=(impl_absBoth_ValJoin_GapsJoin.f k a0_0 l0_1 l0_2 l0_3 a0_4 l0_5 a1_0 l1_1 l1_2 l1_3 a1_4 l1_5).bind fun b=>(some (b.1,b.2.1,b.2.2.1,b.2.2.2.1,b.2.2.2.2.1,b.2.2.2.2.2))
def laws_eqVal.f (a0_0 : Int) (a0_1 : Int) (a0_2 : Int) (a0_3 : Int) (a1_0 : Int) (a1_1 : Int) (a1_2 : Int) (a1_3 : Int) : Option (Bool):=if a0_0 = a1_0 then (if a0_1 = a1_1 then (if a0_2 = a1_2 then (if a0_3 = a1_3 then (some true) else (some false)) else (some false)) else (some false)) else (some false)
def laws_eqValS.l0 : Nat→List (S58)→List (S58)→Int→Option (Bool)
  | 0,_,_,_=>none
  | k + 1,b,c,d=>if d < (b.length : Int) then (if 0 ≤ d then (if d < (c.length : Int) then ((laws_eqVal.f ((rd_T58 b d).f0) ((rd_T58 b d).f1) ((rd_T58 b d).f2) ((rd_T58 b d).f3) ((rd_T58 c d).f0) ((rd_T58 c d).f1) ((rd_T58 c d).f2) ((rd_T58 c d).f3)).bind fun e=>(if e = true then (laws_eqValS.l0 k b c (wrap64 (d + 1))) else (some false))) else (none)) else (none)) else (some true)
def laws_eqValS.f (k : Nat) (l0 : List (S58)) (l1 : List (S58)) : Option (Bool):=if (l0.length : Int) = (l1.length : Int) then (laws_eqValS.l0 k l0 l1 0) else (some false)
def laws_eqIntS.l0 : Nat→List Int→List Int→Int→Option (Bool)
  | 0,_,_,_=>none
  | k + 1,b,c,d=>if d < (b.length : Int) then (if 0 ≤ d then (if d < (c.length : Int) then (if (rd b d) = (rd c d) then (laws_eqIntS.l0 k b c (wrap64 (d + 1))) else (some false)) else (none)) else (none)) else (some true)
def laws_eqIntS.f (k : Nat) (l0 : List Int) (l1 : List Int) : Option (Bool):=if (l0.length : Int) = (l1.length : Int) then (laws_eqIntS.l0 k l0 l1 0) else (some false)
def laws_eqRefVal.f (k : Nat) (a0_0 : Bool) (l0_1 : List Int) (a0_2 : Int) (a0_3 : Int) (a0_4 : Int) (a0_5 : Int) (a1_0 : Bool) (l1_1 : List Int) (a1_2 : Int) (a1_3 : Int) (a1_4 : Int) (a1_5 : Int) : Option (Bool):=if (a0_0 != a1_0) = true then (some false) else ((laws_eqIntS.f k l0_1 l1_1).bind fun b=>(if b = true then ((laws_eqVal.f a0_2 a0_3 a0_4 a0_5 a1_2 a1_3 a1_4 a1_5).bind fun c=>(if c = true then (some true) else (some false))) else (some false)))
def laws_eqRefValS.l0 : Nat→List (S84)→List (S84)→Int→Option (Bool)
  | 0,_,_,_=>none
  | k + 1,b,c,d=>if d < (b.length : Int) then (if 0 ≤ d then (if d < (c.length : Int) then ((laws_eqRefVal.f k ((rd_T84 b d).f0) ((rd_T84 b d).f1) ((rd_T84 b d).f2.f0) ((rd_T84 b d).f2.f1) ((rd_T84 b d).f2.f2) ((rd_T84 b d).f2.f3) ((rd_T84 c d).f0) ((rd_T84 c d).f1) ((rd_T84 c d).f2.f0) ((rd_T84 c d).f2.f1) ((rd_T84 c d).f2.f2) ((rd_T84 c d).f2.f3)).bind fun e=>(if e = true then (laws_eqRefValS.l0 k b c (wrap64 (d + 1))) else (some false))) else (none)) else (none)) else (some true)
def laws_eqRefValS.f (k : Nat) (l0 : List (S84)) (l1 : List (S84)) : Option (Bool):=if (l0.length : Int) = (l1.length : Int) then (laws_eqRefValS.l0 k l0 l1 0) else (some false)
def laws_eqGaps.f (k : Nat) (a0_0 : Int) (l0_1 : List Int) (a1_0 : Int) (l1_1 : List Int) : Option (Bool):=if a0_0 = a1_0 then ((laws_eqIntS.f k l0_1 l1_1).bind fun b=>(if b = true then (some true) else (some false))) else (some false)
def laws_eqAbs.f (k : Nat) (a0_0 : Bool) (l0_1 : List (S58)) (l0_2 : List (S84)) (l0_3 : List (S58)) (a0_4 : Int) (l0_5 : List Int) (a1_0 : Bool) (l1_1 : List (S58)) (l1_2 : List (S84)) (l1_3 : List (S58)) (a1_4 : Int) (l1_5 : List Int) : Option (Bool):=if (a0_0 != a1_0) = true then (some false) else ((laws_eqValS.f k l0_1 l1_1).bind fun b=>(if b = true then ((laws_eqRefValS.f k l0_2 l1_2).bind fun c=>(if c = true then ((laws_eqValS.f k l0_3 l1_3).bind fun d=>(if d = true then ((laws_eqGaps.f k a0_4 l0_5 a1_4 l1_5).bind fun e=>(if e = true then (some true) else (some false))) else (some false))) else (some false))) else (some false)))
def laws_markValS.l0 : Nat→List (S58)→Int→Int→Option (Int × (List (S58)))
  | 0,_,_,_=>none
  | k + 1,b,c,d=>if d < (b.length : Int) then (if 0 ≤ d then ((some (b.set (d : Int).toNat (⟨c,(rd_T58 b d).f1,(rd_T58 b d).f2,(rd_T58 b d).f3⟩ : S58) : List (S58))).bind fun e=>((some (e.set (d : Int).toNat (⟨(rd_T58 e d).f0,wrap64 (c + 1),(rd_T58 e d).f2,(rd_T58 e d).f3⟩ : S58) : List (S58))).bind fun f=>((some (f.set (d : Int).toNat (⟨(rd_T58 f d).f0,(rd_T58 f d).f1,wrap64 ((wrap64 (c + 1)) + 1),(rd_T58 f d).f3⟩ : S58) : List (S58))).bind fun g=>(laws_markValS.l0 k (g.set (d : Int).toNat (⟨(rd_T58 g d).f0,(rd_T58 g d).f1,(rd_T58 g d).f2,wrap64 ((wrap64 ((wrap64 (c + 1)) + 1)) + 1)⟩ : S58)) (wrap64 ((wrap64 ((wrap64 ((wrap64 (c + 1)) + 1)) + 1)) + 1)) (wrap64 (d + 1)))))) else (none)) else (some (c,b))
def laws_markValS.f (k : Nat) (l0 : List (S58)) (a1 : Int) : Option (Int × (List (S58))):=laws_markValS.l0 k l0 a1 0
def laws_markIntS.l0 : Nat→List Int→Int→Int→Option (Int × List Int)
  | 0,_,_,_=>none
  | k + 1,b,c,d=>if d < (b.length : Int) then (if 0 ≤ d then (laws_markIntS.l0 k (b.set (d : Int).toNat c) (wrap64 (c + 1)) (wrap64 (d + 1))) else (none)) else (some (c,b))
def laws_markIntS.f (k : Nat) (l0 : List Int) (a1 : Int) : Option (Int × List Int):=laws_markIntS.l0 k l0 a1 0
def laws_markGaps.f (k : Nat) (a0_0 : Int) (l0_1 : List Int) (a1 : Int) : Option (Int × List Int):=(laws_markIntS.f k l0_1 a1).bind fun b=>(some (b.1,b.2))
def laws_heldValS.l0 : Nat→List (S58)→Int→Int→Option (Int)
  | 0,_,_,_=>none
  | k + 1,b,c,d=>if d < (b.length : Int) then (if 0 ≤ d then (if ((rd_T58 b d).f0) = c then (if ((rd_T58 b d).f1) = (wrap64 (c + 1)) then (if ((rd_T58 b d).f2) = (wrap64 ((wrap64 (c + 1)) + 1)) then (if ((rd_T58 b d).f3) = (wrap64 ((wrap64 ((wrap64 (c + 1)) + 1)) + 1)) then (laws_heldValS.l0 k b (wrap64 ((wrap64 ((wrap64 ((wrap64 (c + 1)) + 1)) + 1)) + 1)) (wrap64 (d + 1))) else (some (-1))) else (some (-1))) else (some (-1))) else (some (-1))) else (none)) else (some c)
def laws_heldValS.f (k : Nat) (l0 : List (S58)) (a1 : Int) : Option (Int):=laws_heldValS.l0 k l0 a1 0
def laws_heldIntS.l0 : Nat→List Int→Int→Int→Option (Int)
  | 0,_,_,_=>none
  | k + 1,b,c,d=>if d < (b.length : Int) then (if 0 ≤ d then (if (rd b d) = c then (laws_heldIntS.l0 k b (wrap64 (c + 1)) (wrap64 (d + 1))) else (some (-1))) else (none)) else (some c)
def laws_heldIntS.f (k : Nat) (l0 : List Int) (a1 : Int) : Option (Int):=laws_heldIntS.l0 k l0 a1 0
def laws_heldRefValS.l0 : Nat→List (S84)→Int→Int→Option (Int)
  | 0,_,_,_=>none
  | k + 1,b,c,d=>if d < (b.length : Int) then (if 0 ≤ d then (if (((rd_T84 b d).f0) != ((Int.tmod c 3) == 0)) = true then (some (-1)) else ((laws_heldIntS.f k ((rd_T84 b d).f1) (wrap64 (c + 1))).bind fun e=>(if e < 0 then (some (-1)) else (if ((rd_T84 b d).f2.f0) = e then (if ((rd_T84 b d).f2.f1) = (wrap64 (e + 1)) then (if ((rd_T84 b d).f2.f2) = (wrap64 ((wrap64 (e + 1)) + 1)) then (if ((rd_T84 b d).f2.f3) = (wrap64 ((wrap64 ((wrap64 (e + 1)) + 1)) + 1)) then (laws_heldRefValS.l0 k b (wrap64 ((wrap64 ((wrap64 ((wrap64 (e + 1)) + 1)) + 1)) + 1)) (wrap64 (d + 1))) else (some (-1))) else (some (-1))) else (some (-1))) else (some (-1)))))) else (none)) else (some c)
def laws_heldRefValS.f (k : Nat) (l0 : List (S84)) (a1 : Int) : Option (Int):=laws_heldRefValS.l0 k l0 a1 0
def laws_heldGaps.f (k : Nat) (a0_0 : Int) (l0_1 : List Int) (a1 : Int) : Option (Int):=(laws_heldIntS.f k l0_1 a1).bind fun b=>(if b < 0 then (some (-1)) else (some b))
def laws_heldAbs.f (k : Nat) (a0_0 : Bool) (l0_1 : List (S58)) (l0_2 : List (S84)) (l0_3 : List (S58)) (a0_4 : Int) (l0_5 : List Int) (a1 : Int) : Option (Int):=(laws_heldValS.f k l0_1 a1).bind fun b=>(if b < 0 then (some (-1)) else ((laws_heldRefValS.f k l0_2 b).bind fun c=>(if c < 0 then (some (-1)) else ((laws_heldValS.f k l0_3 c).bind fun d=>(if d < 0 then (some (-1)) else ((laws_heldGaps.f k a0_4 l0_5 d).bind fun e=>(if e < 0 then (some (-1)) else (some e))))))))
end Go.Proofs.YtklkdpcopfjmcaaGreat.PFnExactAbsJoin
