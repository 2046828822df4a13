/- The program's functions that the law reaches, as plain Lean functions. Conditions: none. -/
import Derived.Test.YtklkdpcopfjmcaaGreatQFnExactAbsWidenx0V
namespace Go.Proofs.YtklkdpcopfjmcaaGreat.PFnExactAbsWiden
open Go.RowKit Go.Proofs.YtklkdpcopfjmcaaGreatW.PrintWords Go.Proofs.YtklkdpcopfjmcaaGreatW.PrintLast Go.Proofs.YtklkdpcopfjmcaaGreatW.PrintMore
set_option linter.unusedVariables false
def lZ.f (l0 : List (mF)) (a1 : Int) : Option (Int):=if (wrap64 (a1 - (l0.length : Int))) < 0 then (some (-1)) else (some (wrap64 (a1 - (l0.length : Int))))
def mX.f (l0 : List Int) (a1 : Int) : Option (Int):=if (wrap64 (a1 - (l0.length : Int))) < 0 then (some (-1)) else (some (wrap64 (a1 - (l0.length : Int))))
def oW.f (ai : Bool) (av : List Int) (bM : Int) (bL : Int) (bf : Int) (lL : Int) (a1 : Int) : Option (Int):=(mX.f av a1).bind fun b=>(if b < 0 then (some (-1)) else (some b))
def fK.l0 : Nat→List (oN)→Int→Int→Option (Int)
  | 0,_,_,_=>none
  | k + 1,b,c,d=>if d < (b.length : Int) then (if 0 ≤ d then ((oW.f ((gK b d).f0) ((gK b d).f1) ((gK b d).f2.f0) ((gK b d).f2.f1) ((gK b d).f2.f2) ((gK b d).f2.f3) c).bind fun e=>(if e < 0 then (some (-1)) else (fK.l0 k b e (wrap64 (d + 1))))) else (none)) else (some c)
def fK.f (k : Nat) (l0 : List (oN)) (a1 : Int) : Option (Int):=if (wrap64 (a1 - (l0.length : Int))) < 0 then (some (-1)) else (fK.l0 k l0 (wrap64 (a1 - (l0.length : Int))) 0)
def pG.f (ai : Int) (av : List Int) (a1 : Int) : Option (Int):=(mX.f av a1).bind fun b=>(if b < 0 then (some (-1)) else (some b))
def lM.f (k : Nat) (ai : Bool) (av : List (mF)) (ay : List (oN)) (aK : List (mF)) (bf : Int) (bz : List Int) (a1 : Int) : Option (Int):=(lZ.f av a1).bind fun b=>(if b < 0 then (some (-1)) else ((fK.f k ay b).bind fun c=>(if c < 0 then (some (-1)) else ((lZ.f aK c).bind fun d=>(if d < 0 then (some (-1)) else ((pG.f bf bz d).bind fun e=>(if e < 0 then (some (-1)) else (some e))))))))
def qG.f (ai : Int) (aD : Int) (bM : Int) (bL : Int) : Option (Int × Int × Int × Int):=some (ai,aD,bM,bL)
def iA.l0 : Nat→List (mF)→List (bV)→Int→Option ((List (bV)))
  | 0,_,_,_=>none
  | k + 1,b,c,d=>if d < (b.length : Int) then (if 0 ≤ d then ((qG.f ((qX b d).f0) ((qX b d).f1) ((qX b d).f2) ((qX b d).f3)).bind fun e=>(if d < (c.length : Int) then (iA.l0 k b (c.set (d : Int).toNat (⟨e.1,e.2.1,e.2.2.1,e.2.2.2⟩ : bV)) (wrap64 (d + 1))) else (none))) else (none)) else (some c)
def iA.f (k : Nat) (l0 : List (mF)) : Option ((List (bV))):=if 0 ≤ (l0.length : Int) then (if ((l0.length : Int) : Int).toNat ≤ 8796093022208 then (iA.l0 k l0 (List.replicate ((l0.length : Int) : Int).toNat z58) 0) else (none)) else (none)
def ek.l0 : Nat→List Int→List Int→Int→Option (List Int)
  | 0,_,_,_=>none
  | k + 1,b,c,d=>if d < (b.length : Int) then (if 0 ≤ d then (if d < (c.length : Int) then (ek.l0 k b (c.set (d : Int).toNat (rd b d)) (wrap64 (d + 1))) else (none)) else (none)) else (some c)
def ek.f (k : Nat) (l0 : List Int) : Option (List Int):=if 0 ≤ (l0.length : Int) then (if ((l0.length : Int) : Int).toNat ≤ 35184372088832 then (ek.l0 k l0 (List.replicate ((l0.length : Int) : Int).toNat 0) 0) else (none)) else (none)
def o6.f (k : Nat) (ai : Bool) (av : List Int) (bM : Int) (bL : Int) (bf : Int) (lL : Int) : Option (Bool × List Int × Int × Int × Int × Int):=(ek.f k av).bind fun b=>((qG.f bM bL bf lL).bind fun c=>(some (ai,b,c.1,c.2.1,c.2.2.1,c.2.2.2)))
def fZ.l0 : Nat→List (oN)→List (fT)→Int→Option ((List (fT)))
  | 0,_,_,_=>none
  | k + 1,b,c,d=>if d < (b.length : Int) then (if 0 ≤ d then ((o6.f k ((gK b d).f0) ((gK b d).f1) ((gK b d).f2.f0) ((gK b d).f2.f1) ((gK b d).f2.f2) ((gK b d).f2.f3)).bind fun e=>(if d < (c.length : Int) then (fZ.l0 k b (c.set (d : Int).toNat (⟨e.1,e.2.1,(⟨e.2.2.1,e.2.2.2.1,e.2.2.2.2.1,e.2.2.2.2.2⟩ : bV)⟩ : fT)) (wrap64 (d + 1))) else (none))) else (none)) else (some c)
def fZ.f (k : Nat) (l0 : List (oN)) : Option ((List (fT))):=if 0 ≤ (l0.length : Int) then (if ((l0.length : Int) : Int).toNat ≤ 4398046511104 then (fZ.l0 k l0 (List.replicate ((l0.length : Int) : Int).toNat z84) 0) else (none)) else (none)
def ql.f (k : Nat) (ai : Int) (av : List Int) : Option (Int × List Int):=(ek.f k av).bind fun b=>(some (ai,b))
def iq.f (k : Nat) (ai : Bool) (av : List (mF)) (ay : List (oN)) (aK : List (mF)) (bf : Int) (bz : List Int) : Option (Bool × (List (bV)) × (List (fT)) × (List (bV)) × Int × List Int):=(iA.f k av).bind fun b=>((fZ.f k ay).bind fun c=>((iA.f k aK).bind fun d=>((ql.f k bf bz).bind fun e=>(some (ai,b,c,d,e.1,e.2)))))
def oC.f (ai : Int) (aD : Int) (bM : Int) (bL : Int) (aG : Int) (bG : Int) (gH : Int) (gG : Int) : Option (Bool):=if ai = aG then (if aD = bG then (if bM = gH then (if bL = gG then (some true) else (some false)) else (some false)) else (some false)) else (some false)
def dR.l0 : Nat→List (bV)→List (bV)→Int→Option (Bool)
  | 0,_,_,_=>none
  | k + 1,b,c,d=>if d < (b.length : Int) then (if 0 ≤ d then (if d < (c.length : Int) then ((oC.f ((ak b d).f0) ((ak b d).f1) ((ak b d).f2) ((ak b d).f3) ((ak c d).f0) ((ak c d).f1) ((ak c d).f2) ((ak c d).f3)).bind fun e=>(if e = true then (dR.l0 k b c (wrap64 (d + 1))) else (some false))) else (none)) else (none)) else (some true)
def dR.f (k : Nat) (l0 : List (bV)) (l1 : List (bV)) : Option (Bool):=if (l0.length : Int) = (l1.length : Int) then (dR.l0 k l0 l1 0) else (some false)
def fB.l0 : Nat→List Int→List Int→Int→Option (Bool)
  | 0,_,_,_=>none
  | k + 1,b,c,d=>if d < (b.length : Int) then (if 0 ≤ d then (if d < (c.length : Int) then (if (rd b d) = (rd c d) then (fB.l0 k b c (wrap64 (d + 1))) else (some false)) else (none)) else (none)) else (some true)
def fB.f (k : Nat) (l0 : List Int) (l1 : List Int) : Option (Bool):=if (l0.length : Int) = (l1.length : Int) then (fB.l0 k l0 l1 0) else (some false)
def oo.f (k : Nat) (ai : Bool) (av : List Int) (bM : Int) (bL : Int) (bf : Int) (lL : Int) (aG : Bool) (bn : List Int) (gH : Int) (gG : Int) (dW : Int) (AV : Int) : Option (Bool):=if (ai != aG) = true then (some false) else ((fB.f k av bn).bind fun b=>(if b = true then ((oC.f bM bL bf lL gH gG dW AV).bind fun c=>(if c = true then (some true) else (some false))) else (some false)))
def dn.l0 : Nat→List (fT)→List (fT)→Int→Option (Bool)
  | 0,_,_,_=>none
  | k + 1,b,c,d=>if d < (b.length : Int) then (if 0 ≤ d then (if d < (c.length : Int) then ((oo.f k ((ag b d).f0) ((ag b d).f1) ((ag b d).f2.f0) ((ag b d).f2.f1) ((ag b d).f2.f2) ((ag b d).f2.f3) ((ag c d).f0) ((ag c d).f1) ((ag c d).f2.f0) ((ag c d).f2.f1) ((ag c d).f2.f2) ((ag c d).f2.f3)).bind fun e=>(if e = true then (dn.l0 k b c (wrap64 (d + 1))) else (some false))) else (none)) else (none)) else (some true)
def dn.f (k : Nat) (l0 : List (fT)) (l1 : List (fT)) : Option (Bool):=if (l0.length : Int) = (l1.length : Int) then (dn.l0 k l0 l1 0) else (some false)
def pM.f (k : Nat) (ai : Int) (av : List Int) (aG : Int) (bn : List Int) : Option (Bool):=if ai = aG then ((fB.f k av bn).bind fun b=>(if b = true then (some true) else (some false))) else (some false)
def mq.f (k : Nat) (ai : Bool) (av : List (bV)) (ay : List (fT)) (aK : List (bV)) (bf : Int) (bz : List Int) (aG : Bool) (bn : List (bV)) (aU : List (fT)) (cK : List (bV)) (dW : Int) (dm : List Int) : Option (Bool):=if (ai != aG) = true then (some false) else ((dR.f k av bn).bind fun b=>(if b = true then ((dn.f k ay aU).bind fun c=>(if c = true then ((dR.f k aK cK).bind fun d=>(if d = true then ((pM.f k bf bz dW dm).bind fun e=>(if e = true then (some true) else (some false))) else (some false))) else (some false))) else (some false)))
def fI.l0 : Nat→List (bV)→Int→Int→Option (Int × (List (bV)))
  | 0,_,_,_=>none
  | k + 1,b,c,d=>if d < (b.length : Int) then (if 0 ≤ d then ((some (b.set (d : Int).toNat (⟨c,(ak b d).f1,(ak b d).f2,(ak b d).f3⟩ : bV) : List (bV))).bind fun e=>((some (e.set (d : Int).toNat (⟨(ak e d).f0,wrap64 (c + 1),(ak e d).f2,(ak e d).f3⟩ : bV) : List (bV))).bind fun f=>((some (f.set (d : Int).toNat (⟨(ak f d).f0,(ak f d).f1,wrap64 ((wrap64 (c + 1)) + 1),(ak f d).f3⟩ : bV) : List (bV))).bind fun g=>(fI.l0 k (g.set (d : Int).toNat (⟨(ak g d).f0,(ak g d).f1,(ak g d).f2,wrap64 ((wrap64 ((wrap64 (c + 1)) + 1)) + 1)⟩ : bV)) (wrap64 ((wrap64 ((wrap64 ((wrap64 (c + 1)) + 1)) + 1)) + 1)) (wrap64 (d + 1)))))) else (none)) else (some (c,b))
def fI.f (k : Nat) (l0 : List (bV)) (a1 : Int) : Option (Int × (List (bV))):=fI.l0 k l0 a1 0
def fq.l0 : Nat→List Int→Int→Int→Option (Int × List Int)
  | 0,_,_,_=>none
  | k + 1,b,c,d=>if d < (b.length : Int) then (if 0 ≤ d then (fq.l0 k (b.set (d : Int).toNat c) (wrap64 (c + 1)) (wrap64 (d + 1))) else (none)) else (some (c,b))
def fq.f (k : Nat) (l0 : List Int) (a1 : Int) : Option (Int × List Int):=fq.l0 k l0 a1 0
def oQ.f (k : Nat) (ai : Int) (av : List Int) (a1 : Int) : Option (Int × List Int):=(fq.f k av a1).bind fun b=>(some (b.1,b.2))
def fo.l0 : Nat→List (bV)→Int→Int→Option (Int)
  | 0,_,_,_=>none
  | k + 1,b,c,d=>if d < (b.length : Int) then (if 0 ≤ d then (if ((ak b d).f0) = c then (if ((ak b d).f1) = (wrap64 (c + 1)) then (if ((ak b d).f2) = (wrap64 ((wrap64 (c + 1)) + 1)) then (if ((ak b d).f3) = (wrap64 ((wrap64 ((wrap64 (c + 1)) + 1)) + 1)) then (fo.l0 k b (wrap64 ((wrap64 ((wrap64 ((wrap64 (c + 1)) + 1)) + 1)) + 1)) (wrap64 (d + 1))) else (some (-1))) else (some (-1))) else (some (-1))) else (some (-1))) else (none)) else (some c)
def fo.f (k : Nat) (l0 : List (bV)) (a1 : Int) : Option (Int):=fo.l0 k l0 a1 0
def eH.l0 : Nat→List Int→Int→Int→Option (Int)
  | 0,_,_,_=>none
  | k + 1,b,c,d=>if d < (b.length : Int) then (if 0 ≤ d then (if (rd b d) = c then (eH.l0 k b (wrap64 (c + 1)) (wrap64 (d + 1))) else (some (-1))) else (none)) else (some c)
def eH.f (k : Nat) (l0 : List Int) (a1 : Int) : Option (Int):=eH.l0 k l0 a1 0
def fe.l0 : Nat→List (fT)→Int→Int→Option (Int)
  | 0,_,_,_=>none
  | k + 1,b,c,d=>if d < (b.length : Int) then (if 0 ≤ d then (if (((ag b d).f0) != ((Int.tmod c 3) == 0)) = true then (some (-1)) else ((eH.f k ((ag b d).f1) (wrap64 (c + 1))).bind fun e=>(if e < 0 then (some (-1)) else (if ((ag b d).f2.f0) = e then (if ((ag b d).f2.f1) = (wrap64 (e + 1)) then (if ((ag b d).f2.f2) = (wrap64 ((wrap64 (e + 1)) + 1)) then (if ((ag b d).f2.f3) = (wrap64 ((wrap64 ((wrap64 (e + 1)) + 1)) + 1)) then (fe.l0 k b (wrap64 ((wrap64 ((wrap64 ((wrap64 (e + 1)) + 1)) + 1)) + 1)) (wrap64 (d + 1))) else (some (-1))) else (some (-1))) else (some (-1))) else (some (-1)))))) else (none)) else (some c)
def fe.f (k : Nat) (l0 : List (fT)) (a1 : Int) : Option (Int):=fe.l0 k l0 a1 0
def nZ.f (k : Nat) (ai : Int) (av : List Int) (a1 : Int) : Option (Int):=(eH.f k av a1).bind fun b=>(if b < 0 then (some (-1)) else (some b))
def nX.f (k : Nat) (ai : Bool) (av : List (bV)) (ay : List (fT)) (aK : List (bV)) (bf : Int) (bz : List Int) (a1 : Int) : Option (Int):=(fo.f k av a1).bind fun b=>(if b < 0 then (some (-1)) else ((fe.f k ay b).bind fun c=>(if c < 0 then (some (-1)) else ((fo.f k aK c).bind fun d=>(if d < 0 then (some (-1)) else ((nZ.f k bf bz d).bind fun e=>(if e < 0 then (some (-1)) else (some e))))))))
def dw.f  : Option (Int × Int × Int × Int):=some (1,0,0,0)
def pI.f (a0 : Int) : Option (Int × Int × Int × Int):=some (a0,a0,0,a0)
def iV.f (a0 : Int) (a1 : Int) (a2 : Int) : Option (Bool):=if a0 ≥ a1 then (some (decide (a0 ≤ a2))) else (some false)
def mQ.f (a0 : Int) : Option (Bool):=(iV.f a0 (-2147483648) 2147483647).bind fun b=>(some b)
def fH.f  : Option (Int × Int):=some (1,0)
def bT.f (ai : Int) (aD : Int) : Option (Bool):=(fH.f).bind fun b=>(if (ai == b.1 && (aD == b.2)) = true then (some true) else ((mQ.f ai).bind fun c=>(if c = true then ((mQ.f aD).bind fun d=>(if d = true then (some (decide (ai ≤ aD))) else (some false))) else (some false))))
def om.f (ai : Int) (aD : Int) (a1 : Int) : Option (Bool):=(bT.f ai aD).bind fun b=>(if b = true then ((iV.f a1 ai aD).bind fun c=>(some c)) else (some false))
def lv.f (ai : Int) (aD : Int) : Option (Bool):=if ai = 0 then ((mQ.f aD).bind fun b=>(some b)) else ((iV.f ai 1 65536).bind fun c=>(if c = true then ((iV.f aD 0 (wrap64 (ai - 1))).bind fun d=>(some d)) else (some false)))
def lY.f (a0 : Int) (a1 : Int) : Option (Int):=if a1 = 0 then (none) else (if (Int.tmod a0 a1) < 0 then (some (wrap64 ((Int.tmod a0 a1) + a1))) else (some (Int.tmod a0 a1)))
def bq.j0 : Nat→Bool→Int→Int→Int→Int→Option (Int × Int × Int × Int)
  | 0,_,_,_,_,_=>none
  | k + 1,b,c,d,e,g=>if b = true then ((dw.f).bind fun h=>(some (h.1,h.2.1,h.2.2.1,h.2.2.2))) else (if e = 0 then ((om.f c d g).bind fun i=>(if i = true then ((pI.f g).bind fun j=>(some (j.1,j.2.1,j.2.2.1,j.2.2.2))) else ((dw.f).bind fun l=>(some (l.1,l.2.1,l.2.2.1,l.2.2.2))))) else ((lY.f (wrap64 (g - c)) e).bind fun m=>((lY.f (wrap64 (d - g)) e).bind fun n=>(if (wrap64 (c + m)) > (wrap64 (d - n)) then ((dw.f).bind fun o=>(some (o.1,o.2.1,o.2.2.1,o.2.2.2))) else (if (wrap64 (c + m)) = (wrap64 (d - n)) then ((pI.f (wrap64 (c + m))).bind fun p=>(some (p.1,p.2.1,p.2.2.1,p.2.2.2))) else (some (wrap64 (c + m),wrap64 (d - n),e,g)))))))
def bq.f (k : Nat) (ai : Int) (aD : Int) (aG : Int) (bG : Int) : Option (Int × Int × Int × Int):=(bT.f ai aD).bind fun b=>(if b = true then ((lv.f aG bG).bind fun c=>(if c = true then ((fH.f).bind fun d=>(bq.j0 k (ai == d.1 && (aD == d.2)) ai aD aG bG)) else (bq.j0 k true ai aD aG bG))) else (bq.j0 k true ai aD aG bG))
def gZ.f (ai : Int) (aD : Int) (bM : Int) (bL : Int) : Option (Int × Int):=some (ai,aD)
def iR.f (ai : Int) (aD : Int) (bM : Int) (bL : Int) : Option (Int × Int):=some (bM,bL)
def dG.f (k : Nat) (ai : Int) (aD : Int) (bM : Int) (bL : Int) : Option (Bool):=(dw.f).bind fun b=>(if (ai == b.1 && (aD == b.2.1 && (bM == b.2.2.1 && (bL == b.2.2.2)))) = true then (some true) else ((gZ.f ai aD bM bL).bind fun c=>((bT.f c.1 c.2).bind fun d=>(if d = true then ((iR.f ai aD bM bL).bind fun e=>((lv.f e.1 e.2).bind fun g=>(if g = true then ((gZ.f ai aD bM bL).bind fun h=>((iR.f ai aD bM bL).bind fun i=>((bq.f k h.1 h.2 i.1 i.2).bind fun j=>(some (ai == j.1 && (aD == j.2.1 && (bM == j.2.2.1 && (bL == j.2.2.2)))))))) else (some false)))) else (some false)))))
mutual
def aT.j0 : Nat→Bool→Bool→List Int→Int→Int→Int→Int→Option (Bool)
  | 0,_,_,_,_,_,_,_=>none
  | k + 1,b,c,d,e,f,g,h=>if b = true then (some false) else (aT.l0 k 0 c d e f g h)
def aT.l0 : Nat→Int→Bool→List Int→Int→Int→Int→Int→Option (Bool)
  | 0,_,_,_,_,_,_,_=>none
  | k + 1,b,c,d,e,f,g,h=>if b < (d.length : Int) then (if 0 ≤ b then (if (rd d b) < 0 then (some false) else (if b > 0 then (if 0 ≤ (wrap64 (b - 1)) then (if (wrap64 (b - 1)) < (d.length : Int) then (if (rd d (wrap64 (b - 1))) ≥ (rd d b) then (some false) else (aT.l0 k (wrap64 (b + 1)) c d e f g h)) else (none)) else (none)) else (aT.l0 k (wrap64 (b + 1)) c d e f g h))) else (none)) else (some true)
end
def aT.f (k : Nat) (ai : Bool) (av : List Int) (bM : Int) (bL : Int) (bf : Int) (lL : Int) : Option (Bool):=(dG.f k bM bL bf lL).bind fun b=>(if b = true then ((dw.f).bind fun c=>(if (((av.length : Int) == 0) != (bM == c.1 && (bL == c.2.1 && (bf == c.2.2.1 && (lL == c.2.2.2))))) = true then (aT.j0 k true ai av bM bL bf lL) else (if ai = true then (aT.j0 k false ai av bM bL bf lL) else (aT.j0 k ((av.length : Int) == 0) ai av bM bL bf lL)))) else (aT.j0 k true ai av bM bL bf lL))
def dh.l0 : Nat→List (bV)→Int→Option (Bool)
  | 0,_,_=>none
  | k + 1,b,c=>if c < (b.length : Int) then (if 0 ≤ c then ((dG.f k ((ak b c).f0) ((ak b c).f1) ((ak b c).f2) ((ak b c).f3)).bind fun d=>(if d = true then ((dw.f).bind fun e=>(if (((ak b c).f0) == e.1 && (((ak b c).f1) == e.2.1 && (((ak b c).f2) == e.2.2.1 && (((ak b c).f3) == e.2.2.2)))) = true then (some false) else (dh.l0 k b (wrap64 (c + 1))))) else (some false))) else (none)) else (some true)
def dh.f (k : Nat) (l0 : List (bV)) : Option (Bool):=dh.l0 k l0 0
def oZ.f (ai : Int) (av : List Int) (a1 : Int) (a2 : Int) : Option (Int):=if 0 ≤ (wrap64 ((wrap64 (a1 * (wrap64 (ai + 1)))) + a2)) then (if (wrap64 ((wrap64 (a1 * (wrap64 (ai + 1)))) + a2)) < (av.length : Int) then (some (rd av (wrap64 ((wrap64 (a1 * (wrap64 (ai + 1)))) + a2)))) else (none)) else (none)
mutual
def cz.j0 : Nat→Bool→Int→List Int→Option (Bool)
  | 0,_,_,_=>none
  | k + 1,b,c,d=>if b = true then (some false) else (cz.l0 k 0 c d)
def cz.l0 : Nat→Int→Int→List Int→Option (Bool)
  | 0,_,_,_=>none
  | k + 1,b,c,d=>if b ≤ c then (cz.l1 k b 0 c d) else (some true)
def cz.l1 : Nat→Int→Int→Int→List Int→Option (Bool)
  | 0,_,_,_,_=>none
  | k + 1,b,c,d,e=>if c ≤ d then ((oZ.f d e b c).bind fun g=>((iV.f g (-1099511627776) 1099511627776).bind fun h=>(if h = true then (if b = c then (if g = 0 then (cz.l1 k b (wrap64 (c + 1)) d e) else (some false)) else (cz.l1 k b (wrap64 (c + 1)) d e)) else (some false)))) else (cz.l0 k (wrap64 (b + 1)) d e)
end
def cz.f (k : Nat) (ai : Int) (av : List Int) : Option (Bool):=(iV.f ai 0 12).bind fun b=>(if b = true then (cz.j0 k ((av.length : Int) != (wrap64 ((wrap64 (ai + 1)) * (wrap64 (ai + 1))))) ai av) else (cz.j0 k true ai av))
def gF.l0 : Nat→Int→Bool→List (bV)→List (fT)→List (bV)→Int→List Int→Option (Bool)
  | 0,_,_,_,_,_,_,_=>none
  | k + 1,b,c,d,e,g,h,i=>if b < (e.length : Int) then (if 0 ≤ b then ((aT.f k ((ag e b).f0) ((ag e b).f1) ((ag e b).f2.f0) ((ag e b).f2.f1) ((ag e b).f2.f2) ((ag e b).f2.f3)).bind fun j=>(if j = true then (gF.l0 k (wrap64 (b + 1)) c d e g h i) else (some false))) else (none)) else ((dh.f k d).bind fun l=>(if l = true then ((dh.f k g).bind fun m=>(if m = true then ((cz.f k h i).bind fun n=>(if n = true then (some (h == (d.length : Int))) else (some false))) else (some false))) else (some false)))
def gF.f (k : Nat) (ai : Bool) (av : List (bV)) (ay : List (fT)) (aK : List (bV)) (bf : Int) (bz : List Int) : Option (Bool):=if ai = true then (gF.l0 k 0 ai av ay aK bf bz) else (if (av.length : Int) = 0 then (if (ay.length : Int) = 0 then (if (aK.length : Int) = 0 then (if bf = 0 then (some ((bz.length : Int) == 0)) else (some false)) else (some false)) else (some false)) else (some false))
mutual
def aY.l0 : Nat→List Int→List Int→List Int→Int→Int→Option (List Int)
  | 0,_,_,_,_,_=>none
  | k + 1,b,c,d,e,f=>if e < (b.length : Int) then (aY.j1 k b c d e f true) else (aY.j1 k b c d e f (decide (f < (c.length : Int))))
def aY.j1 : Nat→List Int→List Int→List Int→Int→Int→Bool→Option (List Int)
  | 0,_,_,_,_,_,_=>none
  | k + 1,b,c,d,e,f,g=>if g = true then (if f ≥ (c.length : Int) then (aY.j2 k b c d e f true) else (if e < (b.length : Int) then (if 0 ≤ e then (if 0 ≤ f then (if f < (c.length : Int) then (aY.j2 k b c d e f (decide ((rd b e) < (rd c f)))) else (none)) else (none)) else (none)) else (aY.j2 k b c d e f false))) else (some d)
def aY.j2 : Nat→List Int→List Int→List Int→Int→Int→Bool→Option (List Int)
  | 0,_,_,_,_,_,_=>none
  | k + 1,b,c,d,e,f,g=>if g = true then (if 0 ≤ e then (if e < (b.length : Int) then (if d.length < 17592186044416 then (aY.l0 k b c (d ++ [rd b e]) (wrap64 (e + 1)) f) else (none)) else (none)) else (none)) else (if e < (b.length : Int) then (if 0 ≤ e then (if 0 ≤ f then (if f < (c.length : Int) then (if (rd b e) = (rd c f) then (if d.length < 17592186044416 then (aY.l0 k b c (d ++ [rd c f]) (wrap64 (e + 1)) (wrap64 (f + 1))) else (none)) else (if d.length < 17592186044416 then (aY.l0 k b c (d ++ [rd c f]) e (wrap64 (f + 1))) else (none))) else (none)) else (none)) else (none)) else (if 0 ≤ f then (if f < (c.length : Int) then (if d.length < 17592186044416 then (aY.l0 k b c (d ++ [rd c f]) e (wrap64 (f + 1))) else (none)) else (none)) else (none)))
end
def aY.f (k : Nat) (l0 : List Int) (l1 : List Int) : Option (List Int):=aY.l0 k l0 l1 (([] : List Int)) 0 0
def eQ.l0 : Nat→Int→Int→List Int→Int→List Int→Option (Int × List Int)
  | 0,_,_,_,_,_=>none
  | k + 1,b,c,d,e,f=>if b < (d.length : Int) then (if 0 ≤ b then (if f.length < 17592186044416 then (eQ.l0 k (wrap64 (b + 1)) c d e (f ++ [rd d b])) else (none)) else (none)) else (some (e,f))
def eQ.f (k : Nat) (ai : Int) (av : List Int) : Option (Int × List Int):=eQ.l0 k 0 ai av ai ([] : List Int)
mutual
def aM.l0 : Nat→Int→Bool→List (bV)→List (fT)→List (bV)→Int→List Int→Bool→List (bV)→Int→List Int→Option (Bool × (List (bV)) × (List (fT)) × (List (bV)) × Int × List Int)
  | 0,_,_,_,_,_,_,_,_,_,_,_=>none
  | k + 1,b,c,d,e,f,g,h,i,j,l,m=>if b < (d.length : Int) then (if 0 ≤ b then (if j.length < 4398046511104 then (aM.l0 k (wrap64 (b + 1)) c d e f g h i (j ++ [(⟨(ak d b).f0,(ak d b).f1,(ak d b).f2,(ak d b).f3⟩ : bV)]) l m) else (none)) else (none)) else (aM.l1 k 0 c d e f g h i j ([] : List (fT)) l m)
def aM.l1 : Nat→Int→Bool→List (bV)→List (fT)→List (bV)→Int→List Int→Bool→List (bV)→List (fT)→Int→List Int→Option (Bool × (List (bV)) × (List (fT)) × (List (bV)) × Int × List Int)
  | 0,_,_,_,_,_,_,_,_,_,_,_,_=>none
  | k + 1,b,c,d,e,g,h,i,j,l,m,n,o=>if b < (e.length : Int) then (if 0 ≤ b then ((aY.f k ((ag e b).f1) (([] : List Int))).bind fun p=>(if m.length < 2199023255552 then (aM.l1 k (wrap64 (b + 1)) c d e g h i j l (m ++ [(⟨(ag e b).f0,p,(⟨(ag e b).f2.f0,(ag e b).f2.f1,(ag e b).f2.f2,(ag e b).f2.f3⟩ : bV)⟩ : fT)]) n o) else (none))) else (none)) else (aM.l2 k 0 c d e g h i j l m ([] : List (bV)) n o)
def aM.l2 : Nat→Int→Bool→List (bV)→List (fT)→List (bV)→Int→List Int→Bool→List (bV)→List (fT)→List (bV)→Int→List Int→Option (Bool × (List (bV)) × (List (fT)) × (List (bV)) × Int × List Int)
  | 0,_,_,_,_,_,_,_,_,_,_,_,_,_=>none
  | k + 1,b,c,d,e,f,g,h,i,j,l,m,n,o=>if b < (f.length : Int) then (if 0 ≤ b then (if m.length < 4398046511104 then (aM.l2 k (wrap64 (b + 1)) c d e f g h i j l (m ++ [(⟨(ak f b).f0,(ak f b).f1,(ak f b).f2,(ak f b).f3⟩ : bV)]) n o) else (none)) else (none)) else (some (i,j,l,m,n,o))
end
def aM.f (k : Nat) (ai : Bool) (av : List (bV)) (ay : List (fT)) (aK : List (bV)) (bf : Int) (bz : List Int) : Option (Bool × (List (bV)) × (List (fT)) × (List (bV)) × Int × List Int):=(eQ.f k bf bz).bind fun b=>(aM.l0 k 0 ai av ay aK bf bz ai ([] : List (bV)) b.1 b.2)
def qw.f (ai : Bool) (av : List (bV)) (ay : List (fT)) (aK : List (bV)) (bf : Int) (bz : List Int) (aG : Bool) (bn : List (bV)) (aU : List (fT)) (cK : List (bV)) (dW : Int) (dm : List Int) : Option (Bool):=if (av.length : Int) = (bn.length : Int) then (if (ay.length : Int) = (aU.length : Int) then (some ((aK.length : Int) == (cK.length : Int))) else (some false)) else (some false)
def nN.f (k : Nat) (ai : Int) (av : List Int) (aG : Int) (bn : List Int) : Option (Bool):=(cz.f k ai av).bind fun b=>(if b = true then ((cz.f k aG bn).bind fun c=>(if c = true then (some (ai == aG)) else (some false))) else (some false))
def pR.f (a0 : Int) (a1 : Int) : Option (Int):=if a0 > a1 then (some a0) else (some a1)
def d9.l0 : Nat→Int→Int→List Int→Int→List Int→Int→List Int→Option (Int × List Int)
  | 0,_,_,_,_,_,_,_=>none
  | k + 1,b,c,d,e,g,h,i=>if b < (d.length : Int) then (if 0 ≤ b then (if b < (g.length : Int) then ((pR.f (rd d b) (rd g b)).bind fun j=>(if i.length < 17592186044416 then (d9.l0 k (wrap64 (b + 1)) c d e g h (i ++ [j])) else (none))) else (none)) else (none)) else (some (h,i))
def d9.f (k : Nat) (ai : Int) (av : List Int) (aG : Int) (bn : List Int) : Option (Int × List Int):=(nN.f k ai av aG bn).bind fun b=>(if b = true then (d9.l0 k 0 ai av aG bn ai ([] : List Int)) else (some (0,([] : List Int))))
def fP.l0 : Nat→Int→Int→List Int→Int→List Int→Int→List Int→Option (Int × List Int)
  | 0,_,_,_,_,_,_,_=>none
  | k + 1,b,c,d,e,f,g,h=>if b < (d.length : Int) then (if 0 ≤ b then (if b < (f.length : Int) then (if (rd f b) > (rd d b) then (if h.length < 17592186044416 then (fP.l0 k (wrap64 (b + 1)) c d e f g (h ++ [1099511627776])) else (none)) else (if h.length < 17592186044416 then (fP.l0 k (wrap64 (b + 1)) c d e f g (h ++ [rd d b])) else (none))) else (none)) else (none)) else (some (g,h))
def fP.f (k : Nat) (ai : Int) (av : List Int) (aG : Int) (bn : List Int) : Option (Int × List Int):=(nN.f k ai av aG bn).bind fun b=>(if b = true then (fP.l0 k 0 ai av aG bn ai ([] : List Int)) else (some (0,([] : List Int))))
def qO.f  : Option (Int × Int):=some (1,0)
mutual
def eD.j0 : Nat→Int→Int→Option (Int)
  | 0,_,_=>none
  | k + 1,b,c=>if c < 0 then (eD.j1 k b (wrap64 (-c))) else (eD.j1 k b c)
def eD.j1 : Nat→Int→Int→Option (Int)
  | 0,_,_=>none
  | k + 1,b,c=>eD.l0 k b c
def eD.l0 : Nat→Int→Int→Option (Int)
  | 0,_,_=>none
  | k + 1,b,c=>if c = 0 then (some b) else (eD.l0 k c (Int.tmod b c))
end
def eD.f (k : Nat) (a0 : Int) (a1 : Int) : Option (Int):=if a0 < 0 then (eD.j0 k (wrap64 (-a0)) a1) else (eD.j0 k a0 a1)
def qi.f (k : Nat) (a0 : Int) (a1 : Int) : Option (Int × Int):=if a0 > 65536 then ((eD.f k a0 65536).bind fun b=>(if b = 0 then (some (0,a1)) else ((lY.f a1 b).bind fun c=>(some (b,c))))) else (if a0 = 0 then (some (0,a1)) else ((lY.f a1 a0).bind fun d=>(some (a0,d))))
def dO.j0 : Nat→Bool→Int→Int→Int→Int→Option (Int × Int)
  | 0,_,_,_,_,_=>none
  | k + 1,b,c,d,e,g=>if b = true then ((qO.f).bind fun h=>(some (h.1,h.2))) else ((eD.f k c e).bind fun i=>((eD.f k i (wrap64 (d - g))).bind fun j=>((qi.f k j d).bind fun l=>(some (l.1,l.2)))))
def dO.f (k : Nat) (ai : Int) (aD : Int) (aG : Int) (bG : Int) : Option (Int × Int):=(lv.f ai aD).bind fun b=>(if b = true then ((lv.f aG bG).bind fun c=>(dO.j0 k (!c) ai aD aG bG)) else (dO.j0 k true ai aD aG bG))
def qH.f (a0 : Int) (a1 : Int) : Option (Int):=if a0 < a1 then (some a0) else (some a1)
def dJ.j0 : Nat→Bool→Int→Int→Int→Int→Option (Int × Int)
  | 0,_,_,_,_,_=>none
  | k + 1,b,c,d,e,g=>if b = true then ((fH.f).bind fun h=>(some (h.1,h.2))) else ((fH.f).bind fun i=>(if (c == i.1 && (d == i.2)) = true then (some (e,g)) else ((fH.f).bind fun j=>(if (e == j.1 && (g == j.2)) = true then (some (c,d)) else ((qH.f c e).bind fun l=>((pR.f d g).bind fun m=>(some (l,m))))))))
def dJ.f (k : Nat) (ai : Int) (aD : Int) (aG : Int) (bG : Int) : Option (Int × Int):=(bT.f ai aD).bind fun b=>(if b = true then ((bT.f aG bG).bind fun c=>(dJ.j0 k (!c) ai aD aG bG)) else (dJ.j0 k true ai aD aG bG))
def eP.j0 : Nat→Bool→Int→Int→Int→Int→Int→Int→Int→Int→Option (Int × Int × Int × Int)
  | 0,_,_,_,_,_,_,_,_,_=>none
  | k + 1,b,c,d,e,g,h,i,j,l=>if b = true then ((dw.f).bind fun m=>(some (m.1,m.2.1,m.2.2.1,m.2.2.2))) else ((dw.f).bind fun n=>(if (c == n.1 && (d == n.2.1 && (e == n.2.2.1 && (g == n.2.2.2)))) = true then (some (h,i,j,l)) else ((dw.f).bind fun o=>(if (h == o.1 && (i == o.2.1 && (j == o.2.2.1 && (l == o.2.2.2)))) = true then (some (c,d,e,g)) else ((gZ.f c d e g).bind fun p=>((gZ.f h i j l).bind fun q=>((dJ.f k p.1 p.2 q.1 q.2).bind fun r=>((iR.f c d e g).bind fun s=>((iR.f h i j l).bind fun u=>((dO.f k s.1 s.2 u.1 u.2).bind fun v=>((bq.f k r.1 r.2 v.1 v.2).bind fun w=>(some (w.1,w.2.1,w.2.2.1,w.2.2.2)))))))))))))
def eP.f (k : Nat) (ai : Int) (aD : Int) (bM : Int) (bL : Int) (aG : Int) (bG : Int) (gH : Int) (gG : Int) : Option (Int × Int × Int × Int):=(dG.f k ai aD bM bL).bind fun b=>(if b = true then ((dG.f k aG bG gH gG).bind fun c=>(eP.j0 k (!c) ai aD bM bL aG bG gH gG)) else (eP.j0 k true ai aD bM bL aG bG gH gG))
def iB.l0 : Nat→List Int→Int→Int→Int→Option (Int)
  | 0,_,_,_,_=>none
  | k + 1,b,c,d,e=>if e < (b.length : Int) then (if 0 ≤ e then (if (rd b e) ≤ c then (if (rd b e) > d then (iB.l0 k b c (rd b e) (wrap64 (e + 1))) else (iB.l0 k b c d (wrap64 (e + 1)))) else (iB.l0 k b c d (wrap64 (e + 1)))) else (none)) else (some d)
def iB.f (k : Nat) (l0 : List Int) (a1 : Int) : Option (Int):=iB.l0 k l0 a1 (-2147483648) 0
def lK.l0 : Nat→List Int→Int→Int→Int→Option (Int)
  | 0,_,_,_,_=>none
  | k + 1,b,c,d,e=>if e < (b.length : Int) then (if 0 ≤ e then (if (rd b e) ≥ c then (if (rd b e) < d then (lK.l0 k b c (rd b e) (wrap64 (e + 1))) else (lK.l0 k b c d (wrap64 (e + 1)))) else (lK.l0 k b c d (wrap64 (e + 1)))) else (none)) else (some d)
def lK.f (k : Nat) (l0 : List Int) (a1 : Int) : Option (Int):=lK.l0 k l0 a1 2147483647 0
def bQ.j0 : Nat→List Int→Bool→Int→Int→Int→Int→Option (Int × Int)
  | 0,_,_,_,_,_,_=>none
  | k + 1,b,c,d,e,g,h=>if c = true then (some (g,h)) else (if g < d then ((iB.f k b g).bind fun i=>(if h > e then ((lK.f k b h).bind fun j=>(some (i,j))) else (some (i,h)))) else (if h > e then ((lK.f k b h).bind fun l=>(some (g,l))) else (some (g,h))))
def bQ.f (k : Nat) (ai : Int) (aD : Int) (aG : Int) (bG : Int) (l2 : List Int) : Option (Int × Int):=(dJ.f k ai aD aG bG).bind fun b=>((bT.f ai aD).bind fun c=>(if c = true then ((bT.f aG bG).bind fun d=>(if d = true then ((fH.f).bind fun e=>(if (ai == e.1 && (aD == e.2)) = true then (bQ.j0 k l2 true ai aD b.1 b.2) else ((fH.f).bind fun g=>(bQ.j0 k l2 (aG == g.1 && (bG == g.2)) ai aD b.1 b.2)))) else (bQ.j0 k l2 true ai aD b.1 b.2))) else (bQ.j0 k l2 true ai aD b.1 b.2)))
def bS.j0 : Nat→List Int→Bool→Int→Int→Int→Int→Int→Int→Int→Int→Int→Int→Int→Int→Option (Int × Int × Int × Int)
  | 0,_,_,_,_,_,_,_,_,_,_,_,_,_,_=>none
  | k + 1,b,c,d,e,g,h,i,j,l,m,n,o,p,q=>if c = true then (some (n,o,p,q)) else ((gZ.f d e g h).bind fun r=>((gZ.f i j l m).bind fun s=>((bQ.f k r.1 r.2 s.1 s.2 b).bind fun u=>((iR.f d e g h).bind fun v=>((iR.f i j l m).bind fun w=>((dO.f k v.1 v.2 w.1 w.2).bind fun x=>((bq.f k u.1 u.2 x.1 x.2).bind fun y=>(some (y.1,y.2.1,y.2.2.1,y.2.2.2)))))))))
def bS.f (k : Nat) (ai : Int) (aD : Int) (bM : Int) (bL : Int) (aG : Int) (bG : Int) (gH : Int) (gG : Int) (l2 : List Int) : Option (Int × Int × Int × Int):=(eP.f k ai aD bM bL aG bG gH gG).bind fun b=>((dG.f k ai aD bM bL).bind fun c=>(if c = true then ((dG.f k aG bG gH gG).bind fun d=>(if d = true then ((dw.f).bind fun e=>(if (ai == e.1 && (aD == e.2.1 && (bM == e.2.2.1 && (bL == e.2.2.2)))) = true then (bS.j0 k l2 true ai aD bM bL aG bG gH gG b.1 b.2.1 b.2.2.1 b.2.2.2) else ((dw.f).bind fun g=>(bS.j0 k l2 (aG == g.1 && (bG == g.2.1 && (gH == g.2.2.1 && (gG == g.2.2.2)))) ai aD bM bL aG bG gH gG b.1 b.2.1 b.2.2.1 b.2.2.2)))) else (bS.j0 k l2 true ai aD bM bL aG bG gH gG b.1 b.2.1 b.2.2.1 b.2.2.2))) else (bS.j0 k l2 true ai aD bM bL aG bG gH gG b.1 b.2.1 b.2.2.1 b.2.2.2)))
def lX.f (k : Nat) (ai : Int) (aD : Int) (bM : Int) (bL : Int) (aG : Int) (bG : Int) (gH : Int) (gG : Int) (a2 : Bool) (l3 : List Int) : Option (Int × Int × Int × Int):=if a2 = true then ((bS.f k ai aD bM bL aG bG gH gG l3).bind fun b=>(some (b.1,b.2.1,b.2.2.1,b.2.2.2))) else ((eP.f k ai aD bM bL aG bG gH gG).bind fun c=>(some (c.1,c.2.1,c.2.2.1,c.2.2.2)))
mutual
def aI.j0 : Nat→Bool→List Int→Bool→Bool→List (bV)→List (fT)→List (bV)→Int→List Int→Bool→List (bV)→List (fT)→List (bV)→Int→List Int→Option (Bool × (List (bV)) × (List (fT)) × (List (bV)) × Int × List Int)
  | 0,_,_,_,_,_,_,_,_,_,_,_,_,_,_,_=>none
  | k + 1,b,c,d,e,g,h,i,j,l,m,n,o,p,q,r=>if d = true then (some (false,([] : List (bV)),([] : List (fT)),([] : List (bV)),0,([] : List Int))) else (if e = true then (if m = true then ((d9.f k j l q r).bind fun s=>(if b = true then ((fP.f k j l q r).bind fun u=>(aI.j1 k b c e g h i j l m n o p q r true u.1 u.2)) else (aI.j1 k b c e g h i j l m n o p q r true s.1 s.2))) else ((aM.f k e g h i j l).bind fun v=>(some (v.1,v.2.1,v.2.2.1,v.2.2.2.1,v.2.2.2.2.1,v.2.2.2.2.2)))) else ((aM.f k m n o p q r).bind fun w=>(some (w.1,w.2.1,w.2.2.1,w.2.2.2.1,w.2.2.2.2.1,w.2.2.2.2.2))))
def aI.j1 : Nat→Bool→List Int→Bool→List (bV)→List (fT)→List (bV)→Int→List Int→Bool→List (bV)→List (fT)→List (bV)→Int→List Int→Bool→Int→List Int→Option (Bool × (List (bV)) × (List (fT)) × (List (bV)) × Int × List Int)
  | 0,_,_,_,_,_,_,_,_,_,_,_,_,_,_,_,_,_=>none
  | k + 1,b,c,d,e,f,g,h,i,j,l,m,n,o,p,q,r,s=>aI.l0 k b c 0 d e f g h i j l m n o p q ([] : List (bV)) r s
def aI.l0 : Nat→Bool→List Int→Int→Bool→List (bV)→List (fT)→List (bV)→Int→List Int→Bool→List (bV)→List (fT)→List (bV)→Int→List Int→Bool→List (bV)→Int→List Int→Option (Bool × (List (bV)) × (List (fT)) × (List (bV)) × Int × List Int)
  | 0,_,_,_,_,_,_,_,_,_,_,_,_,_,_,_,_,_,_,_=>none
  | k + 1,b,c,d,e,g,h,i,j,l,m,n,o,p,q,r,s,u,v,w=>if d < (g.length : Int) then (if 0 ≤ d then (if d < (n.length : Int) then ((lX.f k ((ak g d).f0) ((ak g d).f1) ((ak g d).f2) ((ak g d).f3) ((ak n d).f0) ((ak n d).f1) ((ak n d).f2) ((ak n d).f3) b c).bind fun x=>(if u.length < 4398046511104 then (aI.l0 k b c (wrap64 (d + 1)) e g h i j l m n o p q r s (u ++ [(⟨x.1,x.2.1,x.2.2.1,x.2.2.2⟩ : bV)]) v w) else (none))) else (none)) else (none)) else (aI.l1 k b c 0 e g h i j l m n o p q r s u ([] : List (fT)) v w)
def aI.l1 : Nat→Bool→List Int→Int→Bool→List (bV)→List (fT)→List (bV)→Int→List Int→Bool→List (bV)→List (fT)→List (bV)→Int→List Int→Bool→List (bV)→List (fT)→Int→List Int→Option (Bool × (List (bV)) × (List (fT)) × (List (bV)) × Int × List Int)
  | 0,_,_,_,_,_,_,_,_,_,_,_,_,_,_,_,_,_,_,_,_=>none
  | k + 1,b,c,d,e,g,h,i,j,l,m,n,o,p,q,r,s,u,v,w,x=>if d < (h.length : Int) then (if 0 ≤ d then (if d < (o.length : Int) then (if (ag h d).f0 = true then ((aY.f k ((ag h d).f1) ((ag o d).f1)).bind fun y=>((lX.f k ((ag h d).f2.f0) ((ag h d).f2.f1) ((ag h d).f2.f2) ((ag h d).f2.f3) ((ag o d).f2.f0) ((ag o d).f2.f1) ((ag o d).f2.f2) ((ag o d).f2.f3) b c).bind fun z=>(if v.length < 2199023255552 then (aI.l1 k b c (wrap64 (d + 1)) e g h i j l m n o p q r s u (v ++ [(⟨true,y,(⟨z.1,z.2.1,z.2.2.1,z.2.2.2⟩ : bV)⟩ : fT)]) w x) else (none)))) else ((aY.f k ((ag h d).f1) ((ag o d).f1)).bind fun aa=>((lX.f k ((ag h d).f2.f0) ((ag h d).f2.f1) ((ag h d).f2.f2) ((ag h d).f2.f3) ((ag o d).f2.f0) ((ag o d).f2.f1) ((ag o d).f2.f2) ((ag o d).f2.f3) b c).bind fun ab=>(if v.length < 2199023255552 then (aI.l1 k b c (wrap64 (d + 1)) e g h i j l m n o p q r s u (v ++ [(⟨(ag o d).f0,aa,(⟨ab.1,ab.2.1,ab.2.2.1,ab.2.2.2⟩ : bV)⟩ : fT)]) w x) else (none))))) else (none)) else (none)) else (aI.l2 k b c 0 e g h i j l m n o p q r s u v ([] : List (bV)) w x)
def aI.l2 : Nat→Bool→List Int→Int→Bool→List (bV)→List (fT)→List (bV)→Int→List Int→Bool→List (bV)→List (fT)→List (bV)→Int→List Int→Bool→List (bV)→List (fT)→List (bV)→Int→List Int→Option (Bool × (List (bV)) × (List (fT)) × (List (bV)) × Int × List Int)
  | 0,_,_,_,_,_,_,_,_,_,_,_,_,_,_,_,_,_,_,_,_,_=>none
  | k + 1,b,c,d,e,g,h,i,j,l,m,n,o,p,q,r,s,u,v,w,x,y=>if d < (i.length : Int) then (if 0 ≤ d then (if d < (p.length : Int) then ((lX.f k ((ak i d).f0) ((ak i d).f1) ((ak i d).f2) ((ak i d).f3) ((ak p d).f0) ((ak p d).f1) ((ak p d).f2) ((ak p d).f3) b c).bind fun z=>(if w.length < 4398046511104 then (aI.l2 k b c (wrap64 (d + 1)) e g h i j l m n o p q r s u v (w ++ [(⟨z.1,z.2.1,z.2.2.1,z.2.2.2⟩ : bV)]) x y) else (none))) else (none)) else (none)) else (some (s,u,v,w,x,y))
end
def aI.f (k : Nat) (ai : Bool) (av : List (bV)) (ay : List (fT)) (aK : List (bV)) (bf : Int) (bz : List Int) (aG : Bool) (bn : List (bV)) (aU : List (fT)) (cK : List (bV)) (dW : Int) (dm : List Int) (a2 : Bool) (l3 : List Int) : Option (Bool × (List (bV)) × (List (fT)) × (List (bV)) × Int × List Int):=(gF.f k ai av ay aK bf bz).bind fun b=>(if b = true then ((gF.f k aG bn aU cK dW dm).bind fun c=>(if c = true then (if ai = true then (if aG = true then ((qw.f ai av ay aK bf bz aG bn aU cK dW dm).bind fun d=>(aI.j0 k a2 l3 (!d) ai av ay aK bf bz aG bn aU cK dW dm)) else (aI.j0 k a2 l3 false ai av ay aK bf bz aG bn aU cK dW dm)) else (aI.j0 k a2 l3 false ai av ay aK bf bz aG bn aU cK dW dm)) else (aI.j0 k a2 l3 true ai av ay aK bf bz aG bn aU cK dW dm))) else (aI.j0 k a2 l3 true ai av ay aK bf bz aG bn aU cK dW dm))
def l7.f (k : Nat) (ai : Bool) (av : List (bV)) (ay : List (fT)) (aK : List (bV)) (bf : Int) (bz : List Int) (aG : Bool) (bn : List (bV)) (aU : List (fT)) (cK : List (bV)) (dW : Int) (dm : List Int) (l2 : List Int) : Option (Bool × (List (bV)) × (List (fT)) × (List (bV)) × Int × List Int):=(aI.f k ai av ay aK bf bz aG bn aU cK dW dm true l2).bind fun b=>(some (b.1,b.2.1,b.2.2.1,b.2.2.2.1,b.2.2.2.2.1,b.2.2.2.2.2))
def gJ.f  : Option (Int × Int × Int × Int):=some (1,0,0,0)
def ed.f (ai : Int) (aD : Int) (bM : Int) (bL : Int) : Option (Bool):=(gJ.f).bind fun b=>(some (ai == b.1 && (aD == b.2.1 && (bM == b.2.2.1 && (bL == b.2.2.2)))))
def iD.f (a0 : Int) : Option (Bool):=if a0 ≥ (-2147483648) then (some (decide (a0 ≤ 2147483647))) else (some false)
def lH.f  : Option (Int × Int):=some (1,0)
def bO.f (ai : Int) (aD : Int) : Option (Bool):=(lH.f).bind fun b=>(if (ai == b.1 && (aD == b.2)) = true then (some true) else ((iD.f ai).bind fun c=>(if c = true then ((iD.f aD).bind fun d=>(if d = true then (some (decide (ai ≤ aD))) else (some false))) else (some false))))
def l6.f (ai : Int) (aD : Int) (a1 : Int) : Option (Bool):=(bO.f ai aD).bind fun b=>(if b = true then (if ai ≤ a1 then (some (decide (a1 ≤ aD))) else (some false)) else (some false))
def lu.f (ai : Int) (aD : Int) : Option (Bool):=if ai = 0 then ((iD.f aD).bind fun b=>(some b)) else (if ai ≥ 1 then (if ai ≤ 65536 then (if aD ≥ 0 then (some (decide (aD < ai))) else (some false)) else (some false)) else (some false))
def eF.f (ai : Int) (aD : Int) : Option (Bool):=some (decide (ai > aD))
def mY.f (a0 : Int) : Option (Int × Int × Int × Int):=some (a0,a0,0,a0)
def dZ.f (a0 : Int) (a1 : Int) : Option (Int):=if a1 = 0 then (none) else (if (Int.tmod a0 a1) < 0 then (some (wrap64 ((Int.tmod a0 a1) + a1))) else (some (Int.tmod a0 a1)))
def gB.j0 : Nat→Bool→Int→Int→Int→Int→Option (Int × Int × Int × Int)
  | 0,_,_,_,_,_=>none
  | k + 1,b,c,d,e,g=>if b = true then ((gJ.f).bind fun h=>(some (h.1,h.2.1,h.2.2.1,h.2.2.2))) else (if e = 0 then ((l6.f c d g).bind fun i=>(if i = true then ((mY.f g).bind fun j=>(some (j.1,j.2.1,j.2.2.1,j.2.2.2))) else ((gJ.f).bind fun l=>(some (l.1,l.2.1,l.2.2.1,l.2.2.2))))) else ((dZ.f (wrap64 (g - c)) e).bind fun m=>((dZ.f (wrap64 (d - g)) e).bind fun n=>(if (wrap64 (c + m)) > (wrap64 (d - n)) then ((gJ.f).bind fun o=>(some (o.1,o.2.1,o.2.2.1,o.2.2.2))) else (if (wrap64 (c + m)) = (wrap64 (d - n)) then ((mY.f (wrap64 (c + m))).bind fun p=>(some (p.1,p.2.1,p.2.2.1,p.2.2.2))) else (some (wrap64 (c + m),wrap64 (d - n),e,g)))))))
def gB.f (k : Nat) (ai : Int) (aD : Int) (aG : Int) (bG : Int) : Option (Int × Int × Int × Int):=(bO.f ai aD).bind fun b=>(if b = true then ((lu.f aG bG).bind fun c=>(if c = true then ((eF.f ai aD).bind fun d=>(gB.j0 k d ai aD aG bG)) else (gB.j0 k true ai aD aG bG))) else (gB.j0 k true ai aD aG bG))
def iZ.f (ai : Int) (aD : Int) (bM : Int) (bL : Int) : Option (Int × Int):=some (ai,aD)
def iY.f (ai : Int) (aD : Int) (bM : Int) (bL : Int) : Option (Int × Int):=some (bM,bL)
def dY.f (k : Nat) (ai : Int) (aD : Int) (bM : Int) (bL : Int) : Option (Bool):=(iZ.f ai aD bM bL).bind fun b=>((iY.f ai aD bM bL).bind fun c=>((gB.f k b.1 b.2 c.1 c.2).bind fun d=>(some (ai == d.1 && (aD == d.2.1 && (bM == d.2.2.1 && (bL == d.2.2.2)))))))
mutual
def dV.j0 : Nat→Bool→Bool→List Int→Int→Int→Int→Int→Option (Bool)
  | 0,_,_,_,_,_,_,_=>none
  | k + 1,b,c,d,e,f,g,h=>if b = true then (some false) else (dV.l0 k (-1) d (d.length : Int) 0 c d e f g h)
def dV.l0 : Nat→Int→List Int→Int→Int→Bool→List Int→Int→Int→Int→Int→Option (Bool)
  | 0,_,_,_,_,_,_,_,_,_,_=>none
  | k + 1,b,c,d,e,f,g,h,i,j,l=>if e < d then (if 0 ≤ e then (if e < (c.length : Int) then (if (rd c e) ≤ b then (some false) else (dV.l0 k (rd c e) c d (wrap64 (e + 1)) f g h i j l)) else (none)) else (none)) else (if f = true then (some true) else (some (decide ((g.length : Int) > 0))))
end
def dV.f (k : Nat) (ai : Bool) (av : List Int) (bM : Int) (bL : Int) (bf : Int) (lL : Int) : Option (Bool):=(dY.f k bM bL bf lL).bind fun b=>(if b = true then ((ed.f bM bL bf lL).bind fun c=>(dV.j0 k (c != ((av.length : Int) == 0)) ai av bM bL bf lL)) else (dV.j0 k true ai av bM bL bf lL))
def oO.f (ai : Int) (av : List Int) (a1 : Int) (a2 : Int) : Option (Int):=some (wrap64 ((wrap64 (a1 * (wrap64 (ai + 1)))) + a2))
mutual
def bI.j0 : Nat→Bool→Int→List Int→Option (Bool)
  | 0,_,_,_=>none
  | k + 1,b,c,d=>if b = true then (some false) else (bI.l0 k (wrap64 (c + 1)) 0 c d)
def bI.l0 : Nat→Int→Int→Int→List Int→Option (Bool)
  | 0,_,_,_,_=>none
  | k + 1,b,c,d,e=>if c < b then ((oO.f d e c c).bind fun g=>(if 0 ≤ g then (if g < (e.length : Int) then (if (rd e g) = 0 then (bI.l0 k b (wrap64 (c + 1)) d e) else (some false)) else (none)) else (none))) else (bI.l1 k e (e.length : Int) 0)
def bI.l1 : Nat→List Int→Int→Int→Option (Bool)
  | 0,_,_,_=>none
  | k + 1,b,c,d=>if d < c then (if 0 ≤ d then (if d < (b.length : Int) then (if (rd b d) < (-1099511627776) then (some false) else (if (rd b d) > 1099511627776 then (some false) else (bI.l1 k b c (wrap64 (d + 1))))) else (none)) else (none)) else (some true)
end
def bI.f (k : Nat) (ai : Int) (av : List Int) : Option (Bool):=if ai < 0 then (bI.j0 k true ai av) else (if ai > 12 then (bI.j0 k true ai av) else (bI.j0 k ((av.length : Int) != (wrap64 ((wrap64 (ai + 1)) * (wrap64 (ai + 1))))) ai av))
mutual
def dQ.l0 : Nat→List (bV)→Int→Int→Bool→List (bV)→List (fT)→List (bV)→Int→List Int→Option (Bool)
  | 0,_,_,_,_,_,_,_,_,_=>none
  | k + 1,b,c,d,e,g,h,i,j,l=>if d < c then (if 0 ≤ d then (if d < (b.length : Int) then ((ed.f ((ak b d).f0) ((ak b d).f1) ((ak b d).f2) ((ak b d).f3)).bind fun m=>(if m = true then (some false) else ((dY.f k ((ak b d).f0) ((ak b d).f1) ((ak b d).f2) ((ak b d).f3)).bind fun n=>(if n = true then (dQ.l0 k b c (wrap64 (d + 1)) e g h i j l) else (some false))))) else (none)) else (none)) else (dQ.l1 k i (i.length : Int) 0 e g h i j l)
def dQ.l1 : Nat→List (bV)→Int→Int→Bool→List (bV)→List (fT)→List (bV)→Int→List Int→Option (Bool)
  | 0,_,_,_,_,_,_,_,_,_=>none
  | k + 1,b,c,d,e,g,h,i,j,l=>if d < c then (if 0 ≤ d then (if d < (b.length : Int) then ((ed.f ((ak b d).f0) ((ak b d).f1) ((ak b d).f2) ((ak b d).f3)).bind fun m=>(if m = true then (some false) else ((dY.f k ((ak b d).f0) ((ak b d).f1) ((ak b d).f2) ((ak b d).f3)).bind fun n=>(if n = true then (dQ.l1 k b c (wrap64 (d + 1)) e g h i j l) else (some false))))) else (none)) else (none)) else (dQ.l2 k h (h.length : Int) 0 e g h i j l)
def dQ.l2 : Nat→List (fT)→Int→Int→Bool→List (bV)→List (fT)→List (bV)→Int→List Int→Option (Bool)
  | 0,_,_,_,_,_,_,_,_,_=>none
  | k + 1,b,c,d,e,g,h,i,j,l=>if d < c then (if 0 ≤ d then (if d < (b.length : Int) then ((dV.f k ((ag b d).f0) ((ag b d).f1) ((ag b d).f2.f0) ((ag b d).f2.f1) ((ag b d).f2.f2) ((ag b d).f2.f3)).bind fun m=>(if m = true then (dQ.l2 k b c (wrap64 (d + 1)) e g h i j l) else (some false))) else (none)) else (none)) else ((bI.f k j l).bind fun n=>(if n = true then (some (j == (g.length : Int))) else (some false)))
end
def dQ.f (k : Nat) (ai : Bool) (av : List (bV)) (ay : List (fT)) (aK : List (bV)) (bf : Int) (bz : List Int) : Option (Bool):=if ai = true then (dQ.l0 k av (av.length : Int) 0 ai av ay aK bf bz) else (if (av.length : Int) = 0 then (if (ay.length : Int) = 0 then (if (aK.length : Int) = 0 then (if bf = 0 then (some ((bz.length : Int) == 0)) else (some false)) else (some false)) else (some false)) else (some false))
def nL.f (ai : Bool) (av : List (bV)) (ay : List (fT)) (aK : List (bV)) (bf : Int) (bz : List Int) (aG : Bool) (bn : List (bV)) (aU : List (fT)) (cK : List (bV)) (dW : Int) (dm : List Int) : Option (Bool):=if (av.length : Int) = (bn.length : Int) then (if (ay.length : Int) = (aU.length : Int) then (some ((aK.length : Int) == (cK.length : Int))) else (some false)) else (some false)
def ic.f (ai : Int) (av : List Int) : Option (Int × List Int):=if ([] : List Int).length + av.length < 17592186044416 then (some (ai,(([] : List Int) ++ av))) else (none)
def fM.f (ai : Bool) (av : List Int) (bM : Int) (bL : Int) (bf : Int) (lL : Int) : Option (Bool × List Int × Int × Int × Int × Int):=if ([] : List Int).length + av.length < 17592186044416 then (some (ai,(([] : List Int) ++ av),bM,bL,bf,lL)) else (none)
def bR.l0 : Nat→List (fT)→Int→Int→Bool→List (bV)→List (fT)→List (bV)→Int→List Int→Option (Bool × (List (bV)) × (List (fT)) × (List (bV)) × Int × List Int)
  | 0,_,_,_,_,_,_,_,_,_=>none
  | k + 1,b,c,d,e,g,h,i,j,l=>if d < c then (if 0 ≤ d then (if d < (b.length : Int) then ((fM.f ((ag b d).f0) ((ag b d).f1) ((ag b d).f2.f0) ((ag b d).f2.f1) ((ag b d).f2.f2) ((ag b d).f2.f3)).bind fun m=>(if h.length < 2199023255552 then (bR.l0 k b c (wrap64 (d + 1)) e g (h ++ [(⟨m.1,m.2.1,(⟨m.2.2.1,m.2.2.2.1,m.2.2.2.2.1,m.2.2.2.2.2⟩ : bV)⟩ : fT)]) i j l) else (none))) else (none)) else (none)) else (some (e,g,h,i,j,l))
def bR.f (k : Nat) (ai : Bool) (av : List (bV)) (ay : List (fT)) (aK : List (bV)) (bf : Int) (bz : List Int) : Option (Bool × (List (bV)) × (List (fT)) × (List (bV)) × Int × List Int):=if ([] : List (bV)).length + av.length < 4398046511104 then (if ([] : List (bV)).length + aK.length < 4398046511104 then ((ic.f bf bz).bind fun b=>(bR.l0 k ay (ay.length : Int) 0 ai (([] : List (bV)) ++ av) ([] : List (fT)) (([] : List (bV)) ++ aK) b.1 b.2)) else (none)) else (none)
mutual
def aZ.l0 : Nat→List Int→List Int→List Int→Option (List Int)
  | 0,_,_,_=>none
  | k + 1,b,c,d=>if (b.length : Int) > 0 then (aZ.j1 k b c d true) else (aZ.j1 k b c d (decide ((c.length : Int) > 0)))
def aZ.j1 : Nat→List Int→List Int→List Int→Bool→Option (List Int)
  | 0,_,_,_,_=>none
  | k + 1,b,c,d,e=>if e = true then (if (c.length : Int) = 0 then (aZ.j2 k b c d true) else (if (b.length : Int) > 0 then (if 0 < (b.length : Int) then (if 0 < (c.length : Int) then (aZ.j2 k b c d (decide ((rd b 0) < (rd c 0)))) else (none)) else (none)) else (aZ.j2 k b c d false))) else (some d)
def aZ.j2 : Nat→List Int→List Int→List Int→Bool→Option (List Int)
  | 0,_,_,_,_=>none
  | k + 1,b,c,d,e=>if e = true then (if 0 < (b.length : Int) then (if d.length < 17592186044416 then (if 1 ≤ (b.length : Int) then (aZ.l0 k (b.drop 1) c (d ++ [rd b 0])) else (none)) else (none)) else (none)) else (if (b.length : Int) = 0 then (if 0 < (c.length : Int) then (if d.length < 17592186044416 then (if 1 ≤ (c.length : Int) then (aZ.l0 k b (c.drop 1) (d ++ [rd c 0])) else (none)) else (none)) else (none)) else (if 0 < (c.length : Int) then (if 0 < (b.length : Int) then (if (rd c 0) < (rd b 0) then (if d.length < 17592186044416 then (if 1 ≤ (c.length : Int) then (aZ.l0 k b (c.drop 1) (d ++ [rd c 0])) else (none)) else (none)) else (if d.length < 17592186044416 then (if 1 ≤ (b.length : Int) then (if 1 ≤ (c.length : Int) then (aZ.l0 k (b.drop 1) (c.drop 1) (d ++ [rd b 0])) else (none)) else (none)) else (none))) else (none)) else (none)))
end
def aZ.f (k : Nat) (l0 : List Int) (l1 : List Int) : Option (List Int):=aZ.l0 k l0 l1 ([] : List Int)
def fJ.j0 : Nat→Bool→Int→Int→Int→Int→Option (Int × Int)
  | 0,_,_,_,_,_=>none
  | k + 1,b,c,d,e,g=>if b = true then ((lH.f).bind fun h=>(some (h.1,h.2))) else ((eF.f c d).bind fun i=>(if i = true then (some (e,g)) else ((eF.f e g).bind fun j=>(if j = true then (some (c,d)) else (some (mn c e,mx d g))))))
def fJ.f (k : Nat) (ai : Int) (aD : Int) (aG : Int) (bG : Int) : Option (Int × Int):=(bO.f ai aD).bind fun b=>(if b = true then ((bO.f aG bG).bind fun c=>(fJ.j0 k (!c) ai aD aG bG)) else (fJ.j0 k true ai aD aG bG))
def qx.f  : Option (Int × Int):=some (1,0)
mutual
def dL.l0 : Nat→Int→List Int→Int→Int→Option (Int)
  | 0,_,_,_,_=>none
  | k + 1,b,c,d,e=>if e < d then (if 0 ≤ e then (if e < (c.length : Int) then (dL.l1 k b (rd c e) c d e) else (none)) else (none)) else (if b < 0 then (some (wrap64 (-b))) else (some b))
def dL.l1 : Nat→Int→Int→List Int→Int→Int→Option (Int)
  | 0,_,_,_,_,_=>none
  | k + 1,b,c,d,e,f=>if c = 0 then (dL.l0 k b d e (wrap64 (f + 1))) else (dL.l1 k c (Int.tmod b c) d e f)
end
def dL.f (k : Nat) (l0 : List Int) : Option (Int):=dL.l0 k 0 l0 (l0.length : Int) 0
def pK.f (k : Nat) (a0 : Int) (a1 : Int) : Option (Int × Int):=if a1 > 65536 then ((dL.f k (([a1,65536] : List Int))).bind fun b=>(if b = 0 then (some (0,a0)) else ((dZ.f a0 b).bind fun c=>(some (b,c))))) else (if a1 = 0 then (some (0,a0)) else ((dZ.f a0 a1).bind fun d=>(some (a1,d))))
def dP.j0 : Nat→Bool→Int→Int→Int→Int→Option (Int × Int)
  | 0,_,_,_,_,_=>none
  | k + 1,b,c,d,e,g=>if b = true then ((qx.f).bind fun h=>(some (h.1,h.2))) else ((dL.f k (([c,e,wrap64 (d - g)] : List Int))).bind fun i=>((pK.f k d i).bind fun j=>(some (j.1,j.2))))
def dP.f (k : Nat) (ai : Int) (aD : Int) (aG : Int) (bG : Int) : Option (Int × Int):=(lu.f ai aD).bind fun b=>(if b = true then ((lu.f aG bG).bind fun c=>(dP.j0 k (!c) ai aD aG bG)) else (dP.j0 k true ai aD aG bG))
def fu.j0 : Nat→Bool→Int→Int→Int→Int→Int→Int→Int→Int→Option (Int × Int × Int × Int)
  | 0,_,_,_,_,_,_,_,_,_=>none
  | k + 1,b,c,d,e,g,h,i,j,l=>if b = true then ((gJ.f).bind fun m=>(some (m.1,m.2.1,m.2.2.1,m.2.2.2))) else ((ed.f c d e g).bind fun n=>(if n = true then (some (h,i,j,l)) else ((ed.f h i j l).bind fun o=>(if o = true then (some (c,d,e,g)) else ((iZ.f c d e g).bind fun p=>((iZ.f h i j l).bind fun q=>((fJ.f k p.1 p.2 q.1 q.2).bind fun r=>((iY.f c d e g).bind fun s=>((iY.f h i j l).bind fun u=>((dP.f k s.1 s.2 u.1 u.2).bind fun v=>((gB.f k r.1 r.2 v.1 v.2).bind fun w=>(some (w.1,w.2.1,w.2.2.1,w.2.2.2)))))))))))))
def fu.f (k : Nat) (ai : Int) (aD : Int) (bM : Int) (bL : Int) (aG : Int) (bG : Int) (gH : Int) (gG : Int) : Option (Int × Int × Int × Int):=(dY.f k ai aD bM bL).bind fun b=>(if b = true then ((dY.f k aG bG gH gG).bind fun c=>(fu.j0 k (!c) ai aD bM bL aG bG gH gG)) else (fu.j0 k true ai aD bM bL aG bG gH gG))
mutual
def aQ.j0 : Nat→List Int→Bool→Int→Int→Int→Int→Option (Int × Int)
  | 0,_,_,_,_,_,_=>none
  | k + 1,b,c,d,e,f,g=>if c = true then (some (f,g)) else (if f < d then (aQ.l0 k b (-2147483648) b (b.length : Int) 0 d e f g) else (aQ.j2 k b d e f g))
def aQ.j2 : Nat→List Int→Int→Int→Int→Int→Option (Int × Int)
  | 0,_,_,_,_,_=>none
  | k + 1,b,c,d,e,f=>if f > d then (aQ.l1 k 2147483647 b (b.length : Int) 0 e f) else (some (e,f))
def aQ.l1 : Nat→Int→List Int→Int→Int→Int→Int→Option (Int × Int)
  | 0,_,_,_,_,_,_=>none
  | k + 1,b,c,d,e,g,h=>if e < d then (if 0 ≤ e then (if e < (c.length : Int) then ((iD.f (rd c e)).bind fun i=>(if i = true then (if (rd c e) ≥ h then (aQ.l1 k (mn b (rd c e)) c d (wrap64 (e + 1)) g h) else (aQ.l1 k b c d (wrap64 (e + 1)) g h)) else (aQ.l1 k b c d (wrap64 (e + 1)) g h))) else (none)) else (none)) else (some (g,b))
def aQ.l0 : Nat→List Int→Int→List Int→Int→Int→Int→Int→Int→Int→Option (Int × Int)
  | 0,_,_,_,_,_,_,_,_,_=>none
  | k + 1,b,c,d,e,g,h,i,j,l=>if g < e then (if 0 ≤ g then (if g < (d.length : Int) then ((iD.f (rd d g)).bind fun m=>(if m = true then (if (rd d g) ≤ j then (aQ.l0 k b (mx c (rd d g)) d e (wrap64 (g + 1)) h i j l) else (aQ.l0 k b c d e (wrap64 (g + 1)) h i j l)) else (aQ.l0 k b c d e (wrap64 (g + 1)) h i j l))) else (none)) else (none)) else (aQ.j2 k b h i c l)
end
def aQ.f (k : Nat) (ai : Int) (aD : Int) (aG : Int) (bG : Int) (l2 : List Int) : Option (Int × Int):=(fJ.f k ai aD aG bG).bind fun b=>((bO.f ai aD).bind fun c=>(if c = true then ((bO.f aG bG).bind fun d=>(if d = true then ((eF.f ai aD).bind fun e=>(if e = true then (aQ.j0 k l2 true ai aD b.1 b.2) else ((eF.f aG bG).bind fun g=>(aQ.j0 k l2 g ai aD b.1 b.2)))) else (aQ.j0 k l2 true ai aD b.1 b.2))) else (aQ.j0 k l2 true ai aD b.1 b.2)))
def di.j0 : Nat→List Int→Bool→Int→Int→Int→Int→Int→Int→Int→Int→Option (Int × Int × Int × Int)
  | 0,_,_,_,_,_,_,_,_,_,_=>none
  | k + 1,b,c,d,e,g,h,i,j,l,m=>if c = true then ((fu.f k d e g h i j l m).bind fun n=>(some (n.1,n.2.1,n.2.2.1,n.2.2.2))) else ((iZ.f d e g h).bind fun o=>((iZ.f i j l m).bind fun p=>((aQ.f k o.1 o.2 p.1 p.2 b).bind fun q=>((iY.f d e g h).bind fun r=>((iY.f i j l m).bind fun s=>((dP.f k r.1 r.2 s.1 s.2).bind fun u=>((gB.f k q.1 q.2 u.1 u.2).bind fun v=>(some (v.1,v.2.1,v.2.2.1,v.2.2.2)))))))))
def di.f (k : Nat) (ai : Int) (aD : Int) (bM : Int) (bL : Int) (aG : Int) (bG : Int) (gH : Int) (gG : Int) (l2 : List Int) : Option (Int × Int × Int × Int):=(dY.f k ai aD bM bL).bind fun b=>(if b = true then ((dY.f k aG bG gH gG).bind fun c=>(if c = true then ((ed.f ai aD bM bL).bind fun d=>(if d = true then (di.j0 k l2 true ai aD bM bL aG bG gH gG) else ((ed.f aG bG gH gG).bind fun e=>(di.j0 k l2 e ai aD bM bL aG bG gH gG)))) else (di.j0 k l2 true ai aD bM bL aG bG gH gG))) else (di.j0 k l2 true ai aD bM bL aG bG gH gG))
mutual
def dA.j0 : Nat→Bool→Int→List Int→Int→List Int→Option (Int × List Int)
  | 0,_,_,_,_,_=>none
  | k + 1,b,c,d,e,g=>if b = true then (some (0,([] : List Int))) else ((ic.f c d).bind fun h=>(dA.l0 k g (g.length : Int) 0 h.1 h.2))
def dA.l0 : Nat→List Int→Int→Int→Int→List Int→Option (Int × List Int)
  | 0,_,_,_,_,_=>none
  | k + 1,b,c,d,e,f=>if d < c then (if 0 ≤ d then (if d < (b.length : Int) then (if d < (f.length : Int) then (if (rd b d) > (rd f d) then (dA.l0 k b c (wrap64 (d + 1)) e (f.set (d : Int).toNat 1099511627776)) else (dA.l0 k b c (wrap64 (d + 1)) e f)) else (none)) else (none)) else (none)) else (some (e,f))
end
def dA.f (k : Nat) (ai : Int) (av : List Int) (aG : Int) (bn : List Int) : Option (Int × List Int):=(bI.f k ai av).bind fun b=>(if b = true then ((bI.f k aG bn).bind fun c=>(if c = true then (dA.j0 k (ai != aG) ai av aG bn) else (dA.j0 k true ai av aG bn))) else (dA.j0 k true ai av aG bn))
end Go.Proofs.YtklkdpcopfjmcaaGreat.PFnExactAbsWiden
