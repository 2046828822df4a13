/- The marks that a law writes into references' rows, and into all of an answer, and that calls of these come to what is told here. Conditions: those in each law. -/
import Derived.Test.YtklkdpcopfjmcaaGreatSqV
import Derived.Test.YtklkdpcopfjmcaaGreatQFnExactAbsJoinx37V
import Derived.Test.YtklkdpcopfjmcaaGreatQFnExactAbsJoinx38V
namespace Go.Proofs.YtklkdpcopfjmcaaGreat.PFnExactAbsJoin
open Go.RowKit Go.Proofs.YtklkdpcopfjmcaaGreat.Sq Go.Proofs.YtklkdpcopfjmcaaGreatW.PrintWords Go.Proofs.YtklkdpcopfjmcaaGreatW.PrintLast Go.Proofs.YtklkdpcopfjmcaaGreatW.PrintMore
set_option linter.unusedVariables false
set_option linter.unusedSimpArgs false
set_option maxHeartbeats 8000000
set_option maxRecDepth 100000

def mref (x : S84) (k : Int) (t : Int × List Int) : S84 :=
  ⟨(Int.tmod k 3 == 0),t.2,⟨t.1,wrap64 (t.1 + 1),wrap64 (wrap64 (t.1 + 1) + 1),wrap64 (wrap64 (wrap64 (t.1 + 1) + 1) + 1)⟩⟩
def laws_markRefValS.l0 : Nat→List S84→Int→Int→Option (Int × List S84)
  | 0,_,_,_=>none
  | k + 1,x0,x1,x2=>if x2 < (x0.length : Int) then (if 0 ≤ x2 then ((laws_markIntS.f k (rd_T84 x0 x2).f1 (wrap64 (x1 + 1))).bind fun t=>laws_markRefValS.l0 k (x0.set x2.toNat (mref (rd_T84 x0 x2) x1 t)) (wrap64 (wrap64 (wrap64 (wrap64 (t.1 + 1) + 1) + 1) + 1)) (wrap64 (x2 + 1))) else none) else some (x1,x0)
def laws_markRefValS.f (k : Nat) (l0 : List S84) (a1 : Int) : Option (Int × List S84):=laws_markRefValS.l0 k l0 a1 0

theorem cell_same {W W1 : World} {g o : Nat} {v : Value} (h : W1.heap[g]? = W.heap[g]?) (c : W.cell? ⟨g,o,none⟩ = some v) : W1.cell? ⟨g,o,none⟩ = some v:=by
  simpa [World.cell?,h] using c
theorem H_one {α : Type} {d : Kd α} {e base g n cap : Nat} {ok oki : Nat→Prop} {W : World} {xs : List α} {i : Int} {c : List Value} (h : Kd.H d e W base ok (.slice (some ⟨g,0,none⟩) n cap) xs i oki c) (h0 : 0 ≤ i) (h1 : i < n) (j : Nat) (u : Value) (hj : j < d.sz) (hu : u.oneCell' = true) :
    Kd.H d e (W.setCell ⟨g,i.toNat * d.sz + j,none⟩ u) base ok (.slice (some ⟨g,0,none⟩) n cap) xs i oki (c.take j ++ [u] ++ c.drop (j + 1)) :=
  (Kd.H_seg h h0 h1 (seg:=[u]) (j:=j) (by simp;omega) (fun q hq=>by rw [List.mem_singleton.1 hq];exact hu)).1

theorem laws_markRefValS.calls (k : Nat) (P0_ : Nat→Prop) (v : Value) (l0 : List S84) (a1 r1 : Int) (r2 : List S84) (w0 w : World) (hB : Below w0.heap.size w0 w) (ho0 : Kd.S k84 84 w w0.heap.size P0_ v l0) (h : laws_markRefValS.f k l0 a1 = some (r1,r2)) :
    Calls Tryz.prog 46 #[v,.int .i64 a1] w fun e w'=>e = .returned (.int .i64 r1)∧Kd.S k84 84 w' w0.heap.size P0_ v r2∧Below w0.heap.size w0 w'∧Kept w w' P0_:=by
  have HO:=Aside0.mk ho0
  have HK:=Aside0.mk (Kept.refl w P0_)
  have HB:=Aside0.mk hB
  have H':=Aside0.mk (show laws_markRefValS.l0 k l0 a1 0 = some (r1,r2) from h)
  clear hB ho0 h
  go_enter Tryz.func46,Tryz.ntmps46
  go_wp2
  go_loopg [1,5] k (fun kq v1 v5 w'=>∃ (x0 : List S84) (x1 x5 : Int),v1 = .int .i64 x1∧v5 = .int .i64 x5∧Aside0 (laws_markRefValS.l0 kq x0 x1 x5 = some (r1,r2))∧Aside0 (kq ≤ k)∧Aside0 (Kd.S k84 84 w' w0.heap.size P0_ v x0)∧Aside0 (Kept w w' P0_)∧Aside0 (Below w0.heap.size w0 w'))
  case atStart=>exact ⟨l0,a1,0,rfl,rfl,H',⟨Nat.le_refl _⟩,HO,HK,HB⟩
  case round =>
    clear H' HO HK HB
    obtain ⟨x0,x1,x5,rfl,rfl,HA,HK1,HO,HK,HB⟩:=hrel
    cases gk with
    | zero=>exact absurd HA.out (by simp [laws_markRefValS.l0])
    | succ k1 =>
      have H:=HA.out
      clear HA
      simp only [laws_markRefValS.l0] at H
      rcases sqi H with ⟨c3,H2⟩ | ⟨c3,H2⟩ <;> clear H
      · have b3:=decide_eq_false c3
        clear c3
        cases H2
        obtain ⟨Ao,co,eo⟩:=Kd.S_slice HO.out
        subst eo
        go_wp2
        go_ret
        exact ⟨rfl,HO.out,HB.out,HK.out⟩
      · rcases sqi H2 with ⟨c4,H⟩ | ⟨c4,H⟩ <;> clear H2
        · cases H
        obtain ⟨⟨t1,t2⟩,A,H⟩:=sqbi H
        have H':=Aside0.mk H
        clear H
        have L:=Aside0.mk c3
        have Z:=Aside0.mk c4
        have hp : 0 < x0.length:=by omega
        obtain ⟨go,cap,eo,gb,gl,_⟩:=Kd.S_form HO.out hp
        subst eo
        clear hp
        have GB:=Aside0.mk gb
        clear gb gl
        obtain ⟨oki,c,hcl,hM,_,_,hoki,hH⟩:=Kd.S_elem HO.out z84 x5 Z.out L.out
        replace hM : k84.M wr w0.heap.size oki (rd_T84 x0 x5) c:=hM
        obtain ⟨u,rfl,hR⟩:=k84_openM hM
        have hg : P0_ go:=(Kd.S_R HO.out).1 go rfl
        have hu : ∀ k_,some k_ = u.ownBlock→oki k_:=fun k_ e_=>hR.1 k_ e_.symm
        have M0:=Aside0.mk (Kd.H_at hH Z.out L.out)
        have H1:=Aside0.mk (H_one hH Z.out L.out 0 (.bool (Int.tmod x1 3 == 0)) (by decide) rfl)
        have M1:=Aside0.mk (Kd.H_at H1.out Z.out L.out)
        have R1:=Aside0.mk (Kd.R_far (p:=⟨go,x5.toNat * 6 + 0,none⟩) hR (fun k_ hk=>(hoki k_ hk).2) (.bool (Int.tmod x1 3 == 0)))
        have B1:=Aside0.mk (Below.setCell (p:=⟨go,x5.toNat * 6 + 0,none⟩) HB.out GB.out (.bool (Int.tmod x1 3 == 0)))
        have K1:=Aside0.mk (Kept.setCell (p:=⟨go,x5.toNat * 6 + 0,none⟩) HK.out (.inl hg) (.bool (Int.tmod x1 3 == 0)))
        have d0 : wr.cell? ⟨go,x5.toNat * 6,none⟩ = some (.bool (rd_T84 x0 x5).f0):=M0.out.1 0 _ rfl
        have f0 : wr.frozen? ⟨go,x5.toNat * 6,none⟩ = false:=M0.out.2 0
        have d1 : wr.cell? ⟨go,x5.toNat * 6 + 1,none⟩ = some u:=M0.out.1 1 _ rfl
        have b3:=decide_eq_true c3
        have b4:=decide_eq_true c4
        have p5:=eq_true c4
        have q5:=eq_true (show x5 < ((x0.length : Int) : Int) from c3)
        clear c3 c4 hM hH hR
        obtain ⟨Au,cu,eu⟩:=Kd.R_slice R1.out
        subst eu
        go_wp2_with (first | ((with_reducible refine gate_callee (f:=19) rfl ?_);refine sqL (some 27) Tryz.func19 #[.slice Au (rd_T84 x0 x5).f1.length cu,.int .i64 (wrap64 (x1 + 1))] ?_;(refine (laws_markIntS.calls k1 (fun k_=>some k_ = (.slice Au (rd_T84 x0 x5).f1.length cu : Value).ownBlock) _ _ (wrap64 (x1 + 1)) t1 t2 w0 _ B1.out (Kd.R_tight rfl R1.out) A.out).mono ?_);rintro e w7 ⟨rfl,hy,hb,hkp⟩;refine ⟨_,rfl,?_⟩;have H2:=Aside0.mk (Kd.H_kept H1.out hkp (fun k_ _ hn hs=>hn (hu k_ hs)));have M2:=Aside0.mk (Kd.H_at H2.out Z.out L.out);have R2:=Aside0.mk (Kd.R_reok rfl hy (ok:=oki) (fun k_ e_=>hu k_ e_.symm));have K2:=Aside0.mk (Kept.then_ K1.out hkp (fun k_ hs=>.inl (hoki k_ (hu k_ hs)).1));have B2:=Aside0.mk hb;clear hb hkp hy;have d2 : w7.cell? ⟨go,x5.toNat * 6 + 2,none⟩ = some (.int .i64 (rd_T84 x0 x5).f2.f0):=M2.out.1 2 _ rfl;have f2 : w7.frozen? ⟨go,x5.toNat * 6 + 2,none⟩ = false:=M2.out.2 2;have d3 : w7.cell? ⟨go,x5.toNat * 6 + 3,none⟩ = some (.int .i64 (rd_T84 x0 x5).f2.f1):=M2.out.1 3 _ rfl;have f3 : w7.frozen? ⟨go,x5.toNat * 6 + 3,none⟩ = false:=M2.out.2 3;have d4 : w7.cell? ⟨go,x5.toNat * 6 + 4,none⟩ = some (.int .i64 (rd_T84 x0 x5).f2.f2):=M2.out.1 4 _ rfl;have f4 : w7.frozen? ⟨go,x5.toNat * 6 + 4,none⟩ = false:=M2.out.2 4;have d5 : w7.cell? ⟨go,x5.toNat * 6 + 5,none⟩ = some (.int .i64 (rd_T84 x0 x5).f2.f3):=M2.out.1 5 _ rfl;have f5 : w7.frozen? ⟨go,x5.toNat * 6 + 5,none⟩ = false:=M2.out.2 5))
        have H3:=H_one (H_one (H_one (H_one H2.out Z.out L.out 2 (.int .i64 t1) (by decide) rfl) Z.out L.out 3 (.int .i64 (wrap64 (t1 + 1))) (by decide) rfl) Z.out L.out 4 (.int .i64 (wrap64 (wrap64 (t1 + 1) + 1))) (by decide) rfl) Z.out L.out 5 (.int .i64 (wrap64 (wrap64 (wrap64 (t1 + 1) + 1) + 1))) (by decide) rfl
        have nf : ∀ k_,oki k_→k_≠go:=fun k_ hk=>(hoki k_ hk).2
        have R3:=Kd.R_far (p:=⟨go,x5.toNat * 6 + 5,none⟩) (Kd.R_far (p:=⟨go,x5.toNat * 6 + 4,none⟩) (Kd.R_far (p:=⟨go,x5.toNat * 6 + 3,none⟩) (Kd.R_far (p:=⟨go,x5.toNat * 6 + 2,none⟩) R2.out nf (.int .i64 t1)) nf (.int .i64 (wrap64 (t1 + 1)))) nf (.int .i64 (wrap64 (wrap64 (t1 + 1) + 1)))) nf (.int .i64 (wrap64 (wrap64 (wrap64 (t1 + 1) + 1) + 1)))
        have S3:=Aside0.mk (Kd.H_back H3 (x':=mref (rd_T84 x0 x5) x1 (t1,t2)) (k84_mkM _ _ oki (mref (rd_T84 x0 x5) x1 (t1,t2)) R3) (fun _ hk=>hk))
        have K3:=Aside0.mk (Kept.setCell (p:=⟨go,x5.toNat * 6 + 5,none⟩) (Kept.setCell (p:=⟨go,x5.toNat * 6 + 4,none⟩) (Kept.setCell (p:=⟨go,x5.toNat * 6 + 3,none⟩) (Kept.setCell (p:=⟨go,x5.toNat * 6 + 2,none⟩) K2.out (.inl hg) (.int .i64 t1)) (.inl hg) (.int .i64 (wrap64 (t1 + 1)))) (.inl hg) (.int .i64 (wrap64 (wrap64 (t1 + 1) + 1)))) (.inl hg) (.int .i64 (wrap64 (wrap64 (wrap64 (t1 + 1) + 1) + 1))))
        have B3:=Aside0.mk (Below.setCell (p:=⟨go,x5.toNat * 6 + 5,none⟩) (Below.setCell (p:=⟨go,x5.toNat * 6 + 4,none⟩) (Below.setCell (p:=⟨go,x5.toNat * 6 + 3,none⟩) (Below.setCell (p:=⟨go,x5.toNat * 6 + 2,none⟩) B2.out GB.out (.int .i64 t1)) GB.out (.int .i64 (wrap64 (t1 + 1)))) GB.out (.int .i64 (wrap64 (wrap64 (t1 + 1) + 1)))) GB.out (.int .i64 (wrap64 (wrap64 (wrap64 (t1 + 1) + 1) + 1))))
        go_roundg k1
        case measure=>have:=HK1.out;omega
        case rel=>exact ⟨_,_,_,rfl,rfl,H',⟨by have:=HK1.out;omega⟩,S3,K3,B3⟩

def laws_markAbs.f (k : Nat) (i : List S58) (r : List S84) (c : List S58) (n : Int) (d : List Int) (a1 : Int) : Option (Int × List S58 × List S84 × List S58 × List Int) :=
  (laws_markValS.f k i a1).bind fun p1=>(laws_markRefValS.f k r p1.1).bind fun p2=>(laws_markValS.f k c p2.1).bind fun p3=>(laws_markGaps.f k n d p3.1).bind fun p4=>some (p4.1,p1.2,p2.2,p3.2,p4.2)
/-- An answer's rows, all of the call's own, in the blocks from lo to hi. -/
structure AOwn (b lo hi : Nat) (w : World) (v1 v2 v3 v5 : Value) (i : List S58) (r : List S84) (c : List S58) (d : List Int) : Prop where
  h : hi ≤ w.heap.size
  o1 : Kd.R k58 58 w b (fun k=>(lo ≤ k∧k < hi)∧some k≠v3.ownBlock) v1 i
  o2 : Kd.S k84 84 w b (fun k=>(lo ≤ k∧k < hi)∧some k≠v5.ownBlock) v2 r
  o3 : Kd.R k58 58 w b (fun k=>(lo ≤ k∧k < hi)∧some k≠v1.ownBlock) v3 c
  o5 : Kd.R (Kd.int .i64) 3 w b (fun k=>lo ≤ k∧k < hi) v5 d
section
variable {b lo hi : Nat} {w w0 W : World} {v1 v2 v3 v5 : Value} {i i' : List S58} {r r' : List S84} {c c' : List S58} {d d' : List Int} {S : Nat→Prop}
theorem AOwn.move (o : AOwn b lo hi w v1 v2 v3 v5 i r c d) (hs : w.heap.size ≤ W.heap.size) (hm : ∀ k,lo ≤ k→k < hi→k < w.heap.size→W.heap[k]? = w.heap[k]?) : AOwn b lo hi W v1 v2 v3 v5 i r c d :=
  ⟨Nat.le_trans o.h hs,Kd.R_step o.o1 (fun k hk hl=>hm k hk.1.1 hk.1.2 hl),Kd.S_step o.o2 (fun k hk hl=>hm k hk.1.1 hk.1.2 hl),Kd.R_step o.o3 (fun k hk hl=>hm k hk.1.1 hk.1.2 hl),Kd.R_step o.o5 (fun k hk hl=>hm k hk.1 hk.2 hl)⟩
theorem AOwn.below (o : AOwn b lo hi w v1 v2 v3 v5 i r c d) (hb : Below w.heap.size w W) : AOwn b lo hi W v1 v2 v3 v5 i r c d:=o.move hb.size (fun k _ _ hl=>hb.block k hl)
theorem AOwn.kept {l2 h2 : Nat} (o : AOwn b lo hi w v1 v2 v3 v5 i r c d) (hk : Kept w W (fun k=>l2 ≤ k∧k < h2)) (a : hi ≤ l2∨h2 ≤ lo) : AOwn b lo hi W v1 v2 v3 v5 i r c d :=
  o.move hk.1 (fun k x y hl=>hk.2 k hl (fun z=>by omega))
theorem AOwn.set {g j : Nat} {u : Value} (o : AOwn b lo hi w v1 v2 v3 v5 i r c d) (a : g < lo∨hi ≤ g) : AOwn b lo hi (w.setCell ⟨g,j,none⟩ u) v1 v2 v3 v5 i r c d :=
  o.move (by simp [World.setCell]) (fun k x y _=>Below.heap_setCell w ⟨g,j,none⟩ u k (show k≠g by omega))
theorem AOwn.new (hb : Below w0.heap.size w0 w) (h1 : Kd.R k58 58 W w.heap.size (fun k_=>some k_≠v3.ownBlock) v1 i) (h2 : Kd.S k84 84 W w.heap.size (fun k_=>some k_≠v5.ownBlock) v2 r) (h3 : Kd.R k58 58 W w.heap.size (fun k_=>some k_≠v1.ownBlock) v3 c) (h5 : Kd.R (Kd.int .i64) 3 W w.heap.size (fun _=>True) v5 d) :
    AOwn w0.heap.size w.heap.size W.heap.size W v1 v2 v3 v5 i r c d :=
  ⟨Nat.le_refl _,Kd.R_lower (Kd.R_mono (Kd.R_bound h1) (fun k hk=>⟨⟨hk.2.1,hk.2.2.1⟩,hk.1⟩)) hb.size,Kd.S_lower (Kd.S_mono (Kd.S_bound h2) (fun k hk=>⟨⟨hk.2.1,hk.2.2.1⟩,hk.1⟩)) hb.size,Kd.R_lower (Kd.R_mono (Kd.R_bound h3) (fun k hk=>⟨⟨hk.2.1,hk.2.2.1⟩,hk.1⟩)) hb.size,Kd.R_lower (Kd.R_mono (Kd.R_bound h5) (fun k hk=>⟨hk.2.1,hk.2.2.1⟩)) hb.size⟩
/-- One of the rows has been written anew. -/
theorem AOwn.w1 {X : Nat→Prop} (o : AOwn b lo hi w v1 v2 v3 v5 i r c d) (hy : Kd.R k58 58 W b X v1 i') (hk : Kept w W (fun k=>some k = v1.ownBlock)) : AOwn b lo hi W v1 v2 v3 v5 i' r c d :=
  ⟨Nat.le_trans o.h hk.1,Kd.R_reok rfl hy (fun k e=>o.o1.1 k e),
   Kd.S_mono (Kd.S_kept (Kd.S_bound o.o2) hk (fun k hk2 e=>by
     obtain ⟨_,_,_,q,hq,cs,hc⟩:=hk2
     obtain ⟨_,inner,ho,_⟩:=o.o1
     obtain ⟨cs',hc'⟩:=own_typed ho k e.symm
     rw [hc] at hc'
     injection hc' with hc'
     injection hc' with _ hc'
     subst hc'
     revert hq;decide)) (fun _ hk=>hk.1),
   Kd.R_kept o.o3 hk (fun k hk e=>hk.2 e), 
   Kd.R_mono (Kd.R_kept (Kd.R_bound o.o5) hk (fun k hk2 e=>by
     obtain ⟨_,_,_,q,hq,cs,hc⟩:=hk2
     obtain ⟨_,inner,ho,_⟩:=o.o1
     obtain ⟨cs',hc'⟩:=own_typed ho k e.symm
     rw [hc] at hc'
     injection hc' with hc'
     injection hc' with _ hc'
     subst hc'
     revert hq;decide)) (fun _ hk=>hk.1)⟩
theorem AOwn.w3 {X : Nat→Prop} (o : AOwn b lo hi w v1 v2 v3 v5 i r c d) (hy : Kd.R k58 58 W b X v3 c') (hk : Kept w W (fun k=>some k = v3.ownBlock)) : AOwn b lo hi W v1 v2 v3 v5 i r c' d :=
  ⟨Nat.le_trans o.h hk.1,Kd.R_kept o.o1 hk (fun k hk e=>hk.2 e), 
   Kd.S_mono (Kd.S_kept (Kd.S_bound o.o2) hk (fun k hk2 e=>by
     obtain ⟨_,_,_,q,hq,cs,hc⟩:=hk2
     obtain ⟨_,inner,ho,_⟩:=o.o3
     obtain ⟨cs',hc'⟩:=own_typed ho k e.symm
     rw [hc] at hc'
     injection hc' with hc'
     injection hc' with _ hc'
     subst hc'
     revert hq;decide)) (fun _ hk=>hk.1),
   Kd.R_reok rfl hy (fun k e=>o.o3.1 k e),
   Kd.R_mono (Kd.R_kept (Kd.R_bound o.o5) hk (fun k hk2 e=>by
     obtain ⟨_,_,_,q,hq,cs,hc⟩:=hk2
     obtain ⟨_,inner,ho,_⟩:=o.o3
     obtain ⟨cs',hc'⟩:=own_typed ho k e.symm
     rw [hc] at hc'
     injection hc' with hc'
     injection hc' with _ hc'
     subst hc'
     revert hq;decide)) (fun _ hk=>hk.1)⟩
theorem AOwn.w5 {X : Nat→Prop} (o : AOwn b lo hi w v1 v2 v3 v5 i r c d) (hy : Kd.R (Kd.int .i64) 3 W b X v5 d') (hk : Kept w W (fun k=>some k = v5.ownBlock)) : AOwn b lo hi W v1 v2 v3 v5 i r c d':=by
  have far : ∀ {v : Value} {n : Nat} {cs : List Value} {z : Nat},w.ownsRow b 58 z v n cs→∀ k,some k = v.ownBlock→¬ some k = v5.ownBlock:=fun ho k e e5=>by
    obtain ⟨_,inner,ho5,_⟩:=o.o5
    obtain ⟨cs',hc'⟩:=own_typed ho5 k e5.symm
    obtain ⟨cs,hc⟩:=own_typed ho k e.symm
    rw [hc] at hc'
    injection hc' with hc'
    injection hc' with _ hc'
    exact absurd hc' (by decide)
  obtain ⟨_,i1,p1,_⟩:=o.o1
  obtain ⟨_,i3,p3,_⟩:=o.o3
  exact ⟨Nat.le_trans o.h hk.1,Kd.R_reok rfl (Kd.R_kept (Kd.R_tight rfl o.o1) hk (fun k hk=>far p1 k hk)) (fun k e=>o.o1.1 k e),
    Kd.S_kept o.o2 hk (fun k hk e=>hk.2 e),
    Kd.R_reok rfl (Kd.R_kept (Kd.R_tight rfl o.o3) hk (fun k hk=>far p3 k hk)) (fun k e=>o.o3.1 k e),Kd.R_reok rfl hy (fun k e=>o.o5.1 k e)⟩
/-- The blocks of the references' rows. -/
def AP2 (lo hi : Nat) (w : World) (b : Nat) (v5 : Value) (k : Nat) : Prop:=((lo ≤ k∧k < hi)∧some k≠v5.ownBlock)∧b ≤ k∧k < w.heap.size∧∃ q,q ∈ 84 :: k84.E∧∃ cells,w.heap[k]? = some (.cells cells q (0,0))
theorem AOwn.p2 (o : AOwn b lo hi w v1 v2 v3 v5 i r c d) : Kd.S k84 84 w b (AP2 lo hi w b v5) v2 r:=Kd.S_bound o.o2
theorem AOwn.w2 (o : AOwn b lo hi w v1 v2 v3 v5 i r c d) (hy : Kd.S k84 84 W b (AP2 lo hi w b v5) v2 r') (hk : Kept w W (AP2 lo hi w b v5)) : AOwn b lo hi W v1 v2 v3 v5 i r' c d:=by
  have far : ∀ {v : Value} {n : Nat} {cs : List Value} {z : Nat},w.ownsRow b 58 z v n cs→∀ k,some k = v.ownBlock→¬ AP2 lo hi w b v5 k:=fun ho k e e5=>by
    obtain ⟨_,_,_,q,hq,cs',hc'⟩:=e5
    obtain ⟨cs,hc⟩:=own_typed ho k e.symm
    rw [hc] at hc'
    injection hc' with hc'
    injection hc' with _ hc'
    subst hc'
    revert hq;decide
  obtain ⟨_,i1,p1,_⟩:=o.o1
  obtain ⟨_,i3,p3,_⟩:=o.o3
  exact ⟨Nat.le_trans o.h hk.1,Kd.R_reok rfl (Kd.R_kept (Kd.R_tight rfl o.o1) hk (fun k hk=>far p1 k hk)) (fun k e=>o.o1.1 k e),
    Kd.S_mono hy (fun k hk=>hk.1),
    Kd.R_reok rfl (Kd.R_kept (Kd.R_tight rfl o.o3) hk (fun k hk=>far p3 k hk)) (fun k e=>o.o3.1 k e), 
    Kd.R_reok rfl (Kd.R_kept (Kd.R_tight rfl o.o5) hk (fun k hk e=>e.1.2 hk)) (fun k e=>o.o5.1 k e)⟩
theorem AOwn.in1 (o : AOwn b lo hi w v1 v2 v3 v5 i r c d) : ∀ k,some k = v1.ownBlock→lo ≤ k∧k < hi:=fun k e=>(o.o1.1 k e.symm).1
theorem AOwn.in3 (o : AOwn b lo hi w v1 v2 v3 v5 i r c d) : ∀ k,some k = v3.ownBlock→lo ≤ k∧k < hi:=fun k e=>(o.o3.1 k e.symm).1
theorem AOwn.in5 (o : AOwn b lo hi w v1 v2 v3 v5 i r c d) : ∀ k,some k = v5.ownBlock→lo ≤ k∧k < hi:=fun k e=>o.o5.1 k e.symm
theorem blkK {l2 h2 g : Nat} {o : Obj} (B : Aside0 (w.heap[g]? = some o)) (hk : Kept w W (fun k=>l2 ≤ k∧k < h2)) (a : Aside0 (g < l2∨h2 ≤ g)) : Aside0 (W.heap[g]? = some o):=⟨blk_kept B.out hk (fun z=>by have:=a.out;omega)⟩
end
theorem laws_markAbs.calls (k : Nat) (lo hi : Nat) (live : Bool) (v1 v2 v3 v5 : Value) (i : List S58) (r : List S84) (c : List S58) (n : Int) (d : List Int) (a1 r1 : Int) (i' : List S58) (r' : List S84) (c' : List S58) (d' : List Int) (w0 w : World) (hB : Below w0.heap.size w0 w)
    (o : AOwn w0.heap.size lo hi w v1 v2 v3 v5 i r c d) (h : laws_markAbs.f k i r c n d a1 = some (r1,i',r',c',d')) :
    Calls Tryz.prog 13 #[.agg #[.bool live,v1,v2,v3,.int .i64 n,v5],.int .i64 a1] w fun e w'=>e = .returned (.int .i64 r1)∧AOwn w0.heap.size lo hi w' v1 v2 v3 v5 i' r' c' d'∧Below w0.heap.size w0 w'∧Kept w w' (fun k=>lo ≤ k∧k < hi):=by
  have hu34:=Tryz.underlying34
  have HB:=Aside0.mk hB
  have HK:=Aside0.mk (Kept.refl w (fun k=>lo ≤ k∧k < hi))
  have O:=Aside0.mk o
  clear hB o
  unfold laws_markAbs.f at h
  obtain ⟨⟨p1,q1⟩,A1,h⟩:=sqbi h
  obtain ⟨⟨p2,q2⟩,A2,h⟩:=sqbi h
  obtain ⟨⟨p3,q3⟩,A3,h⟩:=sqbi h
  obtain ⟨⟨p4,q4⟩,A4,h⟩:=sqbi h
  dsimp only at h A2 A3 A4
  simp only [Option.some.injEq,Prod.mk.injEq] at h
  obtain ⟨rfl,rfl,rfl,rfl,rfl⟩:=h
  obtain ⟨x1,y1,e1⟩:=Kd.R_slice O.out.o1
  obtain ⟨x2,y2,e2⟩:=Kd.S_slice O.out.o2
  obtain ⟨x3,y3,e3⟩:=Kd.R_slice O.out.o3
  obtain ⟨x5,y5,e5⟩:=Kd.R_slice O.out.o5
  subst e1 e2 e3 e5
  go_enter Tryz.func13,Tryz.ntmps13
  go_wp2_with (first | ((with_reducible refine gd 2 rfl ?_);refine sqX 2 #[.bool live,.slice x1 i.length y1,.slice x2 r.length y2,.slice x3 c.length y3,.int .i64 n,.slice x5 d.length y5] 34 HB ?_;clear HB;intro gb0 hg w5 hb B0 GW0 HB;have G0 : Aside0 (gb0 < lo∨hi ≤ gb0):=⟨.inr (by rw [hg];exact O.out.h)⟩;replace O:=Aside0.mk (AOwn.below O.out hb);replace HK:=Aside0.mk (Kept.below HK.out hb);clear hb hg;obtain ⟨_,_,_,_,_,_,_,_,_,_,_,_⟩:=sqc6 B0) | ((with_reducible refine gd 8 rfl ?_);(with_reducible refine gf 45 rfl ?_);refine sqLc rfl (some 8) Tryz.func45 (laws_markValS.calls k (fun k_=>some k_ = (.slice x1 i.length y1 : Value).ownBlock) (.slice x1 i.length y1) i a1 p1 q1 w0 _ HB.out (Kd.R_tight rfl O.out.o1) A1.out) ?_;rintro e w7 ⟨rfl,hy,hb,hkp⟩;refine ⟨_,rfl,?_⟩;have hkq:=Kept.mono hkp O.out.in1;replace B0:=blkK B0 hkq G0;replace HK:=Aside0.mk (Kept.then_ HK.out hkq (fun _ h=>.inl h));replace O:=Aside0.mk (AOwn.w1 O.out hy hkp);replace HB:=Aside0.mk hb;clear hb hkp hkq hy;obtain ⟨_,_,_,_,_,_,_,_,_,_,_,_⟩:=sqc6 B0) | ((with_reducible refine gd 12 rfl ?_);(with_reducible refine gf 46 rfl ?_);refine sqLc rfl (some 12) Tryz.func46 (laws_markRefValS.calls k _ (.slice x2 r.length y2) r p1 p2 q2 w0 _ HB.out (AOwn.p2 O.out) A2.out) ?_;rintro e w8 ⟨rfl,hy,hb,hkp⟩;refine ⟨_,rfl,?_⟩;have hkq:=Kept.mono hkp (fun k_ (hs : AP2 lo hi _ _ _ k_)=>hs.1.1);replace B0:=blkK B0 hkq G0;replace HK:=Aside0.mk (Kept.then_ HK.out hkq (fun _ h=>.inl h));replace O:=Aside0.mk (AOwn.w2 O.out hy hkp);replace HB:=Aside0.mk hb;clear hb hkp hkq hy;obtain ⟨_,_,_,_,_,_,_,_,_,_,_,_⟩:=sqc6 B0) | ((with_reducible refine gd 16 rfl ?_);(with_reducible refine gf 45 rfl ?_);refine sqLc rfl (some 16) Tryz.func45 (laws_markValS.calls k (fun k_=>some k_ = (.slice x3 c.length y3 : Value).ownBlock) (.slice x3 c.length y3) c p2 p3 q3 w0 _ HB.out (Kd.R_tight rfl O.out.o3) A3.out) ?_;rintro e w9 ⟨rfl,hy,hb,hkp⟩;refine ⟨_,rfl,?_⟩;have hkq:=Kept.mono hkp O.out.in3;replace B0:=blkK B0 hkq G0;replace HK:=Aside0.mk (Kept.then_ HK.out hkq (fun _ h=>.inl h));replace O:=Aside0.mk (AOwn.w3 O.out hy hkp);replace HB:=Aside0.mk hb;clear hb hkp hkq hy;obtain ⟨_,_,_,_,_,_,_,_,_,_,_,_⟩:=sqc6 B0) | ((with_reducible refine gd 20 rfl ?_);(with_reducible refine gf 47 rfl ?_);refine sqLc rfl (some 20) Tryz.func47 (laws_markGaps.calls k n (fun k_=>some k_ = (.slice x5 d.length y5 : Value).ownBlock) (.slice x5 d.length y5) d p3 p4 q4 w0 _ HB.out (Kd.R_tight rfl O.out.o5) A4.out) ?_;rintro e w10 ⟨rfl,hy,hb,hkp⟩;refine ⟨_,rfl,?_⟩;have hkq:=Kept.mono hkp O.out.in5;replace B0:=blkK B0 hkq G0;replace HK:=Aside0.mk (Kept.then_ HK.out hkq (fun _ h=>.inl h));replace O:=Aside0.mk (AOwn.w5 O.out hy hkp);replace HB:=Aside0.mk hb;clear hb hkp hkq hy))
  go_ret
  exact ⟨rfl,O.out,HB.out,HK.out⟩
end Go.Proofs.YtklkdpcopfjmcaaGreat.PFnExactAbsJoin
