/- The marks that a law writes into references' rows, and into all of an answer, and that calls of these come to what is told here. Conditions: those in each law. -/
import Derived.Test.YtklkdpcopfjmcaaGreatSqV
import Derived.Test.YtklkdpcopfjmcaaGreatQFnExactAbsWidenx5V
import Derived.Test.YtklkdpcopfjmcaaGreatQFnExactAbsWidenx9V
namespace Go.Proofs.YtklkdpcopfjmcaaGreat.PFnExactAbsWiden
open Go.RowKit Tryz Go.Proofs.YtklkdpcopfjmcaaGreat.Sq Go.Proofs.YtklkdpcopfjmcaaGreatW.PrintWords Go.Proofs.YtklkdpcopfjmcaaGreatW.PrintLast Go.Proofs.YtklkdpcopfjmcaaGreatW.PrintMore
set_option linter.unusedVariables false
set_option linter.unusedSimpArgs false
set_option maxHeartbeats 8000000
set_option maxRecDepth 100000
def CF (x : fT) (k : Int) (t : Int × List Int) : fT :=
  ⟨(Int.tmod k 3 == 0),t.2,⟨t.1,wrap64 (t.1 + 1),wrap64 (wrap64 (t.1 + 1) + 1),wrap64 (wrap64 (wrap64 (t.1 + 1) + 1) + 1)⟩⟩
def gz.l0 : Nat→List fT→Int→Int→Option (Int × List fT)
  | 0,_,_,_=>none
  | k + 1,x0,x1,x2=>if x2 < (x0.length : Int) then (if 0 ≤ x2 then ((fq.f k (ag x0 x2).f1 (wrap64 (x1 + 1))).bind fun t=>gz.l0 k (x0.set x2.toNat (CF (ag x0 x2) x1 t)) (wrap64 (wrap64 (wrap64 (wrap64 (t.1 + 1) + 1) + 1) + 1)) (wrap64 (x2 + 1))) else none) else some (x1,x0)
def gz.f (k : Nat) (l0 : List fT) (a1 : Int) : Option (Int × List fT):=gz.l0 k l0 a1 0
theorem F4 {W W1 : World} {g o : Nat} {v : Value} (h : W1.heap[g]? = W.heap[g]?) (c : W.cell? ⟨g,o,none⟩ = some v) : W1.cell? ⟨g,o,none⟩ = some v:=by
  simpa [World.cell?,h] using c
theorem Bi {α : Type} {d : Kd α} {e base g n cap : Nat} {ok oki : Nat→Prop} {W : World} {xs : List α} {i : Int} {c : List Value} (h : Kd.H d e W base ok (.slice (some ⟨g,0,none⟩) n cap) xs i oki c) (h0 : 0 ≤ i) (h1 : i < n) (j : Nat) (u : Value) (hj : j < d.sz) (hu : u.oneCell' = true) :
    Kd.H d e (W.setCell ⟨g,i.toNat * d.sz + j,none⟩ u) base ok (.slice (some ⟨g,0,none⟩) n cap) xs i oki (c.take j ++ [u] ++ c.drop (j + 1)) :=
  (Kd.EW h h0 h1 (seg:=[u]) (j:=j) (by simp;omega) (fun q hq=>by rw [List.mem_singleton.1 hq];exact hu)).1
theorem gz.calls (k : Nat) (P0_ : Nat→Prop) (v : Value) (l0 : List fT) (a1 r1 : Int) (r2 : List fT) (w0 w : World) (hB : Below w0.heap.size w0 w) (ho0 : Kd.S pW 84 w w0.heap.size P0_ v l0) (h : gz.f k l0 a1 = some (r1,r2)) :
    Calls prog 46 #[v,.int .i64 a1] w fun e w'=>e = .returned (.int .i64 r1)∧Kd.S pW 84 w' w0.heap.size P0_ v r2∧Below w0.heap.size w0 w'∧Kept w w' P0_:=by
  have HO:=af.mk ho0
  have HK:=af.mk (Kept.refl w P0_)
  have HB:=af.mk hB
  have H':=af.mk (show gz.l0 k l0 a1 0 = some (r1,r2) from h)
  clear hB ho0 h
  go_enter func46,ntmps46
  go_wp2
  go_loopg [1,5] k (fun kq v1 v5 w'=>∃ (x0 : List fT) (x1 x5 : Int),v1 = .int .i64 x1∧v5 = .int .i64 x5∧af (gz.l0 kq x0 x1 x5 = some (r1,r2))∧af (kq ≤ k)∧af (Kd.S pW 84 w' w0.heap.size P0_ v x0)∧af (Kept w w' P0_)∧af (Below w0.heap.size w0 w'))
  case atStart=>exact ⟨l0,a1,0,rfl,rfl,H',⟨Nat.le_refl _⟩,HO,HK,HB⟩
  case round =>
    clear H' HO HK HB
    obtain ⟨x0,x1,x5,rfl,rfl,HA,HK1,HO,HK,HB⟩:=hrel
    cases gk with
    | zero=>exact absurd HA.o (by simp [gz.l0])
    | succ k1 =>
      have H:=HA.o
      clear HA
      simp only [gz.l0] at H
      rcases gy H with ⟨c3,H2⟩ | ⟨c3,H2⟩ <;> clear H
      · have b3:=decide_eq_false c3
        clear c3
        cases H2
        obtain ⟨Ao,co,eo⟩:=Kd.gm HO.o
        subst eo
        go_wp2
        go_ret
        exact ⟨rfl,HO.o,HB.o,HK.o⟩
      · rcases gy H2 with ⟨c4,H⟩ | ⟨c4,H⟩ <;> clear H2
        · cases H
        obtain ⟨⟨t1,t2⟩,A,H⟩:=bK H
        have H':=af.mk H
        clear H
        have L:=af.mk c3
        have Z:=af.mk c4
        have hp : 0 < x0.length:=by omega
        obtain ⟨go,cap,eo,gb,gl,_⟩:=Kd.D9 HO.o hp
        subst eo
        clear hp
        have GB:=af.mk gb
        clear gb gl
        obtain ⟨oki,c,hcl,hM,_,_,hoki,hH⟩:=Kd.BF HO.o z84 x5 Z.o L.o
        replace hM : pW.M wr w0.heap.size oki (ag x0 x5) c:=hM
        obtain ⟨u,rfl,hR⟩:=wD hM
        have hg : P0_ go:=(Kd.E5 HO.o).1 go rfl
        have hu : ∀ k_,some k_ = u.ownBlock→oki k_:=fun k_ e_=>hR.1 k_ e_.symm
        have M0:=af.mk (Kd.E9 hH Z.o L.o)
        have H1:=af.mk (Bi hH Z.o L.o 0 (.bool (Int.tmod x1 3 == 0)) (by decide) rfl)
        have M1:=af.mk (Kd.E9 H1.o Z.o L.o)
        have R1:=af.mk (Kd.Bd (p:=⟨go,x5.toNat * 6 + 0,none⟩) hR (fun k_ hk=>(hoki k_ hk).2) (.bool (Int.tmod x1 3 == 0)))
        have B1:=af.mk (Below.setCell (p:=⟨go,x5.toNat * 6 + 0,none⟩) HB.o GB.o (.bool (Int.tmod x1 3 == 0)))
        have K1:=af.mk (Kept.setCell (p:=⟨go,x5.toNat * 6 + 0,none⟩) HK.o (.inl hg) (.bool (Int.tmod x1 3 == 0)))
        have d0 : wr.cell? ⟨go,x5.toNat * 6,none⟩ = some (.bool (ag x0 x5).f0):=M0.o.1 0 _ rfl
        have f0 : wr.frozen? ⟨go,x5.toNat * 6,none⟩ = false:=M0.o.2 0
        have d1 : wr.cell? ⟨go,x5.toNat * 6 + 1,none⟩ = some u:=M0.o.1 1 _ rfl
        have b3:=decide_eq_true c3
        have b4:=decide_eq_true c4
        have p5:=eq_true c4
        have q5:=eq_true (show x5 < ((x0.length : Int) : Int) from c3)
        clear c3 c4 hM hH hR
        obtain ⟨Au,cu,eu⟩:=Kd.aH R1.o
        subst eu
        go_wp2_with (first | ((with_reducible refine Av (f:=19) rfl ?_);refine GX (some 27) func19 #[.slice Au (ag x0 x5).f1.length cu,.int .i64 (wrap64 (x1 + 1))] ?_;(refine (fq.calls k1 (fun k_=>some k_ = (.slice Au (ag x0 x5).f1.length cu : Value).ownBlock) _ _ (wrap64 (x1 + 1)) t1 t2 w0 _ B1.o (Kd.nY rfl R1.o) A.o).mono ?_);rintro e w7 ⟨rfl,hy,hb,hkp⟩;refine ⟨_,rfl,?_⟩;have H2:=af.mk (Kd.FT H1.o hkp (fun k_ _ hn hs=>hn (hu k_ hs)));have M2:=af.mk (Kd.E9 H2.o Z.o L.o);have R2:=af.mk (Kd.sW rfl hy (ok:=oki) (fun k_ e_=>hu k_ e_.symm));have K2:=af.mk (Kept.vT K1.o hkp (fun k_ hs=>.inl (hoki k_ (hu k_ hs)).1));have B2:=af.mk hb;clear hb hkp hy;have d2 : w7.cell? ⟨go,x5.toNat * 6 + 2,none⟩ = some (.int .i64 (ag x0 x5).f2.f0):=M2.o.1 2 _ rfl;have f2 : w7.frozen? ⟨go,x5.toNat * 6 + 2,none⟩ = false:=M2.o.2 2;have d3 : w7.cell? ⟨go,x5.toNat * 6 + 3,none⟩ = some (.int .i64 (ag x0 x5).f2.f1):=M2.o.1 3 _ rfl;have f3 : w7.frozen? ⟨go,x5.toNat * 6 + 3,none⟩ = false:=M2.o.2 3;have d4 : w7.cell? ⟨go,x5.toNat * 6 + 4,none⟩ = some (.int .i64 (ag x0 x5).f2.f2):=M2.o.1 4 _ rfl;have f4 : w7.frozen? ⟨go,x5.toNat * 6 + 4,none⟩ = false:=M2.o.2 4;have d5 : w7.cell? ⟨go,x5.toNat * 6 + 5,none⟩ = some (.int .i64 (ag x0 x5).f2.f3):=M2.o.1 5 _ rfl;have f5 : w7.frozen? ⟨go,x5.toNat * 6 + 5,none⟩ = false:=M2.o.2 5))
        have H3:=Bi (Bi (Bi (Bi H2.o Z.o L.o 2 (.int .i64 t1) (by decide) rfl) Z.o L.o 3 (.int .i64 (wrap64 (t1 + 1))) (by decide) rfl) Z.o L.o 4 (.int .i64 (wrap64 (wrap64 (t1 + 1) + 1))) (by decide) rfl) Z.o L.o 5 (.int .i64 (wrap64 (wrap64 (wrap64 (t1 + 1) + 1) + 1))) (by decide) rfl
        have nf : ∀ k_,oki k_→k_≠go:=fun k_ hk=>(hoki k_ hk).2
        have R3:=Kd.Bd (p:=⟨go,x5.toNat * 6 + 5,none⟩) (Kd.Bd (p:=⟨go,x5.toNat * 6 + 4,none⟩) (Kd.Bd (p:=⟨go,x5.toNat * 6 + 3,none⟩) (Kd.Bd (p:=⟨go,x5.toNat * 6 + 2,none⟩) R2.o nf (.int .i64 t1)) nf (.int .i64 (wrap64 (t1 + 1)))) nf (.int .i64 (wrap64 (wrap64 (t1 + 1) + 1)))) nf (.int .i64 (wrap64 (wrap64 (wrap64 (t1 + 1) + 1) + 1)))
        have S3:=af.mk (Kd.Dt H3 (x':=CF (ag x0 x5) x1 (t1,t2)) (rD _ _ oki (CF (ag x0 x5) x1 (t1,t2)) R3) (fun _ hk=>hk))
        have K3:=af.mk (Kept.setCell (p:=⟨go,x5.toNat * 6 + 5,none⟩) (Kept.setCell (p:=⟨go,x5.toNat * 6 + 4,none⟩) (Kept.setCell (p:=⟨go,x5.toNat * 6 + 3,none⟩) (Kept.setCell (p:=⟨go,x5.toNat * 6 + 2,none⟩) K2.o (.inl hg) (.int .i64 t1)) (.inl hg) (.int .i64 (wrap64 (t1 + 1)))) (.inl hg) (.int .i64 (wrap64 (wrap64 (t1 + 1) + 1)))) (.inl hg) (.int .i64 (wrap64 (wrap64 (wrap64 (t1 + 1) + 1) + 1))))
        have B3:=af.mk (Below.setCell (p:=⟨go,x5.toNat * 6 + 5,none⟩) (Below.setCell (p:=⟨go,x5.toNat * 6 + 4,none⟩) (Below.setCell (p:=⟨go,x5.toNat * 6 + 3,none⟩) (Below.setCell (p:=⟨go,x5.toNat * 6 + 2,none⟩) B2.o GB.o (.int .i64 t1)) GB.o (.int .i64 (wrap64 (t1 + 1)))) GB.o (.int .i64 (wrap64 (wrap64 (t1 + 1) + 1)))) GB.o (.int .i64 (wrap64 (wrap64 (wrap64 (t1 + 1) + 1) + 1))))
        go_roundg k1
        case measure=>have:=HK1.o;omega
        case rel=>exact ⟨_,_,_,rfl,rfl,H',⟨by have:=HK1.o;omega⟩,S3,K3,B3⟩
def lS.f (k : Nat) (i : List bV) (r : List fT) (c : List bV) (n : Int) (d : List Int) (a1 : Int) : Option (Int × List bV × List fT × List bV × List Int) :=
  (fI.f k i a1).bind fun p1=>(gz.f k r p1.1).bind fun p2=>(fI.f k c p2.1).bind fun p3=>(oQ.f k n d p3.1).bind fun p4=>some (p4.1,p1.2,p2.2,p3.2,p4.2)
/-- An answer's rows, all of the call's own, in the blocks from lo to hi. -/
structure az (b lo hi : Nat) (w : World) (v1 v2 v3 v5 : Value) (i : List bV) (r : List fT) (c : List bV) (d : List Int) : Prop where
  h : hi ≤ w.heap.size
  o1 : Kd.R mo 58 w b (fun k=>(lo ≤ k∧k < hi)∧some k≠v3.ownBlock) v1 i
  o2 : Kd.S pW 84 w b (fun k=>(lo ≤ k∧k < hi)∧some k≠v5.ownBlock) v2 r
  o3 : Kd.R mo 58 w b (fun k=>(lo ≤ k∧k < hi)∧some k≠v1.ownBlock) v3 c
  o5 : Kd.R (Kd.int .i64) 3 w b (fun k=>lo ≤ k∧k < hi) v5 d
section
variable {b lo hi : Nat} {w w0 W : World} {v1 v2 v3 v5 : Value} {i i' : List bV} {r r' : List fT} {c c' : List bV} {d d' : List Int} {S : Nat→Prop}
theorem az.move (o : az b lo hi w v1 v2 v3 v5 i r c d) (hs : w.heap.size ≤ W.heap.size) (hm : ∀ k,lo ≤ k→k < hi→k < w.heap.size→W.heap[k]? = w.heap[k]?) : az b lo hi W v1 v2 v3 v5 i r c d :=
  ⟨Nat.le_trans o.h hs,Kd.sN o.o1 (fun k hk hl=>hm k hk.1.1 hk.1.2 hl),Kd.wz o.o2 (fun k hk hl=>hm k hk.1.1 hk.1.2 hl),Kd.sN o.o3 (fun k hk hl=>hm k hk.1.1 hk.1.2 hl),Kd.sN o.o5 (fun k hk hl=>hm k hk.1 hk.2 hl)⟩
theorem az.below (o : az b lo hi w v1 v2 v3 v5 i r c d) (hb : Below w.heap.size w W) : az b lo hi W v1 v2 v3 v5 i r c d:=o.move hb.size (fun k _ _ hl=>hb.block k hl)
theorem az.kept {l2 h2 : Nat} (o : az b lo hi w v1 v2 v3 v5 i r c d) (hk : Kept w W (fun k=>l2 ≤ k∧k < h2)) (a : hi ≤ l2∨h2 ≤ lo) : az b lo hi W v1 v2 v3 v5 i r c d :=
  o.move hk.1 (fun k x y hl=>hk.2 k hl (fun z=>by omega))
theorem az.set {g j : Nat} {u : Value} (o : az b lo hi w v1 v2 v3 v5 i r c d) (a : g < lo∨hi ≤ g) : az b lo hi (w.setCell ⟨g,j,none⟩ u) v1 v2 v3 v5 i r c d :=
  o.move (by simp [World.setCell]) (fun k x y _=>Below.heap_setCell w ⟨g,j,none⟩ u k (show k≠g by omega))
theorem az.new (hb : Below w0.heap.size w0 w) (h1 : Kd.R mo 58 W w.heap.size (fun k_=>some k_≠v3.ownBlock) v1 i) (h2 : Kd.S pW 84 W w.heap.size (fun k_=>some k_≠v5.ownBlock) v2 r) (h3 : Kd.R mo 58 W w.heap.size (fun k_=>some k_≠v1.ownBlock) v3 c) (h5 : Kd.R (Kd.int .i64) 3 W w.heap.size (fun _=>True) v5 d) :
    az w0.heap.size w.heap.size W.heap.size W v1 v2 v3 v5 i r c d :=
  ⟨Nat.le_refl _,Kd.oK (Kd.fO (Kd.pq h1) (fun k hk=>⟨⟨hk.2.1,hk.2.2.1⟩,hk.1⟩)) hb.size,Kd.BQ (Kd.qb (Kd.uJ h2) (fun k hk=>⟨⟨hk.2.1,hk.2.2.1⟩,hk.1⟩)) hb.size,Kd.oK (Kd.fO (Kd.pq h3) (fun k hk=>⟨⟨hk.2.1,hk.2.2.1⟩,hk.1⟩)) hb.size,Kd.oK (Kd.fO (Kd.pq h5) (fun k hk=>⟨hk.2.1,hk.2.2.1⟩)) hb.size⟩
/-- One of the rows has been written anew. -/
theorem az.w1 {X : Nat→Prop} (o : az b lo hi w v1 v2 v3 v5 i r c d) (hy : Kd.R mo 58 W b X v1 i') (hk : Kept w W (fun k=>some k = v1.ownBlock)) : az b lo hi W v1 v2 v3 v5 i' r c d :=
  ⟨Nat.le_trans o.h hk.1,Kd.sW rfl hy (fun k e=>o.o1.1 k e),
   Kd.qb (Kd.Bv (Kd.uJ o.o2) hk (fun k hk2 e=>by
     obtain ⟨_,_,_,q,hq,cs,hc⟩:=hk2
     obtain ⟨_,inner,ho,_⟩:=o.o1
     obtain ⟨cs',hc'⟩:=pE ho k e.symm
     rw [hc] at hc'
     injection hc' with hc'
     injection hc' with _ hc'
     subst hc'
     revert hq;decide)) (fun _ hk=>hk.1),
   Kd.tK o.o3 hk (fun k hk e=>hk.2 e), 
   Kd.fO (Kd.tK (Kd.pq o.o5) hk (fun k hk2 e=>by
     obtain ⟨_,_,_,q,hq,cs,hc⟩:=hk2
     obtain ⟨_,inner,ho,_⟩:=o.o1
     obtain ⟨cs',hc'⟩:=pE ho k e.symm
     rw [hc] at hc'
     injection hc' with hc'
     injection hc' with _ hc'
     subst hc'
     revert hq;decide)) (fun _ hk=>hk.1)⟩
theorem az.w3 {X : Nat→Prop} (o : az b lo hi w v1 v2 v3 v5 i r c d) (hy : Kd.R mo 58 W b X v3 c') (hk : Kept w W (fun k=>some k = v3.ownBlock)) : az b lo hi W v1 v2 v3 v5 i r c' d :=
  ⟨Nat.le_trans o.h hk.1,Kd.tK o.o1 hk (fun k hk e=>hk.2 e), 
   Kd.qb (Kd.Bv (Kd.uJ o.o2) hk (fun k hk2 e=>by
     obtain ⟨_,_,_,q,hq,cs,hc⟩:=hk2
     obtain ⟨_,inner,ho,_⟩:=o.o3
     obtain ⟨cs',hc'⟩:=pE ho k e.symm
     rw [hc] at hc'
     injection hc' with hc'
     injection hc' with _ hc'
     subst hc'
     revert hq;decide)) (fun _ hk=>hk.1),
   Kd.sW rfl hy (fun k e=>o.o3.1 k e),
   Kd.fO (Kd.tK (Kd.pq o.o5) hk (fun k hk2 e=>by
     obtain ⟨_,_,_,q,hq,cs,hc⟩:=hk2
     obtain ⟨_,inner,ho,_⟩:=o.o3
     obtain ⟨cs',hc'⟩:=pE ho k e.symm
     rw [hc] at hc'
     injection hc' with hc'
     injection hc' with _ hc'
     subst hc'
     revert hq;decide)) (fun _ hk=>hk.1)⟩
theorem az.w5 {X : Nat→Prop} (o : az b lo hi w v1 v2 v3 v5 i r c d) (hy : Kd.R (Kd.int .i64) 3 W b X v5 d') (hk : Kept w W (fun k=>some k = v5.ownBlock)) : az b lo hi W v1 v2 v3 v5 i r c d':=by
  have far : ∀ {v : Value} {n : Nat} {cs : List Value} {z : Nat},w.ownsRow b 58 z v n cs→∀ k,some k = v.ownBlock→¬ some k = v5.ownBlock:=fun ho k e e5=>by
    obtain ⟨_,inner,ho5,_⟩:=o.o5
    obtain ⟨cs',hc'⟩:=pE ho5 k e5.symm
    obtain ⟨cs,hc⟩:=pE ho k e.symm
    rw [hc] at hc'
    injection hc' with hc'
    injection hc' with _ hc'
    exact absurd hc' (by decide)
  obtain ⟨_,i1,p1,_⟩:=o.o1
  obtain ⟨_,i3,p3,_⟩:=o.o3
  exact ⟨Nat.le_trans o.h hk.1,Kd.sW rfl (Kd.tK (Kd.nY rfl o.o1) hk (fun k hk=>far p1 k hk)) (fun k e=>o.o1.1 k e),
    Kd.Bv o.o2 hk (fun k hk e=>hk.2 e),
    Kd.sW rfl (Kd.tK (Kd.nY rfl o.o3) hk (fun k hk=>far p3 k hk)) (fun k e=>o.o3.1 k e),Kd.sW rfl hy (fun k e=>o.o5.1 k e)⟩
/-- The blocks of the references' rows. -/
def GL (lo hi : Nat) (w : World) (b : Nat) (v5 : Value) (k : Nat) : Prop:=((lo ≤ k∧k < hi)∧some k≠v5.ownBlock)∧b ≤ k∧k < w.heap.size∧∃ q,q ∈ 84 :: pW.E∧∃ cells,w.heap[k]? = some (.cells cells q (0,0))
theorem az.p2 (o : az b lo hi w v1 v2 v3 v5 i r c d) : Kd.S pW 84 w b (GL lo hi w b v5) v2 r:=Kd.uJ o.o2
theorem az.w2 (o : az b lo hi w v1 v2 v3 v5 i r c d) (hy : Kd.S pW 84 W b (GL lo hi w b v5) v2 r') (hk : Kept w W (GL lo hi w b v5)) : az b lo hi W v1 v2 v3 v5 i r' c d:=by
  have far : ∀ {v : Value} {n : Nat} {cs : List Value} {z : Nat},w.ownsRow b 58 z v n cs→∀ k,some k = v.ownBlock→¬ GL lo hi w b v5 k:=fun ho k e e5=>by
    obtain ⟨_,_,_,q,hq,cs',hc'⟩:=e5
    obtain ⟨cs,hc⟩:=pE ho k e.symm
    rw [hc] at hc'
    injection hc' with hc'
    injection hc' with _ hc'
    subst hc'
    revert hq;decide
  obtain ⟨_,i1,p1,_⟩:=o.o1
  obtain ⟨_,i3,p3,_⟩:=o.o3
  exact ⟨Nat.le_trans o.h hk.1,Kd.sW rfl (Kd.tK (Kd.nY rfl o.o1) hk (fun k hk=>far p1 k hk)) (fun k e=>o.o1.1 k e),
    Kd.qb hy (fun k hk=>hk.1),
    Kd.sW rfl (Kd.tK (Kd.nY rfl o.o3) hk (fun k hk=>far p3 k hk)) (fun k e=>o.o3.1 k e), 
    Kd.sW rfl (Kd.tK (Kd.nY rfl o.o5) hk (fun k hk e=>e.1.2 hk)) (fun k e=>o.o5.1 k e)⟩
theorem az.H5 (o : az b lo hi w v1 v2 v3 v5 i r c d) : ∀ k,some k = v1.ownBlock→lo ≤ k∧k < hi:=fun k e=>(o.o1.1 k e.symm).1
theorem az.HV (o : az b lo hi w v1 v2 v3 v5 i r c d) : ∀ k,some k = v3.ownBlock→lo ≤ k∧k < hi:=fun k e=>(o.o3.1 k e.symm).1
theorem az.Hw (o : az b lo hi w v1 v2 v3 v5 i r c d) : ∀ k,some k = v5.ownBlock→lo ≤ k∧k < hi:=fun k e=>o.o5.1 k e.symm
theorem qL {l2 h2 g : Nat} {o : Obj} (B : af (w.heap[g]? = some o)) (hk : Kept w W (fun k=>l2 ≤ k∧k < h2)) (a : af (g < l2∨h2 ≤ g)) : af (W.heap[g]? = some o):=⟨AP B.o hk (fun z=>by have:=a.o;omega)⟩
/-- A row alone, as an answer whose other rows are nil. -/
theorem az.ofRow (hb : Below w0.heap.size w0 w) (h5 : Kd.R (Kd.int .i64) 3 W w.heap.size (fun _=>True) v5 d) : az w0.heap.size w.heap.size W.heap.size W (.slice none 0 0) (.slice none 0 0) (.slice none 0 0) v5 [] [] [] d :=
  az.new hb (Kd.sH _ _ _ _ _) (Kd.E8 _ _ _ _ _) (Kd.sH _ _ _ _ _) h5
theorem az.Hg (o : az b lo hi w v1 v2 v3 v5 i r c d) : Kd.R (Kd.int .i64) 3 w b (fun k=>some k = v5.ownBlock) v5 d:=Kd.nY rfl o.o5
end
theorem lS.calls (k : Nat) (lo hi : Nat) (live : Bool) (v1 v2 v3 v5 : Value) (i : List bV) (r : List fT) (c : List bV) (n : Int) (d : List Int) (a1 r1 : Int) (i' : List bV) (r' : List fT) (c' : List bV) (d' : List Int) (w0 w : World) (hB : Below w0.heap.size w0 w)
    (o : az w0.heap.size lo hi w v1 v2 v3 v5 i r c d) (h : lS.f k i r c n d a1 = some (r1,i',r',c',d')) :
    Calls prog 13 #[.agg #[.bool live,v1,v2,v3,.int .i64 n,v5],.int .i64 a1] w fun e w'=>e = .returned (.int .i64 r1)∧az w0.heap.size lo hi w' v1 v2 v3 v5 i' r' c' d'∧Below w0.heap.size w0 w'∧Kept w w' (fun k=>lo ≤ k∧k < hi):=by
  have hu34:=underlying34
  have HB:=af.mk hB
  have HK:=af.mk (Kept.refl w (fun k=>lo ≤ k∧k < hi))
  have O:=af.mk o
  clear hB o
  unfold lS.f at h
  obtain ⟨⟨p1,q1⟩,A1,h⟩:=bK h
  obtain ⟨⟨p2,q2⟩,A2,h⟩:=bK h
  obtain ⟨⟨p3,q3⟩,A3,h⟩:=bK h
  obtain ⟨⟨p4,q4⟩,A4,h⟩:=bK h
  dsimp only at h A2 A3 A4
  simp only [Option.some.injEq,Prod.mk.injEq] at h
  obtain ⟨rfl,rfl,rfl,rfl,rfl⟩:=h
  obtain ⟨x1,y1,e1⟩:=Kd.aH O.o.o1
  obtain ⟨x2,y2,e2⟩:=Kd.gm O.o.o2
  obtain ⟨x3,y3,e3⟩:=Kd.aH O.o.o3
  obtain ⟨x5,y5,e5⟩:=Kd.aH O.o.o5
  subst e1 e2 e3 e5
  go_enter func13,ntmps13
  go_wp2_with (first | ((with_reducible refine gd 2 rfl ?_);refine eO 2 #[.bool live,.slice x1 i.length y1,.slice x2 r.length y2,.slice x3 c.length y3,.int .i64 n,.slice x5 d.length y5] 34 HB ?_;clear HB;intro gb0 hg w5 hb B0 GW0 HB;have G0 : af (gb0 < lo∨hi ≤ gb0):=⟨.inr (by rw [hg];exact O.o.h)⟩;replace O:=af.mk (az.below O.o hb);replace HK:=af.mk (Kept.below HK.o hb);clear hb hg;obtain ⟨_,_,_,_,_,_,_,_,_,_,_,_⟩:=bH B0) | ((with_reducible refine gd 8 rfl ?_);(with_reducible refine gf 45 rfl ?_);refine qJ rfl (some 8) func45 (fI.calls k (fun k_=>some k_ = (.slice x1 i.length y1 : Value).ownBlock) (.slice x1 i.length y1) i a1 p1 q1 w0 _ HB.o (Kd.nY rfl O.o.o1) A1.o) ?_;rintro e w7 ⟨rfl,hy,hb,hkp⟩;refine ⟨_,rfl,?_⟩;have hkq:=Kept.mono hkp O.o.H5;replace B0:=qL B0 hkq G0;replace HK:=af.mk (Kept.vT HK.o hkq (fun _ h=>.inl h));replace O:=af.mk (az.w1 O.o hy hkp);replace HB:=af.mk hb;clear hb hkp hkq hy;obtain ⟨_,_,_,_,_,_,_,_,_,_,_,_⟩:=bH B0) | ((with_reducible refine gd 12 rfl ?_);(with_reducible refine gf 46 rfl ?_);refine qJ rfl (some 12) func46 (gz.calls k _ (.slice x2 r.length y2) r p1 p2 q2 w0 _ HB.o (az.p2 O.o) A2.o) ?_;rintro e w8 ⟨rfl,hy,hb,hkp⟩;refine ⟨_,rfl,?_⟩;have hkq:=Kept.mono hkp (fun k_ (hs : GL lo hi _ _ _ k_)=>hs.1.1);replace B0:=qL B0 hkq G0;replace HK:=af.mk (Kept.vT HK.o hkq (fun _ h=>.inl h));replace O:=af.mk (az.w2 O.o hy hkp);replace HB:=af.mk hb;clear hb hkp hkq hy;obtain ⟨_,_,_,_,_,_,_,_,_,_,_,_⟩:=bH B0) | ((with_reducible refine gd 16 rfl ?_);(with_reducible refine gf 45 rfl ?_);refine qJ rfl (some 16) func45 (fI.calls k (fun k_=>some k_ = (.slice x3 c.length y3 : Value).ownBlock) (.slice x3 c.length y3) c p2 p3 q3 w0 _ HB.o (Kd.nY rfl O.o.o3) A3.o) ?_;rintro e w9 ⟨rfl,hy,hb,hkp⟩;refine ⟨_,rfl,?_⟩;have hkq:=Kept.mono hkp O.o.HV;replace B0:=qL B0 hkq G0;replace HK:=af.mk (Kept.vT HK.o hkq (fun _ h=>.inl h));replace O:=af.mk (az.w3 O.o hy hkp);replace HB:=af.mk hb;clear hb hkp hkq hy;obtain ⟨_,_,_,_,_,_,_,_,_,_,_,_⟩:=bH B0) | ((with_reducible refine gd 20 rfl ?_);(with_reducible refine gf 47 rfl ?_);refine qJ rfl (some 20) func47 (oQ.calls k n (fun k_=>some k_ = (.slice x5 d.length y5 : Value).ownBlock) (.slice x5 d.length y5) d p3 p4 q4 w0 _ HB.o (Kd.nY rfl O.o.o5) A4.o) ?_;rintro e w10 ⟨rfl,hy,hb,hkp⟩;refine ⟨_,rfl,?_⟩;have hkq:=Kept.mono hkp O.o.Hw;replace B0:=qL B0 hkq G0;replace HK:=af.mk (Kept.vT HK.o hkq (fun _ h=>.inl h));replace O:=af.mk (az.w5 O.o hy hkp);replace HB:=af.mk hb;clear hb hkp hkq hy))
  go_ret
  exact ⟨rfl,O.o,HB.o,HK.o⟩
end Go.Proofs.YtklkdpcopfjmcaaGreat.PFnExactAbsWiden
