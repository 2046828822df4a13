/- The program's AbsWiden and the reference's tell the same at every argument. Conditions: those in each law. -/
import Derived.Test.YtklkdpcopfjmcaaGreatLFnExactAbsWidenV
import Derived.Test.YtklkdpcopfjmcaaGreatQFnExactAbsWidenx99V
namespace Go.Proofs.YtklkdpcopfjmcaaGreat.Pure
set_option linter.unusedVariables false
set_option linter.unusedSimpArgs false
open Go.RowKit Go.Proofs.YtklkdpcopfjmcaaGreat.PFnExactAbsWiden Go.Proofs.YtklkdpcopfjmcaaGreat.LFnExactAbsWiden Go.Proofs.YtklkdpcopfjmcaaGreat.Base Go.Proofs.YtklkdpcopfjmcaaGreatW.PrintWords Go.Proofs.YtklkdpcopfjmcaaGreatW.PrintLast Go.Proofs.YtklkdpcopfjmcaaGreatW.PrintMore
theorem CE {x : List bV} {i : Int} (v : bV) {j : Int} (h0 : 0 ≤ i) (h : i < (x.length : Int)) (hj : 0 ≤ j) : ak (x.set i.toNat v) j = if j = i then v else ak x j:=by
  unfold ak
  rw [List.getD_eq_getElem?_getD,List.getD_eq_getElem?_getD]
  by_cases e : j = i
  · subst e
    rw [if_pos rfl,List.getElem?_set_self (by omega)];rfl
  · rw [if_neg e,List.getElem?_set_ne (by omega)]
theorem yP {x : List fT} {i : Int} (v : fT) {j : Int} (h0 : 0 ≤ i) (h : i < (x.length : Int)) (hj : 0 ≤ j) : ag (x.set i.toNat v) j = if j = i then v else ag x j:=by
  unfold ag
  rw [List.getD_eq_getElem?_getD,List.getD_eq_getElem?_getD]
  by_cases e : j = i
  · subst e
    rw [if_pos rfl,List.getElem?_set_self (by omega)];rfl
  · rw [if_neg e,List.getElem?_set_ne (by omega)]
/-- A loop that tells a row anew, element by element. -/
theorem builds {β γ : Type} {g : Nat→List β→Int→Option γ} {r : Option γ} (t : List β) (z : β) (K : Nat)
    (step : ∀ (k : Nat) (acc : List β) (i : Int),K ≤ k→0 ≤ i→i < (t.length : Int)→acc.length = i.toNat→g (k + 1) acc i = g k (acc ++ [t.getD i.toNat z]) (i + 1))
    (fin : ∀ k : Nat,K ≤ k→g (k + 1) t (t.length : Int) = r) : ∀ (m k : Nat) (i : Int) (acc : List β),((t.length : Int) - i).toNat = m→0 ≤ i→i ≤ (t.length : Int)→K + m < k→acc = t.take i.toNat→g k acc i = r:=by
  intro m
  induction m with
  | zero =>
    intro k i acc hm h0 h1 hk ha
    obtain ⟨k,rfl⟩ : ∃ j,k = j + 1:=⟨k - 1,by omega⟩
    have e : i = (t.length : Int):=by omega
    subst e
    rw [ha,List.take_of_length_le (by omega)]
    exact fin k (by omega)
  | succ m ih =>
    intro k i acc hm h0 h1 hk ha
    obtain ⟨k,rfl⟩ : ∃ j,k = j + 1:=⟨k - 1,by omega⟩
    rw [step k acc i (by omega) h0 (by omega) (by rw [ha,List.length_take];omega)]
    refine ih k (i + 1) _ (by omega) (by omega) (by omega) (by omega) ?_
    have e : (i + 1).toNat = i.toNat + 1:=by omega
    rw [ha,e,List.take_add_one,List.getElem?_eq_getElem (show i.toNat < t.length by omega),List.getD_eq_getElem?_getD,List.getElem?_eq_getElem (show i.toNat < t.length by omega)]
    rfl
theorem Ea {k : Nat} (x : List Int) (hx : x.length ≤ 1048576) (hk : 4000000 ≤ k) : aY.f k x [] = some x:=by
  unfold aY.f
  have go : ∀ (m k : Nat) (i : Int) (acc : List Int),((x.length : Int) - i).toNat = m→0 ≤ i→i ≤ (x.length : Int)→3 * m + 3 < k→acc = x.take i.toNat→aY.l0 k x [] acc i 0 = some x:=by
    intro m
    induction m with
    | zero =>
      intro k i acc hm h0 h1 hk ha
      obtain ⟨k,rfl⟩ : ∃ j,k = j + 2:=⟨k - 2,by omega⟩
      have e : i = (x.length : Int):=by omega
      rw [aY.l0,if_neg (by omega),aY.j1,if_neg (by simp),ha,List.take_of_length_le (by omega)]
    | succ m ih =>
      intro k i acc hm h0 h1 hk ha
      obtain ⟨k,rfl⟩ : ∃ j,k = j + 3:=⟨k - 3,by omega⟩
      have hl : acc.length = i.toNat:=by rw [ha,List.length_take];omega
      rw [aY.l0,if_pos (by omega),aY.j1,if_pos rfl,if_pos (by simp),aY.j2,if_pos rfl,if_pos h0,if_pos (by omega),if_pos (by omega),aV (x:=i + 1) (by omega) (by omega)]
      refine ih k (i + 1) _ (by omega) (by omega) (by omega) (by omega) ?_
      have e : (i + 1).toNat = i.toNat + 1:=by omega
      rw [ha,e,List.take_add_one,List.getElem?_eq_getElem (show i.toNat < x.length by omega)]
      unfold rd
      rw [List.getD_eq_getElem?_getD,List.getElem?_eq_getElem (show i.toNat < x.length by omega)]
      rfl
  exact go _ k 0 [] rfl (by omega) (by omega) (by omega) (by simp)
theorem Ba {k : Nat} (live : Bool) (ints : List bV) (refs : List fT) (cells : List bV) (n : Int) (d : List Int) (sm : qC ints refs cells) (hd : d.length ≤ 1048576) (hk : 20000000 ≤ k) :
    aM.f k live ints refs cells n d = some (live,ints,refs,cells,n,d):=by
  obtain ⟨hi,hr,hc,ha⟩:=sm
  unfold aM.f
  rw [Bg n d hd (by omega),Option.bind_some]
  have h2 : ∀ k : Nat,4000000 ≤ k→aM.l2 k 0 live ints refs cells n d live ints refs [] n d = some (live,ints,refs,cells,n,d):=fun k hk=>by
    refine builds (g:=fun k acc i=>aM.l2 k i live ints refs cells n d live ints refs acc n d) cells z58 0 (fun k acc i _ h0 h1 hl=>?_) (fun k _=>?_) _ k 0 [] rfl (by omega) (by omega) (by omega) (by simp)
    · try dsimp only
      rw [aM.l2,if_pos h1,if_pos h0,if_pos (by omega),aV (x:=i + 1) (by omega) (by omega)]
      rfl
    · try dsimp only
      rw [aM.l2,if_neg (by omega)]
  have h1 : ∀ k : Nat,10000000 ≤ k→aM.l1 k 0 live ints refs cells n d live ints [] n d = some (live,ints,refs,cells,n,d):=fun k hk=>by
    refine builds (g:=fun k acc i=>aM.l1 k i live ints refs cells n d live ints acc n d) refs z84 5000000 (fun k acc i _ h0 h1 hl=>?_) (fun k _=>?_) _ k 0 [] rfl (by omega) (by omega) (by omega) (by simp)
    · try dsimp only
      rw [aM.l1,if_pos h1,if_pos h0,Ea _ (qa ha h0 h1) (by omega),Option.bind_some,if_pos (by omega),aV (x:=i + 1) (by omega) (by omega)]
      rfl
    · try dsimp only
      rw [aM.l1,if_neg (by omega)]
      exact h2 k (by omega)
  refine builds (g:=fun k acc i=>aM.l0 k i live ints refs cells n d live acc n d) ints z58 15000000 (fun k acc i _ h0 h1 hl=>?_) (fun k _=>?_) _ k 0 [] rfl (by omega) (by omega) (by omega) (by simp)
  · try dsimp only
    rw [aM.l0,if_pos h1,if_pos h0,if_pos (by omega),aV (x:=i + 1) (by omega) (by omega)]
    rfl
  · try dsimp only
    rw [aM.l0,if_neg (by omega)]
    exact h1 k (by omega)
theorem yO {k : Nat} (live : Bool) (ints : List bV) (refs : List fT) (cells : List bV) (n : Int) (d : List Int) (sm : qC ints refs cells) (hd : d.length ≤ 1048576) (hk : 20000000 ≤ k) :
    bR.f k live ints refs cells n d = some (live,ints,refs,cells,n,d):=by
  obtain ⟨hi,hr,hc,ha⟩:=sm
  unfold bR.f
  rw [if_pos (by simp;omega),if_pos (by simp;omega),AB n d hd,Option.bind_some,List.nil_append,List.nil_append]
  refine builds (g:=fun k acc i=>bR.l0 k refs (refs.length : Int) i live ints acc cells n d) refs z84 0 (fun k acc i _ h0 h1 hl=>?_) (fun k _=>?_) _ k 0 [] rfl (by omega) (by omega) (by omega) (by simp)
  · try dsimp only
    rw [bR.l0,if_pos h1,if_pos h0,if_pos h1,aV (x:=i + 1) (by omega) (by omega)]
    unfold fM.f
    have:=qa ha h0 h1
    rw [if_pos (by simp;omega),Option.bind_some,if_pos (by omega)]
    rfl
  · try dsimp only
    rw [bR.l0,if_neg (by omega)]
/-- What an answer's rows may be long. -/
def TP (r : Bool × List bV × List fT × List bV × Int × List Int) : Prop:=qC r.2.1 r.2.2.1 r.2.2.2.1∧r.2.2.2.2.2.length ≤ 1048576
theorem Cb : TP (false,[],[],[],0,[]):=⟨⟨by simp,by simp,by simp,by simp⟩,by simp⟩
theorem BC (x y : List Int) : ∀ (m i j : Nat) (acc : List Int),(x.length - i) + (y.length - j) = m→i ≤ x.length→j ≤ y.length→x.length ≤ 1048576→y.length ≤ 1048576→acc.length + m ≤ 4194304→
    ∃ r : List Int,r.length ≤ acc.length + m∧∀ K : Nat,3 * m + 3 < K→aY.l0 K x y acc (i : Int) (j : Int) = some r∧aZ.l0 K (x.drop i) (y.drop j) acc = some r:=by
  intro m
  induction m using Nat.strongRecOn with
  | ind m ih0 =>
  cases m with
  | zero =>
    intro i j acc hm hi hj hx hy ha
    have dx : ((x.drop i).length : Int) = 0:=by rw [List.length_drop];omega
    have dy : ((y.drop j).length : Int) = 0:=by rw [List.length_drop];omega
    refine ⟨acc,by omega,fun K hK=>?_⟩
    obtain ⟨K,rfl⟩ : ∃ n,K = n + 2:=⟨K - 2,by omega⟩
    constructor
    · rw [aY.l0,if_neg (by omega),aY.j1,decide_eq_false (show ¬ (j : Int) < (y.length : Int) by omega),if_neg (by decide)]
    · rw [aZ.l0,if_neg (by omega),aZ.j1,decide_eq_false (show ¬ ((y.drop j).length : Int) > 0 by omega),if_neg (by decide)]
  | succ m =>
    have ih:=ih0 m (by omega)
    intro i j acc hm hi hj hx hy ha
    have dx : ((x.drop i).length : Int) = x.length - i:=by rw [List.length_drop];omega
    have dy : ((y.drop j).length : Int) = y.length - j:=by rw [List.length_drop];omega
    have rx : rd (x.drop i) 0 = rd x (i : Int):=by simp [rd,List.getD_eq_getElem?_getD,List.getElem?_drop]
    have ry : rd (y.drop j) 0 = rd y (j : Int):=by simp [rd,List.getD_eq_getElem?_getD,List.getElem?_drop]
    have ex : (x.drop i).drop 1 = x.drop (i + 1):=by rw [List.drop_drop]
    have ey : (y.drop j).drop 1 = y.drop (j + 1):=by rw [List.drop_drop]
    have ci : ((i : Int) + 1) = ((i + 1 : Nat) : Int):=by omega
    have cj : ((j : Int) + 1) = ((j + 1 : Nat) : Int):=by omega
    have al : acc.length < 17592186044416:=by omega
    by_cases c1 : j = y.length
    · obtain ⟨r,hr,h⟩:=ih (i + 1) j (acc ++ [rd x (i : Int)]) (by omega) (by omega) hj hx hy (by rw [List.length_append,List.length_singleton];omega)
      refine ⟨r,by rw [List.length_append,List.length_singleton] at hr;omega,fun K hK=>?_⟩
      obtain ⟨K,rfl⟩ : ∃ n,K = n + 3:=⟨K - 3,by omega⟩
      obtain ⟨h1,h2⟩:=h K (by omega)
      constructor
      · rw [aY.l0,if_pos (by omega),aY.j1,if_pos rfl,if_pos (by omega),aY.j2,if_pos rfl,if_pos (by omega),if_pos (by omega),if_pos al,aV (x:=(i : Int) + 1) (by omega) (by omega),ci,h1]
      · rw [aZ.l0,if_pos (by omega),aZ.j1,if_pos rfl,if_pos (by omega),aZ.j2,if_pos rfl,if_pos (by omega),if_pos al,if_pos (by omega),ex,rx,h2]
    by_cases c2 : i = x.length
    · obtain ⟨r,hr,h⟩:=ih i (j + 1) (acc ++ [rd y (j : Int)]) (by omega) hi (by omega) hx hy (by rw [List.length_append,List.length_singleton];omega)
      refine ⟨r,by rw [List.length_append,List.length_singleton] at hr;omega,fun K hK=>?_⟩
      obtain ⟨K,rfl⟩ : ∃ n,K = n + 3:=⟨K - 3,by omega⟩
      obtain ⟨h1,h2⟩:=h K (by omega)
      constructor
      · rw [aY.l0,if_neg (by omega),decide_eq_true (show (j : Int) < (y.length : Int) by omega),aY.j1,if_pos rfl,if_neg (by omega),if_neg (by omega),aY.j2,if_neg (by decide),if_neg (by omega),if_pos (by omega),if_pos (by omega),if_pos al,aV (x:=(j : Int) + 1) (by omega) (by omega),cj,h1]
      · rw [aZ.l0,if_neg (by omega),decide_eq_true (show ((y.drop j).length : Int) > 0 by omega),aZ.j1,if_pos rfl,if_neg (by omega),if_neg (by omega),aZ.j2,if_neg (by decide),if_pos (by omega),if_pos (by omega),if_pos al,if_pos (by omega),ey,ry,h2]
    have e1 : ∀ K b,(rd x (i : Int) < rd y (j : Int)↔b = true)→aY.l0 (K + 3) x y acc (i : Int) (j : Int) = aY.j2 (K + 1) x y acc (i : Int) (j : Int) b:=fun K b hb=>by
      have : decide (rd x (i : Int) < rd y (j : Int)) = b:=by rw [Bool.eq_iff_iff,decide_eq_true_iff];exact hb
      rw [aY.l0,if_pos (by omega),aY.j1,if_pos rfl,if_neg (by omega),if_pos (by omega),if_pos (by omega),if_pos (by omega),if_pos (by omega),this]
    have e2 : ∀ K b,(rd x (i : Int) < rd y (j : Int)↔b = true)→aZ.l0 (K + 3) (x.drop i) (y.drop j) acc = aZ.j2 (K + 1) (x.drop i) (y.drop j) acc b:=fun K b hb=>by
      have : decide (rd (x.drop i) 0 < rd (y.drop j) 0) = b:=by rw [Bool.eq_iff_iff,decide_eq_true_iff,rx,ry];exact hb
      rw [aZ.l0,if_pos (by omega),aZ.j1,if_pos rfl,if_neg (by omega),if_pos (by omega),if_pos (by omega),if_pos (by omega),this]
    by_cases c3 : rd x (i : Int) < rd y (j : Int)
    · obtain ⟨r,hr,h⟩:=ih (i + 1) j (acc ++ [rd x (i : Int)]) (by omega) (by omega) hj hx hy (by rw [List.length_append,List.length_singleton];omega)
      refine ⟨r,by rw [List.length_append,List.length_singleton] at hr;omega,fun K hK=>?_⟩
      obtain ⟨K,rfl⟩ : ∃ n,K = n + 3:=⟨K - 3,by omega⟩
      obtain ⟨h1,h2⟩:=h K (by omega)
      rw [e1 K true (by simp [c3]),e2 K true (by simp [c3])]
      constructor
      · rw [aY.j2,if_pos rfl,if_pos (by omega),if_pos (by omega),if_pos al,aV (x:=(i : Int) + 1) (by omega) (by omega),ci,h1]
      · rw [aZ.j2,if_pos rfl,if_pos (by omega),if_pos al,if_pos (by omega),ex,rx,h2]
    by_cases c4 : rd x (i : Int) = rd y (j : Int)
    · by_cases m0 : m = 0
      · omega
      obtain ⟨m',rfl⟩ : ∃ n,m = n + 1:=⟨m - 1,by omega⟩
      obtain ⟨r,hr,h⟩ : ∃ r : List Int,r.length ≤ (acc ++ [rd y (j : Int)]).length + (m' + 1)∧∀ K : Nat,3 * (m' + 1) + 3 < K→aY.l0 K x y (acc ++ [rd y (j : Int)]) ((i + 1 : Nat) : Int) ((j + 1 : Nat) : Int) = some r∧aZ.l0 K (x.drop (i + 1)) (y.drop (j + 1)) (acc ++ [rd y (j : Int)]) = some r:=by
        obtain ⟨r,hr,h⟩:=ih0 m' (by omega) (i + 1) (j + 1) (acc ++ [rd y (j : Int)]) (by omega) (by omega) (by omega) hx hy (by rw [List.length_append,List.length_singleton];omega)
        exact ⟨r,by omega,fun K hK=>h K (by omega)⟩
      refine ⟨r,by rw [List.length_append,List.length_singleton] at hr;omega,fun K hK=>?_⟩
      obtain ⟨K,rfl⟩ : ∃ n,K = n + 3:=⟨K - 3,by omega⟩
      obtain ⟨h1,h2⟩:=h K (by omega)
      rw [e1 K false (by simp [c3]),e2 K false (by simp [c3])]
      constructor
      · rw [aY.j2,if_neg (by decide),if_pos (by omega),if_pos (by omega),if_pos (by omega),if_pos (by omega),if_pos c4,if_pos al,aV (x:=(i : Int) + 1) (by omega) (by omega),aV (x:=(j : Int) + 1) (by omega) (by omega),ci,cj,h1]
      · rw [aZ.j2,if_neg (by decide),if_neg (by omega),if_pos (by omega),if_pos (by omega),if_neg (by rw [rx,ry];omega),if_pos al,if_pos (by omega),if_pos (by omega),ex,ey,rx,c4,h2]
    · obtain ⟨r,hr,h⟩:=ih i (j + 1) (acc ++ [rd y (j : Int)]) (by omega) hi (by omega) hx hy (by rw [List.length_append,List.length_singleton];omega)
      refine ⟨r,by rw [List.length_append,List.length_singleton] at hr;omega,fun K hK=>?_⟩
      obtain ⟨K,rfl⟩ : ∃ n,K = n + 3:=⟨K - 3,by omega⟩
      obtain ⟨h1,h2⟩:=h K (by omega)
      rw [e1 K false (by simp [c3]),e2 K false (by simp [c3])]
      constructor
      · rw [aY.j2,if_neg (by decide),if_pos (by omega),if_pos (by omega),if_pos (by omega),if_pos (by omega),if_neg c4,if_pos al,aV (x:=(j : Int) + 1) (by omega) (by omega),cj,h1]
      · rw [aZ.j2,if_neg (by decide),if_neg (by omega),if_pos (by omega),if_pos (by omega),if_pos (by rw [rx,ry];omega),if_pos al,if_pos (by omega),ey,ry,h2]
/-- What two rows in order become together. -/
noncomputable def mg (x y : List Int) : List Int:=Classical.epsilon fun r=>r.length ≤ x.length + y.length∧∀ k : Nat,8000000 ≤ k→aY.f k x y = some r∧aZ.f k x y = some r
theorem DW (x y : List Int) (hx : x.length ≤ 1048576) (hy : y.length ≤ 1048576) : (mg x y).length ≤ x.length + y.length∧∀ k : Nat,8000000 ≤ k→aY.f k x y = some (mg x y)∧aZ.f k x y = some (mg x y):=by
  refine Classical.epsilon_spec (p:=fun r=>r.length ≤ x.length + y.length∧∀ k : Nat,8000000 ≤ k→aY.f k x y = some r∧aZ.f k x y = some r) ?_
  obtain ⟨r,hr,h⟩:=BC x y _ 0 0 [] rfl (by omega) (by omega) hx hy (by simp;omega)
  refine ⟨r,by simpa using hr,fun k hk=>?_⟩
  have:=h k (by omega)
  exact this
def vj (xs : List Int) (a b : bV) : bV:=⟨(qQ a.f0 a.f1 a.f2 a.f3 b.f0 b.f1 b.f2 b.f3 xs).1,(qQ a.f0 a.f1 a.f2 a.f3 b.f0 b.f1 b.f2 b.f3 xs).2.1,(qQ a.f0 a.f1 a.f2 a.f3 b.f0 b.f1 b.f2 b.f3 xs).2.2.1,(qQ a.f0 a.f1 a.f2 a.f3 b.f0 b.f1 b.f2 b.f3 xs).2.2.2⟩
noncomputable def rj (xs : List Int) (a b : fT) : fT:=⟨a.f0 || b.f0,mg a.f1 b.f1,vj xs a.f2 b.f2⟩
def vD (xs : List Int) (x y : List bV) : List bV:=(List.range x.length).map fun i=>vj xs (x.getD i z58) (y.getD i z58)
noncomputable def BO (xs : List Int) (x y : List fT) : List fT:=(List.range x.length).map fun i=>rj xs (x.getD i z84) (y.getD i z84)
theorem uL (xs : List Int) (x y : List bV) : (vD xs x y).length = x.length:=by simp [vD]
theorem yQ (xs : List Int) (x y : List fT) : (BO xs x y).length = x.length:=by simp [BO]
theorem xg (xs : List Int) (x y : List bV) {i : Int} (h0 : 0 ≤ i) (h : i < (x.length : Int)) : (vD xs x y).getD i.toNat z58 = vj xs (ak x i) (ak y i):=by
  unfold vD ak
  rw [List.getD_eq_getElem?_getD,List.getElem?_map,List.getElem?_range (by omega)];rfl
theorem Ce (xs : List Int) (x y : List fT) {i : Int} (h0 : 0 ≤ i) (h : i < (x.length : Int)) : (BO xs x y).getD i.toNat z84 = rj xs (ag x i) (ag y i):=by
  unfold BO ag
  rw [List.getD_eq_getElem?_getD,List.getElem?_map,List.getElem?_range (by omega)];rfl
theorem xh {k : Nat} {xs : List Int} (hx : xs.length ≤ 1048576) (hk : 200000000000000000003 ≤ k) (a b c d a' b' c' d' : Int) : lX.f k a b c d a' b' c' d' true xs = some (qQ a b c d a' b' c' d' xs):=by
  unfold lX.f
  rw [if_pos rfl,yT k hk _ _ _ _ _ _ _ _ xs hx];rfl
theorem Ah (x y : List Int) (n n' : Int) (hx : x.length ≤ 169) (hl : y.length = x.length) : ∀ (m K i : Nat) (acc : List Int),i + m = x.length→m < K→acc.length = i→∃ r,d9.l0 K (i : Int) n x n' y n acc = some r
  | m,0,_,_,_,h,_=>absurd h (by omega)
  | 0,K + 1,i,acc,hm,hK,ha=>by
    rw [d9.l0,if_neg (show ¬ (i : Int) < (x.length : Int) by omega)];exact ⟨_,rfl⟩
  | m + 1,K + 1,i,acc,hm,hK,ha=>by
    rw [d9.l0,if_pos (show (i : Int) < (x.length : Int) by omega),if_pos (show 0 ≤ (i : Int) by omega),if_pos (show (i : Int) < (y.length : Int) by omega),aV (x:=(i : Int) + 1) (by omega) (by omega),Cj,Option.bind_some,if_pos (show acc.length < 17592186044416 by omega),show ((i : Int) + 1) = ((i + 1 : Nat) : Int) by omega]
    exact Ah x y n n' hx hl m K (i + 1) _ (by omega) (by omega) (by simp [ha])
theorem BL {k : Nat} {n : Int} {d d' : List Int} (g : yg n d) (g' : yg n d') (hk : 3000000 ≤ k) : ∃ r j,d9.f k n d n d' = some j∧fP.f k n d n d' = some (n,r)∧dA.f k n d n d' = some (n,r)∧r.length ≤ 169:=by
  obtain ⟨k,rfl⟩ : ∃ j,k = j + 1:=⟨k - 1,by omega⟩
  have l:=Di g.1 g.2.1 g.2.2.1
  have hl : d'.length = d.length:=by have:=g.2.2.1;have:=g'.2.2.1;omega
  obtain ⟨b,e,hb⟩:=Bw (k:=k + 1) n d n d' (by omega)
  unfold d9.f fP.f dA.f
  obtain ⟨j,ej⟩:=Ah d d' n n l hl d.length (k + 1) 0 [] (by omega) (by omega) rfl
  obtain ⟨r,e1,e2,e3⟩:=vk d d' n n l hl d.length (k + 1) k 0 [] d (by omega) (by omega) (by omega) rfl rfl (fun j hj=>absurd hj (by omega)) (fun _ _=>rfl)
  have hbt:=hb.mpr ⟨g,g',rfl⟩
  subst hbt
  refine ⟨r,j,?_,?_,?_,e3⟩
  · rw [e,Option.bind_some,if_pos rfl];exact ej
  · rw [e,Option.bind_some,if_pos rfl];exact e1
  · rw [xI g (by omega),Option.bind_some,if_pos rfl,xI g' (by omega),Option.bind_some,if_pos rfl,show (n != n) = false by simp,dA.j0,if_neg (by decide),AB n d (by omega),Option.bind_some];exact e2
section
variable {i i' : List bV} {r r' : List fT} {c c' : List bV} {n n' : Int} {d d' : List Int}
theorem EL (sm : qC i r c) (sm' : qC i' r' c') (e1 : i.length = i'.length) (e2 : r.length = r'.length) (e3 : c.length = c'.length) (q : Int) (e : List Int) {k : Nat} {xs : List Int} (hx : xs.length ≤ 1048576) (hk : 300000000000000000000 ≤ k) :
    aI.l0 k true xs 0 true i r c n d true i' r' c' n' d' true [] q e = some (true,vD xs i i',BO xs r r',vD xs c c',q,e):=by
  obtain ⟨hi,hr,hc,ha⟩:=sm
  obtain ⟨hi',hr',hc',ha'⟩:=sm'
  have v1:=uL xs i i'
  have v2:=yQ xs r r'
  have v3:=uL xs c c'
  have h2 : ∀ k : Nat,210000000000000000000 ≤ k→aI.l2 k true xs 0 true i r c n d true i' r' c' n' d' true (vD xs i i') (BO xs r r') [] q e = some (true,vD xs i i',BO xs r r',vD xs c c',q,e):=fun k hk=>by
    refine builds (g:=fun k acc j=>aI.l2 k true xs j true i r c n d true i' r' c' n' d' true (vD xs i i') (BO xs r r') acc q e) (vD xs c c') z58 200000000000000000003 (fun k acc j hk h0 h1 hl=>?_) (fun k _=>?_) _ k 0 [] rfl (by omega) (by omega) (by omega) (by simp)
    · try dsimp only
      rw [aI.l2,if_pos (show j < (c.length : Int) by omega),if_pos h0,if_pos (show j < (c'.length : Int) by omega),xh hx (by omega),Option.bind_some,if_pos (by omega),aV (x:=j + 1) (by omega) (by omega),xg xs c c' h0 (by omega)]
      rfl
    · try dsimp only
      rw [aI.l2,if_neg (by omega)]
  have h1 : ∀ k : Nat,220000000000000000000 ≤ k→aI.l1 k true xs 0 true i r c n d true i' r' c' n' d' true (vD xs i i') [] q e = some (true,vD xs i i',BO xs r r',vD xs c c',q,e):=fun k hk=>by
    refine builds (g:=fun k acc j=>aI.l1 k true xs j true i r c n d true i' r' c' n' d' true (vD xs i i') acc q e) (BO xs r r') z84 210000000000000000001 (fun k acc j hk h0 h1 hl=>?_) (fun k _=>?_) _ k 0 [] rfl (by omega) (by omega) (by omega) (by simp)
    · try dsimp only
      have m:=(DW _ _ (qa ha h0 (show j < (r.length : Int) by omega)) (qa ha' h0 (show j < (r'.length : Int) by omega))).2 k (by omega)
      rw [aI.l1,if_pos (show j < (r.length : Int) by omega),if_pos h0,if_pos (show j < (r'.length : Int) by omega),aV (x:=j + 1) (by omega) (by omega),Ce xs r r' h0 (by omega)]
      by_cases z : (ag r j).f0 = true
      · rw [if_pos z,m.1,Option.bind_some,xh hx (by omega),Option.bind_some,if_pos (by omega)];unfold rj;rw [z];rfl
      · rw [if_neg z,m.1,Option.bind_some,xh hx (by omega),Option.bind_some,if_pos (by omega)];unfold rj;rw [Bool.eq_false_iff.mpr z];rfl
    · try dsimp only
      rw [aI.l1,if_neg (by omega)]
      exact h2 k (by omega)
  refine builds (g:=fun k acc j=>aI.l0 k true xs j true i r c n d true i' r' c' n' d' true acc q e) (vD xs i i') z58 230000000000000000001 (fun k acc j hk h0 h1 hl=>?_) (fun k _=>?_) _ k 0 [] rfl (by omega) (by omega) (by omega) (by simp)
  · try dsimp only
    rw [aI.l0,if_pos (show j < (i.length : Int) by omega),if_pos h0,if_pos (show j < (i'.length : Int) by omega),xh hx (by omega),Option.bind_some,if_pos (by omega),aV (x:=j + 1) (by omega) (by omega),xg xs i i' h0 (by omega)]
    rfl
  · try dsimp only
    rw [aI.l0,if_neg (by omega)]
    exact h1 k (by omega)
theorem EE (sm : qC i r c) (sm' : qC i' r' c') (e1 : i.length = i'.length) (e2 : r.length = r'.length) (e3 : c.length = c'.length) (q : Int) (e : List Int) {k : Nat} {xs : List Int} (hx : xs.length ≤ 1048576) (hk : 300000000000000000000 ≤ k) :
    aC.l0 xs k i (i.length : Int) 0 true i r c n d true i' r' c' n' d' true [] q e = some (true,vD xs i i',BO xs r r',vD xs c c',q,e):=by
  obtain ⟨hi,hr,hc,ha⟩:=sm
  obtain ⟨hi',hr',hc',ha'⟩:=sm'
  have v1:=uL xs i i'
  have v2:=yQ xs r r'
  have v3:=uL xs c c'
  have h2 : ∀ k : Nat,210000000000100000000 ≤ k→aC.l2 xs k r (r.length : Int) 0 true i' r' c' n' d' true (vD xs i i') [] (vD xs c c') q e = some (true,vD xs i i',BO xs r r',vD xs c c',q,e):=fun k hk=>by
    refine builds (g:=fun k acc j=>aC.l2 xs k r (r.length : Int) j true i' r' c' n' d' true (vD xs i i') acc (vD xs c c') q e) (BO xs r r') z84 210000000000000000001 (fun k acc j hk h0 h1 hl=>?_) (fun k _=>?_) _ k 0 [] rfl (by omega) (by omega) (by omega) (by simp)
    · try dsimp only
      have m:=(DW _ _ (qa ha h0 (show j < (r.length : Int) by omega)) (qa ha' h0 (show j < (r'.length : Int) by omega))).2 k (by omega)
      rw [aC.l2,if_pos (show j < (r.length : Int) by omega),if_pos h0,if_pos (show j < (r.length : Int) by omega),if_pos (show j < (r'.length : Int) by omega),aV (x:=j + 1) (by omega) (by omega),Ce xs r r' h0 (by omega)]
      by_cases z : (ag r j).f0 = true
      · rw [if_pos z,m.2,Option.bind_some,sI _ (by omega) _ _ _ _ _ _ _ _ xs hx,Option.bind_some,if_pos (by omega)];unfold rj;rw [z];rfl
      · rw [if_neg z,m.2,Option.bind_some,sI _ (by omega) _ _ _ _ _ _ _ _ xs hx,Option.bind_some,if_pos (by omega)];unfold rj;rw [Bool.eq_false_iff.mpr z];rfl
    · try dsimp only
      rw [aC.l2,if_neg (by omega)]
  have h1 : ∀ k : Nat,220000000000000000000 ≤ k→aC.l1 xs k c (c.length : Int) 0 true i r c n d true i' r' c' n' d' true (vD xs i i') [] q e = some (true,vD xs i i',BO xs r r',vD xs c c',q,e):=fun k hk=>by
    refine builds (g:=fun k acc j=>aC.l1 xs k c (c.length : Int) j true i r c n d true i' r' c' n' d' true (vD xs i i') acc q e) (vD xs c c') z58 210000000000100000001 (fun k acc j hk h0 h1 hl=>?_) (fun k _=>?_) _ k 0 [] rfl (by omega) (by omega) (by omega) (by simp)
    · try dsimp only
      rw [aC.l1,if_pos (show j < (c.length : Int) by omega),if_pos h0,if_pos (show j < (c.length : Int) by omega),if_pos (show j < (c'.length : Int) by omega),sI _ (by omega) _ _ _ _ _ _ _ _ xs hx,Option.bind_some,if_pos (by omega),aV (x:=j + 1) (by omega) (by omega),xg xs c c' h0 (by omega)]
      rfl
    · try dsimp only
      rw [aC.l1,if_neg (by omega)]
      exact h2 k (by omega)
  refine builds (g:=fun k acc j=>aC.l0 xs k i (i.length : Int) j true i r c n d true i' r' c' n' d' true acc q e) (vD xs i i') z58 230000000000000000001 (fun k acc j hk h0 h1 hl=>?_) (fun k _=>?_) _ k 0 [] rfl (by omega) (by omega) (by omega) (by simp)
  · try dsimp only
    rw [aC.l0,if_pos (show j < (i.length : Int) by omega),if_pos h0,if_pos (show j < (i.length : Int) by omega),if_pos (show j < (i'.length : Int) by omega),sI _ (by omega) _ _ _ _ _ _ _ _ xs hx,Option.bind_some,if_pos (by omega),aV (x:=j + 1) (by omega) (by omega),xg xs i i' h0 (by omega)]
    rfl
  · try dsimp only
    rw [aC.l0,if_neg (by omega)]
    exact h1 k (by omega)
theorem CQ (xs : List Int) (sm : qC i r c) (sm' : qC i' r' c') (e2 : r.length = r'.length) (hs : ∀ x ∈ r,∀ y ∈ r',x.f1.length + y.f1.length ≤ 1048576) : ∀ z ∈ BO xs r r',z.f1.length ≤ 1048576:=by
  intro z hz
  obtain ⟨j,hj,rfl⟩:=List.mem_map.mp hz
  have hj : j < r.length:=List.mem_range.mp hj
  have g1 : r.getD j z84 = r[j]:=by rw [List.getD_eq_getElem?_getD,List.getElem?_eq_getElem hj];rfl
  have g2 : r'.getD j z84 = r'[j]'(by omega):=by rw [List.getD_eq_getElem?_getD,List.getElem?_eq_getElem (by omega)];rfl
  show (mg (r.getD j z84).f1 (r'.getD j z84).f1).length ≤ _
  rw [g1,g2]
  have:=hs _ (List.getElem_mem hj) _ (List.getElem_mem (show j < r'.length by omega))
  have:=(DW (r[j]).f1 (r'[j]'(by omega)).f1 (by omega) (by omega)).1
  omega
theorem CX {l l' : Bool} {k : Nat} (sm : qC i r c) (sm' : qC i' r' c') (hd : d.length ≤ 1048576) (hd' : d'.length ≤ 1048576) (hs : ∀ x ∈ r,∀ y ∈ r',x.f1.length + y.f1.length ≤ 1048576) {xs : List Int} (hx : xs.length ≤ 1048576) (hk : 300000000000000000010 ≤ k) :
    ∃ s,l7.f k l i r c n d l' i' r' c' n' d' xs = some s∧l8.f k l i r c n d l' i' r' c' n' d' xs = some s∧TP s:=by
  obtain ⟨k,rfl⟩ : ∃ j,k = j + 2:=⟨k - 2,by omega⟩
  unfold l7.f l8.f aI.f aC.f
  have no : ∀ b : Bool,b = true→∃ s,(aI.j0 (k + 2) true xs b l i r c n d l' i' r' c' n' d').bind (fun b=>some (b.1,b.2.1,b.2.2.1,b.2.2.2.1,b.2.2.2.2.1,b.2.2.2.2.2)) = some s∧aC.j0 xs (k + 2) b l i r c n d l' i' r' c' n' d' = some s∧TP s:=fun b hb=>by
    rw [aI.j0,aC.j0,if_pos hb,if_pos hb]
    exact ⟨_,rfl,rfl,Cb⟩
  obtain ⟨b,eb,hb⟩:=yt (k:=k + 2) (live:=l) (n:=n) (d:=d) sm (by omega)
  obtain ⟨b2,eb2,hb2⟩:=xy (k:=k + 2) (live:=l) (n:=n) (d:=d) sm (by omega)
  obtain ⟨b',eb',hb'⟩:=yt (k:=k + 2) (live:=l') (n:=n') (d:=d') sm' (by omega)
  obtain ⟨b2',eb2',hb2'⟩:=xy (k:=k + 2) (live:=l') (n:=n') (d:=d') sm' (by omega)
  rw [eb,eb2,eb',eb2',Option.bind_some,Option.bind_some,Option.bind_some,Option.bind_some,yJ hb2 hb,yJ hb2' hb']
  by_cases z : b = true
  case neg=>rw [if_neg z,if_neg z];exact no true rfl
  rw [if_pos z,if_pos z]
  by_cases z' : b' = true
  case neg=>rw [if_neg z',Bool.eq_false_iff.mpr z'];exact no true rfl
  rw [if_pos z',z']
  have A:=hb.mp z
  have A':=hb'.mp z'
  cases l with
  | false =>
    rw [if_neg (by decide),aI.j0,aC.j0,if_neg (by decide),if_neg (by decide),if_neg (by decide),if_neg (by decide),Ba _ _ _ _ _ _ sm' hd' (by omega),yO _ _ _ _ _ _ sm' hd' (by omega)]
    exact ⟨_,rfl,rfl,sm',hd'⟩
  | true =>
    rw [if_pos rfl]
    cases l' with
    | false =>
      rw [if_neg (by decide),aI.j0,aC.j0,if_neg (by decide),if_pos rfl,if_neg (by decide),if_neg (by decide),if_pos rfl,if_neg (by decide),Ba _ _ _ _ _ _ sm hd (by omega),yO _ _ _ _ _ _ sm hd (by omega)]
      exact ⟨_,rfl,rfl,sm,hd⟩
    | true =>
      rw [if_pos rfl]
      have lk : qw.f true i r c n d true i' r' c' n' d' = nL.f true i r c n d true i' r' c' n' d':=rfl
      have al : Tot (nL.f true i r c n d true i' r' c' n' d') fun t=>t = true↔i.length = i'.length∧r.length = r'.length∧c.length = c'.length:=by
        unfold nL.f
        refine Tot.ite (fun q1=>?_) (fun q1=>Tot.here ⟨fun f=>(nomatch f),fun q=>absurd q.1 (by omega)⟩)
        refine Tot.ite (fun q2=>?_) (fun q2=>Tot.here ⟨fun f=>(nomatch f),fun q=>absurd q.2.1 (by omega)⟩)
        exact Tot.here ⟨fun f=>⟨by omega,by omega,by have:=of_decide_eq_true f;omega⟩,fun q=>by simp [q.2.2]⟩
      obtain ⟨t,et,ht⟩:=al
      rw [lk,et,Option.bind_some]
      by_cases q : t = true
      case neg =>
        rw [Bool.eq_false_iff.mpr q,aI.j0,if_pos (show (!false) = true from rfl),aC.j0,if_neg (by decide),if_pos rfl,if_pos rfl,et,Option.bind_some,Option.bind_some,if_neg q]
        exact ⟨_,rfl,rfl,Cb⟩
      obtain ⟨e1,e2,e3⟩:=ht.mp q
      rcases A with ⟨_,_,_,_,g,hn⟩ | ⟨f,_⟩
      case inr=>exact nomatch f
      rcases A' with ⟨_,_,_,_,g',hn'⟩ | ⟨f,_⟩
      case inr=>exact nomatch f
      have en : n' = n:=by omega
      subst en
      obtain ⟨x,xj,x0,x1,x2,x3⟩:=BL (k:=k + 1) g g' (by omega)
      rw [q,aI.j0,aC.j0,if_neg (by decide),if_pos rfl,if_pos rfl,x0,Option.bind_some,if_pos rfl,x1,Option.bind_some,aI.j1,if_neg (by decide),if_pos rfl,if_pos rfl,et,Option.bind_some,if_pos q,x2,Option.bind_some,EL sm sm' e1 e2 e3 _ _ hx (by omega),EE sm sm' e1 e2 e3 _ _ hx (by omega)]
      obtain ⟨hi,hr,hc,ha⟩:=sm
      exact ⟨_,rfl,rfl,⟨by rw [uL];exact hi,by rw [yQ];exact hr,by rw [uL];exact hc,CQ xs ⟨hi,hr,hc,ha⟩ sm' e2 hs⟩,by show x.length ≤ _;omega⟩
end
theorem yD (x0 : List bV) (hx : x0.length ≤ 1048576) : ∀ (m k : Nat) (i : Int) (x : List bV) (a : Int),x.length = x0.length→((x.length : Int) - i).toNat = m→0 ≤ i→i ≤ (x.length : Int)→m < k→0 ≤ a→a + 4 * m ≤ 9007199254740992→
    ∃ y,fI.l0 k x a i = some (a + 4 * m,y)∧y.length = x.length∧(∀ p : Int,0 ≤ p→p < i→ak y p = ak x p)∧fo.l0 k y a i = some (a + 4 * m):=by
  intro m
  induction m with
  | zero =>
    intro k i x a hl hm h0 h1 hk ha hb
    obtain ⟨k,rfl⟩ : ∃ j,k = j + 1:=⟨k - 1,by omega⟩
    refine ⟨x,?_,rfl,fun _ _ _=>rfl,?_⟩
    · rw [fI.l0,if_neg (by omega)];simp
    · rw [fo.l0,if_neg (by omega)];simp
  | succ m ih =>
    intro k i x a hl hm h0 h1 hk ha hb
    obtain ⟨k,rfl⟩ : ∃ j,k = j + 1:=⟨k - 1,by omega⟩
    have hi : i < (x.length : Int):=by omega
    obtain ⟨y,y1,y2,y3,y4⟩:=ih k (i + 1) (x.set i.toNat ⟨a,a + 1,a + 1 + 1,a + 1 + 1 + 1⟩) (a + 1 + 1 + 1 + 1) (by rw [List.length_set];exact hl) (by rw [List.length_set];omega) (by omega) (by rw [List.length_set];omega) (by omega) (by omega) (by omega)
    have s : ∀ (z : List bV) (v : bV),i < (z.length : Int)→ak (z.set i.toNat v) i = v:=fun z v hz=>by rw [CE v h0 hz h0,if_pos rfl]
    have yi : ak y i = ⟨a,a + 1,a + 1 + 1,a + 1 + 1 + 1⟩:=by rw [y3 i h0 (by omega),s _ _ hi]
    refine ⟨y,?_,by rw [y2,List.length_set],fun p hp hp'=>by rw [y3 p hp (by omega),CE _ h0 hi hp,if_neg (by omega)],?_⟩
    · rw [fI.l0,if_pos hi,if_pos h0,Option.bind_some,Option.bind_some,Option.bind_some,aV (x:=a + 1) (by omega) (by omega),aV (x:=a + 1 + 1) (by omega) (by omega),aV (x:=a + 1 + 1 + 1) (by omega) (by omega),aV (x:=a + 1 + 1 + 1 + 1) (by omega) (by omega),aV (x:=i + 1) (by omega) (by omega)]
      have sx:=fun v=>s x v hi
      simp only [List.set_set,sx]
      rw [y1]
      congr 2;omega
    · rw [fo.l0,if_pos (by rw [y2,List.length_set];exact hi),if_pos h0,yi]
      dsimp only
      rw [aV (x:=a + 1) (by omega) (by omega),aV (x:=a + 1 + 1) (by omega) (by omega),aV (x:=a + 1 + 1 + 1) (by omega) (by omega),aV (x:=a + 1 + 1 + 1 + 1) (by omega) (by omega),aV (x:=i + 1) (by omega) (by omega),if_pos rfl,if_pos rfl,if_pos rfl,if_pos rfl,y4]
      congr 1;omega
theorem yF (x : List Int) (hx : x.length ≤ 1048576) {k : Nat} (hk : 2000000 ≤ k) {a : Int} (ha : 0 ≤ a) (hb : a ≤ 4503599627370496) :
    ∃ y,fq.f k x a = some (a + x.length,y)∧eH.f k y a = some (a + x.length):=by
  obtain ⟨⟨r1,y⟩,e,h1,h2,_,h4⟩:=sU x.length k 0 x a (by omega) (by omega) ha (by omega) hx
  have h1 : r1 = a + x.length:=h1
  have h2 : y.length = x.length:=h2
  subst h1
  refine ⟨y,?_,?_⟩
  · unfold fq.f
    rw [show (0 : Int) = ((0 : Nat) : Int) from rfl,e]
  · unfold eH.f
    rw [show (0 : Int) = ((0 : Nat) : Int) from rfl,sP y (by omega) x.length k 0 a (by omega) (by omega) ha (by omega) (fun p hp hp'=>h4 p hp (by omega))]
theorem CG : ∀ (m k : Nat) (i : Int) (x : List fT) (a : Int),x.length ≤ 1048576→((x.length : Int) - i).toNat = m→0 ≤ i→i ≤ (x.length : Int)→2000000 + m < k→0 ≤ a→a + 1048581 * m ≤ 4503599627000000→(∀ p : Int,i ≤ p→p < (x.length : Int)→(ag x p).f1.length ≤ 1048576)→
    ∃ t y,gz.l0 k x a i = some (t,y)∧a ≤ t∧t ≤ a + 1048581 * m∧y.length = x.length∧(∀ p : Int,0 ≤ p→p < i→ag y p = ag x p)∧fe.l0 k y a i = some t:=by
  intro m
  induction m with
  | zero =>
    intro k i x a hl hm h0 h1 hk ha hb hr
    obtain ⟨k,rfl⟩ : ∃ j,k = j + 1:=⟨k - 1,by omega⟩
    refine ⟨a,x,?_,by omega,by omega,rfl,fun _ _ _=>rfl,?_⟩
    · rw [gz.l0,if_neg (by omega)]
    · rw [fe.l0,if_neg (by omega)]
  | succ m ih =>
    intro k i x a hl hm h0 h1 hk ha hb hr
    obtain ⟨k,rfl⟩ : ∃ j,k = j + 1:=⟨k - 1,by omega⟩
    have hi : i < (x.length : Int):=by omega
    have ri:=hr i (Int.le_refl i) hi
    obtain ⟨w,w1,w2⟩:=yF (ag x i).f1 ri (k:=k) (by omega) (a:=a + 1) (by omega) (by omega)
    generalize hb' : a + 1 + ((ag x i).f1.length : Int) = b at w1 w2
    obtain ⟨t,y,y1,y5,y6,y2,y3,y4⟩:=ih k (i + 1) (x.set i.toNat (CF (ag x i) a (b,w))) (b + 1 + 1 + 1 + 1) (by rw [List.length_set];exact hl) (by rw [List.length_set];omega) (by omega) (by rw [List.length_set];omega) (by omega) (by omega) (by omega) (fun p hp hp'=>by
      rw [yP _ h0 hi (by omega),if_neg (by omega)];exact hr p (by omega) (by rw [List.length_set] at hp';exact hp'))
    have yi : ag y i = CF (ag x i) a (b,w):=by rw [y3 i h0 (by omega),yP _ h0 hi h0,if_pos rfl]
    refine ⟨t,y,?_,by omega,by omega,by rw [y2,List.length_set],fun p hp hp'=>by rw [y3 p hp (by omega),yP _ h0 hi hp,if_neg (by omega)],?_⟩
    · rw [gz.l0,if_pos hi,if_pos h0,aV (x:=a + 1) (by omega) (by omega),w1,Option.bind_some]
      dsimp only
      rw [aV (x:=b + 1) (by omega) (by omega),aV (x:=b + 1 + 1) (by omega) (by omega),aV (x:=b + 1 + 1 + 1) (by omega) (by omega),aV (x:=b + 1 + 1 + 1 + 1) (by omega) (by omega),aV (x:=i + 1) (by omega) (by omega),y1]
    · rw [fe.l0,if_pos (by rw [y2,List.length_set];exact hi),if_pos h0,yi]
      unfold CF
      dsimp only
      rw [aV (x:=a + 1) (by omega) (by omega),w2,if_neg (by simp),Option.bind_some,aV (x:=b + 1) (by omega) (by omega),aV (x:=b + 1 + 1) (by omega) (by omega),aV (x:=b + 1 + 1 + 1) (by omega) (by omega),aV (x:=b + 1 + 1 + 1 + 1) (by omega) (by omega),aV (x:=i + 1) (by omega) (by omega),if_neg (by omega),if_pos rfl,if_pos rfl,if_pos rfl,if_pos rfl,y4]
theorem xX {k : Nat} (l : Bool) {i : List bV} {r : List fT} {c : List bV} {n : Int} {d : List Int} (sm : qC i r c) (hd : d.length ≤ 1048576) (hk : 4000000 ≤ k) {a : Int} (a0 : 0 ≤ a) (ae : a ≤ 2000000000000) :
    ∃ m,lS.f k i r c n d a = some m∧0 ≤ m.1∧m.1 ≤ a + 1099600000000∧nX.f k l m.2.1 m.2.2.1 m.2.2.2.1 n m.2.2.2.2 a = some m.1:=by
  obtain ⟨hi,hr,hc,ha⟩:=sm
  obtain ⟨y1,a1,_,_,b1⟩:=yD i hi i.length k 0 i a rfl (by omega) (by omega) (by omega) (by omega) (by omega) (by omega)
  obtain ⟨t2,y2,a2,u2,v2,_,_,b2⟩:=CG r.length k 0 r (a + 4 * i.length) hr (by omega) (by omega) (by omega) (by omega) (by omega) (by omega) (fun p h0 h1=>qa ha h0 h1)
  obtain ⟨y3,a3,_,_,b3⟩:=yD c hc c.length k 0 c t2 rfl (by omega) (by omega) (by omega) (by omega) (by omega) (by omega)
  obtain ⟨y4,a4,b4⟩:=CV (k:=k) n n d hd (by omega) (t2 + 4 * c.length) (by omega) (by omega)
  refine ⟨(t2 + 4 * c.length + d.length,y1,y2,y3,y4),?_,by show 0 ≤ t2 + 4 * (c.length : Int) + d.length;omega,by show t2 + 4 * (c.length : Int) + d.length ≤ _;omega,?_⟩
  · unfold lS.f fI.f gz.f
    rw [a1,Option.bind_some]
    dsimp only
    rw [a2,Option.bind_some]
    dsimp only
    rw [a3,Option.bind_some]
    dsimp only
    rw [a4,Option.bind_some]
  · unfold nX.f fo.f fe.f
    dsimp only
    rw [b1,Option.bind_some,if_neg (by omega),b2,Option.bind_some,if_neg (by omega),b3,Option.bind_some,if_neg (by omega),b4,Option.bind_some,if_neg (by omega)]
theorem FnExactAbsWiden (live : Bool) (ints : List mF) (refs : List oN) (cells : List mF) (n : Int) (d : List Int) (live' : Bool) (ints' : List mF) (refs' : List oN) (cells' : List mF) (n' : Int) (d' : List Int) (xs : List Int)
    (h1 : ints.length ≤ 9223372036854775807) (h2 : refs.length ≤ 9223372036854775807) (h4 : ∀ r ∈ refs,r.f1.length ≤ 9223372036854775807) (h3 : cells.length ≤ 9223372036854775807) (h5 : d.length ≤ 9223372036854775807)
    (h1' : ints'.length ≤ 9223372036854775807) (h2' : refs'.length ≤ 9223372036854775807) (h4' : ∀ r ∈ refs',r.f1.length ≤ 9223372036854775807) (h3' : cells'.length ≤ 9223372036854775807) (h5' : d'.length ≤ 9223372036854775807) (h6 : xs.length ≤ 9223372036854775807) :
    ∃ k,aJ.f k live ints refs cells n d live' ints' refs' cells' n' d' xs = some true:=by
  refine ⟨400000000000000000000,?_⟩
  refine Tot.o ?_
  unfold aJ.f
  refine Tot.ite (fun _=>Tot.here rfl) (fun cx=>?_)
  have hx : xs.length ≤ 1048576:=by omega
  refine Tot.then (wI live ints refs cells n d 1048576 h1 h2 h3 h5 h4 (by omega) (by omega) (by omega)) ?_
  intro t ht
  refine Tot.ite (fun _=>Tot.here rfl) (fun c=>?_)
  obtain ⟨t0,t1,i1,i2,i3,i4,i5⟩:=ht.resolve_left c
  refine Tot.then (wI live' ints' refs' cells' n' d' t h1' h2' h3' h5' h4' t0 t1 (by omega)) ?_
  intro t' ht'
  refine Tot.ite (fun _=>Tot.here rfl) (fun c'=>?_)
  obtain ⟨t0',t1',j1,j2,j3,j4,j5⟩:=ht'.resolve_left c'
  have l5 : ∀ r ∈ refs,r.f1.length ≤ 1048576:=fun r hr=>by have:=i5 r hr;omega
  have l5' : ∀ r ∈ refs',r.f1.length ≤ 1048576:=fun r hr=>by have:=j5 r hr;omega
  have sm:=yI i1 i2 i3 l5
  have sm':=yI j1 j2 j3 l5'
  have hs : ∀ x ∈ refs.map cr,∀ y ∈ refs'.map cr,x.f1.length + y.f1.length ≤ 1048576:=by
    intro x0 hx0 y0 hy0
    obtain ⟨x,hx,rfl⟩:=List.mem_map.mp hx0
    obtain ⟨y,hy,rfl⟩:=List.mem_map.mp hy0
    have:=i5 x hx
    have:=j5 y hy
    show x.f1.length + y.f1.length ≤ _
    omega
  rw [Aw live ints refs cells n d i1 i2 i3 l5 i4 (by omega),Option.bind_some,Aw live' ints' refs' cells' n' d' j1 j2 j3 l5' j4 (by omega),Option.bind_some,wm xs hx (by omega),Option.bind_some,if_pos rfl]
  obtain ⟨r,r1,r2,rs,rd⟩:=CX (k:=400000000000000000000) (l:=live) (l':=live') (n:=n) (n':=n') sm sm' i4 j4 hs hx (by omega)
  dsimp only
  rw [r1,r2,Option.bind_some,Option.bind_some,if_pos rfl,vB rs rd (by omega),Option.bind_some,if_pos rfl,vB sm i4 (by omega),Option.bind_some,if_pos rfl,vB sm' j4 (by omega),Option.bind_some,if_pos rfl,uq xs hx (by omega),Option.bind_some,if_pos rfl]
  obtain ⟨m0,e0,p0,q0,_⟩:=xX (k:=400000000000000000000) live (n:=n) sm i4 (by omega) (a:=1) (by omega) (by omega)
  rw [e0,Option.bind_some]
  obtain ⟨m1,e1,p1,q1,_⟩:=xX (k:=400000000000000000000) live (n:=n') sm' j4 (by omega) (a:=m0.1) p0 (by omega)
  rw [e1,Option.bind_some]
  obtain ⟨z,ez,_⟩:=yF xs hx (k:=400000000000000000000) (by omega) (a:=m1.1) p1 (by omega)
  rw [ez,Option.bind_some]
  obtain ⟨m,e,_,_,h⟩:=xX (k:=400000000000000000000) r.1 (n:=r.2.2.2.2.1) rs rd (by omega) (a:=1) (by omega) (by omega)
  unfold aJ.g
  rw [e,Option.bind_some,h,Option.bind_some,if_neg (by omega),if_neg (by omega)]
  exact Tot.here (by simp)
end Go.Proofs.YtklkdpcopfjmcaaGreat.Pure
