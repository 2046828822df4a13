/- The program's AbsJoin and the reference's tell the same at every argument. Conditions: those in each law. -/
import Derived.Test.YtklkdpcopfjmcaaGreatLFnExactAbsJoinV
import Derived.Test.YtklkdpcopfjmcaaGreatQFnExactAbsJoinx99V
namespace Go.Proofs.YtklkdpcopfjmcaaGreat.Pure
set_option linter.unusedVariables false
set_option linter.unusedSimpArgs false
open Go.RowKit Go.Proofs.YtklkdpcopfjmcaaGreat.PFnExactAbsJoin Go.Proofs.YtklkdpcopfjmcaaGreat.LFnExactAbsJoin Go.Proofs.YtklkdpcopfjmcaaGreat.Base Go.Proofs.YtklkdpcopfjmcaaGreatW.PrintWords Go.Proofs.YtklkdpcopfjmcaaGreatW.PrintLast Go.Proofs.YtklkdpcopfjmcaaGreatW.PrintMore

theorem rdv_set {x : List S58} {i : Int} (v : S58) {j : Int} (h0 : 0 ≤ i) (h : i < (x.length : Int)) (hj : 0 ≤ j) : rd_T58 (x.set i.toNat v) j = if j = i then v else rd_T58 x j:=by
  unfold rd_T58
  rw [List.getD_eq_getElem?_getD,List.getD_eq_getElem?_getD]
  by_cases e : j = i
  · subst e
    rw [if_pos rfl,List.getElem?_set_self (by omega)];rfl
  · rw [if_neg e,List.getElem?_set_ne (by omega)]
theorem rdr_set {x : List S84} {i : Int} (v : S84) {j : Int} (h0 : 0 ≤ i) (h : i < (x.length : Int)) (hj : 0 ≤ j) : rd_T84 (x.set i.toNat v) j = if j = i then v else rd_T84 x j:=by
  unfold rd_T84
  rw [List.getD_eq_getElem?_getD,List.getD_eq_getElem?_getD]
  by_cases e : j = i
  · subst e
    rw [if_pos rfl,List.getElem?_set_self (by omega)];rfl
  · rw [if_neg e,List.getElem?_set_ne (by omega)]
/-- A loop that tells a row anew, element by element. -/
theorem builds {β γ : Type} {g : Nat→List β→Int→Option γ} {r : Option γ} (t : List β) (z : β) (K : Nat)
    (step : ∀ (k : Nat) (acc : List β) (i : Int),K ≤ k→0 ≤ i→i < (t.length : Int)→acc.length = i.toNat→g (k + 1) acc i = g k (acc ++ [t.getD i.toNat z]) (i + 1))
    (fin : ∀ k : Nat,K ≤ k→g (k + 1) t (t.length : Int) = r) : ∀ (m k : Nat) (i : Int) (acc : List β),((t.length : Int) - i).toNat = m→0 ≤ i→i ≤ (t.length : Int)→K + m < k→acc = t.take i.toNat→g k acc i = r:=by
  intro m
  induction m with
  | zero =>
    intro k i acc hm h0 h1 hk ha
    obtain ⟨k,rfl⟩ : ∃ j,k = j + 1:=⟨k - 1,by omega⟩
    have e : i = (t.length : Int):=by omega
    subst e
    rw [ha,List.take_of_length_le (by omega)]
    exact fin k (by omega)
  | succ m ih =>
    intro k i acc hm h0 h1 hk ha
    obtain ⟨k,rfl⟩ : ∃ j,k = j + 1:=⟨k - 1,by omega⟩
    rw [step k acc i (by omega) h0 (by omega) (by rw [ha,List.length_take];omega)]
    refine ih k (i + 1) _ (by omega) (by omega) (by omega) (by omega) ?_
    have e : (i + 1).toNat = i.toNat + 1:=by omega
    rw [ha,e,List.take_add_one,List.getElem?_eq_getElem (show i.toNat < t.length by omega),List.getD_eq_getElem?_getD,List.getElem?_eq_getElem (show i.toNat < t.length by omega)]
    rfl
theorem both_nil {k : Nat} (x : List Int) (hx : x.length ≤ 1048576) (hk : 4000000 ≤ k) : spec_l12Both.f k x [] = some x:=by
  unfold spec_l12Both.f
  have go : ∀ (m k : Nat) (i : Int) (acc : List Int),((x.length : Int) - i).toNat = m→0 ≤ i→i ≤ (x.length : Int)→3 * m + 3 < k→acc = x.take i.toNat→spec_l12Both.l0 k x [] acc i 0 = some x:=by
    intro m
    induction m with
    | zero =>
      intro k i acc hm h0 h1 hk ha
      obtain ⟨k,rfl⟩ : ∃ j,k = j + 2:=⟨k - 2,by omega⟩
      have e : i = (x.length : Int):=by omega
      rw [spec_l12Both.l0,if_neg (by omega),spec_l12Both.j1,if_neg (by simp),ha,List.take_of_length_le (by omega)]
    | succ m ih =>
      intro k i acc hm h0 h1 hk ha
      obtain ⟨k,rfl⟩ : ∃ j,k = j + 3:=⟨k - 3,by omega⟩
      have hl : acc.length = i.toNat:=by rw [ha,List.length_take];omega
      rw [spec_l12Both.l0,if_pos (by omega),spec_l12Both.j1,if_pos rfl,if_pos (by simp),spec_l12Both.j2,if_pos rfl,if_pos h0,if_pos (by omega),if_pos (by omega),wrap64_id (x:=i + 1) (by omega) (by omega)]
      refine ih k (i + 1) _ (by omega) (by omega) (by omega) (by omega) ?_
      have e : (i + 1).toNat = i.toNat + 1:=by omega
      rw [ha,e,List.take_add_one,List.getElem?_eq_getElem (show i.toNat < x.length by omega)]
      unfold rd
      rw [List.getD_eq_getElem?_getD,List.getElem?_eq_getElem (show i.toNat < x.length by omega)]
      rfl
  exact go _ k 0 [] rfl (by omega) (by omega) (by omega) (by simp)
theorem scopy_eq {k : Nat} (live : Bool) (ints : List S58) (refs : List S84) (cells : List S58) (n : Int) (d : List Int) (sm : ASmall ints refs cells) (hd : d.length ≤ 1048576) (hk : 20000000 ≤ k) :
    spec_l12Copy.f k live ints refs cells n d = some (live,ints,refs,cells,n,d):=by
  obtain ⟨hi,hr,hc,ha⟩:=sm
  unfold spec_l12Copy.f
  rw [sl11Copy_eq n d hd (by omega),Option.bind_some]
  have h2 : ∀ k : Nat,4000000 ≤ k→spec_l12Copy.l2 k 0 live ints refs cells n d live ints refs [] n d = some (live,ints,refs,cells,n,d):=fun k hk=>by
    refine builds (g:=fun k acc i=>spec_l12Copy.l2 k i live ints refs cells n d live ints refs acc n d) cells z58 0 (fun k acc i _ h0 h1 hl=>?_) (fun k _=>?_) _ k 0 [] rfl (by omega) (by omega) (by omega) (by simp)
    · try dsimp only
      rw [spec_l12Copy.l2,if_pos h1,if_pos h0,if_pos (by omega),wrap64_id (x:=i + 1) (by omega) (by omega)]
      rfl
    · try dsimp only
      rw [spec_l12Copy.l2,if_neg (by omega)]
  have h1 : ∀ k : Nat,10000000 ≤ k→spec_l12Copy.l1 k 0 live ints refs cells n d live ints [] n d = some (live,ints,refs,cells,n,d):=fun k hk=>by
    refine builds (g:=fun k acc i=>spec_l12Copy.l1 k i live ints refs cells n d live ints acc n d) refs z84 5000000 (fun k acc i _ h0 h1 hl=>?_) (fun k _=>?_) _ k 0 [] rfl (by omega) (by omega) (by omega) (by simp)
    · try dsimp only
      rw [spec_l12Copy.l1,if_pos h1,if_pos h0,both_nil _ (arr_small ha h0 h1) (by omega),Option.bind_some,if_pos (by omega),wrap64_id (x:=i + 1) (by omega) (by omega)]
      rfl
    · try dsimp only
      rw [spec_l12Copy.l1,if_neg (by omega)]
      exact h2 k (by omega)
  refine builds (g:=fun k acc i=>spec_l12Copy.l0 k i live ints refs cells n d live acc n d) ints z58 15000000 (fun k acc i _ h0 h1 hl=>?_) (fun k _=>?_) _ k 0 [] rfl (by omega) (by omega) (by omega) (by simp)
  · try dsimp only
    rw [spec_l12Copy.l0,if_pos h1,if_pos h0,if_pos (by omega),wrap64_id (x:=i + 1) (by omega) (by omega)]
    rfl
  · try dsimp only
    rw [spec_l12Copy.l0,if_neg (by omega)]
    exact h1 k (by omega)
theorem aclone_eq {k : Nat} (live : Bool) (ints : List S58) (refs : List S84) (cells : List S58) (n : Int) (d : List Int) (sm : ASmall ints refs cells) (hd : d.length ≤ 1048576) (hk : 20000000 ≤ k) :
    impl_Abs_clone.f k live ints refs cells n d = some (live,ints,refs,cells,n,d):=by
  obtain ⟨hi,hr,hc,ha⟩:=sm
  unfold impl_Abs_clone.f
  rw [if_pos (by simp;omega),if_pos (by simp;omega),clone_eq n d hd,Option.bind_some,List.nil_append,List.nil_append]
  refine builds (g:=fun k acc i=>impl_Abs_clone.l0 k refs (refs.length : Int) i live ints acc cells n d) refs z84 0 (fun k acc i _ h0 h1 hl=>?_) (fun k _=>?_) _ k 0 [] rfl (by omega) (by omega) (by omega) (by simp)
  · try dsimp only
    rw [impl_Abs_clone.l0,if_pos h1,if_pos h0,if_pos h1,wrap64_id (x:=i + 1) (by omega) (by omega)]
    unfold impl_RefVal_clone.f
    have:=arr_small ha h0 h1
    rw [if_pos (by simp;omega),Option.bind_some,if_pos (by omega)]
    rfl
  · try dsimp only
    rw [impl_Abs_clone.l0,if_neg (by omega)]
/-- What an answer's rows may be long. -/
def TP (r : Bool × List S58 × List S84 × List S58 × Int × List Int) : Prop:=ASmall r.2.1 r.2.2.1 r.2.2.2.1∧r.2.2.2.2.2.length ≤ 1048576
theorem tp_none : TP (false,[],[],[],0,[]):=⟨⟨by simp,by simp,by simp,by simp⟩,by simp⟩
theorem merge_loop (x y : List Int) : ∀ (m i j : Nat) (acc : List Int),(x.length - i) + (y.length - j) = m→i ≤ x.length→j ≤ y.length→x.length ≤ 1048576→y.length ≤ 1048576→acc.length + m ≤ 4194304→
    ∃ r : List Int,r.length ≤ acc.length + m∧∀ K : Nat,3 * m + 3 < K→spec_l12Both.l0 K x y acc (i : Int) (j : Int) = some r∧impl_absMerge.l0 K (x.drop i) (y.drop j) acc = some r:=by
  intro m
  induction m using Nat.strongRecOn with
  | ind m ih0 =>
  cases m with
  | zero =>
    intro i j acc hm hi hj hx hy ha
    have dx : ((x.drop i).length : Int) = 0:=by rw [List.length_drop];omega
    have dy : ((y.drop j).length : Int) = 0:=by rw [List.length_drop];omega
    refine ⟨acc,by omega,fun K hK=>?_⟩
    obtain ⟨K,rfl⟩ : ∃ n,K = n + 2:=⟨K - 2,by omega⟩
    constructor
    · rw [spec_l12Both.l0,if_neg (by omega),spec_l12Both.j1,decide_eq_false (show ¬ (j : Int) < (y.length : Int) by omega),if_neg (by decide)]
    · rw [impl_absMerge.l0,if_neg (by omega),impl_absMerge.j1,decide_eq_false (show ¬ ((y.drop j).length : Int) > 0 by omega),if_neg (by decide)]
  | succ m =>
    have ih:=ih0 m (by omega)
    intro i j acc hm hi hj hx hy ha
    have dx : ((x.drop i).length : Int) = x.length - i:=by rw [List.length_drop];omega
    have dy : ((y.drop j).length : Int) = y.length - j:=by rw [List.length_drop];omega
    have rx : rd (x.drop i) 0 = rd x (i : Int):=by simp [rd,List.getD_eq_getElem?_getD,List.getElem?_drop]
    have ry : rd (y.drop j) 0 = rd y (j : Int):=by simp [rd,List.getD_eq_getElem?_getD,List.getElem?_drop]
    have ex : (x.drop i).drop 1 = x.drop (i + 1):=by rw [List.drop_drop]
    have ey : (y.drop j).drop 1 = y.drop (j + 1):=by rw [List.drop_drop]
    have ci : ((i : Int) + 1) = ((i + 1 : Nat) : Int):=by omega
    have cj : ((j : Int) + 1) = ((j + 1 : Nat) : Int):=by omega
    have al : acc.length < 17592186044416:=by omega
    by_cases c1 : j = y.length
    · obtain ⟨r,hr,h⟩:=ih (i + 1) j (acc ++ [rd x (i : Int)]) (by omega) (by omega) hj hx hy (by rw [List.length_append,List.length_singleton];omega)
      refine ⟨r,by rw [List.length_append,List.length_singleton] at hr;omega,fun K hK=>?_⟩
      obtain ⟨K,rfl⟩ : ∃ n,K = n + 3:=⟨K - 3,by omega⟩
      obtain ⟨h1,h2⟩:=h K (by omega)
      constructor
      · rw [spec_l12Both.l0,if_pos (by omega),spec_l12Both.j1,if_pos rfl,if_pos (by omega),spec_l12Both.j2,if_pos rfl,if_pos (by omega),if_pos (by omega),if_pos al,wrap64_id (x:=(i : Int) + 1) (by omega) (by omega),ci,h1]
      · rw [impl_absMerge.l0,if_pos (by omega),impl_absMerge.j1,if_pos rfl,if_pos (by omega),impl_absMerge.j2,if_pos rfl,if_pos (by omega),if_pos al,if_pos (by omega),ex,rx,h2]
    by_cases c2 : i = x.length
    · obtain ⟨r,hr,h⟩:=ih i (j + 1) (acc ++ [rd y (j : Int)]) (by omega) hi (by omega) hx hy (by rw [List.length_append,List.length_singleton];omega)
      refine ⟨r,by rw [List.length_append,List.length_singleton] at hr;omega,fun K hK=>?_⟩
      obtain ⟨K,rfl⟩ : ∃ n,K = n + 3:=⟨K - 3,by omega⟩
      obtain ⟨h1,h2⟩:=h K (by omega)
      constructor
      · rw [spec_l12Both.l0,if_neg (by omega),decide_eq_true (show (j : Int) < (y.length : Int) by omega),spec_l12Both.j1,if_pos rfl,if_neg (by omega),if_neg (by omega),spec_l12Both.j2,if_neg (by decide),if_neg (by omega),if_pos (by omega),if_pos (by omega),if_pos al,wrap64_id (x:=(j : Int) + 1) (by omega) (by omega),cj,h1]
      · rw [impl_absMerge.l0,if_neg (by omega),decide_eq_true (show ((y.drop j).length : Int) > 0 by omega),impl_absMerge.j1,if_pos rfl,if_neg (by omega),if_neg (by omega),impl_absMerge.j2,if_neg (by decide),if_pos (by omega),if_pos (by omega),if_pos al,if_pos (by omega),ey,ry,h2]
    have e1 : ∀ K b,(rd x (i : Int) < rd y (j : Int)↔b = true)→spec_l12Both.l0 (K + 3) x y acc (i : Int) (j : Int) = spec_l12Both.j2 (K + 1) x y acc (i : Int) (j : Int) b:=fun K b hb=>by
      have : decide (rd x (i : Int) < rd y (j : Int)) = b:=by rw [Bool.eq_iff_iff,decide_eq_true_iff];exact hb
      rw [spec_l12Both.l0,if_pos (by omega),spec_l12Both.j1,if_pos rfl,if_neg (by omega),if_pos (by omega),if_pos (by omega),if_pos (by omega),if_pos (by omega),this]
    have e2 : ∀ K b,(rd x (i : Int) < rd y (j : Int)↔b = true)→impl_absMerge.l0 (K + 3) (x.drop i) (y.drop j) acc = impl_absMerge.j2 (K + 1) (x.drop i) (y.drop j) acc b:=fun K b hb=>by
      have : decide (rd (x.drop i) 0 < rd (y.drop j) 0) = b:=by rw [Bool.eq_iff_iff,decide_eq_true_iff,rx,ry];exact hb
      rw [impl_absMerge.l0,if_pos (by omega),impl_absMerge.j1,if_pos rfl,if_neg (by omega),if_pos (by omega),if_pos (by omega),if_pos (by omega),this]
    by_cases c3 : rd x (i : Int) < rd y (j : Int)
    · obtain ⟨r,hr,h⟩:=ih (i + 1) j (acc ++ [rd x (i : Int)]) (by omega) (by omega) hj hx hy (by rw [List.length_append,List.length_singleton];omega)
      refine ⟨r,by rw [List.length_append,List.length_singleton] at hr;omega,fun K hK=>?_⟩
      obtain ⟨K,rfl⟩ : ∃ n,K = n + 3:=⟨K - 3,by omega⟩
      obtain ⟨h1,h2⟩:=h K (by omega)
      rw [e1 K true (by simp [c3]),e2 K true (by simp [c3])]
      constructor
      · rw [spec_l12Both.j2,if_pos rfl,if_pos (by omega),if_pos (by omega),if_pos al,wrap64_id (x:=(i : Int) + 1) (by omega) (by omega),ci,h1]
      · rw [impl_absMerge.j2,if_pos rfl,if_pos (by omega),if_pos al,if_pos (by omega),ex,rx,h2]
    by_cases c4 : rd x (i : Int) = rd y (j : Int)
    · by_cases m0 : m = 0
      · omega
      obtain ⟨m',rfl⟩ : ∃ n,m = n + 1:=⟨m - 1,by omega⟩
      obtain ⟨r,hr,h⟩ : ∃ r : List Int,r.length ≤ (acc ++ [rd y (j : Int)]).length + (m' + 1)∧∀ K : Nat,3 * (m' + 1) + 3 < K→spec_l12Both.l0 K x y (acc ++ [rd y (j : Int)]) ((i + 1 : Nat) : Int) ((j + 1 : Nat) : Int) = some r∧impl_absMerge.l0 K (x.drop (i + 1)) (y.drop (j + 1)) (acc ++ [rd y (j : Int)]) = some r:=by
        obtain ⟨r,hr,h⟩:=ih0 m' (by omega) (i + 1) (j + 1) (acc ++ [rd y (j : Int)]) (by omega) (by omega) (by omega) hx hy (by rw [List.length_append,List.length_singleton];omega)
        exact ⟨r,by omega,fun K hK=>h K (by omega)⟩
      refine ⟨r,by rw [List.length_append,List.length_singleton] at hr;omega,fun K hK=>?_⟩
      obtain ⟨K,rfl⟩ : ∃ n,K = n + 3:=⟨K - 3,by omega⟩
      obtain ⟨h1,h2⟩:=h K (by omega)
      rw [e1 K false (by simp [c3]),e2 K false (by simp [c3])]
      constructor
      · rw [spec_l12Both.j2,if_neg (by decide),if_pos (by omega),if_pos (by omega),if_pos (by omega),if_pos (by omega),if_pos c4,if_pos al,wrap64_id (x:=(i : Int) + 1) (by omega) (by omega),wrap64_id (x:=(j : Int) + 1) (by omega) (by omega),ci,cj,h1]
      · rw [impl_absMerge.j2,if_neg (by decide),if_neg (by omega),if_pos (by omega),if_pos (by omega),if_neg (by rw [rx,ry];omega),if_pos al,if_pos (by omega),if_pos (by omega),ex,ey,rx,c4,h2]
    · obtain ⟨r,hr,h⟩:=ih i (j + 1) (acc ++ [rd y (j : Int)]) (by omega) hi (by omega) hx hy (by rw [List.length_append,List.length_singleton];omega)
      refine ⟨r,by rw [List.length_append,List.length_singleton] at hr;omega,fun K hK=>?_⟩
      obtain ⟨K,rfl⟩ : ∃ n,K = n + 3:=⟨K - 3,by omega⟩
      obtain ⟨h1,h2⟩:=h K (by omega)
      rw [e1 K false (by simp [c3]),e2 K false (by simp [c3])]
      constructor
      · rw [spec_l12Both.j2,if_neg (by decide),if_pos (by omega),if_pos (by omega),if_pos (by omega),if_pos (by omega),if_neg c4,if_pos al,wrap64_id (x:=(j : Int) + 1) (by omega) (by omega),cj,h1]
      · rw [impl_absMerge.j2,if_neg (by decide),if_neg (by omega),if_pos (by omega),if_pos (by omega),if_pos (by rw [rx,ry];omega),if_pos al,if_pos (by omega),ey,ry,h2]
/-- What two rows in order become together. -/
noncomputable def mg (x y : List Int) : List Int:=Classical.epsilon fun r=>r.length ≤ x.length + y.length∧∀ k : Nat,8000000 ≤ k→spec_l12Both.f k x y = some r∧impl_absMerge.f k x y = some r
theorem mg_is (x y : List Int) (hx : x.length ≤ 1048576) (hy : y.length ≤ 1048576) : (mg x y).length ≤ x.length + y.length∧∀ k : Nat,8000000 ≤ k→spec_l12Both.f k x y = some (mg x y)∧impl_absMerge.f k x y = some (mg x y):=by
  refine Classical.epsilon_spec (p:=fun r=>r.length ≤ x.length + y.length∧∀ k : Nat,8000000 ≤ k→spec_l12Both.f k x y = some r∧impl_absMerge.f k x y = some r) ?_
  obtain ⟨r,hr,h⟩:=merge_loop x y _ 0 0 [] rfl (by omega) (by omega) hx hy (by simp;omega)
  refine ⟨r,by simpa using hr,fun k hk=>?_⟩
  have:=h k (by omega)
  exact this
def vj (a b : S58) : S58:=⟨(VJoin a.f0 a.f1 a.f2 a.f3 b.f0 b.f1 b.f2 b.f3).1,(VJoin a.f0 a.f1 a.f2 a.f3 b.f0 b.f1 b.f2 b.f3).2.1,(VJoin a.f0 a.f1 a.f2 a.f3 b.f0 b.f1 b.f2 b.f3).2.2.1,(VJoin a.f0 a.f1 a.f2 a.f3 b.f0 b.f1 b.f2 b.f3).2.2.2⟩
noncomputable def rj (a b : S84) : S84:=⟨a.f0 || b.f0,mg a.f1 b.f1,vj a.f2 b.f2⟩
def vjs (x y : List S58) : List S58:=(List.range x.length).map fun i=>vj (x.getD i z58) (y.getD i z58)
noncomputable def rjs (x y : List S84) : List S84:=(List.range x.length).map fun i=>rj (x.getD i z84) (y.getD i z84)
theorem vjs_len (x y : List S58) : (vjs x y).length = x.length:=by simp [vjs]
theorem rjs_len (x y : List S84) : (rjs x y).length = x.length:=by simp [rjs]
theorem vjs_get (x y : List S58) {i : Int} (h0 : 0 ≤ i) (h : i < (x.length : Int)) : (vjs x y).getD i.toNat z58 = vj (rd_T58 x i) (rd_T58 y i):=by
  unfold vjs rd_T58
  rw [List.getD_eq_getElem?_getD,List.getElem?_map,List.getElem?_range (by omega)];rfl
theorem rjs_get (x y : List S84) {i : Int} (h0 : 0 ≤ i) (h : i < (x.length : Int)) : (rjs x y).getD i.toNat z84 = rj (rd_T84 x i) (rd_T84 y i):=by
  unfold rjs rd_T84
  rw [List.getD_eq_getElem?_getD,List.getElem?_map,List.getElem?_range (by omega)];rfl
theorem sval_eq {k : Nat} (hk : 200000000000000000001 ≤ k) (a b c d a' b' c' d' : Int) : spec_l12Val.f k a b c d a' b' c' d' false [] = some (VJoin a b c d a' b' c' d'):=by
  unfold spec_l12Val.f
  rw [if_neg (by decide),svalJoin_eq k hk];rfl
theorem gjoin_both {k : Nat} {n : Int} {d d' : List Int} (g : GOk n d) (g' : GOk n d') (hk : 3000000 ≤ k) : ∃ r,spec_GapsJoin.f k n d n d' = some (n,r)∧impl_GapsJoin.f k n d n d' = some (n,r)∧r.length ≤ 169:=by
  obtain ⟨k,rfl⟩ : ∃ j,k = j + 1:=⟨k - 1,by omega⟩
  have l:=len_small g.1 g.2.1 g.2.2.1
  have hl : d'.length = d.length:=by have:=g.2.2.1;have:=g'.2.2.1;omega
  obtain ⟨b,e,hb⟩:=sl11Two_eq (k:=k + 1) n d n d' (by omega)
  unfold spec_GapsJoin.f impl_GapsJoin.f
  rw [e,Option.bind_some,if_pos (hb.mpr ⟨g,g',rfl⟩),gapsOk_yes g (by omega),Option.bind_some,if_pos rfl,gapsOk_yes g' (by omega),Option.bind_some,if_pos rfl,show (n != n) = false by simp,impl_GapsJoin.j0,if_neg (by decide),clone_eq n d (by omega),Option.bind_some]
  exact join_loop d d' n n l hl d.length (k + 1) k 0 [] d (by omega) (by omega) (by omega) rfl rfl (fun j hj=>absurd hj (by omega)) (fun _ _=>rfl)
section
variable {i i' : List S58} {r r' : List S84} {c c' : List S58} {n n' : Int} {d d' : List Int}
theorem smix_eq (sm : ASmall i r c) (sm' : ASmall i' r' c') (e1 : i.length = i'.length) (e2 : r.length = r'.length) (e3 : c.length = c'.length) (q : Int) (e : List Int) {k : Nat} (hk : 300000000000000000000 ≤ k) :
    spec_l12Mix.l0 k false [] 0 true i r c n d true i' r' c' n' d' true [] q e = some (true,vjs i i',rjs r r',vjs c c',q,e):=by
  obtain ⟨hi,hr,hc,ha⟩:=sm
  obtain ⟨hi',hr',hc',ha'⟩:=sm'
  have v1:=vjs_len i i'
  have v2:=rjs_len r r'
  have v3:=vjs_len c c'
  have h2 : ∀ k : Nat,210000000000000000000 ≤ k→spec_l12Mix.l2 k false [] 0 true i r c n d true i' r' c' n' d' true (vjs i i') (rjs r r') [] q e = some (true,vjs i i',rjs r r',vjs c c',q,e):=fun k hk=>by
    refine builds (g:=fun k acc j=>spec_l12Mix.l2 k false [] j true i r c n d true i' r' c' n' d' true (vjs i i') (rjs r r') acc q e) (vjs c c') z58 200000000000000000001 (fun k acc j hk h0 h1 hl=>?_) (fun k _=>?_) _ k 0 [] rfl (by omega) (by omega) (by omega) (by simp)
    · try dsimp only
      rw [spec_l12Mix.l2,if_pos (show j < (c.length : Int) by omega),if_pos h0,if_pos (show j < (c'.length : Int) by omega),sval_eq hk,Option.bind_some,if_pos (by omega),wrap64_id (x:=j + 1) (by omega) (by omega),vjs_get c c' h0 (by omega)]
      rfl
    · try dsimp only
      rw [spec_l12Mix.l2,if_neg (by omega)]
  have h1 : ∀ k : Nat,220000000000000000000 ≤ k→spec_l12Mix.l1 k false [] 0 true i r c n d true i' r' c' n' d' true (vjs i i') [] q e = some (true,vjs i i',rjs r r',vjs c c',q,e):=fun k hk=>by
    refine builds (g:=fun k acc j=>spec_l12Mix.l1 k false [] j true i r c n d true i' r' c' n' d' true (vjs i i') acc q e) (rjs r r') z84 210000000000000000001 (fun k acc j hk h0 h1 hl=>?_) (fun k _=>?_) _ k 0 [] rfl (by omega) (by omega) (by omega) (by simp)
    · try dsimp only
      have m:=(mg_is _ _ (arr_small ha h0 (show j < (r.length : Int) by omega)) (arr_small ha' h0 (show j < (r'.length : Int) by omega))).2 k (by omega)
      rw [spec_l12Mix.l1,if_pos (show j < (r.length : Int) by omega),if_pos h0,if_pos (show j < (r'.length : Int) by omega),wrap64_id (x:=j + 1) (by omega) (by omega),rjs_get r r' h0 (by omega)]
      by_cases z : (rd_T84 r j).f0 = true
      · rw [if_pos z,m.1,Option.bind_some,sval_eq (by omega),Option.bind_some,if_pos (by omega)];unfold rj;rw [z];rfl
      · rw [if_neg z,m.1,Option.bind_some,sval_eq (by omega),Option.bind_some,if_pos (by omega)];unfold rj;rw [Bool.eq_false_iff.mpr z];rfl
    · try dsimp only
      rw [spec_l12Mix.l1,if_neg (by omega)]
      exact h2 k (by omega)
  refine builds (g:=fun k acc j=>spec_l12Mix.l0 k false [] j true i r c n d true i' r' c' n' d' true acc q e) (vjs i i') z58 230000000000000000001 (fun k acc j hk h0 h1 hl=>?_) (fun k _=>?_) _ k 0 [] rfl (by omega) (by omega) (by omega) (by simp)
  · try dsimp only
    rw [spec_l12Mix.l0,if_pos (show j < (i.length : Int) by omega),if_pos h0,if_pos (show j < (i'.length : Int) by omega),sval_eq (by omega),Option.bind_some,if_pos (by omega),wrap64_id (x:=j + 1) (by omega) (by omega),vjs_get i i' h0 (by omega)]
    rfl
  · try dsimp only
    rw [spec_l12Mix.l0,if_neg (by omega)]
    exact h1 k (by omega)
theorem imix_eq (sm : ASmall i r c) (sm' : ASmall i' r' c') (e1 : i.length = i'.length) (e2 : r.length = r'.length) (e3 : c.length = c'.length) (q : Int) (e : List Int) {k : Nat} (hk : 300000000000000000000 ≤ k) :
    impl_absBoth_ValJoin_GapsJoin.l0 k i (i.length : Int) 0 true i r c n d true i' r' c' n' d' true [] q e = some (true,vjs i i',rjs r r',vjs c c',q,e):=by
  obtain ⟨hi,hr,hc,ha⟩:=sm
  obtain ⟨hi',hr',hc',ha'⟩:=sm'
  have v1:=vjs_len i i'
  have v2:=rjs_len r r'
  have v3:=vjs_len c c'
  have h2 : ∀ k : Nat,210000000000100000000 ≤ k→impl_absBoth_ValJoin_GapsJoin.l2 k r (r.length : Int) 0 true i' r' c' n' d' true (vjs i i') [] (vjs c c') q e = some (true,vjs i i',rjs r r',vjs c c',q,e):=fun k hk=>by
    refine builds (g:=fun k acc j=>impl_absBoth_ValJoin_GapsJoin.l2 k r (r.length : Int) j true i' r' c' n' d' true (vjs i i') acc (vjs c c') q e) (rjs r r') z84 210000000000000000001 (fun k acc j hk h0 h1 hl=>?_) (fun k _=>?_) _ k 0 [] rfl (by omega) (by omega) (by omega) (by simp)
    · try dsimp only
      have m:=(mg_is _ _ (arr_small ha h0 (show j < (r.length : Int) by omega)) (arr_small ha' h0 (show j < (r'.length : Int) by omega))).2 k (by omega)
      rw [impl_absBoth_ValJoin_GapsJoin.l2,if_pos (show j < (r.length : Int) by omega),if_pos h0,if_pos (show j < (r.length : Int) by omega),if_pos (show j < (r'.length : Int) by omega),wrap64_id (x:=j + 1) (by omega) (by omega),rjs_get r r' h0 (by omega)]
      by_cases z : (rd_T84 r j).f0 = true
      · rw [if_pos z,m.2,Option.bind_some,valJoin_eq _ (by omega),Option.bind_some,if_pos (by omega)];unfold rj;rw [z];rfl
      · rw [if_neg z,m.2,Option.bind_some,valJoin_eq _ (by omega),Option.bind_some,if_pos (by omega)];unfold rj;rw [Bool.eq_false_iff.mpr z];rfl
    · try dsimp only
      rw [impl_absBoth_ValJoin_GapsJoin.l2,if_neg (by omega)]
  have h1 : ∀ k : Nat,220000000000000000000 ≤ k→impl_absBoth_ValJoin_GapsJoin.l1 k c (c.length : Int) 0 true i r c n d true i' r' c' n' d' true (vjs i i') [] q e = some (true,vjs i i',rjs r r',vjs c c',q,e):=fun k hk=>by
    refine builds (g:=fun k acc j=>impl_absBoth_ValJoin_GapsJoin.l1 k c (c.length : Int) j true i r c n d true i' r' c' n' d' true (vjs i i') acc q e) (vjs c c') z58 210000000000100000001 (fun k acc j hk h0 h1 hl=>?_) (fun k _=>?_) _ k 0 [] rfl (by omega) (by omega) (by omega) (by simp)
    · try dsimp only
      rw [impl_absBoth_ValJoin_GapsJoin.l1,if_pos (show j < (c.length : Int) by omega),if_pos h0,if_pos (show j < (c.length : Int) by omega),if_pos (show j < (c'.length : Int) by omega),valJoin_eq _ (by omega),Option.bind_some,if_pos (by omega),wrap64_id (x:=j + 1) (by omega) (by omega),vjs_get c c' h0 (by omega)]
      rfl
    · try dsimp only
      rw [impl_absBoth_ValJoin_GapsJoin.l1,if_neg (by omega)]
      exact h2 k (by omega)
  refine builds (g:=fun k acc j=>impl_absBoth_ValJoin_GapsJoin.l0 k i (i.length : Int) j true i r c n d true i' r' c' n' d' true acc q e) (vjs i i') z58 230000000000000000001 (fun k acc j hk h0 h1 hl=>?_) (fun k _=>?_) _ k 0 [] rfl (by omega) (by omega) (by omega) (by simp)
  · try dsimp only
    rw [impl_absBoth_ValJoin_GapsJoin.l0,if_pos (show j < (i.length : Int) by omega),if_pos h0,if_pos (show j < (i.length : Int) by omega),if_pos (show j < (i'.length : Int) by omega),valJoin_eq _ (by omega),Option.bind_some,if_pos (by omega),wrap64_id (x:=j + 1) (by omega) (by omega),vjs_get i i' h0 (by omega)]
    rfl
  · try dsimp only
    rw [impl_absBoth_ValJoin_GapsJoin.l0,if_neg (by omega)]
    exact h1 k (by omega)
theorem rjs_small (sm : ASmall i r c) (sm' : ASmall i' r' c') (e2 : r.length = r'.length) (hs : ∀ x ∈ r,∀ y ∈ r',x.f1.length + y.f1.length ≤ 1048576) : ∀ z ∈ rjs r r',z.f1.length ≤ 1048576:=by
  intro z hz
  obtain ⟨j,hj,rfl⟩:=List.mem_map.mp hz
  have hj : j < r.length:=List.mem_range.mp hj
  have g1 : r.getD j z84 = r[j]:=by rw [List.getD_eq_getElem?_getD,List.getElem?_eq_getElem hj];rfl
  have g2 : r'.getD j z84 = r'[j]'(by omega):=by rw [List.getD_eq_getElem?_getD,List.getElem?_eq_getElem (by omega)];rfl
  show (mg (r.getD j z84).f1 (r'.getD j z84).f1).length ≤ _
  rw [g1,g2]
  have:=hs _ (List.getElem_mem hj) _ (List.getElem_mem (show j < r'.length by omega))
  have:=(mg_is (r[j]).f1 (r'[j]'(by omega)).f1 (by omega) (by omega)).1
  omega
theorem join_both {l l' : Bool} {k : Nat} (sm : ASmall i r c) (sm' : ASmall i' r' c') (hd : d.length ≤ 1048576) (hd' : d'.length ≤ 1048576) (hs : ∀ x ∈ r,∀ y ∈ r',x.f1.length + y.f1.length ≤ 1048576) (hk : 300000000000000000010 ≤ k) :
    ∃ s,spec_AbsJoin.f k l i r c n d l' i' r' c' n' d' = some s∧impl_AbsJoin.f k l i r c n d l' i' r' c' n' d' = some s∧TP s:=by
  obtain ⟨k,rfl⟩ : ∃ j,k = j + 2:=⟨k - 2,by omega⟩
  unfold spec_AbsJoin.f impl_AbsJoin.f spec_l12Mix.f impl_absBoth_ValJoin_GapsJoin.f
  have no : ∀ b : Bool,b = true→∃ s,(spec_l12Mix.j0 (k + 2) false [] b l i r c n d l' i' r' c' n' d').bind (fun b=>some (b.1,b.2.1,b.2.2.1,b.2.2.2.1,b.2.2.2.2.1,b.2.2.2.2.2)) = some s∧(impl_absBoth_ValJoin_GapsJoin.j0 (k + 2) b l i r c n d l' i' r' c' n' d').bind (fun b=>some (b.1,b.2.1,b.2.2.1,b.2.2.2.1,b.2.2.2.2.1,b.2.2.2.2.2)) = some s∧TP s:=fun b hb=>by
    rw [spec_l12Mix.j0,impl_absBoth_ValJoin_GapsJoin.j0,if_pos hb,if_pos hb]
    exact ⟨_,rfl,rfl,tp_none⟩
  obtain ⟨b,eb,hb⟩:=absOk_tot (k:=k + 2) (live:=l) (n:=n) (d:=d) sm (by omega)
  obtain ⟨b2,eb2,hb2⟩:=sabsOk_tot (k:=k + 2) (live:=l) (n:=n) (d:=d) sm (by omega)
  obtain ⟨b',eb',hb'⟩:=absOk_tot (k:=k + 2) (live:=l') (n:=n') (d:=d') sm' (by omega)
  obtain ⟨b2',eb2',hb2'⟩:=sabsOk_tot (k:=k + 2) (live:=l') (n:=n') (d:=d') sm' (by omega)
  rw [eb,eb2,eb',eb2',Option.bind_some,Option.bind_some,Option.bind_some,Option.bind_some,same_bool hb2 hb,same_bool hb2' hb']
  by_cases z : b = true
  case neg=>rw [if_neg z,if_neg z];exact no true rfl
  rw [if_pos z,if_pos z]
  by_cases z' : b' = true
  case neg=>rw [if_neg z',Bool.eq_false_iff.mpr z'];exact no true rfl
  rw [if_pos z',z']
  have A:=hb.mp z
  have A':=hb'.mp z'
  cases l with
  | false =>
    rw [if_neg (by decide),spec_l12Mix.j0,impl_absBoth_ValJoin_GapsJoin.j0,if_neg (by decide),if_neg (by decide),if_neg (by decide),if_neg (by decide),scopy_eq _ _ _ _ _ _ sm' hd' (by omega),aclone_eq _ _ _ _ _ _ sm' hd' (by omega)]
    exact ⟨_,rfl,rfl,sm',hd'⟩
  | true =>
    rw [if_pos rfl]
    cases l' with
    | false =>
      rw [if_neg (by decide),spec_l12Mix.j0,impl_absBoth_ValJoin_GapsJoin.j0,if_neg (by decide),if_pos rfl,if_neg (by decide),if_neg (by decide),if_pos rfl,if_neg (by decide),scopy_eq _ _ _ _ _ _ sm hd (by omega),aclone_eq _ _ _ _ _ _ sm hd (by omega)]
      exact ⟨_,rfl,rfl,sm,hd⟩
    | true =>
      rw [if_pos rfl]
      have lk : spec_l12Like.f true i r c n d true i' r' c' n' d' = impl_absAlike.f true i r c n d true i' r' c' n' d':=rfl
      have al : Tot (impl_absAlike.f true i r c n d true i' r' c' n' d') fun t=>t = true↔i.length = i'.length∧r.length = r'.length∧c.length = c'.length:=by
        unfold impl_absAlike.f
        refine Tot.ite (fun q1=>?_) (fun q1=>Tot.here ⟨fun f=>(nomatch f),fun q=>absurd q.1 (by omega)⟩)
        refine Tot.ite (fun q2=>?_) (fun q2=>Tot.here ⟨fun f=>(nomatch f),fun q=>absurd q.2.1 (by omega)⟩)
        exact Tot.here ⟨fun f=>⟨by omega,by omega,by have:=of_decide_eq_true f;omega⟩,fun q=>by simp [q.2.2]⟩
      obtain ⟨t,et,ht⟩:=al
      rw [lk,et,Option.bind_some]
      by_cases q : t = true
      case neg =>
        rw [Bool.eq_false_iff.mpr q,spec_l12Mix.j0,if_pos (show (!false) = true from rfl),impl_absBoth_ValJoin_GapsJoin.j0,if_neg (by decide),if_pos rfl,if_pos rfl,et,Option.bind_some,Option.bind_some,if_neg q]
        exact ⟨_,rfl,rfl,tp_none⟩
      obtain ⟨e1,e2,e3⟩:=ht.mp q
      rcases A with ⟨_,_,_,_,g,hn⟩ | ⟨f,_⟩
      case inr=>exact nomatch f
      rcases A' with ⟨_,_,_,_,g',hn'⟩ | ⟨f,_⟩
      case inr=>exact nomatch f
      have en : n' = n:=by omega
      subst en
      obtain ⟨x,x1,x2,x3⟩:=gjoin_both (k:=k + 1) g g' (by omega)
      rw [q,spec_l12Mix.j0,impl_absBoth_ValJoin_GapsJoin.j0,if_neg (by decide),if_pos rfl,if_pos rfl,x1,Option.bind_some,if_neg (by decide),spec_l12Mix.j1,if_neg (by decide),if_pos rfl,if_pos rfl,et,Option.bind_some,if_pos q,x2,Option.bind_some,smix_eq sm sm' e1 e2 e3 _ _ (by omega),imix_eq sm sm' e1 e2 e3 _ _ (by omega)]
      obtain ⟨hi,hr,hc,ha⟩:=sm
      exact ⟨_,rfl,rfl,⟨by rw [vjs_len];exact hi,by rw [rjs_len];exact hr,by rw [vjs_len];exact hc,rjs_small ⟨hi,hr,hc,ha⟩ sm' e2 hs⟩,by show x.length ≤ _;omega⟩
end
theorem mark_vals (x0 : List S58) (hx : x0.length ≤ 1048576) : ∀ (m k : Nat) (i : Int) (x : List S58) (a : Int),x.length = x0.length→((x.length : Int) - i).toNat = m→0 ≤ i→i ≤ (x.length : Int)→m < k→0 ≤ a→a + 4 * m ≤ 9007199254740992→
    ∃ y,laws_markValS.l0 k x a i = some (a + 4 * m,y)∧y.length = x.length∧(∀ p : Int,0 ≤ p→p < i→rd_T58 y p = rd_T58 x p)∧laws_heldValS.l0 k y a i = some (a + 4 * m):=by
  intro m
  induction m with
  | zero =>
    intro k i x a hl hm h0 h1 hk ha hb
    obtain ⟨k,rfl⟩ : ∃ j,k = j + 1:=⟨k - 1,by omega⟩
    refine ⟨x,?_,rfl,fun _ _ _=>rfl,?_⟩
    · rw [laws_markValS.l0,if_neg (by omega)];simp
    · rw [laws_heldValS.l0,if_neg (by omega)];simp
  | succ m ih =>
    intro k i x a hl hm h0 h1 hk ha hb
    obtain ⟨k,rfl⟩ : ∃ j,k = j + 1:=⟨k - 1,by omega⟩
    have hi : i < (x.length : Int):=by omega
    obtain ⟨y,y1,y2,y3,y4⟩:=ih k (i + 1) (x.set i.toNat ⟨a,a + 1,a + 1 + 1,a + 1 + 1 + 1⟩) (a + 1 + 1 + 1 + 1) (by rw [List.length_set];exact hl) (by rw [List.length_set];omega) (by omega) (by rw [List.length_set];omega) (by omega) (by omega) (by omega)
    have s : ∀ (z : List S58) (v : S58),i < (z.length : Int)→rd_T58 (z.set i.toNat v) i = v:=fun z v hz=>by rw [rdv_set v h0 hz h0,if_pos rfl]
    have yi : rd_T58 y i = ⟨a,a + 1,a + 1 + 1,a + 1 + 1 + 1⟩:=by rw [y3 i h0 (by omega),s _ _ hi]
    refine ⟨y,?_,by rw [y2,List.length_set],fun p hp hp'=>by rw [y3 p hp (by omega),rdv_set _ h0 hi hp,if_neg (by omega)],?_⟩
    · rw [laws_markValS.l0,if_pos hi,if_pos h0,Option.bind_some,Option.bind_some,Option.bind_some,wrap64_id (x:=a + 1) (by omega) (by omega),wrap64_id (x:=a + 1 + 1) (by omega) (by omega),wrap64_id (x:=a + 1 + 1 + 1) (by omega) (by omega),wrap64_id (x:=a + 1 + 1 + 1 + 1) (by omega) (by omega),wrap64_id (x:=i + 1) (by omega) (by omega)]
      have sx:=fun v=>s x v hi
      simp only [List.set_set,sx]
      rw [y1]
      congr 2;omega
    · rw [laws_heldValS.l0,if_pos (by rw [y2,List.length_set];exact hi),if_pos h0,yi]
      dsimp only
      rw [wrap64_id (x:=a + 1) (by omega) (by omega),wrap64_id (x:=a + 1 + 1) (by omega) (by omega),wrap64_id (x:=a + 1 + 1 + 1) (by omega) (by omega),wrap64_id (x:=a + 1 + 1 + 1 + 1) (by omega) (by omega),wrap64_id (x:=i + 1) (by omega) (by omega),if_pos rfl,if_pos rfl,if_pos rfl,if_pos rfl,y4]
      congr 1;omega
theorem mark_ints (x : List Int) (hx : x.length ≤ 1048576) {k : Nat} (hk : 2000000 ≤ k) {a : Int} (ha : 0 ≤ a) (hb : a ≤ 4503599627370496) :
    ∃ y,laws_markIntS.f k x a = some (a + x.length,y)∧laws_heldIntS.f k y a = some (a + x.length):=by
  obtain ⟨⟨r1,y⟩,e,h1,h2,_,h4⟩:=markIntS_loop x.length k 0 x a (by omega) (by omega) ha (by omega) hx
  have h1 : r1 = a + x.length:=h1
  have h2 : y.length = x.length:=h2
  subst h1
  refine ⟨y,?_,?_⟩
  · unfold laws_markIntS.f
    rw [show (0 : Int) = ((0 : Nat) : Int) from rfl,e]
  · unfold laws_heldIntS.f
    rw [show (0 : Int) = ((0 : Nat) : Int) from rfl,heldIntS_loop y (by omega) x.length k 0 a (by omega) (by omega) ha (by omega) (fun p hp hp'=>h4 p hp (by omega))]
theorem mark_refs : ∀ (m k : Nat) (i : Int) (x : List S84) (a : Int),x.length ≤ 1048576→((x.length : Int) - i).toNat = m→0 ≤ i→i ≤ (x.length : Int)→2000000 + m < k→0 ≤ a→a + 1048581 * m ≤ 4503599627000000→(∀ p : Int,i ≤ p→p < (x.length : Int)→(rd_T84 x p).f1.length ≤ 1048576)→
    ∃ t y,laws_markRefValS.l0 k x a i = some (t,y)∧a ≤ t∧t ≤ a + 1048581 * m∧y.length = x.length∧(∀ p : Int,0 ≤ p→p < i→rd_T84 y p = rd_T84 x p)∧laws_heldRefValS.l0 k y a i = some t:=by
  intro m
  induction m with
  | zero =>
    intro k i x a hl hm h0 h1 hk ha hb hr
    obtain ⟨k,rfl⟩ : ∃ j,k = j + 1:=⟨k - 1,by omega⟩
    refine ⟨a,x,?_,by omega,by omega,rfl,fun _ _ _=>rfl,?_⟩
    · rw [laws_markRefValS.l0,if_neg (by omega)]
    · rw [laws_heldRefValS.l0,if_neg (by omega)]
  | succ m ih =>
    intro k i x a hl hm h0 h1 hk ha hb hr
    obtain ⟨k,rfl⟩ : ∃ j,k = j + 1:=⟨k - 1,by omega⟩
    have hi : i < (x.length : Int):=by omega
    have ri:=hr i (Int.le_refl i) hi
    obtain ⟨w,w1,w2⟩:=mark_ints (rd_T84 x i).f1 ri (k:=k) (by omega) (a:=a + 1) (by omega) (by omega)
    generalize hb' : a + 1 + ((rd_T84 x i).f1.length : Int) = b at w1 w2
    obtain ⟨t,y,y1,y5,y6,y2,y3,y4⟩:=ih k (i + 1) (x.set i.toNat (mref (rd_T84 x i) a (b,w))) (b + 1 + 1 + 1 + 1) (by rw [List.length_set];exact hl) (by rw [List.length_set];omega) (by omega) (by rw [List.length_set];omega) (by omega) (by omega) (by omega) (fun p hp hp'=>by
      rw [rdr_set _ h0 hi (by omega),if_neg (by omega)];exact hr p (by omega) (by rw [List.length_set] at hp';exact hp'))
    have yi : rd_T84 y i = mref (rd_T84 x i) a (b,w):=by rw [y3 i h0 (by omega),rdr_set _ h0 hi h0,if_pos rfl]
    refine ⟨t,y,?_,by omega,by omega,by rw [y2,List.length_set],fun p hp hp'=>by rw [y3 p hp (by omega),rdr_set _ h0 hi hp,if_neg (by omega)],?_⟩
    · rw [laws_markRefValS.l0,if_pos hi,if_pos h0,wrap64_id (x:=a + 1) (by omega) (by omega),w1,Option.bind_some]
      dsimp only
      rw [wrap64_id (x:=b + 1) (by omega) (by omega),wrap64_id (x:=b + 1 + 1) (by omega) (by omega),wrap64_id (x:=b + 1 + 1 + 1) (by omega) (by omega),wrap64_id (x:=b + 1 + 1 + 1 + 1) (by omega) (by omega),wrap64_id (x:=i + 1) (by omega) (by omega),y1]
    · rw [laws_heldRefValS.l0,if_pos (by rw [y2,List.length_set];exact hi),if_pos h0,yi]
      unfold mref
      dsimp only
      rw [wrap64_id (x:=a + 1) (by omega) (by omega),w2,if_neg (by simp),Option.bind_some,wrap64_id (x:=b + 1) (by omega) (by omega),wrap64_id (x:=b + 1 + 1) (by omega) (by omega),wrap64_id (x:=b + 1 + 1 + 1) (by omega) (by omega),wrap64_id (x:=b + 1 + 1 + 1 + 1) (by omega) (by omega),wrap64_id (x:=i + 1) (by omega) (by omega),if_neg (by omega),if_pos rfl,if_pos rfl,if_pos rfl,if_pos rfl,y4]
theorem mark_abs {k : Nat} (l : Bool) {i : List S58} {r : List S84} {c : List S58} {n : Int} {d : List Int} (sm : ASmall i r c) (hd : d.length ≤ 1048576) (hk : 4000000 ≤ k) {a : Int} (a0 : 0 ≤ a) (ae : a ≤ 2000000000000) :
    ∃ m,laws_markAbs.f k i r c n d a = some m∧0 ≤ m.1∧m.1 ≤ a + 1099600000000∧laws_heldAbs.f k l m.2.1 m.2.2.1 m.2.2.2.1 n m.2.2.2.2 a = some m.1:=by
  obtain ⟨hi,hr,hc,ha⟩:=sm
  obtain ⟨y1,a1,_,_,b1⟩:=mark_vals i hi i.length k 0 i a rfl (by omega) (by omega) (by omega) (by omega) (by omega) (by omega)
  obtain ⟨t2,y2,a2,u2,v2,_,_,b2⟩:=mark_refs r.length k 0 r (a + 4 * i.length) hr (by omega) (by omega) (by omega) (by omega) (by omega) (by omega) (fun p h0 h1=>arr_small ha h0 h1)
  obtain ⟨y3,a3,_,_,b3⟩:=mark_vals c hc c.length k 0 c t2 rfl (by omega) (by omega) (by omega) (by omega) (by omega) (by omega)
  obtain ⟨y4,a4,b4⟩:=mark_held (k:=k) n n d hd (by omega) (t2 + 4 * c.length) (by omega) (by omega)
  refine ⟨(t2 + 4 * c.length + d.length,y1,y2,y3,y4),?_,by show 0 ≤ t2 + 4 * (c.length : Int) + d.length;omega,by show t2 + 4 * (c.length : Int) + d.length ≤ _;omega,?_⟩
  · unfold laws_markAbs.f laws_markValS.f laws_markRefValS.f
    rw [a1,Option.bind_some]
    dsimp only
    rw [a2,Option.bind_some]
    dsimp only
    rw [a3,Option.bind_some]
    dsimp only
    rw [a4,Option.bind_some]
  · unfold laws_heldAbs.f laws_heldValS.f laws_heldRefValS.f
    dsimp only
    rw [b1,Option.bind_some,if_neg (by omega),b2,Option.bind_some,if_neg (by omega),b3,Option.bind_some,if_neg (by omega),b4,Option.bind_some,if_neg (by omega)]
theorem FnExactAbsJoin (live : Bool) (ints : List S116) (refs : List S118) (cells : List S116) (n : Int) (d : List Int) (live' : Bool) (ints' : List S116) (refs' : List S118) (cells' : List S116) (n' : Int) (d' : List Int)
    (h1 : ints.length ≤ 9223372036854775807) (h2 : refs.length ≤ 9223372036854775807) (h4 : ∀ r ∈ refs,r.f1.length ≤ 9223372036854775807) (h3 : cells.length ≤ 9223372036854775807) (h5 : d.length ≤ 9223372036854775807)
    (h1' : ints'.length ≤ 9223372036854775807) (h2' : refs'.length ≤ 9223372036854775807) (h4' : ∀ r ∈ refs',r.f1.length ≤ 9223372036854775807) (h3' : cells'.length ≤ 9223372036854775807) (h5' : d'.length ≤ 9223372036854775807) :
    ∃ k,laws_FnExactAbsJoin.f k live ints refs cells n d live' ints' refs' cells' n' d' = some true:=by
  refine ⟨400000000000000000000,?_⟩
  refine Tot.out ?_
  unfold laws_FnExactAbsJoin.f
  refine Tot.then (szAbs_sum live ints refs cells n d 1048576 h1 h2 h3 h5 h4 (by omega) (by omega) (by omega)) ?_
  intro t ht
  refine Tot.ite (fun _=>Tot.here rfl) (fun c=>?_)
  obtain ⟨t0,t1,i1,i2,i3,i4,i5⟩:=ht.resolve_left c
  refine Tot.then (szAbs_sum live' ints' refs' cells' n' d' t h1' h2' h3' h5' h4' t0 t1 (by omega)) ?_
  intro t' ht'
  refine Tot.ite (fun _=>Tot.here rfl) (fun c'=>?_)
  obtain ⟨t0',t1',j1,j2,j3,j4,j5⟩:=ht'.resolve_left c'
  have l5 : ∀ r ∈ refs,r.f1.length ≤ 1048576:=fun r hr=>by have:=i5 r hr;omega
  have l5' : ∀ r ∈ refs',r.f1.length ≤ 1048576:=fun r hr=>by have:=j5 r hr;omega
  have sm:=small_map i1 i2 i3 l5
  have sm':=small_map j1 j2 j3 l5'
  have hs : ∀ x ∈ refs.map cr,∀ y ∈ refs'.map cr,x.f1.length + y.f1.length ≤ 1048576:=by
    intro x0 hx0 y0 hy0
    obtain ⟨x,hx,rfl⟩:=List.mem_map.mp hx0
    obtain ⟨y,hy,rfl⟩:=List.mem_map.mp hy0
    have:=i5 x hx
    have:=j5 y hy
    show x.f1.length + y.f1.length ≤ _
    omega
  rw [toAbs_eq live ints refs cells n d i1 i2 i3 l5 i4 (by omega),Option.bind_some,toAbs_eq live' ints' refs' cells' n' d' j1 j2 j3 l5' j4 (by omega),Option.bind_some]
  obtain ⟨r,r1,r2,rs,rd⟩:=join_both (k:=400000000000000000000) (l:=live) (l':=live') (n:=n) (n':=n') sm sm' i4 j4 hs (by omega)
  dsimp only
  rw [r1,r2,Option.bind_some,Option.bind_some,if_pos rfl,eqAbs_refl rs rd (by omega),Option.bind_some,if_pos rfl,eqAbs_refl sm i4 (by omega),Option.bind_some,if_pos rfl,eqAbs_refl sm' j4 (by omega),Option.bind_some,if_pos rfl]
  obtain ⟨m0,e0,p0,q0,_⟩:=mark_abs (k:=400000000000000000000) live (n:=n) sm i4 (by omega) (a:=1) (by omega) (by omega)
  rw [e0,Option.bind_some]
  obtain ⟨m1,e1,p1,q1,_⟩:=mark_abs (k:=400000000000000000000) live (n:=n') sm' j4 (by omega) (a:=m0.1) p0 (by omega)
  rw [e1,Option.bind_some]
  obtain ⟨m,e,_,_,h⟩:=mark_abs (k:=400000000000000000000) r.1 (n:=r.2.2.2.2.1) rs rd (by omega) (a:=1) (by omega) (by omega)
  unfold laws_FnExactAbsJoin.g
  rw [e,Option.bind_some,h,Option.bind_some,if_neg (by omega),if_neg (by omega)]
  exact Tot.here (by simp)
end Go.Proofs.YtklkdpcopfjmcaaGreat.Pure
