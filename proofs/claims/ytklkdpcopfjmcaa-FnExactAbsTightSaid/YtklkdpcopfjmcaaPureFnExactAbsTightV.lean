/- The program's AbsTight and the reference's tell the same at every argument. Conditions: those in each law. -/
import Derived.Test.YtklkdpcopfjmcaaLFnExactAbsTightV
import Derived.Test.YtklkdpcopfjmcaaQFnExactAbsTightx99V
namespace Go.Proofs.Ytklkdpcopfjmcaa.Pure
set_option linter.unusedVariables false
set_option linter.unusedSimpArgs false
open Go.RowKit Go.Proofs.Ytklkdpcopfjmcaa.PFnExactAbsTight Go.Proofs.Ytklkdpcopfjmcaa.LFnExactAbsTight Go.Proofs.Ytklkdpcopfjmcaa.Base Go.Proofs.YtklkdpcopfjmcaaW.PrintWords Go.Proofs.YtklkdpcopfjmcaaW.PrintLast Go.Proofs.YtklkdpcopfjmcaaW.PrintMore

theorem rdv_set {x : List S51} {i : Int} (v : S51) {j : Int} (h0 : 0 ≤ i) (h : i < (x.length : Int)) (hj : 0 ≤ j) : rd_T51 (x.set i.toNat v) j = if j = i then v else rd_T51 x j := by
  unfold rd_T51
  rw [List.getD_eq_getElem?_getD, List.getD_eq_getElem?_getD]
  by_cases e : j = i
  · subst e
    rw [if_pos rfl, List.getElem?_set_self (by omega)]; rfl
  · rw [if_neg e, List.getElem?_set_ne (by omega)]
theorem rdr_set {x : List S82} {i : Int} (v : S82) {j : Int} (h0 : 0 ≤ i) (h : i < (x.length : Int)) (hj : 0 ≤ j) : rd_T82 (x.set i.toNat v) j = if j = i then v else rd_T82 x j := by
  unfold rd_T82
  rw [List.getD_eq_getElem?_getD, List.getD_eq_getElem?_getD]
  by_cases e : j = i
  · subst e
    rw [if_pos rfl, List.getElem?_set_self (by omega)]; rfl
  · rw [if_neg e, List.getElem?_set_ne (by omega)]
/-- A loop that tells a row anew, element by element. -/
theorem builds {β γ : Type} {g : Nat → List β → Int → Option γ} {r : Option γ} (t : List β) (z : β) (K : Nat)
    (step : ∀ (k : Nat) (acc : List β) (i : Int), K ≤ k → 0 ≤ i → i < (t.length : Int) → acc.length = i.toNat → g (k + 1) acc i = g k (acc ++ [t.getD i.toNat z]) (i + 1))
    (fin : ∀ k : Nat, K ≤ k → g (k + 1) t (t.length : Int) = r) : ∀ (m k : Nat) (i : Int) (acc : List β), ((t.length : Int) - i).toNat = m → 0 ≤ i → i ≤ (t.length : Int) → K + m < k → acc = t.take i.toNat → g k acc i = r := by
  intro m
  induction m with
  | zero =>
    intro k i acc hm h0 h1 hk ha
    obtain ⟨k, rfl⟩ : ∃ j, k = j + 1 := ⟨k - 1, by omega⟩
    have e : i = (t.length : Int) := by omega
    subst e
    rw [ha, List.take_of_length_le (by omega)]
    exact fin k (by omega)
  | succ m ih =>
    intro k i acc hm h0 h1 hk ha
    obtain ⟨k, rfl⟩ : ∃ j, k = j + 1 := ⟨k - 1, by omega⟩
    rw [step k acc i (by omega) h0 (by omega) (by rw [ha, List.length_take]; omega)]
    refine ih k (i + 1) _ (by omega) (by omega) (by omega) (by omega) ?_
    have e : (i + 1).toNat = i.toNat + 1 := by omega
    rw [ha, e, List.take_add_one, List.getElem?_eq_getElem (show i.toNat < t.length by omega), List.getD_eq_getElem?_getD, List.getElem?_eq_getElem (show i.toNat < t.length by omega)]
    rfl
theorem both_nil {k : Nat} (x : List Int) (hx : x.length ≤ 1048576) (hk : 4000000 ≤ k) : spec_l12Both.f k x [] = some x := by
  unfold spec_l12Both.f
  have go : ∀ (m k : Nat) (i : Int) (acc : List Int), ((x.length : Int) - i).toNat = m → 0 ≤ i → i ≤ (x.length : Int) → 3 * m + 3 < k → acc = x.take i.toNat → spec_l12Both.l0 k x [] acc i 0 = some x := by
    intro m
    induction m with
    | zero =>
      intro k i acc hm h0 h1 hk ha
      obtain ⟨k, rfl⟩ : ∃ j, k = j + 2 := ⟨k - 2, by omega⟩
      have e : i = (x.length : Int) := by omega
      rw [spec_l12Both.l0, if_neg (by omega), spec_l12Both.j1, if_neg (by simp), ha, List.take_of_length_le (by omega)]
    | succ m ih =>
      intro k i acc hm h0 h1 hk ha
      obtain ⟨k, rfl⟩ : ∃ j, k = j + 3 := ⟨k - 3, by omega⟩
      have hl : acc.length = i.toNat := by rw [ha, List.length_take]; omega
      rw [spec_l12Both.l0, if_pos (by omega), spec_l12Both.j1, if_pos rfl, if_pos (by simp), spec_l12Both.j2, if_pos rfl, if_pos h0, if_pos (by omega), if_pos (by omega), wrap64_id (x := i + 1) (by omega) (by omega)]
      refine ih k (i + 1) _ (by omega) (by omega) (by omega) (by omega) ?_
      have e : (i + 1).toNat = i.toNat + 1 := by omega
      rw [ha, e, List.take_add_one, List.getElem?_eq_getElem (show i.toNat < x.length by omega)]
      unfold rd
      rw [List.getD_eq_getElem?_getD, List.getElem?_eq_getElem (show i.toNat < x.length by omega)]
      rfl
  exact go _ k 0 [] rfl (by omega) (by omega) (by omega) (by simp)
theorem scopy_eq {k : Nat} (live : Bool) (ints : List S51) (refs : List S82) (cells : List S51) (n : Int) (d : List Int) (sm : ASmall ints refs cells) (hd : d.length ≤ 1048576) (hk : 20000000 ≤ k) :
    spec_l12Copy.f k live ints refs cells n d = some (live, ints, refs, cells, n, d) := by
  obtain ⟨hi, hr, hc, ha⟩ := sm
  unfold spec_l12Copy.f
  rw [sl11Copy_eq n d hd (by omega), Option.bind_some]
  have h2 : ∀ k : Nat, 4000000 ≤ k → spec_l12Copy.l2 k 0 live ints refs cells n d live ints refs [] n d = some (live, ints, refs, cells, n, d) := fun k hk => by
    refine builds (g := fun k acc i => spec_l12Copy.l2 k i live ints refs cells n d live ints refs acc n d) cells z51 0 (fun k acc i _ h0 h1 hl => ?_) (fun k _ => ?_) _ k 0 [] rfl (by omega) (by omega) (by omega) (by simp)
    · try dsimp only
      rw [spec_l12Copy.l2, if_pos h1, if_pos h0, if_pos (by omega), wrap64_id (x := i + 1) (by omega) (by omega)]
      rfl
    · try dsimp only
      rw [spec_l12Copy.l2, if_neg (by omega)]
  have h1 : ∀ k : Nat, 10000000 ≤ k → spec_l12Copy.l1 k 0 live ints refs cells n d live ints [] n d = some (live, ints, refs, cells, n, d) := fun k hk => by
    refine builds (g := fun k acc i => spec_l12Copy.l1 k i live ints refs cells n d live ints acc n d) refs z82 5000000 (fun k acc i _ h0 h1 hl => ?_) (fun k _ => ?_) _ k 0 [] rfl (by omega) (by omega) (by omega) (by simp)
    · try dsimp only
      rw [spec_l12Copy.l1, if_pos h1, if_pos h0, both_nil _ (arr_small ha h0 h1) (by omega), Option.bind_some, if_pos (by omega), wrap64_id (x := i + 1) (by omega) (by omega)]
      rfl
    · try dsimp only
      rw [spec_l12Copy.l1, if_neg (by omega)]
      exact h2 k (by omega)
  refine builds (g := fun k acc i => spec_l12Copy.l0 k i live ints refs cells n d live acc n d) ints z51 15000000 (fun k acc i _ h0 h1 hl => ?_) (fun k _ => ?_) _ k 0 [] rfl (by omega) (by omega) (by omega) (by simp)
  · try dsimp only
    rw [spec_l12Copy.l0, if_pos h1, if_pos h0, if_pos (by omega), wrap64_id (x := i + 1) (by omega) (by omega)]
    rfl
  · try dsimp only
    rw [spec_l12Copy.l0, if_neg (by omega)]
    exact h1 k (by omega)
theorem aclone_eq {k : Nat} (live : Bool) (ints : List S51) (refs : List S82) (cells : List S51) (n : Int) (d : List Int) (sm : ASmall ints refs cells) (hd : d.length ≤ 1048576) (hk : 20000000 ≤ k) :
    impl_Abs_clone.f k live ints refs cells n d = some (live, ints, refs, cells, n, d) := by
  obtain ⟨hi, hr, hc, ha⟩ := sm
  unfold impl_Abs_clone.f
  rw [if_pos (by simp; omega), if_pos (by simp; omega), clone_eq n d hd, Option.bind_some, List.nil_append, List.nil_append]
  refine builds (g := fun k acc i => impl_Abs_clone.l0 k refs (refs.length : Int) i live ints acc cells n d) refs z82 0 (fun k acc i _ h0 h1 hl => ?_) (fun k _ => ?_) _ k 0 [] rfl (by omega) (by omega) (by omega) (by simp)
  · try dsimp only
    rw [impl_Abs_clone.l0, if_pos h1, if_pos h0, if_pos h1, wrap64_id (x := i + 1) (by omega) (by omega)]
    unfold impl_RefVal_clone.f
    have := arr_small ha h0 h1
    rw [if_pos (by simp; omega), Option.bind_some, if_pos (by omega)]
    rfl
  · try dsimp only
    rw [impl_Abs_clone.l0, if_neg (by omega)]
theorem scut_yes {k : Nat} {n : Int} {d : List Int} {i j c : Int} (g : GOk n d) (hi0 : 0 ≤ i) (hi : i ≤ n) (hj0 : 0 ≤ j) (hj : j ≤ n) (ne : i ≠ j) (c0 : -4294967296 ≤ c) (c1 : c ≤ 4294967296) (hk : 3000000 ≤ k) :
    spec_GapsCut.f k n d i j c = some (n, d.set (i * (n + 1) + j).toNat (mn (rd d (i * (n + 1) + j)) c)) := by
  obtain ⟨k, rfl⟩ : ∃ j, k = j + 1 := ⟨k - 1, by omega⟩
  have g' := g
  obtain ⟨h0, h, hl, _, _⟩ := g'
  have sm := len_small h0 h hl
  have ix := idx_in h0 h hi0 hi hj0 hj
  unfold spec_GapsCut.f
  rw [sGapsOk_yes g (by omega), Option.bind_some, if_pos rfl, sin_eq, Option.bind_some, decide_eq_true (show 0 ≤ i ∧ i ≤ n from ⟨hi0, hi⟩), if_pos rfl, sin_eq, Option.bind_some, decide_eq_true (show 0 ≤ j ∧ j ≤ n from ⟨hj0, hj⟩), if_pos rfl, if_neg ne, sl11C_eq, Option.bind_some, decide_eq_true (show -4294967296 ≤ c ∧ c ≤ 4294967296 from ⟨c0, c1⟩), spec_GapsCut.j0]
  rw [if_neg (by simp), sl11Copy_eq n d (by omega) (by omega), Option.bind_some, sl11At_eq h0 h hl hi0 hi hj0 hj, Option.bind_some]
  show (if c < gat n d i j then _ else _) = _
  unfold mn
  by_cases q : c < gat n d i j
  · rw [if_pos q, if_pos (show c < rd d (i * (n + 1) + j) from q)]
    show (spec_l11Put.f n d i j c).bind _ = _
    rw [sl11Put_eq c h0 h hl hi0 hi hj0 hj]; rfl
  · rw [if_neg q, if_neg (show ¬ c < rd d (i * (n + 1) + j) from q)]
    have e2 : (((i * (n + 1) + j).toNat : Nat) : Int) = i * (n + 1) + j := by omega
    have := set_rd d (i * (n + 1) + j).toNat (by omega)
    rw [e2] at this
    rw [this]
theorem gok_cut {n : Int} {d : List Int} {i j c : Int} (g : GOk n d) (hi0 : 0 ≤ i) (hi : i ≤ n) (hj0 : 0 ≤ j) (hj : j ≤ n) (ne : i ≠ j) (c0 : -4294967296 ≤ c) (c1 : c ≤ 4294967296) :
    GOk n (d.set (i * (n + 1) + j).toNat (mn (rd d (i * (n + 1) + j)) c)) := by
  obtain ⟨h0, h, hl, a, b⟩ := g
  have sm := len_small h0 h hl
  have ix := idx_in h0 h hi0 hi hj0 hj
  refine ⟨h0, h, by rw [List.length_set]; exact hl, fun p hp hp' => ?_, fun q hq hq' => ?_⟩
  · rw [List.length_set] at hp'
    rw [rd_set _ _ _ _ (by omega) hp]
    have u := a p hp hp'
    have v := a (i * (n + 1) + j) (by omega) (by omega)
    unfold DIn at u v ⊢
    unfold mn
    split
    · split <;> omega
    · exact u
  · have iq := idx_in h0 h hq hq' hq hq'
    rw [rd_set _ _ _ _ (by omega) (by omega), if_neg ?_]
    · exact b q hq hq'
    · intro e
      have := idx_inj h0 h hq hq' hq hq' hi0 hi hj0 hj (by omega)
      omega
/-- What an answer's rows may be long. -/
def TP (r : Bool × List S51 × List S82 × List S51 × Int × List Int) : Prop := ASmall r.2.1 r.2.2.1 r.2.2.2.1 ∧ r.2.2.2.2.2.length ≤ 1048576
theorem tp_none : TP (false, [], [], [], 0, []) := ⟨⟨by simp, by simp, by simp, by simp⟩, by simp⟩
theorem tight_l1 {live : Bool} {ints : List S51} {refs : List S82} {cells : List S51} {n0 : Int} {d0 : List Int} {n : Int} {d : List Int} (sm : ASmall ints refs cells) (hd : d.length ≤ 1048576) : ∀ (m k : Nat) (i : Int) (cur : List S51), ((ints.length : Int) - i).toNat = m → 0 ≤ i → i ≤ (ints.length : Int) → 300000000000000000000 + m < k → cur.length = ints.length → (∀ j : Int, i ≤ j → rd_T51 cur j = rd_T51 ints j) →
    ∃ r, spec_AbsTight.l1 k i live ints refs cells n0 d0 live cur refs cells n d n d = some r ∧ impl_AbsTight.l1 k (ints.length : Int) i live cur refs cells n d n d = some r ∧ TP r := by
  intro m
  have sm' := sm
  obtain ⟨hi, hr, hc, ha⟩ := sm'
  induction m with
  | zero =>
    intro k i cur hm h0 h1 hk hl he
    obtain ⟨k, rfl⟩ : ∃ j, k = j + 1 := ⟨k - 1, by omega⟩
    refine ⟨(live, cur, refs, cells, n, d), ?_, ?_, ⟨⟨by show cur.length ≤ _; omega, hr, hc, ha⟩, hd⟩⟩
    · rw [spec_AbsTight.l1, if_neg (by omega)]
    · rw [impl_AbsTight.l1, if_neg (by omega)]
  | succ m ih =>
    intro k i cur hm h0 h1 hk hl he
    obtain ⟨k, rfl⟩ : ∃ j, k = j + 1 := ⟨k - 1, by omega⟩
    obtain ⟨q, q1, q2⟩ := range_both (k := k) n d (i + 1) (by omega)
    rw [spec_AbsTight.l1, impl_AbsTight.l1, if_pos (show i < (ints.length : Int) by omega), if_pos h0, if_pos (show i < (ints.length : Int) by omega), if_pos h0, if_pos (show i < (cur.length : Int) by omega), wrap64_id (x := i + 1) (by omega) (by omega), q1, q2, Option.bind_some, Option.bind_some, srestAll_eq, restAll_eq, Option.bind_some, Option.bind_some, svalMake_eq _ (by omega), valMake_eq _ (by omega), Option.bind_some, Option.bind_some, svalMeet_eq _ (by omega), valMeet_eq _ (by omega), Option.bind_some, Option.bind_some, he i (Int.le_refl i), if_pos (show i < (cur.length : Int) by omega), Option.bind_some, svalNone_eq, Option.bind_some, valNone_q, Option.bind_some]
    generalize VMeet (rd_T51 ints i).f0 (rd_T51 ints i).f1 (rd_T51 ints i).f2 (rd_T51 ints i).f3 _ _ _ _ = u
    rw [rdv_set _ h0 (by omega) h0, if_pos rfl]
    dsimp only
    by_cases z : (u.1 == 1 && (u.2.1 == 0 && (u.2.2.1 == 0 && u.2.2.2 == 0))) = true
    · rw [if_pos z, if_pos z]
      exact ⟨_, rfl, rfl, tp_none⟩
    · rw [if_neg z, if_neg z]
      refine ih k (i + 1) _ (by omega) (by omega) (by omega) (by omega) (by rw [List.length_set]; exact hl) fun j hj => ?_
      rw [rdv_set _ h0 (by omega) (by omega), if_neg (by omega)]
      exact he j (by omega)
theorem tight_l0 {live : Bool} {ints : List S51} {refs : List S82} {cells : List S51} {n : Int} {d : List Int} (sm : ASmall ints refs cells) (hn : n = (ints.length : Int)) (hv : ∀ v ∈ ints, VGood v) : ∀ (m k : Nat) (i : Int) (e : List Int), ((ints.length : Int) - i).toNat = m → 0 ≤ i → i ≤ (ints.length : Int) → 300000000000010000000 + m < k → GOk n e →
    ∃ r, spec_AbsTight.l0 k i live ints refs cells n d live ints refs cells n d n e = some r ∧ impl_AbsTight.l0 k ints (ints.length : Int) i live ints refs cells n e = some r ∧ TP r := by
  intro m
  have hi : ints.length ≤ 1048576 := sm.1
  induction m with
  | zero =>
    intro k i e hm h0 h1 hk g
    obtain ⟨k, rfl⟩ : ∃ j, k = j + 1 := ⟨k - 1, by omega⟩
    obtain ⟨q, q1, q2, q3, _⟩ := close_full (k := k) n e (by omega)
    rw [spec_AbsTight.l0, impl_AbsTight.l0, if_neg (by omega), if_neg (by omega), q1, q2, Option.bind_some, Option.bind_some]
    by_cases z : q.2.2 = true
    · rw [if_pos z, if_pos z]
      exact tight_l1 sm (by omega) _ k 0 ints rfl (by omega) (by omega) (by omega) rfl (fun _ _ => rfl)
    · rw [if_neg z, if_neg z]
      exact ⟨_, rfl, rfl, tp_none⟩
  | succ m ih =>
    intro k i e hm h0 h1 hk g
    obtain ⟨k, rfl⟩ : ∃ j, k = j + 1 := ⟨k - 1, by omega⟩
    have g' := g
    obtain ⟨n0, n1, hl, _, _⟩ := g'
    obtain ⟨o, on⟩ := (all_get ints z51 VGood).mpr hv i h0 (by omega)
    obtain ⟨ro, rl, _⟩ := vok_parts o on
    change VOk (rd_T51 ints i).f0 (rd_T51 ints i).f1 _ _ at o
    change ROk (rd_T51 ints i).f0 (rd_T51 ints i).f1 at ro
    change ¬ (rd_T51 ints i).f0 > (rd_T51 ints i).f1 at rl
    have b : NOk (rd_T51 ints i).f0 ∧ NOk (rd_T51 ints i).f1 := ro.elim (fun q => absurd rl (by omega)) (fun q => ⟨q.1, q.2.1⟩)
    obtain ⟨b0, b1⟩ := b
    unfold NOk at b0 b1
    have x1 := idx_in n0 n1 (show 0 ≤ i + 1 by omega) (show i + 1 ≤ n by omega) (Int.le_refl 0) n0
    have x2 := idx_in n0 n1 (Int.le_refl 0) n0 (show 0 ≤ i + 1 by omega) (show i + 1 ≤ n by omega)
    have g1 := gok_cut (c := (rd_T51 ints i).f1) g (show 0 ≤ i + 1 by omega) (show i + 1 ≤ n by omega) (Int.le_refl 0) n0 (by omega) (by omega) (by omega)
    have g2 := gok_cut (c := -(rd_T51 ints i).f0) g1 (Int.le_refl 0) n0 (show 0 ≤ i + 1 by omega) (show i + 1 ≤ n by omega) (by omega) (by omega) (by omega)
    rw [spec_AbsTight.l0, impl_AbsTight.l0, if_pos (show i < (ints.length : Int) by omega), if_pos h0, if_pos (show i < (ints.length : Int) by omega), if_pos h0, if_pos (show i < (ints.length : Int) by omega), wrap64_id (x := i + 1) (by omega) (by omega), wrap64_id (x := -(rd_T51 ints i).f0) (by omega) (by omega),
      scut_yes g (show 0 ≤ i + 1 by omega) (show i + 1 ≤ n by omega) (Int.le_refl 0) n0 (by omega) (by omega) (by omega) (by omega), Option.bind_some,
      gapsAt_eq n0 n1 (show 0 ≤ i + 1 by omega) (show i + 1 ≤ n by omega) (Int.le_refl 0) n0, Option.bind_some, gapsAt_eq n0 n1 (Int.le_refl 0) n0 (show 0 ≤ i + 1 by omega) (show i + 1 ≤ n by omega), Option.bind_some,
      if_pos x1.1, if_pos (show (i + 1) * (n + 1) + 0 < (e.length : Int) by omega), Option.bind_some, if_pos x2.1, if_pos (show 0 * (n + 1) + (i + 1) < (e.length : Int) by omega)]
    dsimp only
    rw [scut_yes g1 (Int.le_refl 0) n0 (show 0 ≤ i + 1 by omega) (show i + 1 ≤ n by omega) (by omega) (by omega) (by omega) (by omega), Option.bind_some]
    exact ih k (i + 1) _ (by omega) (by omega) (by omega) (by omega) g2
theorem tight_both {k : Nat} {live : Bool} {ints : List S51} {refs : List S82} {cells : List S51} {n : Int} {d : List Int} (sm : ASmall ints refs cells) (hd : d.length ≤ 1048576) (hk : 300000000000020000000 ≤ k) :
    ∃ r, spec_AbsTight.f k live ints refs cells n d = some r ∧ impl_AbsTight.f k live ints refs cells n d = some r ∧ TP r := by
  obtain ⟨k, rfl⟩ : ∃ j, k = j + 1 := ⟨k - 1, by omega⟩
  have no : ∀ b : Bool, b = true → ∃ r, spec_AbsTight.j0 (k + 1) b live ints refs cells n d = some r ∧ impl_AbsTight.j0 (k + 1) b live ints refs cells n d = some r ∧ TP r := fun b hb => by
    rw [spec_AbsTight.j0, impl_AbsTight.j0, if_pos hb, if_pos hb]
    exact ⟨_, rfl, rfl, tp_none⟩
  obtain ⟨b, e, hb⟩ := absOk_tot (k := k + 1) (live := live) (n := n) (d := d) sm (by omega)
  obtain ⟨b', e', hb'⟩ := sabsOk_tot (k := k + 1) (live := live) (n := n) (d := d) sm (by omega)
  unfold spec_AbsTight.f impl_AbsTight.f
  rw [e, e', Option.bind_some, Option.bind_some, same_bool hb' hb]
  by_cases z : b = true
  · rw [if_pos z, if_pos z]
    rcases hb.mp z with ⟨l, v, _, _, g, hn⟩ | ⟨l, _⟩
    · subst l
      rw [spec_AbsTight.j0, impl_AbsTight.j0, if_neg (by decide), if_neg (by decide), scopy_eq _ _ _ _ _ _ sm hd (by omega), aclone_eq _ _ _ _ _ _ sm hd (by omega), Option.bind_some, Option.bind_some]
      have := sm.1
      exact tight_l0 sm hn v _ k 0 d rfl (by omega) (by omega) (by omega) g
    · exact no _ (by rw [l]; rfl)
  · rw [if_neg z, if_neg z]
    exact no true rfl
theorem mark_vals (x0 : List S51) (hx : x0.length ≤ 1048576) : ∀ (m k : Nat) (i : Int) (x : List S51) (a : Int), x.length = x0.length → ((x.length : Int) - i).toNat = m → 0 ≤ i → i ≤ (x.length : Int) → m < k → 0 ≤ a → a + 4 * m ≤ 9007199254740992 →
    ∃ y, laws_markValS.l0 k x a i = some (a + 4 * m, y) ∧ y.length = x.length ∧ (∀ p : Int, 0 ≤ p → p < i → rd_T51 y p = rd_T51 x p) ∧ laws_heldValS.l0 k y a i = some (a + 4 * m) := by
  intro m
  induction m with
  | zero =>
    intro k i x a hl hm h0 h1 hk ha hb
    obtain ⟨k, rfl⟩ : ∃ j, k = j + 1 := ⟨k - 1, by omega⟩
    refine ⟨x, ?_, rfl, fun _ _ _ => rfl, ?_⟩
    · rw [laws_markValS.l0, if_neg (by omega)]; simp
    · rw [laws_heldValS.l0, if_neg (by omega)]; simp
  | succ m ih =>
    intro k i x a hl hm h0 h1 hk ha hb
    obtain ⟨k, rfl⟩ : ∃ j, k = j + 1 := ⟨k - 1, by omega⟩
    have hi : i < (x.length : Int) := by omega
    obtain ⟨y, y1, y2, y3, y4⟩ := ih k (i + 1) (x.set i.toNat ⟨a, a + 1, a + 1 + 1, a + 1 + 1 + 1⟩) (a + 1 + 1 + 1 + 1) (by rw [List.length_set]; exact hl) (by rw [List.length_set]; omega) (by omega) (by rw [List.length_set]; omega) (by omega) (by omega) (by omega)
    have s : ∀ (z : List S51) (v : S51), i < (z.length : Int) → rd_T51 (z.set i.toNat v) i = v := fun z v hz => by rw [rdv_set v h0 hz h0, if_pos rfl]
    have yi : rd_T51 y i = ⟨a, a + 1, a + 1 + 1, a + 1 + 1 + 1⟩ := by rw [y3 i h0 (by omega), s _ _ hi]
    refine ⟨y, ?_, by rw [y2, List.length_set], fun p hp hp' => by rw [y3 p hp (by omega), rdv_set _ h0 hi hp, if_neg (by omega)], ?_⟩
    · rw [laws_markValS.l0, if_pos hi, if_pos h0, Option.bind_some, Option.bind_some, Option.bind_some, wrap64_id (x := a + 1) (by omega) (by omega), wrap64_id (x := a + 1 + 1) (by omega) (by omega), wrap64_id (x := a + 1 + 1 + 1) (by omega) (by omega), wrap64_id (x := a + 1 + 1 + 1 + 1) (by omega) (by omega), wrap64_id (x := i + 1) (by omega) (by omega)]
      have sx := fun v => s x v hi
      simp only [List.set_set, sx]
      rw [y1]
      congr 2; omega
    · rw [laws_heldValS.l0, if_pos (by rw [y2, List.length_set]; exact hi), if_pos h0, yi]
      dsimp only
      rw [wrap64_id (x := a + 1) (by omega) (by omega), wrap64_id (x := a + 1 + 1) (by omega) (by omega), wrap64_id (x := a + 1 + 1 + 1) (by omega) (by omega), wrap64_id (x := a + 1 + 1 + 1 + 1) (by omega) (by omega), wrap64_id (x := i + 1) (by omega) (by omega), if_pos rfl, if_pos rfl, if_pos rfl, if_pos rfl, y4]
      congr 1; omega
theorem mark_ints (x : List Int) (hx : x.length ≤ 1048576) {k : Nat} (hk : 2000000 ≤ k) {a : Int} (ha : 0 ≤ a) (hb : a ≤ 4503599627370496) :
    ∃ y, laws_markIntS.f k x a = some (a + x.length, y) ∧ laws_heldIntS.f k y a = some (a + x.length) := by
  obtain ⟨⟨r1, y⟩, e, h1, h2, _, h4⟩ := markIntS_loop x.length k 0 x a (by omega) (by omega) ha (by omega) hx
  have h1 : r1 = a + x.length := h1
  have h2 : y.length = x.length := h2
  subst h1
  refine ⟨y, ?_, ?_⟩
  · unfold laws_markIntS.f
    rw [show (0 : Int) = ((0 : Nat) : Int) from rfl, e]
  · unfold laws_heldIntS.f
    rw [show (0 : Int) = ((0 : Nat) : Int) from rfl, heldIntS_loop y (by omega) x.length k 0 a (by omega) (by omega) ha (by omega) (fun p hp hp' => h4 p hp (by omega))]
theorem mark_refs : ∀ (m k : Nat) (i : Int) (x : List S82) (a : Int), x.length ≤ 1048576 → ((x.length : Int) - i).toNat = m → 0 ≤ i → i ≤ (x.length : Int) → 2000000 + m < k → 0 ≤ a → a + 1048581 * m ≤ 4503599627000000 → (∀ p : Int, i ≤ p → p < (x.length : Int) → (rd_T82 x p).f1.length ≤ 1048576) →
    ∃ t y, laws_markRefValS.l0 k x a i = some (t, y) ∧ a ≤ t ∧ t ≤ a + 1048581 * m ∧ y.length = x.length ∧ (∀ p : Int, 0 ≤ p → p < i → rd_T82 y p = rd_T82 x p) ∧ laws_heldRefValS.l0 k y a i = some t := by
  intro m
  induction m with
  | zero =>
    intro k i x a hl hm h0 h1 hk ha hb hr
    obtain ⟨k, rfl⟩ : ∃ j, k = j + 1 := ⟨k - 1, by omega⟩
    refine ⟨a, x, ?_, by omega, by omega, rfl, fun _ _ _ => rfl, ?_⟩
    · rw [laws_markRefValS.l0, if_neg (by omega)]
    · rw [laws_heldRefValS.l0, if_neg (by omega)]
  | succ m ih =>
    intro k i x a hl hm h0 h1 hk ha hb hr
    obtain ⟨k, rfl⟩ : ∃ j, k = j + 1 := ⟨k - 1, by omega⟩
    have hi : i < (x.length : Int) := by omega
    have ri := hr i (Int.le_refl i) hi
    obtain ⟨w, w1, w2⟩ := mark_ints (rd_T82 x i).f1 ri (k := k) (by omega) (a := a + 1) (by omega) (by omega)
    generalize hb' : a + 1 + ((rd_T82 x i).f1.length : Int) = b at w1 w2
    obtain ⟨t, y, y1, y5, y6, y2, y3, y4⟩ := ih k (i + 1) (x.set i.toNat (mref (rd_T82 x i) a (b, w))) (b + 1 + 1 + 1 + 1) (by rw [List.length_set]; exact hl) (by rw [List.length_set]; omega) (by omega) (by rw [List.length_set]; omega) (by omega) (by omega) (by omega) (fun p hp hp' => by
      rw [rdr_set _ h0 hi (by omega), if_neg (by omega)]; exact hr p (by omega) (by rw [List.length_set] at hp'; exact hp'))
    have yi : rd_T82 y i = mref (rd_T82 x i) a (b, w) := by rw [y3 i h0 (by omega), rdr_set _ h0 hi h0, if_pos rfl]
    refine ⟨t, y, ?_, by omega, by omega, by rw [y2, List.length_set], fun p hp hp' => by rw [y3 p hp (by omega), rdr_set _ h0 hi hp, if_neg (by omega)], ?_⟩
    · rw [laws_markRefValS.l0, if_pos hi, if_pos h0, wrap64_id (x := a + 1) (by omega) (by omega), w1, Option.bind_some]
      dsimp only
      rw [wrap64_id (x := b + 1) (by omega) (by omega), wrap64_id (x := b + 1 + 1) (by omega) (by omega), wrap64_id (x := b + 1 + 1 + 1) (by omega) (by omega), wrap64_id (x := b + 1 + 1 + 1 + 1) (by omega) (by omega), wrap64_id (x := i + 1) (by omega) (by omega), y1]
    · rw [laws_heldRefValS.l0, if_pos (by rw [y2, List.length_set]; exact hi), if_pos h0, yi]
      unfold mref
      dsimp only
      rw [wrap64_id (x := a + 1) (by omega) (by omega), w2, if_neg (by simp), Option.bind_some, wrap64_id (x := b + 1) (by omega) (by omega), wrap64_id (x := b + 1 + 1) (by omega) (by omega), wrap64_id (x := b + 1 + 1 + 1) (by omega) (by omega), wrap64_id (x := b + 1 + 1 + 1 + 1) (by omega) (by omega), wrap64_id (x := i + 1) (by omega) (by omega), if_neg (by omega), if_pos rfl, if_pos rfl, if_pos rfl, if_pos rfl, y4]
theorem mark_abs {k : Nat} (l : Bool) {i : List S51} {r : List S82} {c : List S51} {n : Int} {d : List Int} (sm : ASmall i r c) (hd : d.length ≤ 1048576) (hk : 4000000 ≤ k) :
    ∃ m, laws_markAbs.f k i r c n d 1 = some m ∧ 0 ≤ m.1 ∧ laws_heldAbs.f k l m.2.1 m.2.2.1 m.2.2.2.1 n m.2.2.2.2 1 = some m.1 := by
  obtain ⟨hi, hr, hc, ha⟩ := sm
  obtain ⟨y1, a1, _, _, b1⟩ := mark_vals i hi i.length k 0 i 1 rfl (by omega) (by omega) (by omega) (by omega) (by omega) (by omega)
  obtain ⟨t2, y2, a2, u2, v2, _, _, b2⟩ := mark_refs r.length k 0 r (1 + 4 * i.length) hr (by omega) (by omega) (by omega) (by omega) (by omega) (by omega) (fun p h0 h1 => arr_small ha h0 h1)
  obtain ⟨y3, a3, _, _, b3⟩ := mark_vals c hc c.length k 0 c t2 rfl (by omega) (by omega) (by omega) (by omega) (by omega) (by omega)
  obtain ⟨y4, a4, b4⟩ := mark_held (k := k) n n d hd (by omega) (t2 + 4 * c.length) (by omega) (by omega)
  refine ⟨(t2 + 4 * c.length + d.length, y1, y2, y3, y4), ?_, by show 0 ≤ t2 + 4 * (c.length : Int) + d.length; omega, ?_⟩
  · unfold laws_markAbs.f laws_markValS.f laws_markRefValS.f
    rw [a1, Option.bind_some]
    dsimp only
    rw [a2, Option.bind_some]
    dsimp only
    rw [a3, Option.bind_some]
    dsimp only
    rw [a4, Option.bind_some]
  · unfold laws_heldAbs.f laws_heldValS.f laws_heldRefValS.f
    dsimp only
    rw [b1, Option.bind_some, if_neg (by omega), b2, Option.bind_some, if_neg (by omega), b3, Option.bind_some, if_neg (by omega), b4, Option.bind_some, if_neg (by omega)]
theorem FnExactAbsTight (live : Bool) (ints : List S85) (refs : List S87) (cells : List S85) (n : Int) (d : List Int)
    (h1 : ints.length ≤ 9223372036854775807) (h2 : refs.length ≤ 9223372036854775807) (h4 : ∀ r ∈ refs, r.f1.length ≤ 9223372036854775807) (h3 : cells.length ≤ 9223372036854775807) (h5 : d.length ≤ 9223372036854775807) :
    ∃ k, laws_FnExactAbsTight.f k live ints refs cells n d = some true := by
  refine ⟨400000000000000000000, ?_⟩
  refine Tot.out ?_
  unfold laws_FnExactAbsTight.f
  refine Tot.then (szAbs_tot live ints refs cells n d 1048576 h1 h2 h3 h5 h4 (by omega) (by omega) (by omega)) ?_
  intro t ht
  refine Tot.ite (fun _ => Tot.here rfl) (fun c => ?_)
  obtain ⟨t0, t1, i1, i2, i3, i4, i5⟩ := ht.resolve_left c
  have sm := small_map i1 i2 i3 i5
  rw [toAbs_eq live ints refs cells n d i1 i2 i3 i5 i4 (by omega), Option.bind_some]
  obtain ⟨r, r1, r2, rs, rd⟩ := tight_both (k := 400000000000000000000) (live := live) (n := n) sm i4 (by omega)
  dsimp only
  rw [r1, r2, Option.bind_some, Option.bind_some, if_pos rfl, eqAbs_refl rs rd (by omega), Option.bind_some, if_pos rfl, eqAbs_refl sm i4 (by omega), Option.bind_some, if_pos rfl]
  obtain ⟨m0, e0, p0, _⟩ := mark_abs (k := 400000000000000000000) live (n := n) sm i4 (by omega)
  rw [e0, Option.bind_some]
  obtain ⟨m, e, _, h⟩ := mark_abs (k := 400000000000000000000) r.1 (n := r.2.2.2.2.1) rs rd (by omega)
  unfold laws_FnExactAbsTight.g
  rw [e, Option.bind_some, h, Option.bind_some, if_neg (by omega), if_neg (by omega)]
  exact Tot.here (by simp)
end Go.Proofs.Ytklkdpcopfjmcaa.Pure
