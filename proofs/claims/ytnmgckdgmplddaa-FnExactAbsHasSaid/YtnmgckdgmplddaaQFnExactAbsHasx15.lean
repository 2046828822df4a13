/- Functions of the program as plain Lean functions, and that calls of them come to what these tell. Conditions: those in each law. -/
import Derived.Test.YtnmgckdgmplddaaSq
import Derived.Test.YtnmgckdgmplddaaDFnExactAbsHas
import Derived.Test.YtnmgckdgmplddaaQFnExactAbsHasx0
namespace Go.Proofs.Ytnmgckdgmplddaa.PFnExactAbsHas
open Go.RowKit Go.Proofs.Ytnmgckdgmplddaa.Sq Go.Proofs.YtnmgckdgmplddaaW.PrintWords Go.Proofs.YtnmgckdgmplddaaW.PrintLast Go.Proofs.YtnmgckdgmplddaaW.PrintMore
attribute [local go_sem] max2_int min2_int max_two min_two max_three min_three max_four min_four   -- for this text's walks alone
set_option linter.unusedVariables false
set_option linter.unusedSimpArgs false

/-! ### laws_toVal: function 54 -/
set_option maxHeartbeats 8000000 in
set_option maxRecDepth 100000 in
theorem laws_toVal.calls (a0_0 : Int) (a0_1 : Int) (a0_2 : Int) (a0_3 : Int) (r1 : Int) (r2 : Int) (r3 : Int) (r4 : Int) (w : World) (h : laws_toVal.f a0_0 a0_1 a0_2 a0_3 = some (r1, r2, r3, r4)) :
  Calls Try.prog 54 #[.agg #[.int .i64 a0_0, .int .i64 a0_1, .int .i64 a0_2, .int .i64 a0_3]] w fun e w' => e = .returned (.agg #[.int .i64 r1, .int .i64 r2, .int .i64 r3, .int .i64 r4]) ∧ Below w.heap.size w w' := by
 have hu81 := Try.underlying81
 have hu60 := Try.underlying60
 have HB := Aside0.mk (Below.refl w.heap.size w)
 have H := h
 unfold laws_toVal.f at H
 clear h
 simp only [Option.some.injEq, Prod.mk.injEq] at H
 obtain ⟨rfl, rfl, rfl, rfl⟩ := H
 go_enter Try.func54, Try.ntmps54
 go_wp2_with (first | ((with_reducible refine gate_dst (N := 1) rfl ?_); refine sqx 1 #[.int .i64 a0_0, .int .i64 a0_1, .int .i64 a0_2, .int .i64 a0_3] 81 ?_; intro gb256 hg w2 hbox hb; have BK256 := Aside0.mk hbox; have GW256 := sqg HB hg; have GE256 := sqg HB hg; replace HB := sqs HB hb; clear hb hbox hg) | ((with_reducible refine gate_dst (N := 2) rfl ?_); refine sqx 2 #[.int .i64 0, .int .i64 0, .int .i64 0, .int .i64 0] 60 ?_; intro gb257 hg w3 hbox hb; have BK257 := Aside0.mk hbox; have GW257 := sqg HB hg; have GE257 := sqg HB hg; have NB256_257 := sqn BK256 hg; have NB257_256 := sqm BK256 hg; replace BK256 := sqb BK256 hb; replace HB := sqs HB hb; clear hb hbox hg) | ((with_reducible refine gate_dst (N := 3) rfl ?_); refine sqx 3 #[.int .i64 0, .int .i64 0, .int .i64 0, .int .i64 0] 60 ?_; intro gb258 hg w4 hbox hb; have BK258 := Aside0.mk hbox; have GW258 := sqg HB hg; have GE258 := sqg HB hg; have NB256_258 := sqn BK256 hg; have NB258_256 := sqm BK256 hg; have NB257_258 := sqn BK257 hg; have NB258_257 := sqm BK257 hg; refine sqM2 BK256 BK257 hb ?_; clear BK256 BK257; intro BK256 BK257; replace HB := sqs HB hb; clear hb hbox hg; have hnb5 := NB256_257.out; have hnc5 := NB257_256.out; have hnb6 := NB256_258.out; have hnc6 := NB258_256.out; obtain ⟨hcz7_0, hcz7_1, hcz7_2, hcz7_3, hfz7_0, hfz7_1, hfz7_2, hfz7_3⟩ := sqc4 BK256; have hnb8 := NB258_257.out; have hnc8 := NB257_258.out; obtain ⟨hcz9_0, hcz9_1, hcz9_2, hcz9_3, hfz9_0, hfz9_1, hfz9_2, hfz9_3⟩ := sqc4 BK258; obtain ⟨hcz10_0, hcz10_1, hcz10_2, hcz10_3, hfz10_0, hfz10_1, hfz10_2, hfz10_3⟩ := sqc4 BK257))
 refine bodyPost_ret (results_cell_row rfl _ _ gb257 60 #[.int .i64 a0_0, .int .i64 a0_1, .int .i64 a0_2, .int .i64 a0_3] (0, 0) _ rfl (by refine sqt ?_; refine blk_put (cs := #[.int .i64 a0_0, .int .i64 a0_1, .int .i64 a0_2, .int .i64 0]) ?_ 3 _ rfl; refine sqt ?_; refine blk_put (cs := #[.int .i64 a0_0, .int .i64 a0_1, .int .i64 0, .int .i64 0]) ?_ 2 _ rfl; refine sqt ?_; refine blk_put (cs := #[.int .i64 a0_0, .int .i64 0, .int .i64 0, .int .i64 0]) ?_ 1 _ rfl; refine sqt ?_; refine blk_put (cs := #[.int .i64 0, .int .i64 0, .int .i64 0, .int .i64 0]) ?_ 0 _ rfl; refine sqt ?_; refine blk_far ?_ NB257_258.out _; refine sqt ?_; refine blk_far ?_ NB257_258.out _; refine sqt ?_; refine blk_far ?_ NB257_258.out _; refine sqt ?_; refine blk_far ?_ NB257_258.out _; refine sqt ?_; exact BK257.out) Try.underlying60 rfl (by kernel_rfl)) rfl ?_
 exact sqe HB

/-! ### laws_toValS: function 25 -/
set_option maxHeartbeats 8000000 in
set_option maxRecDepth 100000 in
theorem laws_toValS.calls (k : Nat) (A0 : Option Addr) (c0 : Nat) (l0 : List (S81)) (r : List (S60)) (w : World) (hr0 : Kd.C k81 w A0 l0.length l0) (hc0 : l0.length ≤ c0) (h : laws_toValS.f k l0 = some r) :
  Calls Try.prog 25 #[.slice A0 l0.length c0] w fun e w' => ∃ v0_ : Value, e = .returned (v0_) ∧ Kd.R k60 60 w' w.heap.size (fun _ => True) v0_ r ∧ Below w.heap.size w w' := by
 have hu81 := Try.underlying81
 have hu60 := Try.underlying60
 have HR0 := Aside0.mk hr0
 have HC0 := Aside0.mk hc0
 clear hr0 hc0
 have HB := Aside0.mk (Below.refl w.heap.size w)
 have H := h
 unfold laws_toValS.f at H
 clear h
 replace H := sqi H
 rcases H with ⟨c2, H⟩ | ⟨c2, H⟩
 ·exact absurd H (by simp)
 have c2b0 := eq_true c2
 have c2b1 := decide_eq_true c2
 clear c2
 replace H := sqi H
 rcases H with ⟨c3, H⟩ | ⟨c3, H⟩
 ·exact absurd H (by simp)
 have c3b0 := eq_true c3
 have c3b1 := decide_eq_true c3
 clear c3
 obtain ⟨y259, hy259⟩ : ∃ y_ : List (S60), y_ = (List.replicate ((l0.length : Int) : Int).toNat z60) := ⟨_, rfl⟩
 replace H : (laws_toValS.l0 k l0 y259 0) = some r := by first | (rw [hy259]; with_reducible exact H) | (have H2_ := (Option.bind_some _ _).symm.trans H; rw [hy259]; with_reducible exact H2_) | (have H2_ := (Option.bind_some _ _).symm.trans H; with_reducible exact H2_) | with_reducible exact H | (rw [hy259]; exact H) | exact H
 have Ny259 := Aside0.mk hy259
 clear hy259
 have H' := Aside0.mk H
 clear H
 go_enter Try.func25, Try.ntmps25
 go_wp2_with (first | ((with_reducible refine gate_dst (N := 7) rfl ?_); refine Kd.R_make k60 _ 60 rfl (N := 7) rfl 35 _ _ rfl (l0.length : Int) rfl rfl Try.underlying35 (.agg #[(.int .i64 0), (.int .i64 0), (.int .i64 0), (.int .i64 0)]) 32 info60 rfl (by decide) (by omega) z60 (ok := fun _ => True) (okp := fun _ => True) (k60_mkM _ _ _ z60 ) (fun _ hk => hk) trivial sqd (Nat.le_trans (Nat.mul_le_mul_right _ (sqd : (l0.length : Int).toNat ≤ 8796093022208)) (by omega)) (Below.refl _ _) (Nat.le_refl _) ?_; intro v260 w4 ho5 hb hg_ hnew_; clear hg_ hnew_; (first | rw [← Ny259.out] at ho5 | (simp only [Int.reduceToNat] at ho5; rw [← Ny259.out] at ho5)); have HO261 := Aside0.mk (Kd.R_lower ho5 (below_size (sqB HB))); replace HB := sqs HB hb; clear hb ho5))
 go_loopg [4] k (fun kq v4 w' => ∃ (x3_1 : List (S60)) (x4_1 : Int), v4 = .int .i64 x4_1 ∧ Aside0 (laws_toValS.l0 kq l0 x3_1 x4_1 = some r) ∧ Aside0 (kq ≤ k) ∧ Aside0 (Kd.R k60 60 w' w.heap.size (fun _ => True) v260 x3_1) ∧ Aside0 (Below w.heap.size w w'))
 case atStart => exact ⟨(y259), (0), (by first | rfl | (simp; done) | (simp [*]; done)), H', ⟨Nat.le_refl _⟩, ⟨sqy HO261.out⟩, sqh HB⟩
 case round =>
  clear H'
  obtain ⟨x3_1, x4_1, rfl, HA, HK1, HO_3, HB⟩ := hrel
  cases gk with
  | zero => exact absurd HA.out (by simp [laws_toValS.l0])
  | succ k1 =>
   have H := HA.out
   clear HA
   simp only [laws_toValS.l0] at H
   replace H := sqi H
   rcases H with ⟨c6, H⟩ | ⟨c6, H⟩
   ·have c6b0 := decide_eq_false c6
    clear c6
    obtain rfl := Option.some.inj H
    go_wp2
    go_ret
    exact ⟨_, by first | rfl | (simp [errW_none, errW_some] <;> rfl) | (simp [*, errW_none, errW_some] <;> rfl), by (with_reducible repeat (first | apply Kd.R_alloc | apply Kd.R_drewN | apply Kd.R_drew)); exact HO_3.out, sqB HB⟩
   have c6b0 := decide_eq_true c6
   clear c6
   replace H := sqi H
   rcases H with ⟨c7, H⟩ | ⟨c7, H⟩
   ·exact absurd H (by simp)
   have c7b0 := decide_eq_true c7
   clear c7
   replace H := Option.bind_eq_some_iff.mp H
   obtain ⟨⟨t263, t264, t265, t266⟩, A80, H⟩ := H
   try dsimp only at H
   have A8 := Aside0.mk A80
   clear A80
   replace H := sqi H
   rcases H with ⟨c9, H⟩ | ⟨c9, H⟩
   ·exact absurd H (by simp)
   have c9b0 := decide_eq_true c9
   clear c9
   obtain ⟨y267, hy267⟩ : ∃ y_ : List (S60), y_ = (x3_1.set (x4_1 : Int).toNat (⟨t263, t264, t265, t266⟩ : S60)) := ⟨_, rfl⟩
   replace H : (laws_toValS.l0 k1 l0 y267 (wrap64 (x4_1 + 1))) = some r := by first | (rw [hy267]; with_reducible exact H) | (have H2_ := (Option.bind_some _ _).symm.trans H; rw [hy267]; with_reducible exact H2_) | (have H2_ := (Option.bind_some _ _).symm.trans H; with_reducible exact H2_) | with_reducible exact H | (rw [hy267]; exact H) | exact H
   have Ny267 := Aside0.mk hy267
   clear hy267
   have H' := Aside0.mk H
   clear H
   have p262 : 0 ≤ (x4_1 : Int) := sqd
   have q262 : x4_1 < (l0.length : Int) := sqd
   obtain ⟨ad262, e262, hx262_0, hx262_1, hx262_2, hx262_3⟩ := at_T81 HR0.out x4_1 p262 q262
   cases e262
   replace hx262_0 := sqa HB hx262_0
   replace hx262_1 := sqa HB hx262_1
   replace hx262_2 := sqa HB hx262_2
   replace hx262_3 := sqa HB hx262_3
   replace p262 := eq_true p262
   replace q262 := eq_true q262
   go_wp2_with (first | ((with_reducible refine gate_callee (f := 54) rfl ?_); refine sqL (some 20) Try.func54 #[.agg #[.int .i64 ((rd_T81 l0 x4_1).f0), .int .i64 ((rd_T81 l0 x4_1).f1), .int .i64 ((rd_T81 l0 x4_1).f2), .int .i64 ((rd_T81 l0 x4_1).f3)]] ?_; (with_reducible refine (laws_toVal.calls ((rd_T81 l0 x4_1).f0) ((rd_T81 l0 x4_1).f1) ((rd_T81 l0 x4_1).f2) ((rd_T81 l0 x4_1).f3) t263 t264 t265 t266 _ A8.out).mono ?_); rintro e w11 ⟨rfl, hb⟩; refine ⟨_, rfl, ?_⟩; have n0_ := Aside0.mk (Kd.R_below (sqy HO_3.out) hb); have n1_ := sqs HB hb; clear HO_3; clear HB; have HO_3 := n0_; have HB := n1_; clear n0_ n1_; (try clear hb); have p10 : 0 ≤ (x4_1 : Int) := sqd; have q10 : (x4_1 : Int) < ((x3_1.length : Int) : Int) := sqd; obtain ⟨go10, co10, eo10, gb10, gl10, cl10, HG10⟩ := Kd.R_form HO_3.out (by omega); (first | cases eo10 | (injection eo10 with ea_ en_ ec_; (first | subst ea_ | (injection ea_ with ea_; subst ea_)); subst ec_; clear en_)); have GB10 := Aside0.mk gb10; have GG10 := Aside0.mk HG10; clear gb10 gl10 HG10; obtain ⟨ce10, hcl10, hM10, hcc10, hfr10⟩ := Kd.R_elem HO_3.out z60 (x4_1 : Int) p10 q10; obtain rfl := k60_openM hM10; have hx10_0 : w11.cell? ⟨go10, (x4_1 : Int).toNat * 4, none⟩ = some (.int .i64 ((rd_T60 x3_1 x4_1).f0)) := hcc10 0 _ rfl; have hx10_1 : w11.cell? ⟨go10, (x4_1 : Int).toNat * 4 + 1, none⟩ = some (.int .i64 ((rd_T60 x3_1 x4_1).f1)) := hcc10 1 _ rfl; have hx10_2 : w11.cell? ⟨go10, (x4_1 : Int).toNat * 4 + 2, none⟩ = some (.int .i64 ((rd_T60 x3_1 x4_1).f2)) := hcc10 2 _ rfl; have hx10_3 : w11.cell? ⟨go10, (x4_1 : Int).toNat * 4 + 3, none⟩ = some (.int .i64 ((rd_T60 x3_1 x4_1).f3)) := hcc10 3 _ rfl; have hf10_0 : w11.frozen? ⟨go10, (x4_1 : Int).toNat * 4, none⟩ = false := hfr10 0; have hf10_1 : w11.frozen? ⟨go10, (x4_1 : Int).toNat * 4 + 1, none⟩ = false := hfr10 1; have hf10_2 : w11.frozen? ⟨go10, (x4_1 : Int).toNat * 4 + 2, none⟩ = false := hfr10 2; have hf10_3 : w11.frozen? ⟨go10, (x4_1 : Int).toNat * 4 + 3, none⟩ = false := hfr10 3; clear hcl10 hcc10 hfr10 hM10; replace p10 := eq_true p10; replace q10 := eq_true q10; have HX12 := Aside0.mk (show Kd.R k60 60 w11 w.heap.size (fun _ => True) (.slice (some ⟨go10, 0, none⟩) x3_1.length co10) x3_1 from (sqy HO_3.out)); obtain ⟨ce12, hcl12, hM12, hcc12, hfr12⟩ := Kd.R_elem HX12.out z60 (x4_1 : Int) sqd (by have h_ : (x4_1 : Int) < ((x3_1.length : Int) : Int) := sqd; first | exact h_ | (have e_ := (Kd.R_reads' HO_3.out).1; omega) | simpa using h_); obtain rfl := k60_openM hM12; have HP12 := Kd.R_seg HX12.out (x4_1 : Int) sqd (by have h_ : (x4_1 : Int) < ((x3_1.length : Int) : Int) := sqd; first | exact h_ | (have e_ := (Kd.R_reads' HO_3.out).1; omega) | simpa using h_) (seg := [.int .i64 t263, .int .i64 t264, .int .i64 t265, .int .i64 t266]) (j := 0) hcl12 hcc12 (show 4 ≤ 4 from by decide) (x' := (⟨t263, t264, t265, t266⟩ : S60)) (k60_mkM _ _ _ (⟨t263, t264, t265, t266⟩ : S60) ) (fun _ hk => hk); have hx12_0 := hcc12 0 _ rfl; (try simp only [show (k60).sz = 4 from rfl, Nat.mul_one, Nat.add_zero] at hx12_0); have hf12_0 := hfr12 0; (try simp only [show (k60).sz = 4 from rfl, Nat.mul_one, Nat.add_zero] at hf12_0); have hx12_1 := hcc12 1 _ rfl; (try simp only [show (k60).sz = 4 from rfl, Nat.mul_one, Nat.add_zero] at hx12_1); have hf12_1 := hfr12 1; (try simp only [show (k60).sz = 4 from rfl, Nat.mul_one, Nat.add_zero] at hf12_1); have hx12_2 := hcc12 2 _ rfl; (try simp only [show (k60).sz = 4 from rfl, Nat.mul_one, Nat.add_zero] at hx12_2); have hf12_2 := hfr12 2; (try simp only [show (k60).sz = 4 from rfl, Nat.mul_one, Nat.add_zero] at hf12_2); have hx12_3 := hcc12 3 _ rfl; (try simp only [show (k60).sz = 4 from rfl, Nat.mul_one, Nat.add_zero] at hx12_3); have hf12_3 := hfr12 3; (try simp only [show (k60).sz = 4 from rfl, Nat.mul_one, Nat.add_zero] at hf12_3); clear hcl12 hcc12 hfr12 hM12) | ((with_reducible refine gate_store (t := 60) (p := 21) rfl ?_); refine store_event (t := 60) (p := 21) (v := ?vo_w13) (w1 := ((((w11.setCell ⟨go10, (x4_1 : Int).toNat * 4, none⟩ (.int .i64 t263)).setCell ⟨go10, (x4_1 : Int).toNat * 4 + 1, none⟩ (.int .i64 t264)).setCell ⟨go10, (x4_1 : Int).toNat * 4 + 2, none⟩ (.int .i64 t265)).setCell ⟨go10, (x4_1 : Int).toNat * 4 + 3, none⟩ (.int .i64 t266))) ?hg ?ho ?hn ?hr ?_; (case ho => rfl); (case hg => rfl); (case hn => rfl); (case hr => first | (go_simp; done) | (go_simp; rfl)); intro w13 hw; have hg : w11.grownBy w13 (some go10) := (by rw [hw]; exact HP12.2); have hp_ : Kd.R k60 60 w13 w.heap.size (fun _ => True) (.slice (some ⟨go10, 0, none⟩) x3_1.length co10) y267 := (by rw [hw, Ny267.out]; exact HP12.1); clear HP12; have n0_ := Aside0.mk (hp_); have n1_ := Aside0.mk ((by rw [hw]; exact below_set (below_set (below_set (below_set (HB.out) GB10.out) GB10.out) GB10.out) GB10.out : Below w.heap.size w w13)); clear HO_3; clear HB; have HO_3 := n0_; have HB := n1_; clear n0_ n1_; clear hg hw hp_))
   go_roundg k1
   case measure => have := HK1.out; omega
   case rel => exact ⟨(y267), (wrap64 (x4_1 + 1)), (by first | rfl | (simp; done) | (simp [*]; done)), H', ⟨by have := HK1.out; omega⟩, ⟨sqy HO_3.out⟩, sqh HB⟩

/-! ### laws_toIntS: function 9 -/
set_option maxHeartbeats 8000000 in
set_option maxRecDepth 100000 in
theorem laws_toIntS.calls (k : Nat) (A0 : Option Addr) (c0 : Nat) (l0 : List Int) (r : List Int) (w : World) (hr0 : Kd.C (Kd.int .i64) w A0 l0.length l0) (hc0 : l0.length ≤ c0) (h : laws_toIntS.f k l0 = some r) :
  Calls Try.prog 9 #[.slice A0 l0.length c0] w fun e w' => ∃ v0_ : Value, e = .returned (v0_) ∧ Kd.R (Kd.int .i64) 3 w' w.heap.size (fun _ => True) v0_ r ∧ Below w.heap.size w w' := by
 have HR0 := Aside0.mk hr0
 have HC0 := Aside0.mk hc0
 clear hr0 hc0
 have HB := Aside0.mk (Below.refl w.heap.size w)
 have H := h
 unfold laws_toIntS.f at H
 clear h
 replace H := sqi H
 rcases H with ⟨c2, H⟩ | ⟨c2, H⟩
 ·exact absurd H (by simp)
 have c2b0 := eq_true c2
 have c2b1 := decide_eq_true c2
 clear c2
 replace H := sqi H
 rcases H with ⟨c3, H⟩ | ⟨c3, H⟩
 ·exact absurd H (by simp)
 have c3b0 := eq_true c3
 have c3b1 := decide_eq_true c3
 clear c3
 obtain ⟨y268, hy268⟩ : ∃ y_ : List Int, y_ = (List.replicate ((l0.length : Int) : Int).toNat 0) := ⟨_, rfl⟩
 replace H : (laws_toIntS.l0 k l0 y268 0) = some r := by first | (rw [hy268]; with_reducible exact H) | (have H2_ := (Option.bind_some _ _).symm.trans H; rw [hy268]; with_reducible exact H2_) | (have H2_ := (Option.bind_some _ _).symm.trans H; with_reducible exact H2_) | with_reducible exact H | (rw [hy268]; exact H) | exact H
 have Ny268 := Aside0.mk hy268
 clear hy268
 have H' := Aside0.mk H
 clear H
 go_enter Try.func9, Try.ntmps9
 go_wp2_with (first | ((with_reducible refine gate_dst (N := 7) rfl ?_); refine Kd.R_make (Kd.int .i64) _ 3 rfl (N := 7) rfl 24 _ _ rfl (l0.length : Int) rfl rfl Try.underlying24 (.int .i64 0) 8 info3 rfl (by decide) (by omega) 0 (ok := fun _ => True) (okp := fun _ => True) rfl (fun _ hk => hk) trivial sqd (Nat.le_trans (Nat.mul_le_mul_right _ (sqd : (l0.length : Int).toNat ≤ 35184372088832)) (by omega)) (Below.refl _ _) (Nat.le_refl _) ?_; intro v269 w4 ho5 hb hg_ hnew_; clear hg_ hnew_; (first | rw [← Ny268.out] at ho5 | (simp only [Int.reduceToNat] at ho5; rw [← Ny268.out] at ho5)); have HO270 := Aside0.mk (Kd.R_lower ho5 (below_size (sqB HB))); replace HB := sqs HB hb; clear hb ho5))
 go_loopg [4] k (fun kq v4 w' => ∃ (x3_1 : List Int) (x4_1 : Int), v4 = .int .i64 x4_1 ∧ Aside0 (laws_toIntS.l0 kq l0 x3_1 x4_1 = some r) ∧ Aside0 (kq ≤ k) ∧ Aside0 (Kd.R (Kd.int .i64) 3 w' w.heap.size (fun _ => True) v269 x3_1) ∧ Aside0 (Below w.heap.size w w'))
 case atStart => exact ⟨(y268), (0), (by first | rfl | (simp; done) | (simp [*]; done)), H', ⟨Nat.le_refl _⟩, ⟨sqy HO270.out⟩, sqh HB⟩
 case round =>
  clear H'
  obtain ⟨x3_1, x4_1, rfl, HA, HK1, HO_3, HB⟩ := hrel
  cases gk with
  | zero => exact absurd HA.out (by simp [laws_toIntS.l0])
  | succ k1 =>
   have H := HA.out
   clear HA
   simp only [laws_toIntS.l0] at H
   replace H := sqi H
   rcases H with ⟨c6, H⟩ | ⟨c6, H⟩
   ·have c6b0 := decide_eq_false c6
    clear c6
    obtain rfl := Option.some.inj H
    go_wp2
    go_ret
    exact ⟨_, by first | rfl | (simp [errW_none, errW_some] <;> rfl) | (simp [*, errW_none, errW_some] <;> rfl), by (with_reducible repeat (first | apply Kd.R_alloc | apply Kd.R_drewN | apply Kd.R_drew)); exact HO_3.out, sqB HB⟩
   have c6b0 := decide_eq_true c6
   clear c6
   replace H := sqi H
   rcases H with ⟨c7, H⟩ | ⟨c7, H⟩
   ·exact absurd H (by simp)
   have c7b0 := decide_eq_true c7
   clear c7
   replace H := sqi H
   rcases H with ⟨c8, H⟩ | ⟨c8, H⟩
   ·exact absurd H (by simp)
   have c8b0 := decide_eq_true c8
   clear c8
   obtain ⟨y272, hy272⟩ : ∃ y_ : List Int, y_ = (x3_1.set (x4_1 : Int).toNat (rd l0 x4_1)) := ⟨_, rfl⟩
   replace H : (laws_toIntS.l0 k1 l0 y272 (wrap64 (x4_1 + 1))) = some r := by first | (rw [hy272]; with_reducible exact H) | (have H2_ := (Option.bind_some _ _).symm.trans H; rw [hy272]; with_reducible exact H2_) | (have H2_ := (Option.bind_some _ _).symm.trans H; with_reducible exact H2_) | with_reducible exact H | (rw [hy272]; exact H) | exact H
   have Ny272 := Aside0.mk hy272
   clear hy272
   have H' := Aside0.mk H
   clear H
   have p271 : 0 ≤ (x4_1 : Int) := sqd
   have q271 : x4_1 < (l0.length : Int) := sqd
   obtain ⟨ad271, e271, hx271_0⟩ := Kd.at_int HR0.out x4_1 p271 q271
   cases e271
   replace hx271_0 := sqa HB hx271_0
   replace p271 := eq_true p271
   replace q271 := eq_true q271
   have p9 : 0 ≤ (x4_1 : Int) := sqd
   have q9 : (x4_1 : Int) < ((x3_1.length : Int) : Int) := sqd
   obtain ⟨go9, co9, eo9, gb9, gl9, cl9, HG9⟩ := Kd.R_form HO_3.out (by omega)
   (first | cases eo9 | (injection eo9 with ea_ en_ ec_; (first | subst ea_ | (injection ea_ with ea_; subst ea_)); subst ec_; clear en_))
   have GB9 := Aside0.mk gb9
   have GG9 := Aside0.mk HG9
   clear gb9 gl9 HG9
   obtain ⟨hx9_0, hf9_0⟩ := Kd.R_celln 0 HO_3.out (x4_1 : Int) p9 q9
   replace p9 := eq_true p9
   replace q9 := eq_true q9
   have HP10 := Kd.R_putg HO_3.out (x4_1 : Int) (rd l0 x4_1)
   go_wp2_with (first | ((with_reducible refine gate_store (t := 3) (p := 20) rfl ?_); refine store_event (t := 3) (p := 20) (v := ?vo_w11) (w1 := (wr.setCell ⟨go9, (x4_1 : Int).toNat, none⟩ (.int .i64 (rd l0 x4_1)))) ?hg ?ho ?hn ?hr ?_; (case ho => rfl); (case hg => rfl); (case hn => rfl); (case hr => first | (go_simp; done) | (go_simp; rfl)); intro w11 hw; have hg : wr.grownBy w11 (some go9) := (by rw [hw]; exact HP10.2); have hp_ : Kd.R (Kd.int .i64) 3 w11 w.heap.size (fun _ => True) (.slice (some ⟨go9, 0, none⟩) x3_1.length co9) y272 := (by rw [hw, Ny272.out]; exact HP10.1); clear HP10; have n0_ := Aside0.mk (hp_); have n1_ := Aside0.mk ((by rw [hw]; exact below_set (HB.out) GB9.out : Below w.heap.size w w11)); clear HO_3; clear HB; have HO_3 := n0_; have HB := n1_; clear n0_ n1_; clear hg hw hp_))
   go_roundg k1
   case measure => have := HK1.out; omega
   case rel => exact ⟨(y272), (wrap64 (x4_1 + 1)), (by first | rfl | (simp; done) | (simp [*]; done)), H', ⟨by have := HK1.out; omega⟩, ⟨sqy HO_3.out⟩, sqh HB⟩

/-! ### laws_toRefVal: function 55 -/
set_option maxHeartbeats 8000000 in
set_option maxRecDepth 100000 in
theorem laws_toRefVal.calls (k : Nat) (a0_0 : Bool) (A0_1 : Option Addr) (c0_1 : Nat) (l0_1 : List Int) (a0_2 : Int) (a0_3 : Int) (a0_4 : Int) (a0_5 : Int) (r1 : Bool) (r2 : List Int) (r3 : Int) (r4 : Int) (r5 : Int) (r6 : Int) (w : World) (hr0_1 : Kd.C (Kd.int .i64) w A0_1 l0_1.length l0_1) (hc0_1 : l0_1.length ≤ c0_1) (h : laws_toRefVal.f k a0_0 l0_1 a0_2 a0_3 a0_4 a0_5 = some (r1, r2, r3, r4, r5, r6)) :
  Calls Try.prog 55 #[.agg #[.bool a0_0, .slice A0_1 l0_1.length c0_1, .int .i64 a0_2, .int .i64 a0_3, .int .i64 a0_4, .int .i64 a0_5]] w fun e w' => ∃ v1_ : Value, e = .returned (.agg #[.bool r1, v1_, .int .i64 r3, .int .i64 r4, .int .i64 r5, .int .i64 r6]) ∧ Kd.R (Kd.int .i64) 3 w' w.heap.size (fun _ => True) v1_ r2 ∧ Below w.heap.size w w' := by
 have hu83 := Try.underlying83
 have hu63 := Try.underlying63
 have hu81 := Try.underlying81
 have hu60 := Try.underlying60
 have HR0_1 := Aside0.mk hr0_1
 have HC0_1 := Aside0.mk hc0_1
 clear hr0_1 hc0_1
 have HB := Aside0.mk (Below.refl w.heap.size w)
 have H := h
 unfold laws_toRefVal.f at H
 clear h
 replace H := Option.bind_eq_some_iff.mp H
 obtain ⟨t276, A20, H⟩ := H
 try dsimp only at H
 have A2 := Aside0.mk A20
 clear A20
 replace H := Option.bind_eq_some_iff.mp H
 obtain ⟨⟨t279, t280, t281, t282⟩, A30, H⟩ := H
 try dsimp only at H
 have A3 := Aside0.mk A30
 clear A30
 simp only [Option.some.injEq, Prod.mk.injEq] at H
 obtain ⟨rfl, rfl, rfl, rfl, rfl, rfl⟩ := H
 go_enter Try.func55, Try.ntmps55
 go_wp2_with (first | ((with_reducible refine gate_dst (N := 1) rfl ?_); refine sqx 1 #[.bool a0_0, .slice A0_1 l0_1.length c0_1, .int .i64 a0_2, .int .i64 a0_3, .int .i64 a0_4, .int .i64 a0_5] 83 ?_; intro gb273 hg w4 hbox hb; have BK273 := Aside0.mk hbox; have GW273 := sqg HB hg; have GE273 := sqg HB hg; replace HB := sqs HB hb; clear hb hbox hg) | ((with_reducible refine gate_dst (N := 2) rfl ?_); refine sqx 2 #[.bool false, .slice none 0 0, .int .i64 0, .int .i64 0, .int .i64 0, .int .i64 0] 63 ?_; intro gb274 hg w5 hbox hb; have BK274 := Aside0.mk hbox; have GW274 := sqg HB hg; have GE274 := sqg HB hg; have NB273_274 := sqn BK273 hg; have NB274_273 := sqm BK273 hg; replace BK273 := sqb BK273 hb; replace HB := sqs HB hb; clear hb hbox hg) | ((with_reducible refine gate_dst (N := 3) rfl ?_); refine sqx 3 #[.bool false, .slice none 0 0, .int .i64 0, .int .i64 0, .int .i64 0, .int .i64 0] 63 ?_; intro gb275 hg w6 hbox hb; have BK275 := Aside0.mk hbox; have GW275 := sqg HB hg; have GE275 := sqg HB hg; have NB273_275 := sqn BK273 hg; have NB275_273 := sqm BK273 hg; have NB274_275 := sqn BK274 hg; have NB275_274 := sqm BK274 hg; refine sqM2 BK273 BK274 hb ?_; clear BK273 BK274; intro BK273 BK274; replace HB := sqs HB hb; clear hb hbox hg; have hnb7 := NB273_274.out; have hnc7 := NB274_273.out; have hnb8 := NB273_275.out; have hnc8 := NB275_273.out; obtain ⟨hcz9_0, hcz9_1, hcz9_2, hcz9_3, hcz9_4, hcz9_5, hfz9_0, hfz9_1, hfz9_2, hfz9_3, hfz9_4, hfz9_5⟩ := sqc6 BK273; have hnb10 := NB275_274.out; have hnc10 := NB274_275.out; obtain ⟨hcz11_0, hcz11_1, hcz11_2, hcz11_3, hcz11_4, hcz11_5, hfz11_0, hfz11_1, hfz11_2, hfz11_3, hfz11_4, hfz11_5⟩ := sqc6 BK275) | ((with_reducible refine gate_callee (f := 9) rfl ?_); refine sqL (some 9) Try.func9 #[.slice A0_1 l0_1.length c0_1] ?_; (with_reducible refine (laws_toIntS.calls k _ _ l0_1 t276 _ ?side1 ?side2 A2.out).mono ?_); (case side1 => exact Kd.C_below HR0_1.out (sqB HB)); (case side2 => exact HC0_1.out); rintro e w12 ⟨v277, rfl, ho0, hb⟩; refine ⟨_, rfl, ?_⟩; have n0_ := Aside0.mk (Kd.R_lower ho0 (below_size (sqB HB))); have n1_ := sqbb BK273 hb; have n2_ := sqbb BK274 hb; have n3_ := Aside0.mk (blk_below (g := gb275) (o := .cells #[.bool a0_0, .slice none 0 0, .int .i64 0, .int .i64 0, .int .i64 0, .int .i64 0] 63 (0, 0)) (by refine sqt ?_; refine blk_put (cs := #[.bool false, .slice none 0 0, .int .i64 0, .int .i64 0, .int .i64 0, .int .i64 0]) ?_ 0 _ rfl; refine sqt ?_; exact BK275.out) hb); have n4_ := sqs HB hb; clear BK273; clear BK274; clear BK275; clear HB; have HO278 := n0_; have BK273 := n1_; have BK274 := n2_; have BK275 := n3_; have HB := n4_; clear n0_ n1_ n2_ n3_ n4_; (try clear hb); (try clear hb2); (try clear hk); (try clear hi); (try clear ho0); obtain ⟨Ao13, co13, eo13⟩ := Kd.R_slice HO278.out; subst eo13; obtain ⟨hcz14_0, hcz14_1, hcz14_2, hcz14_3, hcz14_4, hcz14_5, hfz14_0, hfz14_1, hfz14_2, hfz14_3, hfz14_4, hfz14_5⟩ := sqc6 BK275; obtain ⟨hcz15_0, hcz15_1, hcz15_2, hcz15_3, hcz15_4, hcz15_5, hfz15_0, hfz15_1, hfz15_2, hfz15_3, hfz15_4, hfz15_5⟩ := sqc6 BK273) | ((with_reducible refine gate_callee (f := 54) rfl ?_); refine sqL (some 13) Try.func54 #[.agg #[.int .i64 a0_2, .int .i64 a0_3, .int .i64 a0_4, .int .i64 a0_5]] ?_; (with_reducible refine (laws_toVal.calls a0_2 a0_3 a0_4 a0_5 t279 t280 t281 t282 _ A3.out).mono ?_); rintro e w16 ⟨rfl, hb⟩; refine ⟨_, rfl, ?_⟩; have n0_ := Aside0.mk (Kd.R_below (by (with_reducible repeat (first | apply Kd.R_alloc | apply Kd.R_drewN | apply Kd.R_drew)); exact (Kd.R_mono (Kd.R_far (p := ⟨gb275, 1, none⟩) (Kd.R_types HO278.out BK275.out (by decide)) (fun _ hk => hk.2) (.slice Ao13 t276.length co13)) (fun _ h_ => h_.1))) hb); have n1_ := sqbb BK273 hb; have n2_ := sqbb BK274 hb; have n3_ := Aside0.mk (blk_below (g := gb275) (o := .cells #[.bool a0_0, .slice Ao13 t276.length co13, .int .i64 0, .int .i64 0, .int .i64 0, .int .i64 0] 63 (0, 0)) (by refine sqt ?_; refine blk_put (cs := #[.bool a0_0, .slice none 0 0, .int .i64 0, .int .i64 0, .int .i64 0, .int .i64 0]) ?_ 1 _ rfl; refine sqt ?_; exact BK275.out) hb); have n4_ := sqs HB hb; clear HO278; clear BK273; clear BK274; clear BK275; clear HB; have HO278 := n0_; have BK273 := n1_; have BK274 := n2_; have BK275 := n3_; have HB := n4_; clear n0_ n1_ n2_ n3_ n4_; (try clear hb); (try clear hb2); (try clear hk); (try clear hi); obtain ⟨hcz17_0, hcz17_1, hcz17_2, hcz17_3, hcz17_4, hcz17_5, hfz17_0, hfz17_1, hfz17_2, hfz17_3, hfz17_4, hfz17_5⟩ := sqc6 BK275; obtain ⟨hcz18_0, hcz18_1, hcz18_2, hcz18_3, hcz18_4, hcz18_5, hfz18_0, hfz18_1, hfz18_2, hfz18_3, hfz18_4, hfz18_5⟩ := sqc6 BK274))
 refine bodyPost_ret (results_cell_row rfl _ _ gb274 63 #[.bool a0_0, .slice Ao13 t276.length co13, .int .i64 t279, .int .i64 t280, .int .i64 t281, .int .i64 t282] (0, 0) _ rfl (by refine sqt ?_; refine blk_put (cs := #[.bool a0_0, .slice Ao13 t276.length co13, .int .i64 t279, .int .i64 t280, .int .i64 t281, .int .i64 0]) ?_ 5 _ rfl; refine sqt ?_; refine blk_put (cs := #[.bool a0_0, .slice Ao13 t276.length co13, .int .i64 t279, .int .i64 t280, .int .i64 0, .int .i64 0]) ?_ 4 _ rfl; refine sqt ?_; refine blk_put (cs := #[.bool a0_0, .slice Ao13 t276.length co13, .int .i64 t279, .int .i64 0, .int .i64 0, .int .i64 0]) ?_ 3 _ rfl; refine sqt ?_; refine blk_put (cs := #[.bool a0_0, .slice Ao13 t276.length co13, .int .i64 0, .int .i64 0, .int .i64 0, .int .i64 0]) ?_ 2 _ rfl; refine sqt ?_; refine blk_put (cs := #[.bool a0_0, .slice none 0 0, .int .i64 0, .int .i64 0, .int .i64 0, .int .i64 0]) ?_ 1 _ rfl; refine sqt ?_; refine blk_put (cs := #[.bool false, .slice none 0 0, .int .i64 0, .int .i64 0, .int .i64 0, .int .i64 0]) ?_ 0 _ rfl; refine sqt ?_; refine blk_far ?_ NB274_275.out _; refine sqt ?_; refine blk_far ?_ NB274_275.out _; refine sqt ?_; refine blk_far ?_ NB274_275.out _; refine sqt ?_; refine blk_far ?_ NB274_275.out _; refine sqt ?_; exact BK274.out) Try.underlying63 rfl (by kernel_rfl)) rfl ?_
 exact ⟨_, by first | rfl | (simp [errW_none, errW_some] <;> rfl) | (simp [*, errW_none, errW_some] <;> rfl), by (with_reducible repeat (first | apply Kd.R_alloc | apply Kd.R_drewN | apply Kd.R_drew)); exact Kd.R_mono (Kd.R_far (p := ⟨gb274, 5, none⟩) (Kd.R_far (p := ⟨gb274, 4, none⟩) (Kd.R_far (p := ⟨gb274, 3, none⟩) (Kd.R_far (p := ⟨gb274, 2, none⟩) (Kd.R_far (p := ⟨gb274, 1, none⟩) (Kd.R_far (p := ⟨gb274, 0, none⟩) (Kd.R_far (p := ⟨gb275, 5, none⟩) (Kd.R_far (p := ⟨gb275, 4, none⟩) (Kd.R_far (p := ⟨gb275, 3, none⟩) (Kd.R_far (p := ⟨gb275, 2, none⟩) (Kd.R_types (Kd.R_types HO278.out BK275.out (by decide)) BK274.out (by decide)) (fun _ hk => hk.1.2) (.int .i64 t279)) (fun _ hk => hk.1.2) (.int .i64 t280)) (fun _ hk => hk.1.2) (.int .i64 t281)) (fun _ hk => hk.1.2) (.int .i64 t282)) (fun _ hk => hk.2) (.bool a0_0)) (fun _ hk => hk.2) (.slice Ao13 t276.length co13)) (fun _ hk => hk.2) (.int .i64 t279)) (fun _ hk => hk.2) (.int .i64 t280)) (fun _ hk => hk.2) (.int .i64 t281)) (fun _ hk => hk.2) (.int .i64 t282)) (fun _ hk => trivial), sqB HB⟩

/-! ### laws_toRefValS: function 26 -/
set_option maxHeartbeats 8000000 in
set_option maxRecDepth 100000 in
theorem laws_toRefValS.calls (k : Nat) (A0 : Option Addr) (c0 : Nat) (l0 : List (S83)) (r : List (S63)) (w : World) (hr0 : Kd.C k83 w A0 l0.length l0) (hc0 : l0.length ≤ c0) (h : laws_toRefValS.f k l0 = some r) :
  Calls Try.prog 26 #[.slice A0 l0.length c0] w fun e w' => ∃ v0_ : Value, e = .returned (v0_) ∧ Kd.S k63 63 w' w.heap.size (fun _ => True) v0_ r ∧ Below w.heap.size w w' := by
 have hu83 := Try.underlying83
 have hu63 := Try.underlying63
 have HR0 := Aside0.mk hr0
 have HC0 := Aside0.mk hc0
 clear hr0 hc0
 have HB := Aside0.mk (Below.refl w.heap.size w)
 have H := h
 unfold laws_toRefValS.f at H
 clear h
 replace H := sqi H
 rcases H with ⟨c2, H⟩ | ⟨c2, H⟩
 ·exact absurd H (by simp)
 have c2b0 := eq_true c2
 have c2b1 := decide_eq_true c2
 clear c2
 replace H := sqi H
 rcases H with ⟨c3, H⟩ | ⟨c3, H⟩
 ·exact absurd H (by simp)
 have c3b0 := eq_true c3
 have c3b1 := decide_eq_true c3
 clear c3
 obtain ⟨y283, hy283⟩ : ∃ y_ : List (S63), y_ = (List.replicate ((l0.length : Int) : Int).toNat z63) := ⟨_, rfl⟩
 replace H : (laws_toRefValS.l0 k l0 y283 0) = some r := by first | (rw [hy283]; with_reducible exact H) | (have H2_ := (Option.bind_some _ _).symm.trans H; rw [hy283]; with_reducible exact H2_) | (have H2_ := (Option.bind_some _ _).symm.trans H; with_reducible exact H2_) | with_reducible exact H | (rw [hy283]; exact H) | exact H
 have Ny283 := Aside0.mk hy283
 clear hy283
 have H' := Aside0.mk H
 clear H
 go_enter Try.func26, Try.ntmps26
 go_wp2_with (first | ((with_reducible refine gate_dst (N := 7) rfl ?_); refine Kd.S_make k63 _ 63 rfl (N := 7) rfl 36 _ _ rfl (l0.length : Int) rfl rfl Try.underlying36 (.agg #[(.bool false), (.slice none 0 0), (.int .i64 0), (.int .i64 0), (.int .i64 0), (.int .i64 0)]) 64 info63 rfl (by decide) (by omega) z63 (ok := fun _ => True) (okp := fun _ => True) (k63_mkM _ _ _ z63 (Kd.R_nil _ _ _ _ _)) (fun _ hk => hk) trivial sqd (Nat.le_trans (Nat.mul_le_mul_right _ (sqd : (l0.length : Int).toNat ≤ 4398046511104)) (by omega)) (Below.refl _ _) (Nat.le_refl _) ?_; intro v284 w4 ho5 hb hg_ hnew_; clear hg_ hnew_; (first | rw [← Ny283.out] at ho5 | (simp only [Int.reduceToNat] at ho5; rw [← Ny283.out] at ho5)); have HO285 := Aside0.mk (Kd.S_lower ho5 (below_size (sqB HB))); replace HB := sqs HB hb; clear hb ho5))
 go_loopg [4] k (fun kq v4 w' => ∃ (x3_1 : List (S63)) (x4_1 : Int), v4 = .int .i64 x4_1 ∧ Aside0 (laws_toRefValS.l0 kq l0 x3_1 x4_1 = some r) ∧ Aside0 (kq ≤ k) ∧ Aside0 (Kd.S k63 63 w' w.heap.size (fun _ => True) v284 x3_1) ∧ Aside0 (Below w.heap.size w w'))
 case atStart => exact ⟨(y283), (0), (by first | rfl | (simp; done) | (simp [*]; done)), H', ⟨Nat.le_refl _⟩, ⟨by (with_reducible repeat (first | apply Kd.S_alloc | apply Kd.S_drewN | apply Kd.S_drew)); exact HO285.out⟩, sqh HB⟩
 case round =>
  clear H'
  obtain ⟨x3_1, x4_1, rfl, HA, HK1, HO_3, HB⟩ := hrel
  cases gk with
  | zero => exact absurd HA.out (by simp [laws_toRefValS.l0])
  | succ k1 =>
   have H := HA.out
   clear HA
   simp only [laws_toRefValS.l0] at H
   replace H := sqi H
   rcases H with ⟨c6, H⟩ | ⟨c6, H⟩
   ·have c6b0 := decide_eq_false c6
    clear c6
    obtain rfl := Option.some.inj H
    go_wp2
    go_ret
    exact ⟨_, by first | rfl | (simp [errW_none, errW_some] <;> rfl) | (simp [*, errW_none, errW_some] <;> rfl), by (with_reducible repeat (first | apply Kd.S_alloc | apply Kd.S_drewN | apply Kd.S_drew)); exact HO_3.out, sqB HB⟩
   have c6b0 := decide_eq_true c6
   clear c6
   replace H := sqi H
   rcases H with ⟨c7, H⟩ | ⟨c7, H⟩
   ·exact absurd H (by simp)
   have c7b0 := decide_eq_true c7
   clear c7
   replace H := Option.bind_eq_some_iff.mp H
   obtain ⟨⟨t287, t288, t291, t292, t293, t294⟩, A80, H⟩ := H
   try dsimp only at H
   have A8 := Aside0.mk A80
   clear A80
   replace H := sqi H
   rcases H with ⟨c9, H⟩ | ⟨c9, H⟩
   ·exact absurd H (by simp)
   have c9b0 := decide_eq_true c9
   clear c9
   obtain ⟨y295, hy295⟩ : ∃ y_ : List (S63), y_ = (x3_1.set (x4_1 : Int).toNat (⟨t287, t288, (⟨t291, t292, t293, t294⟩ : S60)⟩ : S63)) := ⟨_, rfl⟩
   replace H : (laws_toRefValS.l0 k1 l0 y295 (wrap64 (x4_1 + 1))) = some r := by first | (rw [hy295]; with_reducible exact H) | (have H2_ := (Option.bind_some _ _).symm.trans H; rw [hy295]; with_reducible exact H2_) | (have H2_ := (Option.bind_some _ _).symm.trans H; with_reducible exact H2_) | with_reducible exact H | (rw [hy295]; exact H) | exact H
   have Ny295 := Aside0.mk hy295
   clear hy295
   have H' := Aside0.mk H
   clear H
   have p286 : 0 ≤ (x4_1 : Int) := sqd
   have q286 : x4_1 < (l0.length : Int) := sqd
   obtain ⟨ad286, A286_1, c286_1, e286, hx286_0, hx286_1, hx286_2, hx286_3, hx286_4, hx286_5, hl286_1, hi286_1⟩ := at_T83 HR0.out x4_1 p286 q286
   cases e286
   replace hx286_0 := sqa HB hx286_0
   replace hx286_1 := sqa HB hx286_1
   replace hx286_2 := sqa HB hx286_2
   replace hx286_3 := sqa HB hx286_3
   replace hx286_4 := sqa HB hx286_4
   replace hx286_5 := sqa HB hx286_5
   have HR286_1 := Aside0.mk hi286_1
   have HC286_1 := Aside0.mk hl286_1
   clear hi286_1 hl286_1
   replace p286 := eq_true p286
   replace q286 := eq_true q286
   go_wp2_with (first | ((with_reducible refine gate_callee (f := 55) rfl ?_); refine sqL (some 20) Try.func55 #[.agg #[.bool ((rd_T83 l0 x4_1).f0), .slice A286_1 ((rd_T83 l0 x4_1).f1).length c286_1, .int .i64 ((rd_T83 l0 x4_1).f2.f0), .int .i64 ((rd_T83 l0 x4_1).f2.f1), .int .i64 ((rd_T83 l0 x4_1).f2.f2), .int .i64 ((rd_T83 l0 x4_1).f2.f3)]] ?_; (with_reducible refine (laws_toRefVal.calls k1 ((rd_T83 l0 x4_1).f0) _ _ ((rd_T83 l0 x4_1).f1) ((rd_T83 l0 x4_1).f2.f0) ((rd_T83 l0 x4_1).f2.f1) ((rd_T83 l0 x4_1).f2.f2) ((rd_T83 l0 x4_1).f2.f3) t287 t288 t291 t292 t293 t294 _ ?side1 ?side2 A8.out).mono ?_); (case side1 => exact sqC (Kd.C_below HR286_1.out HB.out)); (case side2 => exact HC286_1.out); rintro e w11 ⟨v289, rfl, ho0, hb⟩; refine ⟨_, rfl, ?_⟩; have n0_ := Aside0.mk (Kd.S_elder' (by (with_reducible repeat (first | apply Kd.S_alloc | apply Kd.S_drewN | apply Kd.S_drew)); exact HO_3.out) (Kd.R_base ho0) hb); have n1_ := Aside0.mk (Kd.R_lower ho0 (below_size (sqB HB))); have n2_ := sqs HB hb; clear HO_3; clear HB; have HO_3 := n0_; have HO290 := n1_; have HB := n2_; clear n0_ n1_ n2_; (try clear hb); (try clear hb2); (try clear hk); (try clear hi); (try clear ho0); have p10 : 0 ≤ (x4_1 : Int) := sqd; have q10 : (x4_1 : Int) < ((x3_1.length : Int) : Int) := sqd; obtain ⟨go10, co10, eo10, gb10, gl10, cl10, HG10⟩ := Kd.S_form HO_3.out (by omega); (first | cases eo10 | (injection eo10 with ea_ en_ ec_; (first | subst ea_ | (injection ea_ with ea_; subst ea_)); subst ec_; clear en_)); have GB10 := Aside0.mk gb10; have GG10 := Aside0.mk HG10; clear gb10 gl10 HG10; obtain ⟨_, ce10, hcl10, hM10, hcc10, hfr10, _, _⟩ := Kd.S_elem HO_3.out z63 (x4_1 : Int) p10 q10; obtain ⟨ve10_1, rfl, ge10_1⟩ := k63_openM hM10; have hx10_0 : w11.cell? ⟨go10, (x4_1 : Int).toNat * 6, none⟩ = some (.bool ((rd_T63 x3_1 x4_1).f0)) := hcc10 0 _ rfl; have hx10_1 : w11.cell? ⟨go10, (x4_1 : Int).toNat * 6 + 1, none⟩ = some (ve10_1) := hcc10 1 _ rfl; have hx10_2 : w11.cell? ⟨go10, (x4_1 : Int).toNat * 6 + 2, none⟩ = some (.int .i64 ((rd_T63 x3_1 x4_1).f2.f0)) := hcc10 2 _ rfl; have hx10_3 : w11.cell? ⟨go10, (x4_1 : Int).toNat * 6 + 3, none⟩ = some (.int .i64 ((rd_T63 x3_1 x4_1).f2.f1)) := hcc10 3 _ rfl; have hx10_4 : w11.cell? ⟨go10, (x4_1 : Int).toNat * 6 + 4, none⟩ = some (.int .i64 ((rd_T63 x3_1 x4_1).f2.f2)) := hcc10 4 _ rfl; have hx10_5 : w11.cell? ⟨go10, (x4_1 : Int).toNat * 6 + 5, none⟩ = some (.int .i64 ((rd_T63 x3_1 x4_1).f2.f3)) := hcc10 5 _ rfl; have hf10_0 : w11.frozen? ⟨go10, (x4_1 : Int).toNat * 6, none⟩ = false := hfr10 0; have hf10_1 : w11.frozen? ⟨go10, (x4_1 : Int).toNat * 6 + 1, none⟩ = false := hfr10 1; have hf10_2 : w11.frozen? ⟨go10, (x4_1 : Int).toNat * 6 + 2, none⟩ = false := hfr10 2; have hf10_3 : w11.frozen? ⟨go10, (x4_1 : Int).toNat * 6 + 3, none⟩ = false := hfr10 3; have hf10_4 : w11.frozen? ⟨go10, (x4_1 : Int).toNat * 6 + 4, none⟩ = false := hfr10 4; have hf10_5 : w11.frozen? ⟨go10, (x4_1 : Int).toNat * 6 + 5, none⟩ = false := hfr10 5; clear hcl10 hcc10 hfr10 hM10; replace p10 := eq_true p10; replace q10 := eq_true q10; obtain ⟨Ao12, co12, eo12⟩ := Kd.R_slice HO290.out; subst eo12; have n_ := Aside0.mk (Kd.S_mono (ok' := (fun k_ => some k_ ≠ (.slice Ao12 t288.length co12 : Value).ownBlock)) HO_3.out (fun k_ hk => hk.2)); clear HO_3; have HO_3 := n_; clear n_; have HX13 := Aside0.mk (show Kd.S k63 63 w11 w.heap.size (fun k_ => ((fun _ => True)) k_ ∧ ¬ ((fun k_ => some k_ = (.slice Ao12 t288.length co12 : Value).ownBlock)) k_) (.slice (some ⟨go10, 0, none⟩) x3_1.length co10) x3_1 from (by (with_reducible repeat (first | apply Kd.S_alloc | apply Kd.S_drewN | apply Kd.S_drew)); exact Kd.S_mono HO_3.out (fun k_ hk => ⟨trivial, fun e_ => hk e_⟩))); obtain ⟨oki13, ce13, hcl13, hM13, hcc13, hfr13, hoki13, hH13⟩ := Kd.S_elem HX13.out z63 (x4_1 : Int) sqd (by have h_ : (x4_1 : Int) < ((x3_1.length : Int) : Int) := sqd; first | exact h_ | (have e_ := (Kd.S_reads' HO_3.out).1; omega) | simpa using h_); obtain ⟨ve13_1, rfl, ge13_1⟩ := k63_openM hM13; have HP13 := Kd.S_seg hH13 sqd (by have h_ : (x4_1 : Int) < ((x3_1.length : Int) : Int) := sqd; first | exact h_ | (have e_ := (Kd.S_reads' HO_3.out).1; omega) | simpa using h_) (seg := [.bool t287, .slice Ao12 t288.length co12, .int .i64 t291, .int .i64 t292, .int .i64 t293, .int .i64 t294]) (j := 0) (show 6 ≤ 6 from by decide) (x' := (⟨t287, t288, (⟨t291, t292, t293, t294⟩ : S60)⟩ : S63)) (k63_mkM _ _ _ (⟨t287, t288, (⟨t291, t292, t293, t294⟩ : S60)⟩ : S63) (Kd.R_mono (Kd.R_tight rfl (Kd.R_mono (ok' := fun k_ => ((fun _ => True)) k_ ∧ k_ ≠ go10) (Kd.R_apart' (HO290.out) (Kd.S_typed HO_3.out) (by decide)) (fun k_ hk => ⟨trivial, fun e_ => (hk.2) (by rw [e_]; rfl)⟩))) (fun _ h_ => Or.inr (h_)))) (fun _ hk => hk) (fun k_ hk_ => ((Kd.R_mono (ok' := fun k_ => ((fun _ => True)) k_ ∧ k_ ≠ go10) (Kd.R_apart' (HO290.out) (Kd.S_typed HO_3.out) (by decide)) (fun k_ hk => ⟨trivial, fun e_ => (hk.2) (by rw [e_]; rfl)⟩))).1 k_ hk_.symm); have hx13_0 := hcc13 0 _ rfl; (try simp only [show (k63).sz = 6 from rfl, Nat.mul_one, Nat.add_zero] at hx13_0); have hf13_0 := hfr13 0; (try simp only [show (k63).sz = 6 from rfl, Nat.mul_one, Nat.add_zero] at hf13_0); have hx13_1 := hcc13 1 _ rfl; (try simp only [show (k63).sz = 6 from rfl, Nat.mul_one, Nat.add_zero] at hx13_1); have hf13_1 := hfr13 1; (try simp only [show (k63).sz = 6 from rfl, Nat.mul_one, Nat.add_zero] at hf13_1); have hx13_2 := hcc13 2 _ rfl; (try simp only [show (k63).sz = 6 from rfl, Nat.mul_one, Nat.add_zero] at hx13_2); have hf13_2 := hfr13 2; (try simp only [show (k63).sz = 6 from rfl, Nat.mul_one, Nat.add_zero] at hf13_2); have hx13_3 := hcc13 3 _ rfl; (try simp only [show (k63).sz = 6 from rfl, Nat.mul_one, Nat.add_zero] at hx13_3); have hf13_3 := hfr13 3; (try simp only [show (k63).sz = 6 from rfl, Nat.mul_one, Nat.add_zero] at hf13_3); have hx13_4 := hcc13 4 _ rfl; (try simp only [show (k63).sz = 6 from rfl, Nat.mul_one, Nat.add_zero] at hx13_4); have hf13_4 := hfr13 4; (try simp only [show (k63).sz = 6 from rfl, Nat.mul_one, Nat.add_zero] at hf13_4); have hx13_5 := hcc13 5 _ rfl; (try simp only [show (k63).sz = 6 from rfl, Nat.mul_one, Nat.add_zero] at hx13_5); have hf13_5 := hfr13 5; (try simp only [show (k63).sz = 6 from rfl, Nat.mul_one, Nat.add_zero] at hf13_5); clear hcl13 hcc13 hfr13 hM13 hoki13 hH13) | ((with_reducible refine gate_store (t := 63) (p := 21) rfl ?_); refine store_event (t := 63) (p := 21) (v := ?vo_w14) (w1 := ((((((w11.setCell ⟨go10, (x4_1 : Int).toNat * 6, none⟩ (.bool t287)).setCell ⟨go10, (x4_1 : Int).toNat * 6 + 1, none⟩ (.slice Ao12 t288.length co12)).setCell ⟨go10, (x4_1 : Int).toNat * 6 + 2, none⟩ (.int .i64 t291)).setCell ⟨go10, (x4_1 : Int).toNat * 6 + 3, none⟩ (.int .i64 t292)).setCell ⟨go10, (x4_1 : Int).toNat * 6 + 4, none⟩ (.int .i64 t293)).setCell ⟨go10, (x4_1 : Int).toNat * 6 + 5, none⟩ (.int .i64 t294))) ?hg ?ho ?hn ?hr ?_; (case ho => rfl); (case hg => rfl); (case hn => rfl); (case hr => first | (go_simp; done) | (go_simp; rfl)); intro w14 hw; have hg : w11.grownBy w14 (some go10) := (by rw [hw]; exact HP13.2); have hp_ : Kd.S k63 63 w14 w.heap.size (fun _ => True) (.slice (some ⟨go10, 0, none⟩) x3_1.length co10) y295 := (by rw [hw, Ny295.out]; exact HP13.1); clear HP13; have n0_ := Aside0.mk (hp_); have n1_ := Aside0.mk ((by rw [hw]; exact below_set (below_set (below_set (below_set (below_set (below_set (HB.out) GB10.out) GB10.out) GB10.out) GB10.out) GB10.out) GB10.out : Below w.heap.size w w14)); clear HO_3; clear HB; clear HO290; have HO_3 := n0_; have HB := n1_; clear n0_ n1_; clear hg hw hp_))
   go_roundg k1
   case measure => have := HK1.out; omega
   case rel => exact ⟨(y295), (wrap64 (x4_1 + 1)), (by first | rfl | (simp; done) | (simp [*]; done)), H', ⟨by have := HK1.out; omega⟩, ⟨by (with_reducible repeat (first | apply Kd.S_alloc | apply Kd.S_drewN | apply Kd.S_drew)); exact HO_3.out⟩, sqh HB⟩

/-! ### laws_toGaps: function 27 -/
set_option maxHeartbeats 8000000 in
set_option maxRecDepth 100000 in
theorem laws_toGaps.calls (k : Nat) (a0_0 : Int) (A0_1 : Option Addr) (c0_1 : Nat) (l0_1 : List Int) (r1 : Int) (r2 : List Int) (w : World) (hr0_1 : Kd.C (Kd.int .i64) w A0_1 l0_1.length l0_1) (hc0_1 : l0_1.length ≤ c0_1) (h : laws_toGaps.f k a0_0 l0_1 = some (r1, r2)) :
  Calls Try.prog 27 #[.agg #[.int .i64 a0_0, .slice A0_1 l0_1.length c0_1]] w fun e w' => ∃ v1_ : Value, e = .returned (.agg #[.int .i64 r1, v1_]) ∧ Kd.R (Kd.int .i64) 3 w' w.heap.size (fun _ => True) v1_ r2 ∧ Below w.heap.size w w' := by
 have hu26 := Try.underlying26
 have hu37 := Try.underlying37
 have HR0_1 := Aside0.mk hr0_1
 have HC0_1 := Aside0.mk hc0_1
 clear hr0_1 hc0_1
 have HB := Aside0.mk (Below.refl w.heap.size w)
 have H := h
 unfold laws_toGaps.f at H
 clear h
 replace H := Option.bind_eq_some_iff.mp H
 obtain ⟨t299, A20, H⟩ := H
 try dsimp only at H
 have A2 := Aside0.mk A20
 clear A20
 simp only [Option.some.injEq, Prod.mk.injEq] at H
 obtain ⟨rfl, rfl⟩ := H
 go_enter Try.func27, Try.ntmps27
 go_wp2_with (first | ((with_reducible refine gate_dst (N := 1) rfl ?_); refine sqx 1 #[.int .i64 a0_0, .slice A0_1 l0_1.length c0_1] 26 ?_; intro gb296 hg w3 hbox hb; have BK296 := Aside0.mk hbox; have GW296 := sqg HB hg; have GE296 := sqg HB hg; replace HB := sqs HB hb; clear hb hbox hg) | ((with_reducible refine gate_dst (N := 2) rfl ?_); refine sqx 2 #[.int .i64 0, .slice none 0 0] 37 ?_; intro gb297 hg w4 hbox hb; have BK297 := Aside0.mk hbox; have GW297 := sqg HB hg; have GE297 := sqg HB hg; have NB296_297 := sqn BK296 hg; have NB297_296 := sqm BK296 hg; replace BK296 := sqb BK296 hb; replace HB := sqs HB hb; clear hb hbox hg) | ((with_reducible refine gate_dst (N := 3) rfl ?_); refine sqx 3 #[.int .i64 0, .slice none 0 0] 37 ?_; intro gb298 hg w5 hbox hb; have BK298 := Aside0.mk hbox; have GW298 := sqg HB hg; have GE298 := sqg HB hg; have NB296_298 := sqn BK296 hg; have NB298_296 := sqm BK296 hg; have NB297_298 := sqn BK297 hg; have NB298_297 := sqm BK297 hg; refine sqM2 BK296 BK297 hb ?_; clear BK296 BK297; intro BK296 BK297; replace HB := sqs HB hb; clear hb hbox hg; have hnb6 := NB296_297.out; have hnc6 := NB297_296.out; have hnb7 := NB296_298.out; have hnc7 := NB298_296.out; obtain ⟨hcz8_0, hcz8_1, hfz8_0, hfz8_1⟩ := sqc2 BK296; have hnb9 := NB298_297.out; have hnc9 := NB297_298.out; obtain ⟨hcz10_0, hcz10_1, hfz10_0, hfz10_1⟩ := sqc2 BK298) | ((with_reducible refine gate_callee (f := 9) rfl ?_); refine sqL (some 9) Try.func9 #[.slice A0_1 l0_1.length c0_1] ?_; (with_reducible refine (laws_toIntS.calls k _ _ l0_1 t299 _ ?side1 ?side2 A2.out).mono ?_); (case side1 => exact Kd.C_below HR0_1.out (sqB HB)); (case side2 => exact HC0_1.out); rintro e w11 ⟨v300, rfl, ho0, hb⟩; refine ⟨_, rfl, ?_⟩; have n0_ := Aside0.mk (Kd.R_lower ho0 (below_size (sqB HB))); have n1_ := sqbb BK296 hb; have n2_ := sqbb BK297 hb; have n3_ := Aside0.mk (blk_below (g := gb298) (o := .cells #[.int .i64 a0_0, .slice none 0 0] 37 (0, 0)) (by refine sqt ?_; refine blk_put (cs := #[.int .i64 0, .slice none 0 0]) ?_ 0 _ rfl; refine sqt ?_; exact BK298.out) hb); have n4_ := sqs HB hb; clear BK296; clear BK297; clear BK298; clear HB; have HO301 := n0_; have BK296 := n1_; have BK297 := n2_; have BK298 := n3_; have HB := n4_; clear n0_ n1_ n2_ n3_ n4_; (try clear hb); (try clear hb2); (try clear hk); (try clear hi); (try clear ho0); obtain ⟨Ao12, co12, eo12⟩ := Kd.R_slice HO301.out; subst eo12; obtain ⟨hcz13_0, hcz13_1, hfz13_0, hfz13_1⟩ := sqc2 BK298; obtain ⟨hcz14_0, hcz14_1, hfz14_0, hfz14_1⟩ := sqc2 BK297))
 refine bodyPost_ret (results_cell_row rfl _ _ gb297 37 #[.int .i64 a0_0, .slice Ao12 t299.length co12] (0, 0) _ rfl (by refine sqt ?_; refine blk_put (cs := #[.int .i64 a0_0, .slice none 0 0]) ?_ 1 _ rfl; refine sqt ?_; refine blk_put (cs := #[.int .i64 0, .slice none 0 0]) ?_ 0 _ rfl; refine sqt ?_; refine blk_far ?_ NB297_298.out _; refine sqt ?_; exact BK297.out) Try.underlying37 rfl (by kernel_rfl)) rfl ?_
 exact ⟨_, by first | rfl | (simp [errW_none, errW_some] <;> rfl) | (simp [*, errW_none, errW_some] <;> rfl), by (with_reducible repeat (first | apply Kd.R_alloc | apply Kd.R_drewN | apply Kd.R_drew)); exact Kd.R_mono (Kd.R_far (p := ⟨gb297, 1, none⟩) (Kd.R_far (p := ⟨gb297, 0, none⟩) (Kd.R_far (p := ⟨gb298, 1, none⟩) (Kd.R_types (Kd.R_types HO301.out BK298.out (by decide)) BK297.out (by decide)) (fun _ hk => hk.1.2) (.slice Ao12 t299.length co12)) (fun _ hk => hk.2) (.int .i64 a0_0)) (fun _ hk => hk.2) (.slice Ao12 t299.length co12)) (fun _ hk => trivial), sqB HB⟩

/-! ### laws_toAbs: function 8 -/
set_option maxHeartbeats 8000000 in
set_option maxRecDepth 100000 in
theorem laws_toAbs.calls (k : Nat) (a0_0 : Bool) (A0_1 : Option Addr) (c0_1 : Nat) (l0_1 : List (S81)) (A0_2 : Option Addr) (c0_2 : Nat) (l0_2 : List (S83)) (A0_3 : Option Addr) (c0_3 : Nat) (l0_3 : List (S81)) (a0_4 : Int) (A0_5 : Option Addr) (c0_5 : Nat) (l0_5 : List Int) (r1 : Bool) (r2 : List (S60)) (r3 : List (S63)) (r4 : List (S60)) (r5 : Int) (r6 : List Int) (w : World) (hr0_1 : Kd.C k81 w A0_1 l0_1.length l0_1) (hc0_1 : l0_1.length ≤ c0_1) (hr0_2 : Kd.C k83 w A0_2 l0_2.length l0_2) (hc0_2 : l0_2.length ≤ c0_2) (hr0_3 : Kd.C k81 w A0_3 l0_3.length l0_3) (hc0_3 : l0_3.length ≤ c0_3) (hr0_5 : Kd.C (Kd.int .i64) w A0_5 l0_5.length l0_5) (hc0_5 : l0_5.length ≤ c0_5) (h : laws_toAbs.f k a0_0 l0_1 l0_2 l0_3 a0_4 l0_5 = some (r1, r2, r3, r4, r5, r6)) :
  Calls Try.prog 8 #[.agg #[.bool a0_0, .slice A0_1 l0_1.length c0_1, .slice A0_2 l0_2.length c0_2, .slice A0_3 l0_3.length c0_3, .int .i64 a0_4, .slice A0_5 l0_5.length c0_5]] w fun e w' => ∃ v1_ v2_ v3_ v5_ : Value, e = .returned (.agg #[.bool r1, v1_, v2_, v3_, .int .i64 r5, v5_]) ∧ Kd.R k60 60 w' w.heap.size (fun k_ => some k_ ≠ (v3_ : Value).ownBlock) v1_ r2 ∧ Kd.S k63 63 w' w.heap.size (fun k_ => some k_ ≠ (v5_ : Value).ownBlock) v2_ r3 ∧ Kd.R k60 60 w' w.heap.size (fun k_ => some k_ ≠ (v1_ : Value).ownBlock) v3_ r4 ∧ Kd.R (Kd.int .i64) 3 w' w.heap.size (fun _ => True) v5_ r6 ∧ Below w.heap.size w w' := by
 have hu28 := Try.underlying28
 have hu39 := Try.underlying39
 have hu26 := Try.underlying26
 have hu37 := Try.underlying37
 have HR0_1 := Aside0.mk hr0_1
 have HC0_1 := Aside0.mk hc0_1
 clear hr0_1 hc0_1
 have HR0_2 := Aside0.mk hr0_2
 have HC0_2 := Aside0.mk hc0_2
 clear hr0_2 hc0_2
 have HR0_3 := Aside0.mk hr0_3
 have HC0_3 := Aside0.mk hc0_3
 clear hr0_3 hc0_3
 have HR0_5 := Aside0.mk hr0_5
 have HC0_5 := Aside0.mk hc0_5
 clear hr0_5 hc0_5
 have HB := Aside0.mk (Below.refl w.heap.size w)
 have H := h
 unfold laws_toAbs.f at H
 clear h
 replace H := Option.bind_eq_some_iff.mp H
 obtain ⟨t305, A20, H⟩ := H
 try dsimp only at H
 have A2 := Aside0.mk A20
 clear A20
 replace H := Option.bind_eq_some_iff.mp H
 obtain ⟨t308, A30, H⟩ := H
 try dsimp only at H
 have A3 := Aside0.mk A30
 clear A30
 replace H := Option.bind_eq_some_iff.mp H
 obtain ⟨t311, A40, H⟩ := H
 try dsimp only at H
 have A4 := Aside0.mk A40
 clear A40
 replace H := Option.bind_eq_some_iff.mp H
 obtain ⟨⟨t314, t315⟩, A50, H⟩ := H
 try dsimp only at H
 have A5 := Aside0.mk A50
 clear A50
 simp only [Option.some.injEq, Prod.mk.injEq] at H
 obtain ⟨rfl, rfl, rfl, rfl, rfl, rfl⟩ := H
 go_enter Try.func8, Try.ntmps8
 go_wp2_with (first | ((with_reducible refine gate_dst (N := 1) rfl ?_); refine sqx 1 #[.bool a0_0, .slice A0_1 l0_1.length c0_1, .slice A0_2 l0_2.length c0_2, .slice A0_3 l0_3.length c0_3, .int .i64 a0_4, .slice A0_5 l0_5.length c0_5] 28 ?_; intro gb302 hg w6 hbox hb; have BK302 := Aside0.mk hbox; have GW302 := sqg HB hg; have GE302 := sqg HB hg; replace HB := sqs HB hb; clear hb hbox hg) | ((with_reducible refine gate_dst (N := 2) rfl ?_); refine sqx 2 #[.bool false, .slice none 0 0, .slice none 0 0, .slice none 0 0, .int .i64 0, .slice none 0 0] 39 ?_; intro gb303 hg w7 hbox hb; have BK303 := Aside0.mk hbox; have GW303 := sqg HB hg; have GE303 := sqg HB hg; have NB302_303 := sqn BK302 hg; have NB303_302 := sqm BK302 hg; replace BK302 := sqb BK302 hb; replace HB := sqs HB hb; clear hb hbox hg) | ((with_reducible refine gate_dst (N := 3) rfl ?_); refine sqx 3 #[.bool false, .slice none 0 0, .slice none 0 0, .slice none 0 0, .int .i64 0, .slice none 0 0] 39 ?_; intro gb304 hg w8 hbox hb; have BK304 := Aside0.mk hbox; have GW304 := sqg HB hg; have GE304 := sqg HB hg; have NB302_304 := sqn BK302 hg; have NB304_302 := sqm BK302 hg; have NB303_304 := sqn BK303 hg; have NB304_303 := sqm BK303 hg; refine sqM2 BK302 BK303 hb ?_; clear BK302 BK303; intro BK302 BK303; replace HB := sqs HB hb; clear hb hbox hg; have hnb9 := NB302_303.out; have hnc9 := NB303_302.out; have hnb10 := NB302_304.out; have hnc10 := NB304_302.out; obtain ⟨hcz11_0, hcz11_1, hcz11_2, hcz11_3, hcz11_4, hcz11_5, hfz11_0, hfz11_1, hfz11_2, hfz11_3, hfz11_4, hfz11_5⟩ := sqc6 BK302; have hnb12 := NB304_303.out; have hnc12 := NB303_304.out; obtain ⟨hcz13_0, hcz13_1, hcz13_2, hcz13_3, hcz13_4, hcz13_5, hfz13_0, hfz13_1, hfz13_2, hfz13_3, hfz13_4, hfz13_5⟩ := sqc6 BK304) | ((with_reducible refine gate_callee (f := 25) rfl ?_); refine sqL (some 9) Try.func25 #[.slice A0_1 l0_1.length c0_1] ?_; (with_reducible refine (laws_toValS.calls k _ _ l0_1 t305 _ ?side1 ?side2 A2.out).mono ?_); (case side1 => exact Kd.C_below HR0_1.out (sqB HB)); (case side2 => exact HC0_1.out); rintro e w14 ⟨v306, rfl, ho0, hb⟩; refine ⟨_, rfl, ?_⟩; have n0_ := Aside0.mk (Kd.R_lower ho0 (below_size (sqB HB))); have n1_ := sqbb BK302 hb; have n2_ := sqbb BK303 hb; have n3_ := Aside0.mk (blk_below (g := gb304) (o := .cells #[.bool a0_0, .slice none 0 0, .slice none 0 0, .slice none 0 0, .int .i64 0, .slice none 0 0] 39 (0, 0)) (by refine sqt ?_; refine blk_put (cs := #[.bool false, .slice none 0 0, .slice none 0 0, .slice none 0 0, .int .i64 0, .slice none 0 0]) ?_ 0 _ rfl; refine sqt ?_; exact BK304.out) hb); have n4_ := sqs HB hb; clear BK302; clear BK303; clear BK304; clear HB; have HO307 := n0_; have BK302 := n1_; have BK303 := n2_; have BK304 := n3_; have HB := n4_; clear n0_ n1_ n2_ n3_ n4_; (try clear hb); (try clear hb2); (try clear hk); (try clear hi); (try clear ho0); obtain ⟨Ao15, co15, eo15⟩ := Kd.R_slice HO307.out; subst eo15; obtain ⟨hcz16_0, hcz16_1, hcz16_2, hcz16_3, hcz16_4, hcz16_5, hfz16_0, hfz16_1, hfz16_2, hfz16_3, hfz16_4, hfz16_5⟩ := sqc6 BK304; obtain ⟨hcz17_0, hcz17_1, hcz17_2, hcz17_3, hcz17_4, hcz17_5, hfz17_0, hfz17_1, hfz17_2, hfz17_3, hfz17_4, hfz17_5⟩ := sqc6 BK302) | ((with_reducible refine gate_callee (f := 26) rfl ?_); refine sqL (some 13) Try.func26 #[.slice A0_2 l0_2.length c0_2] ?_; (with_reducible refine (laws_toRefValS.calls k _ _ l0_2 t308 _ ?side1 ?side2 A3.out).mono ?_); (case side1 => exact Kd.C_below HR0_2.out (sqB HB)); (case side2 => exact HC0_2.out); rintro e w18 ⟨v309, rfl, ho0, hb⟩; refine ⟨_, rfl, ?_⟩; have n0_ := Aside0.mk (Kd.R_below (by (with_reducible repeat (first | apply Kd.R_alloc | apply Kd.R_drewN | apply Kd.R_drew)); exact (Kd.R_mono (Kd.R_far (p := ⟨gb304, 1, none⟩) (Kd.R_types HO307.out BK304.out (by decide)) (fun _ hk => hk.2) (.slice Ao15 t305.length co15)) (fun _ h_ => h_.1))) hb); have n1_ := Aside0.mk (Kd.S_lower ho0 (below_size (sqB HB))); have n2_ := sqbb BK302 hb; have n3_ := sqbb BK303 hb; have n4_ := Aside0.mk (blk_below (g := gb304) (o := .cells #[.bool a0_0, .slice Ao15 t305.length co15, .slice none 0 0, .slice none 0 0, .int .i64 0, .slice none 0 0] 39 (0, 0)) (by refine sqt ?_; refine blk_put (cs := #[.bool a0_0, .slice none 0 0, .slice none 0 0, .slice none 0 0, .int .i64 0, .slice none 0 0]) ?_ 1 _ rfl; refine sqt ?_; exact BK304.out) hb); have n5_ := sqs HB hb; clear HO307; clear BK302; clear BK303; clear BK304; clear HB; have HO307 := n0_; have HO310 := n1_; have BK302 := n2_; have BK303 := n3_; have BK304 := n4_; have HB := n5_; clear n0_ n1_ n2_ n3_ n4_ n5_; (try clear hb); (try clear hb2); (try clear hk); (try clear hi); (try clear ho0); obtain ⟨Ao19, co19, eo19⟩ := Kd.S_slice HO310.out; subst eo19; obtain ⟨hcz20_0, hcz20_1, hcz20_2, hcz20_3, hcz20_4, hcz20_5, hfz20_0, hfz20_1, hfz20_2, hfz20_3, hfz20_4, hfz20_5⟩ := sqc6 BK304; obtain ⟨hcz21_0, hcz21_1, hcz21_2, hcz21_3, hcz21_4, hcz21_5, hfz21_0, hfz21_1, hfz21_2, hfz21_3, hfz21_4, hfz21_5⟩ := sqc6 BK302) | ((with_reducible refine gate_callee (f := 25) rfl ?_); refine sqL (some 17) Try.func25 #[.slice A0_3 l0_3.length c0_3] ?_; (with_reducible refine (laws_toValS.calls k _ _ l0_3 t311 _ ?side1 ?side2 A4.out).mono ?_); (case side1 => exact Kd.C_below HR0_3.out (sqB HB)); (case side2 => exact HC0_3.out); rintro e w22 ⟨v312, rfl, ho0, hb⟩; refine ⟨_, rfl, ?_⟩; have n0_ := Aside0.mk (Kd.R_elder' (by (with_reducible repeat (first | apply Kd.R_alloc | apply Kd.R_drewN | apply Kd.R_drew)); exact (Kd.R_mono (Kd.R_far (p := ⟨gb304, 2, none⟩) (Kd.R_types HO307.out BK304.out (by decide)) (fun _ hk => hk.2) (.slice Ao19 t308.length co19)) (fun _ h_ => h_.1))) (Kd.R_base ho0) hb); have n1_ := Aside0.mk (Kd.S_below (by (with_reducible repeat (first | apply Kd.S_alloc | apply Kd.S_drewN | apply Kd.S_drew)); exact (Kd.S_mono (Kd.S_far (p := ⟨gb304, 2, none⟩) (Kd.S_types HO310.out BK304.out (by decide)) (fun _ hk => hk.2) (.slice Ao19 t308.length co19)) (fun _ h_ => h_.1))) hb); have n2_ := Aside0.mk (Kd.R_lower (Kd.R_new' ho0 (Kd.R_lt (by (with_reducible repeat (first | apply Kd.R_alloc | apply Kd.R_drewN | apply Kd.R_drew)); exact (Kd.R_mono (Kd.R_far (p := ⟨gb304, 2, none⟩) (Kd.R_types HO307.out BK304.out (by decide)) (fun _ hk => hk.2) (.slice Ao19 t308.length co19)) (fun _ h_ => h_.1))))) (below_size (sqB HB))); have n3_ := sqbb BK302 hb; have n4_ := sqbb BK303 hb; have n5_ := Aside0.mk (blk_below (g := gb304) (o := .cells #[.bool a0_0, .slice Ao15 t305.length co15, .slice Ao19 t308.length co19, .slice none 0 0, .int .i64 0, .slice none 0 0] 39 (0, 0)) (by refine sqt ?_; refine blk_put (cs := #[.bool a0_0, .slice Ao15 t305.length co15, .slice none 0 0, .slice none 0 0, .int .i64 0, .slice none 0 0]) ?_ 2 _ rfl; refine sqt ?_; exact BK304.out) hb); have n6_ := sqs HB hb; clear HO307; clear HO310; clear BK302; clear BK303; clear BK304; clear HB; have HO307 := n0_; have HO310 := n1_; have HO313 := n2_; have BK302 := n3_; have BK303 := n4_; have BK304 := n5_; have HB := n6_; clear n0_ n1_ n2_ n3_ n4_ n5_ n6_; (try clear hb); (try clear hb2); (try clear hk); (try clear hi); (try clear ho0); obtain ⟨Ao23, co23, eo23⟩ := Kd.R_slice HO313.out; subst eo23; obtain ⟨hcz24_0, hcz24_1, hcz24_2, hcz24_3, hcz24_4, hcz24_5, hfz24_0, hfz24_1, hfz24_2, hfz24_3, hfz24_4, hfz24_5⟩ := sqc6 BK304; obtain ⟨hcz25_0, hcz25_1, hcz25_2, hcz25_3, hcz25_4, hcz25_5, hfz25_0, hfz25_1, hfz25_2, hfz25_3, hfz25_4, hfz25_5⟩ := sqc6 BK302) | ((with_reducible refine gate_callee (f := 27) rfl ?_); refine sqL (some 21) Try.func27 #[.agg #[.int .i64 a0_4, .slice A0_5 l0_5.length c0_5]] ?_; (with_reducible refine (laws_toGaps.calls k a0_4 _ _ l0_5 t314 t315 _ ?side1 ?side2 A5.out).mono ?_); (case side1 => exact Kd.C_below HR0_5.out (sqB HB)); (case side2 => exact HC0_5.out); rintro e w26 ⟨v316, rfl, ho0, hb⟩; refine ⟨_, rfl, ?_⟩; have n0_ := Aside0.mk (Kd.R_below (by (with_reducible repeat (first | apply Kd.R_alloc | apply Kd.R_drewN | apply Kd.R_drew)); exact (Kd.R_mono (Kd.R_far (p := ⟨gb304, 3, none⟩) (Kd.R_types HO307.out BK304.out (by decide)) (fun _ hk => hk.2) (.slice Ao23 t311.length co23)) (fun _ h_ => h_.1))) hb); have n1_ := Aside0.mk (Kd.S_elder' (by (with_reducible repeat (first | apply Kd.S_alloc | apply Kd.S_drewN | apply Kd.S_drew)); exact (Kd.S_mono (Kd.S_far (p := ⟨gb304, 3, none⟩) (Kd.S_types HO310.out BK304.out (by decide)) (fun _ hk => hk.2) (.slice Ao23 t311.length co23)) (fun _ h_ => h_.1))) (Kd.R_base ho0) hb); have n2_ := Aside0.mk (Kd.R_below (by (with_reducible repeat (first | apply Kd.R_alloc | apply Kd.R_drewN | apply Kd.R_drew)); exact (Kd.R_mono (Kd.R_far (p := ⟨gb304, 3, none⟩) (Kd.R_types HO313.out BK304.out (by decide)) (fun _ hk => hk.2) (.slice Ao23 t311.length co23)) (fun _ h_ => h_.1))) hb); have n3_ := Aside0.mk (Kd.R_lower ho0 (below_size (sqB HB))); have n4_ := sqbb BK302 hb; have n5_ := sqbb BK303 hb; have n6_ := Aside0.mk (blk_below (g := gb304) (o := .cells #[.bool a0_0, .slice Ao15 t305.length co15, .slice Ao19 t308.length co19, .slice Ao23 t311.length co23, .int .i64 0, .slice none 0 0] 39 (0, 0)) (by refine sqt ?_; refine blk_put (cs := #[.bool a0_0, .slice Ao15 t305.length co15, .slice Ao19 t308.length co19, .slice none 0 0, .int .i64 0, .slice none 0 0]) ?_ 3 _ rfl; refine sqt ?_; exact BK304.out) hb); have n7_ := sqs HB hb; clear HO307; clear HO310; clear HO313; clear BK302; clear BK303; clear BK304; clear HB; have HO307 := n0_; have HO310 := n1_; have HO313 := n2_; have HO317 := n3_; have BK302 := n4_; have BK303 := n5_; have BK304 := n6_; have HB := n7_; clear n0_ n1_ n2_ n3_ n4_ n5_ n6_ n7_; (try clear hb); (try clear hb2); (try clear hk); (try clear hi); (try clear ho0); obtain ⟨hcz27_0, hcz27_1, hcz27_2, hcz27_3, hcz27_4, hcz27_5, hfz27_0, hfz27_1, hfz27_2, hfz27_3, hfz27_4, hfz27_5⟩ := sqc6 BK304; obtain ⟨Ao28, co28, eo28⟩ := Kd.R_slice HO317.out; subst eo28; obtain ⟨hcz29_0, hcz29_1, hcz29_2, hcz29_3, hcz29_4, hcz29_5, hfz29_0, hfz29_1, hfz29_2, hfz29_3, hfz29_4, hfz29_5⟩ := sqc6 BK303))
 refine bodyPost_ret (results_cell_row rfl _ _ gb303 39 #[.bool a0_0, .slice Ao15 t305.length co15, .slice Ao19 t308.length co19, .slice Ao23 t311.length co23, .int .i64 t314, .slice Ao28 t315.length co28] (0, 0) _ rfl (by refine sqt ?_; refine blk_put (cs := #[.bool a0_0, .slice Ao15 t305.length co15, .slice Ao19 t308.length co19, .slice Ao23 t311.length co23, .int .i64 t314, .slice none 0 0]) ?_ 5 _ rfl; refine sqt ?_; refine blk_put (cs := #[.bool a0_0, .slice Ao15 t305.length co15, .slice Ao19 t308.length co19, .slice Ao23 t311.length co23, .int .i64 0, .slice none 0 0]) ?_ 4 _ rfl; refine sqt ?_; refine blk_put (cs := #[.bool a0_0, .slice Ao15 t305.length co15, .slice Ao19 t308.length co19, .slice none 0 0, .int .i64 0, .slice none 0 0]) ?_ 3 _ rfl; refine sqt ?_; refine blk_put (cs := #[.bool a0_0, .slice Ao15 t305.length co15, .slice none 0 0, .slice none 0 0, .int .i64 0, .slice none 0 0]) ?_ 2 _ rfl; refine sqt ?_; refine blk_put (cs := #[.bool a0_0, .slice none 0 0, .slice none 0 0, .slice none 0 0, .int .i64 0, .slice none 0 0]) ?_ 1 _ rfl; refine sqt ?_; refine blk_put (cs := #[.bool false, .slice none 0 0, .slice none 0 0, .slice none 0 0, .int .i64 0, .slice none 0 0]) ?_ 0 _ rfl; refine sqt ?_; refine blk_far ?_ NB303_304.out _; refine sqt ?_; refine blk_far ?_ NB303_304.out _; refine sqt ?_; exact BK303.out) Try.underlying39 rfl (by kernel_rfl)) rfl ?_
 exact ⟨_, _, _, _, by first | rfl | (simp [errW_none, errW_some] <;> rfl) | (simp [*, errW_none, errW_some] <;> rfl), by (with_reducible repeat (first | apply Kd.R_alloc | apply Kd.R_drewN | apply Kd.R_drew)); exact Kd.R_mono (Kd.R_far (p := ⟨gb303, 5, none⟩) (Kd.R_far (p := ⟨gb303, 4, none⟩) (Kd.R_far (p := ⟨gb303, 3, none⟩) (Kd.R_far (p := ⟨gb303, 2, none⟩) (Kd.R_far (p := ⟨gb303, 1, none⟩) (Kd.R_far (p := ⟨gb303, 0, none⟩) (Kd.R_far (p := ⟨gb304, 5, none⟩) (Kd.R_far (p := ⟨gb304, 4, none⟩) (Kd.R_types (Kd.R_types HO307.out BK304.out (by decide)) BK303.out (by decide)) (fun _ hk => hk.1.2) (.int .i64 t314)) (fun _ hk => hk.1.2) (.slice Ao28 t315.length co28)) (fun _ hk => hk.2) (.bool a0_0)) (fun _ hk => hk.2) (.slice Ao15 t305.length co15)) (fun _ hk => hk.2) (.slice Ao19 t308.length co19)) (fun _ hk => hk.2) (.slice Ao23 t311.length co23)) (fun _ hk => hk.2) (.int .i64 t314)) (fun _ hk => hk.2) (.slice Ao28 t315.length co28)) (fun _ hk => hk.1.1.2), by (with_reducible repeat (first | apply Kd.S_alloc | apply Kd.S_drewN | apply Kd.S_drew)); exact Kd.S_mono (Kd.S_far (p := ⟨gb303, 5, none⟩) (Kd.S_far (p := ⟨gb303, 4, none⟩) (Kd.S_far (p := ⟨gb303, 3, none⟩) (Kd.S_far (p := ⟨gb303, 2, none⟩) (Kd.S_far (p := ⟨gb303, 1, none⟩) (Kd.S_far (p := ⟨gb303, 0, none⟩) (Kd.S_far (p := ⟨gb304, 5, none⟩) (Kd.S_far (p := ⟨gb304, 4, none⟩) (Kd.S_types (Kd.S_types HO310.out BK304.out (by decide)) BK303.out (by decide)) (fun _ hk => hk.1.2) (.int .i64 t314)) (fun _ hk => hk.1.2) (.slice Ao28 t315.length co28)) (fun _ hk => hk.2) (.bool a0_0)) (fun _ hk => hk.2) (.slice Ao15 t305.length co15)) (fun _ hk => hk.2) (.slice Ao19 t308.length co19)) (fun _ hk => hk.2) (.slice Ao23 t311.length co23)) (fun _ hk => hk.2) (.int .i64 t314)) (fun _ hk => hk.2) (.slice Ao28 t315.length co28)) (fun _ hk => hk.1.1.2), by (with_reducible repeat (first | apply Kd.R_alloc | apply Kd.R_drewN | apply Kd.R_drew)); exact Kd.R_mono (Kd.R_far (p := ⟨gb303, 5, none⟩) (Kd.R_far (p := ⟨gb303, 4, none⟩) (Kd.R_far (p := ⟨gb303, 3, none⟩) (Kd.R_far (p := ⟨gb303, 2, none⟩) (Kd.R_far (p := ⟨gb303, 1, none⟩) (Kd.R_far (p := ⟨gb303, 0, none⟩) (Kd.R_far (p := ⟨gb304, 5, none⟩) (Kd.R_far (p := ⟨gb304, 4, none⟩) (Kd.R_types (Kd.R_types HO313.out BK304.out (by decide)) BK303.out (by decide)) (fun _ hk => hk.1.2) (.int .i64 t314)) (fun _ hk => hk.1.2) (.slice Ao28 t315.length co28)) (fun _ hk => hk.2) (.bool a0_0)) (fun _ hk => hk.2) (.slice Ao15 t305.length co15)) (fun _ hk => hk.2) (.slice Ao19 t308.length co19)) (fun _ hk => hk.2) (.slice Ao23 t311.length co23)) (fun _ hk => hk.2) (.int .i64 t314)) (fun _ hk => hk.2) (.slice Ao28 t315.length co28)) (fun _ hk => hk.1.1.2), by (with_reducible repeat (first | apply Kd.R_alloc | apply Kd.R_drewN | apply Kd.R_drew)); exact Kd.R_mono (Kd.R_far (p := ⟨gb303, 5, none⟩) (Kd.R_far (p := ⟨gb303, 4, none⟩) (Kd.R_far (p := ⟨gb303, 3, none⟩) (Kd.R_far (p := ⟨gb303, 2, none⟩) (Kd.R_far (p := ⟨gb303, 1, none⟩) (Kd.R_far (p := ⟨gb303, 0, none⟩) (Kd.R_far (p := ⟨gb304, 5, none⟩) (Kd.R_far (p := ⟨gb304, 4, none⟩) (Kd.R_types (Kd.R_types HO317.out BK304.out (by decide)) BK303.out (by decide)) (fun _ hk => hk.1.2) (.int .i64 t314)) (fun _ hk => hk.1.2) (.slice Ao28 t315.length co28)) (fun _ hk => hk.2) (.bool a0_0)) (fun _ hk => hk.2) (.slice Ao15 t305.length co15)) (fun _ hk => hk.2) (.slice Ao19 t308.length co19)) (fun _ hk => hk.2) (.slice Ao23 t311.length co23)) (fun _ hk => hk.2) (.int .i64 t314)) (fun _ hk => hk.2) (.slice Ao28 t315.length co28)) (fun _ hk => trivial), sqB HB⟩

/-! ### laws_toRef: function 28 -/
set_option maxHeartbeats 8000000 in
set_option maxRecDepth 100000 in
theorem laws_toRef.calls (a0_0 : Int) (a0_1 : Int) (r1 : Int) (r2 : Int) (w : World) (h : laws_toRef.f a0_0 a0_1 = some (r1, r2)) :
  Calls Try.prog 28 #[.agg #[.int .i64 a0_0, .int .i64 a0_1]] w fun e w' => e = .returned (.agg #[.int .i64 r1, .int .i64 r2]) ∧ Below w.heap.size w w' := by
 have hu72 := Try.underlying72
 have hu65 := Try.underlying65
 have HB := Aside0.mk (Below.refl w.heap.size w)
 have H := h
 unfold laws_toRef.f at H
 clear h
 simp only [Option.some.injEq, Prod.mk.injEq] at H
 obtain ⟨rfl, rfl⟩ := H
 go_enter Try.func28, Try.ntmps28
 go_wp2_with (first | ((with_reducible refine gate_dst (N := 1) rfl ?_); refine sqx 1 #[.int .i64 a0_0, .int .i64 a0_1] 72 ?_; intro gb318 hg w2 hbox hb; have BK318 := Aside0.mk hbox; have GW318 := sqg HB hg; have GE318 := sqg HB hg; replace HB := sqs HB hb; clear hb hbox hg) | ((with_reducible refine gate_dst (N := 2) rfl ?_); refine sqx 2 #[.int .i64 0, .int .i64 0] 65 ?_; intro gb319 hg w3 hbox hb; have BK319 := Aside0.mk hbox; have GW319 := sqg HB hg; have GE319 := sqg HB hg; have NB318_319 := sqn BK318 hg; have NB319_318 := sqm BK318 hg; replace BK318 := sqb BK318 hb; replace HB := sqs HB hb; clear hb hbox hg) | ((with_reducible refine gate_dst (N := 3) rfl ?_); refine sqx 3 #[.int .i64 0, .int .i64 0] 65 ?_; intro gb320 hg w4 hbox hb; have BK320 := Aside0.mk hbox; have GW320 := sqg HB hg; have GE320 := sqg HB hg; have NB318_320 := sqn BK318 hg; have NB320_318 := sqm BK318 hg; have NB319_320 := sqn BK319 hg; have NB320_319 := sqm BK319 hg; refine sqM2 BK318 BK319 hb ?_; clear BK318 BK319; intro BK318 BK319; replace HB := sqs HB hb; clear hb hbox hg; have hnb5 := NB318_319.out; have hnc5 := NB319_318.out; have hnb6 := NB318_320.out; have hnc6 := NB320_318.out; obtain ⟨hcz7_0, hcz7_1, hfz7_0, hfz7_1⟩ := sqc2 BK318; have hnb8 := NB320_319.out; have hnc8 := NB319_320.out; obtain ⟨hcz9_0, hcz9_1, hfz9_0, hfz9_1⟩ := sqc2 BK320; obtain ⟨hcz10_0, hcz10_1, hfz10_0, hfz10_1⟩ := sqc2 BK319))
 refine bodyPost_ret (results_cell_row rfl _ _ gb319 65 #[.int .i64 a0_0, .int .i64 a0_1] (0, 0) _ rfl (by refine sqt ?_; refine blk_put (cs := #[.int .i64 a0_0, .int .i64 0]) ?_ 1 _ rfl; refine sqt ?_; refine blk_put (cs := #[.int .i64 0, .int .i64 0]) ?_ 0 _ rfl; refine sqt ?_; refine blk_far ?_ NB319_320.out _; refine sqt ?_; refine blk_far ?_ NB319_320.out _; refine sqt ?_; exact BK319.out) Try.underlying65 rfl (by kernel_rfl)) rfl ?_
 exact sqe HB

/-! ### laws_toRefS: function 10 -/
set_option maxHeartbeats 8000000 in
set_option maxRecDepth 100000 in
theorem laws_toRefS.calls (k : Nat) (A0 : Option Addr) (c0 : Nat) (l0 : List (S72)) (r : List (S65)) (w : World) (hr0 : Kd.C k72 w A0 l0.length l0) (hc0 : l0.length ≤ c0) (h : laws_toRefS.f k l0 = some r) :
  Calls Try.prog 10 #[.slice A0 l0.length c0] w fun e w' => ∃ v0_ : Value, e = .returned (v0_) ∧ Kd.R k65 65 w' w.heap.size (fun _ => True) v0_ r ∧ Below w.heap.size w w' := by
 have hu72 := Try.underlying72
 have hu65 := Try.underlying65
 have HR0 := Aside0.mk hr0
 have HC0 := Aside0.mk hc0
 clear hr0 hc0
 have HB := Aside0.mk (Below.refl w.heap.size w)
 have H := h
 unfold laws_toRefS.f at H
 clear h
 replace H := sqi H
 rcases H with ⟨c2, H⟩ | ⟨c2, H⟩
 ·exact absurd H (by simp)
 have c2b0 := eq_true c2
 have c2b1 := decide_eq_true c2
 clear c2
 replace H := sqi H
 rcases H with ⟨c3, H⟩ | ⟨c3, H⟩
 ·exact absurd H (by simp)
 have c3b0 := eq_true c3
 have c3b1 := decide_eq_true c3
 clear c3
 obtain ⟨y321, hy321⟩ : ∃ y_ : List (S65), y_ = (List.replicate ((l0.length : Int) : Int).toNat z65) := ⟨_, rfl⟩
 replace H : (laws_toRefS.l0 k l0 y321 0) = some r := by first | (rw [hy321]; with_reducible exact H) | (have H2_ := (Option.bind_some _ _).symm.trans H; rw [hy321]; with_reducible exact H2_) | (have H2_ := (Option.bind_some _ _).symm.trans H; with_reducible exact H2_) | with_reducible exact H | (rw [hy321]; exact H) | exact H
 have Ny321 := Aside0.mk hy321
 clear hy321
 have H' := Aside0.mk H
 clear H
 go_enter Try.func10, Try.ntmps10
 go_wp2_with (first | ((with_reducible refine gate_dst (N := 7) rfl ?_); refine Kd.R_make k65 _ 65 rfl (N := 7) rfl 42 _ _ rfl (l0.length : Int) rfl rfl Try.underlying42 (.agg #[(.int .i64 0), (.int .i64 0)]) 16 info65 rfl (by decide) (by omega) z65 (ok := fun _ => True) (okp := fun _ => True) (k65_mkM _ _ _ z65 ) (fun _ hk => hk) trivial sqd (Nat.le_trans (Nat.mul_le_mul_right _ (sqd : (l0.length : Int).toNat ≤ 17592186044416)) (by omega)) (Below.refl _ _) (Nat.le_refl _) ?_; intro v322 w4 ho5 hb hg_ hnew_; clear hg_ hnew_; (first | rw [← Ny321.out] at ho5 | (simp only [Int.reduceToNat] at ho5; rw [← Ny321.out] at ho5)); have HO323 := Aside0.mk (Kd.R_lower ho5 (below_size (sqB HB))); replace HB := sqs HB hb; clear hb ho5))
 go_loopg [4] k (fun kq v4 w' => ∃ (x3_1 : List (S65)) (x4_1 : Int), v4 = .int .i64 x4_1 ∧ Aside0 (laws_toRefS.l0 kq l0 x3_1 x4_1 = some r) ∧ Aside0 (kq ≤ k) ∧ Aside0 (Kd.R k65 65 w' w.heap.size (fun _ => True) v322 x3_1) ∧ Aside0 (Below w.heap.size w w'))
 case atStart => exact ⟨(y321), (0), (by first | rfl | (simp; done) | (simp [*]; done)), H', ⟨Nat.le_refl _⟩, ⟨sqy HO323.out⟩, sqh HB⟩
 case round =>
  clear H'
  obtain ⟨x3_1, x4_1, rfl, HA, HK1, HO_3, HB⟩ := hrel
  cases gk with
  | zero => exact absurd HA.out (by simp [laws_toRefS.l0])
  | succ k1 =>
   have H := HA.out
   clear HA
   simp only [laws_toRefS.l0] at H
   replace H := sqi H
   rcases H with ⟨c6, H⟩ | ⟨c6, H⟩
   ·have c6b0 := decide_eq_false c6
    clear c6
    obtain rfl := Option.some.inj H
    go_wp2
    go_ret
    exact ⟨_, by first | rfl | (simp [errW_none, errW_some] <;> rfl) | (simp [*, errW_none, errW_some] <;> rfl), by (with_reducible repeat (first | apply Kd.R_alloc | apply Kd.R_drewN | apply Kd.R_drew)); exact HO_3.out, sqB HB⟩
   have c6b0 := decide_eq_true c6
   clear c6
   replace H := sqi H
   rcases H with ⟨c7, H⟩ | ⟨c7, H⟩
   ·exact absurd H (by simp)
   have c7b0 := decide_eq_true c7
   clear c7
   replace H := Option.bind_eq_some_iff.mp H
   obtain ⟨⟨t325, t326⟩, A80, H⟩ := H
   try dsimp only at H
   have A8 := Aside0.mk A80
   clear A80
   replace H := sqi H
   rcases H with ⟨c9, H⟩ | ⟨c9, H⟩
   ·exact absurd H (by simp)
   have c9b0 := decide_eq_true c9
   clear c9
   obtain ⟨y327, hy327⟩ : ∃ y_ : List (S65), y_ = (x3_1.set (x4_1 : Int).toNat (⟨t325, t326⟩ : S65)) := ⟨_, rfl⟩
   replace H : (laws_toRefS.l0 k1 l0 y327 (wrap64 (x4_1 + 1))) = some r := by first | (rw [hy327]; with_reducible exact H) | (have H2_ := (Option.bind_some _ _).symm.trans H; rw [hy327]; with_reducible exact H2_) | (have H2_ := (Option.bind_some _ _).symm.trans H; with_reducible exact H2_) | with_reducible exact H | (rw [hy327]; exact H) | exact H
   have Ny327 := Aside0.mk hy327
   clear hy327
   have H' := Aside0.mk H
   clear H
   have p324 : 0 ≤ (x4_1 : Int) := sqd
   have q324 : x4_1 < (l0.length : Int) := sqd
   obtain ⟨ad324, e324, hx324_0, hx324_1⟩ := at_T72 HR0.out x4_1 p324 q324
   cases e324
   replace hx324_0 := sqa HB hx324_0
   replace hx324_1 := sqa HB hx324_1
   replace p324 := eq_true p324
   replace q324 := eq_true q324
   go_wp2_with (first | ((with_reducible refine gate_callee (f := 28) rfl ?_); refine sqL (some 20) Try.func28 #[.agg #[.int .i64 ((rd_T72 l0 x4_1).f0), .int .i64 ((rd_T72 l0 x4_1).f1)]] ?_; (with_reducible refine (laws_toRef.calls ((rd_T72 l0 x4_1).f0) ((rd_T72 l0 x4_1).f1) t325 t326 _ A8.out).mono ?_); rintro e w11 ⟨rfl, hb⟩; refine ⟨_, rfl, ?_⟩; have n0_ := Aside0.mk (Kd.R_below (sqy HO_3.out) hb); have n1_ := sqs HB hb; clear HO_3; clear HB; have HO_3 := n0_; have HB := n1_; clear n0_ n1_; (try clear hb); have p10 : 0 ≤ (x4_1 : Int) := sqd; have q10 : (x4_1 : Int) < ((x3_1.length : Int) : Int) := sqd; obtain ⟨go10, co10, eo10, gb10, gl10, cl10, HG10⟩ := Kd.R_form HO_3.out (by omega); (first | cases eo10 | (injection eo10 with ea_ en_ ec_; (first | subst ea_ | (injection ea_ with ea_; subst ea_)); subst ec_; clear en_)); have GB10 := Aside0.mk gb10; have GG10 := Aside0.mk HG10; clear gb10 gl10 HG10; obtain ⟨ce10, hcl10, hM10, hcc10, hfr10⟩ := Kd.R_elem HO_3.out z65 (x4_1 : Int) p10 q10; obtain rfl := k65_openM hM10; have hx10_0 : w11.cell? ⟨go10, (x4_1 : Int).toNat * 2, none⟩ = some (.int .i64 ((rd_T65 x3_1 x4_1).f0)) := hcc10 0 _ rfl; have hx10_1 : w11.cell? ⟨go10, (x4_1 : Int).toNat * 2 + 1, none⟩ = some (.int .i64 ((rd_T65 x3_1 x4_1).f1)) := hcc10 1 _ rfl; have hf10_0 : w11.frozen? ⟨go10, (x4_1 : Int).toNat * 2, none⟩ = false := hfr10 0; have hf10_1 : w11.frozen? ⟨go10, (x4_1 : Int).toNat * 2 + 1, none⟩ = false := hfr10 1; clear hcl10 hcc10 hfr10 hM10; replace p10 := eq_true p10; replace q10 := eq_true q10; have HX12 := Aside0.mk (show Kd.R k65 65 w11 w.heap.size (fun _ => True) (.slice (some ⟨go10, 0, none⟩) x3_1.length co10) x3_1 from (sqy HO_3.out)); obtain ⟨ce12, hcl12, hM12, hcc12, hfr12⟩ := Kd.R_elem HX12.out z65 (x4_1 : Int) sqd (by have h_ : (x4_1 : Int) < ((x3_1.length : Int) : Int) := sqd; first | exact h_ | (have e_ := (Kd.R_reads' HO_3.out).1; omega) | simpa using h_); obtain rfl := k65_openM hM12; have HP12 := Kd.R_seg HX12.out (x4_1 : Int) sqd (by have h_ : (x4_1 : Int) < ((x3_1.length : Int) : Int) := sqd; first | exact h_ | (have e_ := (Kd.R_reads' HO_3.out).1; omega) | simpa using h_) (seg := [.int .i64 t325, .int .i64 t326]) (j := 0) hcl12 hcc12 (show 2 ≤ 2 from by decide) (x' := (⟨t325, t326⟩ : S65)) (k65_mkM _ _ _ (⟨t325, t326⟩ : S65) ) (fun _ hk => hk); have hx12_0 := hcc12 0 _ rfl; (try simp only [show (k65).sz = 2 from rfl, Nat.mul_one, Nat.add_zero] at hx12_0); have hf12_0 := hfr12 0; (try simp only [show (k65).sz = 2 from rfl, Nat.mul_one, Nat.add_zero] at hf12_0); have hx12_1 := hcc12 1 _ rfl; (try simp only [show (k65).sz = 2 from rfl, Nat.mul_one, Nat.add_zero] at hx12_1); have hf12_1 := hfr12 1; (try simp only [show (k65).sz = 2 from rfl, Nat.mul_one, Nat.add_zero] at hf12_1); clear hcl12 hcc12 hfr12 hM12) | ((with_reducible refine gate_store (t := 65) (p := 21) rfl ?_); refine store_event (t := 65) (p := 21) (v := ?vo_w13) (w1 := ((w11.setCell ⟨go10, (x4_1 : Int).toNat * 2, none⟩ (.int .i64 t325)).setCell ⟨go10, (x4_1 : Int).toNat * 2 + 1, none⟩ (.int .i64 t326))) ?hg ?ho ?hn ?hr ?_; (case ho => rfl); (case hg => rfl); (case hn => rfl); (case hr => first | (go_simp; done) | (go_simp; rfl)); intro w13 hw; have hg : w11.grownBy w13 (some go10) := (by rw [hw]; exact HP12.2); have hp_ : Kd.R k65 65 w13 w.heap.size (fun _ => True) (.slice (some ⟨go10, 0, none⟩) x3_1.length co10) y327 := (by rw [hw, Ny327.out]; exact HP12.1); clear HP12; have n0_ := Aside0.mk (hp_); have n1_ := Aside0.mk ((by rw [hw]; exact below_set (below_set (HB.out) GB10.out) GB10.out : Below w.heap.size w w13)); clear HO_3; clear HB; have HO_3 := n0_; have HB := n1_; clear n0_ n1_; clear hg hw hp_))
   go_roundg k1
   case measure => have := HK1.out; omega
   case rel => exact ⟨(y327), (wrap64 (x4_1 + 1)), (by first | rfl | (simp; done) | (simp [*]; done)), H', ⟨by have := HK1.out; omega⟩, ⟨sqy HO_3.out⟩, sqh HB⟩

/-! ### laws_toCells: function 29 -/
set_option maxHeartbeats 8000000 in
set_option maxRecDepth 100000 in
theorem laws_toCells.calls (k : Nat) (A0_0 : Option Addr) (c0_0 : Nat) (l0_0 : List Int) (r : List Int) (w : World) (hr0_0 : Kd.C (Kd.int .i64) w A0_0 l0_0.length l0_0) (hc0_0 : l0_0.length ≤ c0_0) (h : laws_toCells.f k l0_0 = some r) :
  Calls Try.prog 29 #[.agg #[.slice A0_0 l0_0.length c0_0]] w fun e w' => ∃ v0_ : Value, e = .returned (.agg #[v0_]) ∧ Kd.R (Kd.int .i64) 3 w' w.heap.size (fun _ => True) v0_ r ∧ Below w.heap.size w w' := by
 have hu56 := Try.underlying56
 have hu66 := Try.underlying66
 have HR0_0 := Aside0.mk hr0_0
 have HC0_0 := Aside0.mk hc0_0
 clear hr0_0 hc0_0
 have HB := Aside0.mk (Below.refl w.heap.size w)
 have H := h
 unfold laws_toCells.f at H
 clear h
 replace H := Option.bind_eq_some_iff.mp H
 obtain ⟨t331, A20, H⟩ := H
 try dsimp only at H
 have A2 := Aside0.mk A20
 clear A20
 obtain rfl := Option.some.inj H
 go_enter Try.func29, Try.ntmps29
 go_wp2_with (first | ((with_reducible refine gate_dst (N := 1) rfl ?_); refine sqx 1 #[.slice A0_0 l0_0.length c0_0] 56 ?_; intro gb328 hg w3 hbox hb; have BK328 := Aside0.mk hbox; have GW328 := sqg HB hg; have GE328 := sqg HB hg; replace HB := sqs HB hb; clear hb hbox hg) | ((with_reducible refine gate_dst (N := 2) rfl ?_); refine sqx 2 #[.slice none 0 0] 66 ?_; intro gb329 hg w4 hbox hb; have BK329 := Aside0.mk hbox; have GW329 := sqg HB hg; have GE329 := sqg HB hg; have NB328_329 := sqn BK328 hg; have NB329_328 := sqm BK328 hg; replace BK328 := sqb BK328 hb; replace HB := sqs HB hb; clear hb hbox hg) | ((with_reducible refine gate_dst (N := 3) rfl ?_); refine sqx 3 #[.slice none 0 0] 66 ?_; intro gb330 hg w5 hbox hb; have BK330 := Aside0.mk hbox; have GW330 := sqg HB hg; have GE330 := sqg HB hg; have NB328_330 := sqn BK328 hg; have NB330_328 := sqm BK328 hg; have NB329_330 := sqn BK329 hg; have NB330_329 := sqm BK329 hg; refine sqM2 BK328 BK329 hb ?_; clear BK328 BK329; intro BK328 BK329; replace HB := sqs HB hb; clear hb hbox hg; have hnb6 := NB328_329.out; have hnc6 := NB329_328.out; have hnb7 := NB328_330.out; have hnc7 := NB330_328.out; obtain ⟨hcz8_0, hfz8_0⟩ := sqc1 BK328) | ((with_reducible refine gate_callee (f := 9) rfl ?_); refine sqL (some 6) Try.func9 #[.slice A0_0 l0_0.length c0_0] ?_; (with_reducible refine (laws_toIntS.calls k _ _ l0_0 t331 _ ?side1 ?side2 A2.out).mono ?_); (case side1 => exact sqC (Kd.C_below HR0_0.out HB.out)); (case side2 => exact HC0_0.out); rintro e w9 ⟨v332, rfl, ho0, hb⟩; refine ⟨_, rfl, ?_⟩; have HO333 := Aside0.mk (Kd.R_lower ho0 (below_size (sqB HB))); refine sqM3 BK328 BK329 BK330 hb ?_; clear BK328 BK329 BK330; intro BK328 BK329 BK330; replace HB := sqs HB hb; (try clear hb); (try clear hb2); (try clear hk); (try clear hi); (try clear ho0); obtain ⟨Ao10, co10, eo10⟩ := Kd.R_slice HO333.out; subst eo10; have hnb11 := NB330_329.out; have hnc11 := NB329_330.out; obtain ⟨hcz12_0, hfz12_0⟩ := sqc1 BK330; obtain ⟨hcz13_0, hfz13_0⟩ := sqc1 BK329))
 refine bodyPost_ret (results_cell_row rfl _ _ gb329 66 #[.slice Ao10 t331.length co10] (0, 0) _ rfl (by refine sqt ?_; refine blk_put (cs := #[.slice none 0 0]) ?_ 0 _ rfl; refine sqt ?_; refine blk_far ?_ NB329_330.out _; refine sqt ?_; exact BK329.out) Try.underlying66 rfl (by kernel_rfl)) rfl ?_
 exact ⟨_, by first | rfl | (simp [errW_none, errW_some] <;> rfl) | (simp [*, errW_none, errW_some] <;> rfl), by (with_reducible repeat (first | apply Kd.R_alloc | apply Kd.R_drewN | apply Kd.R_drew)); exact Kd.R_mono (Kd.R_far (p := ⟨gb329, 0, none⟩) (Kd.R_far (p := ⟨gb330, 0, none⟩) (Kd.R_types (Kd.R_types HO333.out BK330.out (by decide)) BK329.out (by decide)) (fun _ hk => hk.1.2) (.slice Ao10 t331.length co10)) (fun _ hk => hk.2) (.slice Ao10 t331.length co10)) (fun _ hk => trivial), sqB HB⟩

end Go.Proofs.Ytnmgckdgmplddaa.PFnExactAbsHas
