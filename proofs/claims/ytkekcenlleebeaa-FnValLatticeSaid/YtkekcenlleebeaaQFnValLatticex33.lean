/- Functions of the program as plain Lean functions, and that calls of them come to what these tell. Conditions: those in each law. -/
import Derived.Test.YtkekcenlleebeaaSq
import Derived.Test.YtkekcenlleebeaaDFnValLattice
import Derived.Test.YtkekcenlleebeaaQFnValLatticex0
namespace Go.Proofs.Ytkekcenlleebeaa.PFnValLattice
open Go.RowKit Go.Proofs.Ytkekcenlleebeaa.Sq Go.Proofs.YtkekcenlleebeaaW.PrintWords Go.Proofs.YtkekcenlleebeaaW.PrintLast Go.Proofs.YtkekcenlleebeaaW.PrintMore
attribute [local go_sem] max2_int min2_int max_two min_two max_three min_three max_four min_four   -- for this text's walks alone
set_option linter.unusedVariables false
set_option linter.unusedSimpArgs false

/-! ### spec_l8Down: function 217 -/
set_option maxHeartbeats 8000000 in
set_option maxRecDepth 100000 in
theorem spec_l8Down.calls (k : Nat) (A0 : Option Addr) (c0 : Nat) (l0 : List Int) (a1 : Int) (r : Int) (w : World) (hr0 : Kd.C (Kd.int .i64) w A0 l0.length l0) (hc0 : l0.length ≤ c0) (h : spec_l8Down.f k l0 a1 = some r) :
  Calls Try.prog 217 #[.slice A0 l0.length c0, .int .i64 a1] w fun e w' => e = .returned (.int .i64 r) ∧ Drawn0 w w' := by
 have HR0 := Aside0.mk hr0
 have HC0 := Aside0.mk hc0
 clear hr0 hc0
 have H := h
 unfold spec_l8Down.f at H
 clear h
 have H' := Aside0.mk H
 clear H
 go_enter Try.func217, Try.ntmps217
 go_wp2
 go_loopg [5, 6] k (fun kq v5 v6 w' => ∃ (x5_1 : Int) (x6_1 : Int), v5 = .int .i64 x5_1 ∧ v6 = .int .i64 x6_1 ∧ Aside0 (spec_l8Down.l0 kq l0 a1 x5_1 x6_1 = some r) ∧ Aside0 (kq ≤ k) ∧ Drawn0 w w')
 case atStart => exact ⟨((-2147483648)), (0), (by first | rfl | (simp; done) | (simp [*]; done)), (by first | rfl | (simp; done) | (simp [*]; done)), H', ⟨Nat.le_refl _⟩, by repeat (first | exact Drawn0.refl _ | apply Drawn0.step)⟩
 case round =>
  clear H'
  obtain ⟨x5_1, x6_1, rfl, rfl, HA, HK1, ⟨m1, rfl⟩⟩ := hrel
  cases gk with
  | zero => exact absurd HA.out (by simp [spec_l8Down.l0])
  | succ k1 =>
   have H := HA.out
   clear HA
   simp only [spec_l8Down.l0] at H
   replace H := sqi H
   rcases H with ⟨c3, H⟩ | ⟨c3, H⟩
   ·have c3b0 := decide_eq_false c3
    clear c3
    obtain rfl := Option.some.inj H
    go_wp2
    go_ret
    exact ⟨by first | rfl | (simp; done) | (simp [*]; done), by repeat (first | exact Drawn0.refl _ | apply Drawn0.step)⟩
   have c3b0 := decide_eq_true c3
   clear c3
   replace H := sqi H
   rcases H with ⟨c4, H⟩ | ⟨c4, H⟩
   ·exact absurd H (by simp)
   have c4b0 := decide_eq_true c4
   clear c4
   replace H := sqi H
   rcases H with ⟨c5, H⟩ | ⟨c5, H⟩
   ·have c5b0 := decide_eq_false c5
    clear c5
    have H' := Aside0.mk H
    clear H
    have p788 : 0 ≤ (x6_1 : Int) := sqd
    have q788 : x6_1 < (l0.length : Int) := sqd
    obtain ⟨ad788, e788, hx788_0⟩ := Kd.at_int HR0.out x6_1 p788 q788
    cases e788
    replace p788 := eq_true p788
    replace q788 := eq_true q788
    go_wp2
    go_roundg k1
    case measure => have := HK1.out; omega
    case rel => exact ⟨(x5_1), (wrap64 (x6_1 + 1)), (by first | rfl | (simp; done) | (simp [*]; done)), (by first | rfl | (simp; done) | (simp [*]; done)), H', ⟨by have := HK1.out; omega⟩, by repeat (first | exact Drawn0.refl _ | apply Drawn0.step)⟩
   have c5b0 := decide_eq_true c5
   clear c5
   replace H := sqi H
   rcases H with ⟨c6, H⟩ | ⟨c6, H⟩
   ·have c6b0 : decide (x5_1 < (rd l0 x6_1)) = false := decide_eq_false c6
    clear c6
    have H' := Aside0.mk H
    clear H
    have p788 : 0 ≤ (x6_1 : Int) := sqd
    have q788 : x6_1 < (l0.length : Int) := sqd
    obtain ⟨ad788, e788, hx788_0⟩ := Kd.at_int HR0.out x6_1 p788 q788
    cases e788
    replace p788 := eq_true p788
    replace q788 := eq_true q788
    have p789 : 0 ≤ (x6_1 : Int) := sqd
    have q789 : x6_1 < (l0.length : Int) := sqd
    obtain ⟨ad789, e789, hx789_0⟩ := Kd.at_int HR0.out x6_1 p789 q789
    obtain rfl : ad788 = ad789 := (by injection e789)
    replace p789 := eq_true p789
    replace q789 := eq_true q789
    go_wp2
    go_roundg k1
    case measure => have := HK1.out; omega
    case rel => exact ⟨(x5_1), (wrap64 (x6_1 + 1)), (by first | rfl | (simp; done) | (simp [*]; done)), (by first | rfl | (simp; done) | (simp [*]; done)), H', ⟨by have := HK1.out; omega⟩, by repeat (first | exact Drawn0.refl _ | apply Drawn0.step)⟩
   have c6b0 : decide (x5_1 < (rd l0 x6_1)) = true := decide_eq_true c6
   clear c6
   have H' := Aside0.mk H
   clear H
   have p788 : 0 ≤ (x6_1 : Int) := sqd
   have q788 : x6_1 < (l0.length : Int) := sqd
   obtain ⟨ad788, e788, hx788_0⟩ := Kd.at_int HR0.out x6_1 p788 q788
   cases e788
   replace p788 := eq_true p788
   replace q788 := eq_true q788
   have p789 : 0 ≤ (x6_1 : Int) := sqd
   have q789 : x6_1 < (l0.length : Int) := sqd
   obtain ⟨ad789, e789, hx789_0⟩ := Kd.at_int HR0.out x6_1 p789 q789
   obtain rfl : ad788 = ad789 := (by injection e789)
   replace p789 := eq_true p789
   replace q789 := eq_true q789
   have p790 : 0 ≤ (x6_1 : Int) := sqd
   have q790 : x6_1 < (l0.length : Int) := sqd
   obtain ⟨ad790, e790, hx790_0⟩ := Kd.at_int HR0.out x6_1 p790 q790
   obtain rfl : ad788 = ad790 := (by injection e790)
   replace p790 := eq_true p790
   replace q790 := eq_true q790
   go_wp2
   go_roundg k1
   case measure => have := HK1.out; omega
   case rel => exact ⟨(rd l0 x6_1), (wrap64 (x6_1 + 1)), (by first | rfl | (simp; done) | (simp [*]; done)), (by first | rfl | (simp; done) | (simp [*]; done)), H', ⟨by have := HK1.out; omega⟩, by repeat (first | exact Drawn0.refl _ | apply Drawn0.step)⟩

/-! ### spec_l8Up: function 218 -/
set_option maxHeartbeats 8000000 in
set_option maxRecDepth 100000 in
theorem spec_l8Up.calls (k : Nat) (A0 : Option Addr) (c0 : Nat) (l0 : List Int) (a1 : Int) (r : Int) (w : World) (hr0 : Kd.C (Kd.int .i64) w A0 l0.length l0) (hc0 : l0.length ≤ c0) (h : spec_l8Up.f k l0 a1 = some r) :
  Calls Try.prog 218 #[.slice A0 l0.length c0, .int .i64 a1] w fun e w' => e = .returned (.int .i64 r) ∧ Drawn0 w w' := by
 have HR0 := Aside0.mk hr0
 have HC0 := Aside0.mk hc0
 clear hr0 hc0
 have H := h
 unfold spec_l8Up.f at H
 clear h
 have H' := Aside0.mk H
 clear H
 go_enter Try.func218, Try.ntmps218
 go_wp2
 go_loopg [5, 6] k (fun kq v5 v6 w' => ∃ (x5_1 : Int) (x6_1 : Int), v5 = .int .i64 x5_1 ∧ v6 = .int .i64 x6_1 ∧ Aside0 (spec_l8Up.l0 kq l0 a1 x5_1 x6_1 = some r) ∧ Aside0 (kq ≤ k) ∧ Drawn0 w w')
 case atStart => exact ⟨(2147483647), (0), (by first | rfl | (simp; done) | (simp [*]; done)), (by first | rfl | (simp; done) | (simp [*]; done)), H', ⟨Nat.le_refl _⟩, by repeat (first | exact Drawn0.refl _ | apply Drawn0.step)⟩
 case round =>
  clear H'
  obtain ⟨x5_1, x6_1, rfl, rfl, HA, HK1, ⟨m1, rfl⟩⟩ := hrel
  cases gk with
  | zero => exact absurd HA.out (by simp [spec_l8Up.l0])
  | succ k1 =>
   have H := HA.out
   clear HA
   simp only [spec_l8Up.l0] at H
   replace H := sqi H
   rcases H with ⟨c3, H⟩ | ⟨c3, H⟩
   ·have c3b0 := decide_eq_false c3
    clear c3
    obtain rfl := Option.some.inj H
    go_wp2
    go_ret
    exact ⟨by first | rfl | (simp; done) | (simp [*]; done), by repeat (first | exact Drawn0.refl _ | apply Drawn0.step)⟩
   have c3b0 := decide_eq_true c3
   clear c3
   replace H := sqi H
   rcases H with ⟨c4, H⟩ | ⟨c4, H⟩
   ·exact absurd H (by simp)
   have c4b0 := decide_eq_true c4
   clear c4
   replace H := sqi H
   rcases H with ⟨c5, H⟩ | ⟨c5, H⟩
   ·have c5b0 : decide (a1 ≤ (rd l0 x6_1)) = false := decide_eq_false c5
    clear c5
    have H' := Aside0.mk H
    clear H
    have p791 : 0 ≤ (x6_1 : Int) := sqd
    have q791 : x6_1 < (l0.length : Int) := sqd
    obtain ⟨ad791, e791, hx791_0⟩ := Kd.at_int HR0.out x6_1 p791 q791
    cases e791
    replace p791 := eq_true p791
    replace q791 := eq_true q791
    go_wp2
    go_roundg k1
    case measure => have := HK1.out; omega
    case rel => exact ⟨(x5_1), (wrap64 (x6_1 + 1)), (by first | rfl | (simp; done) | (simp [*]; done)), (by first | rfl | (simp; done) | (simp [*]; done)), H', ⟨by have := HK1.out; omega⟩, by repeat (first | exact Drawn0.refl _ | apply Drawn0.step)⟩
   have c5b0 : decide (a1 ≤ (rd l0 x6_1)) = true := decide_eq_true c5
   clear c5
   replace H := sqi H
   rcases H with ⟨c6, H⟩ | ⟨c6, H⟩
   ·have c6b0 := decide_eq_false c6
    clear c6
    have H' := Aside0.mk H
    clear H
    have p791 : 0 ≤ (x6_1 : Int) := sqd
    have q791 : x6_1 < (l0.length : Int) := sqd
    obtain ⟨ad791, e791, hx791_0⟩ := Kd.at_int HR0.out x6_1 p791 q791
    cases e791
    replace p791 := eq_true p791
    replace q791 := eq_true q791
    have p792 : 0 ≤ (x6_1 : Int) := sqd
    have q792 : x6_1 < (l0.length : Int) := sqd
    obtain ⟨ad792, e792, hx792_0⟩ := Kd.at_int HR0.out x6_1 p792 q792
    obtain rfl : ad791 = ad792 := (by injection e792)
    replace p792 := eq_true p792
    replace q792 := eq_true q792
    go_wp2
    go_roundg k1
    case measure => have := HK1.out; omega
    case rel => exact ⟨(x5_1), (wrap64 (x6_1 + 1)), (by first | rfl | (simp; done) | (simp [*]; done)), (by first | rfl | (simp; done) | (simp [*]; done)), H', ⟨by have := HK1.out; omega⟩, by repeat (first | exact Drawn0.refl _ | apply Drawn0.step)⟩
   have c6b0 := decide_eq_true c6
   clear c6
   have H' := Aside0.mk H
   clear H
   have p791 : 0 ≤ (x6_1 : Int) := sqd
   have q791 : x6_1 < (l0.length : Int) := sqd
   obtain ⟨ad791, e791, hx791_0⟩ := Kd.at_int HR0.out x6_1 p791 q791
   cases e791
   replace p791 := eq_true p791
   replace q791 := eq_true q791
   have p792 : 0 ≤ (x6_1 : Int) := sqd
   have q792 : x6_1 < (l0.length : Int) := sqd
   obtain ⟨ad792, e792, hx792_0⟩ := Kd.at_int HR0.out x6_1 p792 q792
   obtain rfl : ad791 = ad792 := (by injection e792)
   replace p792 := eq_true p792
   replace q792 := eq_true q792
   have p793 : 0 ≤ (x6_1 : Int) := sqd
   have q793 : x6_1 < (l0.length : Int) := sqd
   obtain ⟨ad793, e793, hx793_0⟩ := Kd.at_int HR0.out x6_1 p793 q793
   obtain rfl : ad791 = ad793 := (by injection e793)
   replace p793 := eq_true p793
   replace q793 := eq_true q793
   go_wp2
   go_roundg k1
   case measure => have := HK1.out; omega
   case rel => exact ⟨(rd l0 x6_1), (wrap64 (x6_1 + 1)), (by first | rfl | (simp; done) | (simp [*]; done)), (by first | rfl | (simp; done) | (simp [*]; done)), H', ⟨by have := HK1.out; omega⟩, by repeat (first | exact Drawn0.refl _ | apply Drawn0.step)⟩

end Go.Proofs.Ytkekcenlleebeaa.PFnValLattice
