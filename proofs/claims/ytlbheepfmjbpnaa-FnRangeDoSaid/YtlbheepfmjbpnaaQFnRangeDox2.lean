/- Functions of the program as plain Lean functions, and that calls of them come to what these tell. Conditions: those in each law. -/
import Derived.Test.YtlbheepfmjbpnaaSq
import Derived.Test.YtlbheepfmjbpnaaDFnRangeDo
import Derived.Test.YtlbheepfmjbpnaaQFnRangeDox0
namespace Go.Proofs.Ytlbheepfmjbpnaa.PFnRangeDo
open Go.RowKit Go.Proofs.Ytlbheepfmjbpnaa.Sq Go.Proofs.YtlbheepfmjbpnaaW.PrintWords Go.Proofs.YtlbheepfmjbpnaaW.PrintLast Go.Proofs.YtlbheepfmjbpnaaW.PrintMore
attribute [local go_sem] max2_int min2_int max_two min_two max_three min_three max_four min_four   -- for this text's walks alone
set_option linter.unusedVariables false
set_option linter.unusedSimpArgs false

theorem eqA24 (d : Nat) (w : World) (x0 y0 : Int) (x1 y1 : Int) :
  (Op.equalIn (d + 2) 24 (.agg #[.int .i64 x0,.int .i64 x1]) (.agg #[.int .i64 y0,.int .i64 y1])).run Try.prog w = .ok (x0 == y0 && (x1 == y1)) w:=by
 refine eqA_of Try.underlying24 (by kernel_rfl) ?_;refine eqf_cons (by rfl) (by go_simp;rfl) (by go_simp;rfl) (by go_simp) ?_;exact eqf_last (by rfl) (by go_simp;rfl) (by go_simp;rfl) (by go_simp)
/-- A state of type 79 at block g of W; what its slices lead to came in by w0. -/
def IsS79 (w0 W : World) (g : Nat) (f0 : List Int) (f1 : Int) : Prop:=∃ A0 c0,W.heap[g]? = some (.cells #[.slice A0 f0.length c0,.int .i64 f1] 79 (0,0))∧w0.heap.size ≤ g∧Kd.C (Kd.int .u8) w0 A0 f0.length f0
theorem IsS79.grown {w0 W : World} {g : Nat} {f0 : List Int} {f1 : Int} {W1 : World} {row : Option Nat} (h : IsS79 w0 W g f0 f1) (hw : W.grownBy W1 row) (hne : some g≠row) : IsS79 w0 W1 g f0 f1:=by
 obtain ⟨A0,c0,hb,hg,hr0⟩:=h;exact ⟨A0,c0,blk_grown hb hw hne,hg,hr0⟩
theorem IsS79.own_neN {w0 W : World} {g : Nat} {f0 : List Int} {f1 : Int} {α : Type} {d : Kd α} {e : Nat} {base : Nat} {ok : Nat→Prop} {v : Value} {xs : List α} (h : IsS79 w0 W g f0 f1) (ho : Kd.N d e W base ok v xs) (ht : e≠79) : some g≠v.ownBlock:=by
 obtain ⟨A0,c0,hb,hg,hr0⟩:=h;exact Kd.N_ne ho hb ht
theorem IsS79.fresh {w0 W : World} {g : Nat} {f0 : List Int} {f1 : Int} (h : IsS79 w0 W g f0 f1) : ∀ k,W.heap.size ≤ k→k≠g:=by
 obtain ⟨A0,c0,hb,hg,hr0⟩:=h;exact Kd.freshB hb
theorem IsS79.kept {w0 W : World} {g : Nat} {f0 : List Int} {f1 : Int} {W1 : World} {S : Nat→Prop} (h : IsS79 w0 W g f0 f1) (hk : Kept W W1 S) (hne : ¬ S g) : IsS79 w0 W1 g f0 f1:=by
 obtain ⟨A0,c0,hb,hg,hr0⟩:=h;exact ⟨A0,c0,blk_kept hb hk hne,hg,hr0⟩
theorem IsS79.below {w0 W : World} {g : Nat} {f0 : List Int} {f1 : Int} {W1 : World} (h : IsS79 w0 W g f0 f1) (hw : Below W.heap.size W W1) : IsS79 w0 W1 g f0 f1:=h.grown (grown_of_below hw none) (by simp)
theorem IsS79.alloc {w0 W : World} {g : Nat} {f0 : List Int} {f1 : Int} (h : IsS79 w0 W g f0 f1) (o : Obj) : IsS79 w0 (W.alloc o) g f0 f1:=h.below (below_alloc (Below.refl _ _) o)
theorem IsS79.drewN {w0 W : World} {g : Nat} {f0 : List Int} {f1 : Int} (h : IsS79 w0 W g f0 f1) (m : Nat) : IsS79 w0 (W.drewN m) g f0 f1:=h
theorem IsS79.drew {w0 W : World} {g : Nat} {f0 : List Int} {f1 : Int} (h : IsS79 w0 W g f0 f1) : IsS79 w0 W.drew g f0 f1:=h
theorem IsS79.at_ {w0 W : World} {g : Nat} {f0 : List Int} {f1 : Int} {w' : World} {m : Nat} (hq : W.drewN m = w') (h : IsS79 w0 W g f0 f1) : IsS79 w0 w' g f0 f1:=by subst hq;exact IsS79.drewN h m
theorem IsS79.apart {w0 W : World} {g : Nat} {f0 : List Int} {f1 : Int} {α : Type} {d : Kd α} {e : Nat} {base : Nat} {ok : Nat→Prop} {v : Value} {xs : List α} (h : IsS79 w0 W g f0 f1) (ho : d.R e W base ok v xs) (ht : ∀ q,q ∈ e :: d.E→q≠79) : d.R e W base (fun k=>ok k∧k≠g) v xs:=by
 obtain ⟨A0,c0,hb,hg,hr0⟩:=h;exact Kd.R_types ho hb ht
theorem IsS79.own_ne {w0 W : World} {g : Nat} {f0 : List Int} {f1 : Int} {α : Type} {d : Kd α} {e : Nat} {base : Nat} {ok : Nat→Prop} {v : Value} {xs : List α} (h : IsS79 w0 W g f0 f1) (ho : d.R e W base ok v xs) (ht : e≠79) : some g≠v.ownBlock:=by
 obtain ⟨A0,c0,hb,hg,hr0⟩:=h;exact Kd.R_ne ho hb ht
theorem IsS79.apartQ {w0 W : World} {g : Nat} {f0 : List Int} {f1 : Int} {α : Type} {d : Kd α} {e : Nat} {base : Nat} {ok : Nat→Prop} {v : Value} {xs : List α} (h : IsS79 w0 W g f0 f1) (ho : d.Q e W base ok v xs) (ht : ∀ q,q ∈ e :: d.E→q≠79) : d.Q e W base (fun k=>ok k∧k≠g) v xs:=by
 obtain ⟨A0,c0,hb,hg,hr0⟩:=h;exact Kd.Q_types ho hb ht
theorem IsS79.own_neQ {w0 W : World} {g : Nat} {f0 : List Int} {f1 : Int} {α : Type} {d : Kd α} {e : Nat} {base : Nat} {ok : Nat→Prop} {v : Value} {xs : List α} (h : IsS79 w0 W g f0 f1) (ho : d.Q e W base ok v xs) (ht : e≠79) : some g≠v.ownBlock:=by
 obtain ⟨A0,c0,hb,hg,hr0⟩:=h;exact Kd.Q_ne ho hb ht
theorem IsS79.apartS {w0 W : World} {g : Nat} {f0 : List Int} {f1 : Int} {α : Type} {d : Kd α} {e : Nat} {base : Nat} {ok : Nat→Prop} {v : Value} {xs : List α} (h : IsS79 w0 W g f0 f1) (ho : d.S e W base ok v xs) (ht : ∀ q,q ∈ e :: d.E→q≠79) : d.S e W base (fun k=>ok k∧k≠g) v xs:=by
 obtain ⟨A0,c0,hb,hg,hr0⟩:=h;exact Kd.S_types ho hb ht
theorem IsS79.own_neS {w0 W : World} {g : Nat} {f0 : List Int} {f1 : Int} {α : Type} {d : Kd α} {e : Nat} {base : Nat} {ok : Nat→Prop} {v : Value} {xs : List α} (h : IsS79 w0 W g f0 f1) (ho : d.S e W base ok v xs) (ht : e≠79) : some g≠v.ownBlock:=by
 obtain ⟨A0,c0,hb,hg,hr0⟩:=h;exact Kd.S_ne ho hb ht
theorem IsS79.lt {w0 W : World} {g : Nat} {f0 : List Int} {f1 : Int} (h : IsS79 w0 W g f0 f1) : g < W.heap.size:=by
 obtain ⟨A0,c0,hb,hg,hr0⟩:=h;exact blk_lt hb
theorem IsS79.ge {w0 W : World} {g : Nat} {f0 : List Int} {f1 : Int} (h : IsS79 w0 W g f0 f1) : w0.heap.size ≤ g:=by
 obtain ⟨A0,c0,hb,hg,hr0⟩:=h;exact hg
theorem IsS79.ne_blk {w0 W : World} {g : Nat} {f0 : List Int} {f1 : Int} {a : Nat} {cs : Array Value} {t : TypeId} {fr : Nat × Nat} (h : IsS79 w0 W g f0 f1) (hb2 : W.heap[a]? = some (.cells cs t fr)) (ht : t≠79) : g≠a:=by
 obtain ⟨A0,c0,hb,hg,hr0⟩:=h;rintro rfl;rw [hb] at hb2;injection hb2 with hb2;injection hb2 with _ ht2;exact ht ht2.symm
theorem IsS79.far {w0 W : World} {g : Nat} {f0 : List Int} {f1 : Int} {p : Addr} (h : IsS79 w0 W g f0 f1) (hne : g≠p.block) (u : Value) : IsS79 w0 (W.setCell p u) g f0 f1:=by
 obtain ⟨A0,c0,hb,hg,hr0⟩:=h;exact ⟨A0,c0,blk_far hb hne u,hg,hr0⟩
theorem cellS79_0 {W : World} {g : Nat} {A0 : Option Addr} {c0 : Nat} {f0 : List Int} {f1 : Int} (h : W.heap[g]? = some (.cells #[.slice A0 f0.length c0,.int .i64 f1] 79 (0,0))) : W.cell? ⟨g,0,none⟩ = some (.slice A0 f0.length c0):=(blk_cell h 0).trans rfl
theorem cellS79_1 {W : World} {g : Nat} {A0 : Option Addr} {c0 : Nat} {f0 : List Int} {f1 : Int} (h : W.heap[g]? = some (.cells #[.slice A0 f0.length c0,.int .i64 f1] 79 (0,0))) : W.cell? ⟨g,1,none⟩ = some (.int .i64 f1):=(blk_cell h 1).trans rfl
theorem IsS79.set_1 {w0 W : World} {g : Nat} {f0 : List Int} {f1 : Int} (h : IsS79 w0 W g f0 f1) (x : Int) : IsS79 w0 (W.setCell ⟨g,1,none⟩ (.int .i64 x)) g f0 x:=by
 obtain ⟨A0,c0,hb,hg,hr0⟩:=h;exact ⟨A0,c0,by simpa using blk_set hb 1 (.int .i64 x),hg,hr0⟩
theorem IsS79.new (w0 W : World) (A0 : Option Addr) (c0 : Nat) (f0 : List Int) (f1 : Int) (hB : Below w0.heap.size w0 W) (hr0 : Kd.C (Kd.int .u8) w0 A0 f0.length f0) : IsS79 w0 (W.alloc (.cells #[.slice A0 f0.length c0,.int .i64 f1] 79)) W.heap.size f0 f1:=⟨A0,c0,by simpa using heap_alloc_new W _,hB.size,hr0⟩
theorem IsS79.mv {p q : Prop} (H : Aside0 p) (s : p→q:=by
  intro h_;repeat (first | (with_reducible first | exact h_ | apply IsS79.alloc | apply IsS79.drewN | apply IsS79.drew | apply IsS79.set_1 | refine IsS79.far ?_ (Aside0.out (by assumption)) _) | exact h_)) : q:=s H.out

set_option maxHeartbeats 8000000
set_option maxRecDepth 100000
/-! ### spec_l1Open: function 23 -/
theorem spec_l1Open.calls (A0 : Option Addr) (c0 : Nat) (l0 : List Int) (r1 : List Int) (r2 : Int) (w0 w : World) (hB : Below w0.heap.size w0 w) (hr0 : Kd.C (Kd.int .u8) w0 A0 l0.length l0) (hc0 : l0.length ≤ c0) (h : spec_l1Open.f l0 = some (r1,r2)) :
  Calls Try.prog 23 #[.slice A0 l0.length c0] w fun e w'=>∃ g_ : Nat,e = .returned (.pointer (some ⟨g_,0,none⟩))∧IsS79 w0 w' g_ r1 r2∧Below w0.heap.size w0 w'∧Below w.heap.size w w':=by
 have hu79:=Try.underlying79;have HR0:=Aside0.mk hr0;have HC0:=Aside0.mk hc0;clear hr0 hc0;have HBW:=Aside0.mk (Below.refl w.heap.size w);have HW0:=Aside0.mk hB.size;have HB:=Aside0.mk hB;clear hB;have H:=h;unfold spec_l1Open.f at H;clear h;replace H:=sqi H;rcases H with ⟨c2,H⟩ | ⟨c2,H⟩
 ·have z0 : decide (2000 < (l0.length : Int)) = false:=decide_eq_false c2;have z1 : decide (2000 < l0.length) = false:=decide_eq_false (by omega);clear c2;simp only [Option.some.injEq,Prod.mk.injEq] at H;obtain ⟨rfl,rfl⟩:=H;go_enter Try.func23,Try.ntmps23;go_wp2_with (first | ((with_reducible refine gd 10 rfl ?_);refine sqx 10 #[.slice A0 l0.length c0,.int .i64 0] 79 ?_;intro gb0 hg w6 hbox hb;replace HB:=sqs HB hb;have B0:=Aside0.mk (hbox);have GW0:=Aside0.mk ((by rw [hg];exact (below_size (sqB HBW)) : w.heap.size ≤ gb0));have GE0:=Aside0.mk ((Nat.le_trans HW0.out (by rw [hg];exact (below_size (sqB HBW)) : w.heap.size ≤ gb0) : w0.heap.size ≤ gb0));replace HBW:=Aside0.mk (below_step HBW.out hb);clear hb hbox hg))
  go_ret
  exact ⟨_,rfl,(show IsS79 w0 _ gb0 l0 0 from ⟨_,_,by refine sqt ?_;exact B0.out,GE0.out,HR0.out⟩),by repeat (first | (with_reducible first | exact HB.out | apply below_alloc | apply pw_below_drewN | apply below_drew1 | refine below_set ?_ GE0.out) | exact HB.out),by repeat (first | (with_reducible first | exact HBW.out | apply below_alloc | apply pw_below_drewN | apply below_drew1 | refine below_set ?_ GW0.out) | exact HBW.out)⟩
 have z0 : decide (2000 < (l0.length : Int)) = true:=decide_eq_true c2;have z1 : decide (2000 < l0.length) = true:=decide_eq_true (by omega);clear c2;replace H:=sqi H;rcases H with ⟨c3,H⟩ | ⟨c3,H⟩
 ·cases H
 have z3:=eq_true c3;have z4:=decide_eq_true c3;clear c3;simp only [Option.some.injEq,Prod.mk.injEq] at H;obtain ⟨rfl,rfl⟩:=H;obtain ⟨i04,hi04,_,hsz4,_⟩:=info_parts info5;obtain ⟨hcut4,hA4,hC4⟩:=print_take_of (P:=Try.prog) (Value.int .u8) 0 22 5 .i64 Try.underlying22 hi04 hsz4 A0 c0 l0 2000 (by omega) sqd HC0.out;have z2:=Aside0.mk (Kd.C_of_reads (h1:=fun _=>rfl) (hA4 _ (Kd.reads_of_C HR0.out)));have z5:=Aside0.mk hC4;clear hA4 hC4 hi04 hsz4;go_enter Try.func23,Try.ntmps23;go_wp2_with (first | ((with_reducible refine gd 10 rfl ?_);refine sqx 10 #[.slice A0 (l0.take 2000).length c0,.int .i64 0] 79 ?_;intro gb1 hg w5 hbox hb;replace HB:=sqs HB hb;have B1:=Aside0.mk (hbox);have GW1:=Aside0.mk ((by rw [hg];exact (below_size (sqB HBW)) : w.heap.size ≤ gb1));have GE1:=Aside0.mk ((Nat.le_trans HW0.out (by rw [hg];exact (below_size (sqB HBW)) : w.heap.size ≤ gb1) : w0.heap.size ≤ gb1));replace HBW:=Aside0.mk (below_step HBW.out hb);clear hb hbox hg))
 go_ret
 exact ⟨_,rfl,(show IsS79 w0 _ gb1 (l0.take 2000) 0 from ⟨_,_,by refine sqt ?_;exact B1.out,GE1.out,z2.out⟩),by repeat (first | (with_reducible first | exact HB.out | apply below_alloc | apply pw_below_drewN | apply below_drew1 | refine below_set ?_ GE1.out) | exact HB.out),by repeat (first | (with_reducible first | exact HBW.out | apply below_alloc | apply pw_below_drewN | apply below_drew1 | refine below_set ?_ GW1.out) | exact HBW.out)⟩

/-! ### spec_l1Rd_pick: function 24 -/
theorem spec_l1Rd_pick.calls (k : Nat) (g : Nat) (s0_0 : List Int) (s0_1 : Int) (a1 : Int) (r1 : Int) (r2 : Int) (w0 w : World) (hI : IsS79 w0 w g s0_0 s0_1) (hB : Below w0.heap.size w0 w) (h : spec_l1Rd_pick.f k s0_0 s0_1 a1 = some (r1,r2)) :
  Calls Try.prog 24 #[.pointer (some ⟨g,0,none⟩),.int .i64 a1] w fun e w'=>e = .returned (.int .i64 r1)∧IsS79 w0 w' g s0_0 r2∧Below w0.heap.size w0 w'∧KeepBut w w' g none:=by
 have HI0:=Aside0.mk hI;have HK:=Aside0.mk (KeepBut.refl w g none);have HL:=Aside0.mk hB.size;clear hI;have HW0:=Aside0.mk hB.size;have HB:=Aside0.mk hB;clear hB;have H:=h;unfold spec_l1Rd_pick.f at H;clear h;have HC3:=Aside0.mk H;clear H;obtain ⟨ASz4_0,cSz4_0,HGz4,hgz4,HSz4_0⟩:=HI0.out;have zm:=cellS79_0 HGz4;have zn:=cellS79_1 HGz4;have zo:=blk_frozen HGz4 1;clear HGz4 hgz4;go_enter Try.func24,Try.ntmps24;go_upto_region 2 with (fail)
 repeat (go_quiet (fail);go_upto_region 2 with (fail))
 go_cut [24] (fun v24 wc=>∃ (kq : Nat) (x0 : Bool),v24 = .bool x0∧Aside0 (spec_l1Rd_pick.j0 kq a1 x0 s0_0 (wrap64 (s0_1 + 1)) = some (r1,r2))∧Aside0 (kq ≤ k)∧Aside0 (IsS79 w0 wc g s0_0 (wrap64 (s0_1 + 1)))∧Aside0 (KeepBut w wc g none)∧Aside0 (Below w0.heap.size w0 wc))
 case first =>
  have H:=HC3.out;clear HC3;replace H:=sqj H;rcases H with ⟨c5,H⟩ | ⟨c5,H⟩
  ·have z3:=decide_eq_true c5;clear c5
   (first | rw [z3] | (simp only [i64_w,i32_w];rw [z3]) | skip)
   have H':=Aside0.mk H;clear H
   go_wp2
   repeat (go_quiet (fail);try go_wp2)
   go_meet
   case rel=>exact ⟨_,(true),sqE,H',⟨sqle⟩,⟨IsS79.mv HI0⟩,⟨sqK HK⟩,⟨sqB2 HB (IsS79.ge HI0.out)⟩⟩
  have z3:=decide_eq_false c5;clear c5
  (first | rw [z3] | (simp only [i64_w,i32_w];rw [z3]) | skip)
  have H':=Aside0.mk H;clear H;obtain ⟨ASz6_0,cSz6_0,HGz6,hgz6,HSz6_0⟩:=HI0.out;have zp:=cellS79_0 HGz6;have zq:=cellS79_1 HGz6;have zr:=blk_frozen HGz6 1;clear HGz6 hgz6
  go_wp2
  repeat (go_quiet (fail);try go_wp2)
  go_meet
  case rel=>exact ⟨_,(((s0_0.length : Int) == 0)),sqE,H',⟨sqle⟩,⟨IsS79.mv HI0⟩,⟨sqK HK⟩,⟨sqB2 HB (IsS79.ge HI0.out)⟩⟩
 case rest =>
  clear HC3;obtain ⟨kq,x0,rfl,HA,HJ2,HI0,HK,HB⟩:=hcut;cases kq with
  | zero=>exact absurd HA.out (by simp [spec_l1Rd_pick.j0])
  | succ kj2 =>
   have H:=HA.out;clear HA;simp only [spec_l1Rd_pick.j0] at H
   by_cases c7 : x0 = true
   ·subst c7;rw [if_pos rfl] at H;simp only [Option.some.injEq,Prod.mk.injEq] at H;obtain ⟨rfl,rfl⟩:=H
    go_wp2
    repeat (go_quiet (fail);try go_wp2)
    go_ret
    exact ⟨sqEw,by repeat (first | (with_reducible first | exact HI0.out | apply IsS79.alloc | apply IsS79.drewN | apply IsS79.drew | apply IsS79.set_1) | exact HI0.out),by repeat (first | (with_reducible first | exact HB.out | apply below_alloc | apply pw_below_drewN | apply below_drew1 | refine below_set ?_ (IsS79.ge HI0.out)) | exact HB.out),sqK HK⟩
   replace c7:=Bool.eq_false_iff.mpr c7;subst c7;rw [sqff] at H;replace H:=sqj H;rcases H with ⟨c8,H⟩ | ⟨c8,H⟩
   ·have zd:=decide_eq_true c8;clear c8;obtain ⟨z2,z4⟩ : ∃ j_ : Int,(wrap64 ((wrap64 (s0_1 + 1)) - 1)) = j_:=⟨_,rfl⟩
    replace H : (if 0 ≤ (z2) then (if a1 = 0 then (none) else (some (Int.tmod (wrap64 (rd s0_0 (z2))) a1,(wrap64 (s0_1 + 1))))) else (none)) = some (r1,r2):=by first | (rw [z4] at H;exact H) | (simp only [z4] at H ⊢;exact H)
    (try rw [z4] at zd)
    have zt : (IntKind.i64.wrap ((wrap64 (s0_1 + 1)) - 1)) = z2:=(i64_w _).trans z4;replace H:=sqi H;rcases H with ⟨c10,H⟩ | ⟨c10,H⟩
    ·cases H
    have zu:=decide_eq_true c10;clear c10;replace H:=sqj H;rcases H with ⟨c11,H⟩ | ⟨c11,H⟩
    ·cases H
    have zv : (a1 == 0) = false:=beq_eq_false_iff_ne.mpr c11;have zw : (a1 != 0) = true:=bne_iff_ne.mpr c11;simp only [Option.some.injEq,Prod.mk.injEq] at H;obtain ⟨rfl,rfl⟩:=H;obtain ⟨ASz12_0,cSz12_0,HGz12,hgz12,HSz12_0⟩:=HI0.out;have zx:=cellS79_0 HGz12;have zy:=cellS79_1 HGz12;have zz:=blk_frozen HGz12 1;clear HGz12 hgz12;have z5 : 0 ≤ ((z2) : Int):=sqd;have z6 : (z2) < (s0_0.length : Int):=sqd;obtain ⟨zA,zh,ze⟩:=Kd.at_int HSz12_0 (z2) z5 z6;cases zh;replace ze:=pw_cell_below HB.out ze;replace z5:=eq_true z5;replace z6:=eq_true z6
    go_wp2
    repeat (go_quiet (fail);try go_wp2)
    go_ret
    exact ⟨by first | rfl | (simp [errW_none,errW_some] <;> rfl) | (simp only [← z4];first | rfl | (simp [errW_none,errW_some] <;> rfl)) | (simp [*,errW_none,errW_some] <;> rfl),by repeat (first | (with_reducible first | exact HI0.out | apply IsS79.alloc | apply IsS79.drewN | apply IsS79.drew | apply IsS79.set_1) | exact HI0.out),by repeat (first | (with_reducible first | exact HB.out | apply below_alloc | apply pw_below_drewN | apply below_drew1 | refine below_set ?_ (IsS79.ge HI0.out)) | exact HB.out),sqK HK⟩
   have zd:=decide_eq_false c8;clear c8;replace H:=sqj H;rcases H with ⟨c13,H⟩ | ⟨c13,H⟩
   ·cases H
   have zB : ((s0_0.length : Int) == 0) = false:=beq_eq_false_iff_ne.mpr c13;have zC : ((s0_0.length : Int) != 0) = true:=bne_iff_ne.mpr c13
   have zD : ¬ (s0_0 = []):=fun h_=>c13 (by rw [h_];rfl)
   obtain ⟨z0,z7⟩ : ∃ j_ : Int,(Int.tmod (wrap64 ((wrap64 (s0_1 + 1)) - 1)) (s0_0.length : Int)) = j_:=⟨_,rfl⟩
   replace H : (if 0 ≤ (z0) then (if (z0) < (s0_0.length : Int) then (if 0 ≤ (Int.tmod (wrap64 ((wrap64 ((wrap64 ((wrap64 (s0_1 + 1)) - 1)) * 7)) + 3)) (s0_0.length : Int)) then (if (Int.tmod (wrap64 ((wrap64 ((wrap64 ((wrap64 (s0_1 + 1)) - 1)) * 7)) + 3)) (s0_0.length : Int)) < (s0_0.length : Int) then (if a1 = 0 then (none) else (some (Int.tmod (Go.bits .xor .i64 (wrap64 ((wrap64 ((wrap64 ((wrap64 ((wrap64 (rd s0_0 (z0))) * 131)) + (wrap64 ((wrap64 (rd s0_0 (Int.tmod (wrap64 ((wrap64 ((wrap64 ((wrap64 (s0_1 + 1)) - 1)) * 7)) + 3)) (s0_0.length : Int)))) * 1117)))) + (wrap64 ((wrap64 ((wrap64 (s0_1 + 1)) - 1)) * 29)))) + (wrap64 ((wrap64 (Int.tdiv (wrap64 ((wrap64 (s0_1 + 1)) - 1)) (s0_0.length : Int))) * 53)))) (wrap64 (Int.tdiv (wrap64 ((wrap64 ((wrap64 ((wrap64 ((wrap64 (rd s0_0 (z0))) * 131)) + (wrap64 ((wrap64 (rd s0_0 (Int.tmod (wrap64 ((wrap64 ((wrap64 ((wrap64 (s0_1 + 1)) - 1)) * 7)) + 3)) (s0_0.length : Int)))) * 1117)))) + (wrap64 ((wrap64 ((wrap64 (s0_1 + 1)) - 1)) * 29)))) + (wrap64 ((wrap64 (Int.tdiv (wrap64 ((wrap64 (s0_1 + 1)) - 1)) (s0_0.length : Int))) * 53)))) 64))) a1,(wrap64 (s0_1 + 1))))) else (none)) else (none)) else (none)) else (none)) = some (r1,r2):=by first | (rw [z7] at H;exact H) | (simp only [z7] at H ⊢;exact H)
   replace H:=sqi H;rcases H with ⟨c15,H⟩ | ⟨c15,H⟩
   ·cases H
   have zE:=decide_eq_true c15;clear c15;replace H:=sqi H;rcases H with ⟨c16,H⟩ | ⟨c16,H⟩
   ·cases H
   have zF:=decide_eq_true c16;clear c16;obtain ⟨z1,z8⟩ : ∃ j_ : Int,(Int.tmod (wrap64 ((wrap64 ((wrap64 ((wrap64 (s0_1 + 1)) - 1)) * 7)) + 3)) (s0_0.length : Int)) = j_:=⟨_,rfl⟩
   replace H : (if 0 ≤ (z1) then (if (z1) < (s0_0.length : Int) then (if a1 = 0 then (none) else (some (Int.tmod (Go.bits .xor .i64 (wrap64 ((wrap64 ((wrap64 ((wrap64 ((wrap64 (rd s0_0 (z0))) * 131)) + (wrap64 ((wrap64 (rd s0_0 (z1))) * 1117)))) + (wrap64 ((wrap64 ((wrap64 (s0_1 + 1)) - 1)) * 29)))) + (wrap64 ((wrap64 (Int.tdiv (wrap64 ((wrap64 (s0_1 + 1)) - 1)) (s0_0.length : Int))) * 53)))) (wrap64 (Int.tdiv (wrap64 ((wrap64 ((wrap64 ((wrap64 ((wrap64 (rd s0_0 (z0))) * 131)) + (wrap64 ((wrap64 (rd s0_0 (z1))) * 1117)))) + (wrap64 ((wrap64 ((wrap64 (s0_1 + 1)) - 1)) * 29)))) + (wrap64 ((wrap64 (Int.tdiv (wrap64 ((wrap64 (s0_1 + 1)) - 1)) (s0_0.length : Int))) * 53)))) 64))) a1,(wrap64 (s0_1 + 1))))) else (none)) else (none)) = some (r1,r2):=by first | (rw [z8] at H;exact H) | (simp only [z8] at H ⊢;exact H)
   replace H:=sqi H;rcases H with ⟨c18,H⟩ | ⟨c18,H⟩
   ·cases H
   have zG:=decide_eq_true c18;clear c18;replace H:=sqi H;rcases H with ⟨c19,H⟩ | ⟨c19,H⟩
   ·cases H
   have zH:=decide_eq_true c19;clear c19;replace H:=sqj H;rcases H with ⟨c20,H⟩ | ⟨c20,H⟩
   ·cases H
   have zI : (a1 == 0) = false:=beq_eq_false_iff_ne.mpr c20;have zJ : (a1 != 0) = true:=bne_iff_ne.mpr c20;simp only [Option.some.injEq,Prod.mk.injEq] at H;obtain ⟨rfl,rfl⟩:=H;obtain ⟨ASz21_0,cSz21_0,HGz21,hgz21,HSz21_0⟩:=HI0.out;have zK:=cellS79_0 HGz21;have zL:=cellS79_1 HGz21;have zM:=blk_frozen HGz21 1;clear HGz21 hgz21;have z9 : 0 ≤ ((z0) : Int):=sqd;have za : (z0) < (s0_0.length : Int):=sqd;obtain ⟨zi,zj,zf⟩:=Kd.at_int HSz21_0 (z0) z9 za;cases zj;replace zf:=pw_cell_below HB.out zf;replace z9:=eq_true z9;replace za:=eq_true za;have zb : 0 ≤ ((z1) : Int):=sqd;have zc : (z1) < (s0_0.length : Int):=sqd;obtain ⟨zk,zl,zg⟩:=Kd.at_int HSz21_0 (z1) zb zc;obtain rfl : zi = zk:=(by injection zl);replace zg:=pw_cell_below HB.out zg;replace zb:=eq_true zb;replace zc:=eq_true zc
   go_wp2
   repeat (go_quiet (fail);try go_wp2)
   go_ret
   exact ⟨by first | rfl | (simp [errW_none,errW_some] <;> rfl) | (simp only [← z7,← z8];first | rfl | (simp [errW_none,errW_some] <;> rfl)) | (simp [*,errW_none,errW_some] <;> rfl),by repeat (first | (with_reducible first | exact HI0.out | apply IsS79.alloc | apply IsS79.drewN | apply IsS79.drew | apply IsS79.set_1) | exact HI0.out),by repeat (first | (with_reducible first | exact HB.out | apply below_alloc | apply pw_below_drewN | apply below_drew1 | refine below_set ?_ (IsS79.ge HI0.out)) | exact HB.out),sqK HK⟩

/-! ### spec_l1Mod: function 88 -/
theorem spec_l1Mod.calls (a0 : Int) (a1 : Int) (r : Int) (w : World) (h : spec_l1Mod.f a0 a1 = some r) :
  Calls Try.prog 88 #[.int .i64 a0,.int .i64 a1] w fun e w'=>e = .returned (.int .i64 r)∧Drawn0 w w':=by
 have H:=h;unfold spec_l1Mod.f at H;clear h;replace H:=sqj H;rcases H with ⟨c3,H⟩ | ⟨c3,H⟩
 ·cases H
 have z1 : (a1 == 0) = false:=beq_eq_false_iff_ne.mpr c3;have z2 : (a1 != 0) = true:=bne_iff_ne.mpr c3;replace H:=sqj H;rcases H with ⟨c4,H⟩ | ⟨c4,H⟩
 ·have z0:=decide_eq_true c4;clear c4;obtain rfl:=Option.some.inj H;go_enter Try.func88,Try.ntmps88
  go_wp2
  go_ret
  exact ⟨sqE,sqD⟩
 have z0:=decide_eq_false c4;clear c4;obtain rfl:=Option.some.inj H;go_enter Try.func88,Try.ntmps88
 go_wp2
 go_ret
 exact ⟨sqE,sqD⟩

/-! ### spec_NumWrap: function 66 -/
theorem spec_NumWrap.calls (a0 : Int) (r : Int) (w : World) (h : spec_NumWrap.f a0 = some r) :
  Calls Try.prog 66 #[.int .i64 a0] w fun e w'=>e = .returned (.int .i64 r)∧Drawn0 w w':=by
 have H:=h;unfold spec_NumWrap.f at H;clear h;replace H:=sqbi H;obtain ⟨t0,A2,H⟩:=H;(try dsimp only at H);replace H:=sqj H;rcases H with ⟨c3,H⟩ | ⟨c3,H⟩
 ·have z0 : decide (2147483647 < t0) = true:=decide_eq_true c3;clear c3;obtain rfl:=Option.some.inj H;go_enter Try.func66,Try.ntmps66;go_wp2_with (first | ((with_reducible refine gf 88 rfl ?_);refine sqLq rfl (some 5) Try.func88 (spec_l1Mod.calls _ _ _ _ A2.out) ?_;intro nd))
  go_ret
  exact ⟨sqE,sqD⟩
 have z0 : decide (2147483647 < t0) = false:=decide_eq_false c3;clear c3;obtain rfl:=Option.some.inj H;go_enter Try.func66,Try.ntmps66;go_wp2_with (first | ((with_reducible refine gf 88 rfl ?_);refine sqLq rfl (some 5) Try.func88 (spec_l1Mod.calls _ _ _ _ A2.out) ?_;intro nd))
 go_ret
 exact ⟨sqE,sqD⟩

/-! ### spec_l1Power: function 98 -/
theorem spec_l1Power.calls (k : Nat) (a0 : Int) (r : Int) (w : World) (h : spec_l1Power.f k a0 = some r) :
  Calls Try.prog 98 #[.int .i64 a0] w fun e w'=>e = .returned (.int .i64 r)∧Drawn0 w w':=by
 have H:=h;unfold spec_l1Power.f at H;clear h;have H':=Aside0.mk H;clear H;go_enter Try.func98,Try.ntmps98
 go_wp2
 go_loopg [3,4] k (fun kq v3 v4 w'=>∃ (x0 : Int) (x1 : Int),v3 = .int .i64 x0∧v4 = .int .i64 x1∧Aside0 (spec_l1Power.l0 kq a0 x0 x1 = some r)∧Aside0 (kq ≤ k)∧Drawn0 w w')
 case atStart=>exact ⟨(1),(0),sqE,sqE,H',⟨Nat.le_refl _⟩,sqD⟩
 case round =>
  clear H';obtain ⟨x0,x1,rfl,rfl,HA,HK1,⟨m1,rfl⟩⟩:=hrel;cases gk with
  | zero=>exact absurd HA.out (by simp [spec_l1Power.l0])
  | succ k1 =>
   have H:=HA.out;clear HA;simp only [spec_l1Power.l0] at H;replace H:=sqi H;rcases H with ⟨c2,H⟩ | ⟨c2,H⟩
   ·have z0:=decide_eq_false c2;clear c2;obtain rfl:=Option.some.inj H
    go_wp2
    go_ret
    exact ⟨sqE,sqD⟩
   have z0:=decide_eq_true c2;clear c2;have H':=Aside0.mk H;clear H
   go_wp2
   go_roundg k1
   case measure=>have:=HK1.out;omega
   case rel=>exact ⟨(wrap64 (2 * x0)),(wrap64 (x1 + 1)),sqE,sqE,H',⟨by have:=HK1.out;omega⟩,sqD⟩

/-! ### spec_l1Rd_num: function 85 -/
theorem spec_l1Rd_num.calls (k : Nat) (g : Nat) (s0_0 : List Int) (s0_1 : Int) (r1 : Int) (r2 : Int) (w0 w : World) (hI : IsS79 w0 w g s0_0 s0_1) (hB : Below w0.heap.size w0 w) (h : spec_l1Rd_num.f k s0_0 s0_1 = some (r1,r2)) :
  Calls Try.prog 85 #[.pointer (some ⟨g,0,none⟩)] w fun e w'=>e = .returned (.int .i64 r1)∧IsS79 w0 w' g s0_0 r2∧Below w0.heap.size w0 w'∧KeepBut w w' g none:=by
 have HI0:=Aside0.mk hI;have HK:=Aside0.mk (KeepBut.refl w g none);have HL:=Aside0.mk hB.size;clear hI;have HW0:=Aside0.mk hB.size;have HB:=Aside0.mk hB;clear hB;have H:=h;unfold spec_l1Rd_num.f at H;clear h;replace H:=sqbi H;obtain ⟨⟨t0,t1⟩,A2,H⟩:=H;(try dsimp only at H);replace H:=sqj H;rcases H with ⟨c3,H⟩ | ⟨c3,H⟩
 ·have z0:=decide_eq_true c3;clear c3;replace H:=sqbi H;obtain ⟨⟨t2,t3⟩,A4,H⟩:=H;(try dsimp only at H);simp only [Option.some.injEq,Prod.mk.injEq] at H;obtain ⟨rfl,rfl⟩:=H;go_enter Try.func85,Try.ntmps85;go_wp2_with (first | ((with_reducible refine gf 24 rfl ?_);refine sqLc rfl (some 7) Try.func24 (spec_l1Rd_pick.calls _ g _ _ _ _ _ w0 _ (IsS79.mv HI0) (sqB2 HB (IsS79.ge HI0.out)) A2.out) ?_;rintro e w5 ⟨rfl,hi,hb,hk⟩;refine ⟨_,rfl,?_⟩;replace HK:=Aside0.mk (KeepBut.trans (sqK HK) hk (.inl rfl));replace HB:=Aside0.mk (hb);replace HI0:=Aside0.mk (hi);(try clear hb);(try clear hb2);(try clear hk);(try clear hi)) | ((with_reducible refine gf 24 rfl ?_);refine sqLc rfl (some 11) Try.func24 (spec_l1Rd_pick.calls _ g _ _ _ _ _ w0 _ (IsS79.mv HI0) (sqB2 HB (IsS79.ge HI0.out)) A4.out) ?_;rintro e w6 ⟨rfl,hi,hb,hk⟩;refine ⟨_,rfl,?_⟩;replace HK:=Aside0.mk (KeepBut.trans (sqK HK) hk (.inl rfl));replace HB:=Aside0.mk (hb);replace HI0:=Aside0.mk (hi);(try clear hb);(try clear hb2);(try clear hk);(try clear hi)))
  go_ret
  exact ⟨sqEw,by repeat (first | (with_reducible first | exact HI0.out | apply IsS79.alloc | apply IsS79.drewN | apply IsS79.drew | apply IsS79.set_1) | exact HI0.out),by repeat (first | (with_reducible first | exact HB.out | apply below_alloc | apply pw_below_drewN | apply below_drew1 | refine below_set ?_ (IsS79.ge HI0.out)) | exact HB.out),sqK HK⟩
 have z0:=decide_eq_false c3;clear c3;replace H:=sqj H;rcases H with ⟨c7,H⟩ | ⟨c7,H⟩
 ·have z1 : (t0 == 4) = true:=beq_iff_eq.mpr c7;have z2 : (t0 != 4) = false:=bne_eq_false_iff_eq.mpr c7;clear c7;replace H:=sqbi H;obtain ⟨⟨t4,t5⟩,A8,H⟩:=H;(try dsimp only at H);simp only [Option.some.injEq,Prod.mk.injEq] at H;obtain ⟨rfl,rfl⟩:=H;go_enter Try.func85,Try.ntmps85;go_wp2_with (first | ((with_reducible refine gf 24 rfl ?_);refine sqLc rfl (some 7) Try.func24 (spec_l1Rd_pick.calls _ g _ _ _ _ _ w0 _ (IsS79.mv HI0) (sqB2 HB (IsS79.ge HI0.out)) A2.out) ?_;rintro e w9 ⟨rfl,hi,hb,hk⟩;refine ⟨_,rfl,?_⟩;replace HK:=Aside0.mk (KeepBut.trans (sqK HK) hk (.inl rfl));replace HB:=Aside0.mk (hb);replace HI0:=Aside0.mk (hi);(try clear hb);(try clear hb2);(try clear hk);(try clear hi)) | ((with_reducible refine gf 24 rfl ?_);refine sqLc rfl (some 16) Try.func24 (spec_l1Rd_pick.calls _ g _ _ _ _ _ w0 _ (IsS79.mv HI0) (sqB2 HB (IsS79.ge HI0.out)) A8.out) ?_;rintro e w10 ⟨rfl,hi,hb,hk⟩;refine ⟨_,rfl,?_⟩;replace HK:=Aside0.mk (KeepBut.trans (sqK HK) hk (.inl rfl));replace HB:=Aside0.mk (hb);replace HI0:=Aside0.mk (hi);(try clear hb);(try clear hb2);(try clear hk);(try clear hi)))
  go_ret
  exact ⟨sqEw,by repeat (first | (with_reducible first | exact HI0.out | apply IsS79.alloc | apply IsS79.drewN | apply IsS79.drew | apply IsS79.set_1) | exact HI0.out),by repeat (first | (with_reducible first | exact HB.out | apply below_alloc | apply pw_below_drewN | apply below_drew1 | refine below_set ?_ (IsS79.ge HI0.out)) | exact HB.out),sqK HK⟩
 have z1 : (t0 == 4) = false:=beq_eq_false_iff_ne.mpr c7;have z2 : (t0 != 4) = true:=bne_iff_ne.mpr c7;replace H:=sqj H;rcases H with ⟨c11,H⟩ | ⟨c11,H⟩
 ·have z3 : (t0 == 5) = true:=beq_iff_eq.mpr c11;have z4 : (t0 != 5) = false:=bne_eq_false_iff_eq.mpr c11;clear c11;replace H:=sqbi H;obtain ⟨⟨t6,t7⟩,A12,H⟩:=H;(try dsimp only at H);simp only [Option.some.injEq,Prod.mk.injEq] at H;obtain ⟨rfl,rfl⟩:=H;go_enter Try.func85,Try.ntmps85;go_wp2_with (first | ((with_reducible refine gf 24 rfl ?_);refine sqLc rfl (some 7) Try.func24 (spec_l1Rd_pick.calls _ g _ _ _ _ _ w0 _ (IsS79.mv HI0) (sqB2 HB (IsS79.ge HI0.out)) A2.out) ?_;rintro e w13 ⟨rfl,hi,hb,hk⟩;refine ⟨_,rfl,?_⟩;replace HK:=Aside0.mk (KeepBut.trans (sqK HK) hk (.inl rfl));replace HB:=Aside0.mk (hb);replace HI0:=Aside0.mk (hi);(try clear hb);(try clear hb2);(try clear hk);(try clear hi)) | ((with_reducible refine gf 24 rfl ?_);refine sqLc rfl (some 21) Try.func24 (spec_l1Rd_pick.calls _ g _ _ _ _ _ w0 _ (IsS79.mv HI0) (sqB2 HB (IsS79.ge HI0.out)) A12.out) ?_;rintro e w14 ⟨rfl,hi,hb,hk⟩;refine ⟨_,rfl,?_⟩;replace HK:=Aside0.mk (KeepBut.trans (sqK HK) hk (.inl rfl));replace HB:=Aside0.mk (hb);replace HI0:=Aside0.mk (hi);(try clear hb);(try clear hb2);(try clear hk);(try clear hi)))
  go_ret
  exact ⟨sqEw,by repeat (first | (with_reducible first | exact HI0.out | apply IsS79.alloc | apply IsS79.drewN | apply IsS79.drew | apply IsS79.set_1) | exact HI0.out),by repeat (first | (with_reducible first | exact HB.out | apply below_alloc | apply pw_below_drewN | apply below_drew1 | refine below_set ?_ (IsS79.ge HI0.out)) | exact HB.out),sqK HK⟩
 have z3 : (t0 == 5) = false:=beq_eq_false_iff_ne.mpr c11;have z4 : (t0 != 5) = true:=bne_iff_ne.mpr c11;replace H:=sqj H;rcases H with ⟨c15,H⟩ | ⟨c15,H⟩
 ·have z5 : (t0 == 6) = true:=beq_iff_eq.mpr c15;have z6 : (t0 != 6) = false:=bne_eq_false_iff_eq.mpr c15;clear c15;replace H:=sqbi H;obtain ⟨⟨t8,t9⟩,A16,H⟩:=H;(try dsimp only at H);replace H:=sqbi H;obtain ⟨t10,A17,H⟩:=H;(try dsimp only at H);replace H:=sqbi H;obtain ⟨⟨t11,t12⟩,A18,H⟩:=H;(try dsimp only at H);simp only [Option.some.injEq,Prod.mk.injEq] at H;obtain ⟨rfl,rfl⟩:=H;go_enter Try.func85,Try.ntmps85;go_wp2_with (first | ((with_reducible refine gf 24 rfl ?_);refine sqLc rfl (some 7) Try.func24 (spec_l1Rd_pick.calls _ g _ _ _ _ _ w0 _ (IsS79.mv HI0) (sqB2 HB (IsS79.ge HI0.out)) A2.out) ?_;rintro e w19 ⟨rfl,hi,hb,hk⟩;refine ⟨_,rfl,?_⟩;replace HK:=Aside0.mk (KeepBut.trans (sqK HK) hk (.inl rfl));replace HB:=Aside0.mk (hb);replace HI0:=Aside0.mk (hi);(try clear hb);(try clear hb2);(try clear hk);(try clear hi)) | ((with_reducible refine gf 24 rfl ?_);refine sqLc rfl (some 26) Try.func24 (spec_l1Rd_pick.calls _ g _ _ _ _ _ w0 _ (IsS79.mv HI0) (sqB2 HB (IsS79.ge HI0.out)) A16.out) ?_;rintro e w20 ⟨rfl,hi,hb,hk⟩;refine ⟨_,rfl,?_⟩;replace HK:=Aside0.mk (KeepBut.trans (sqK HK) hk (.inl rfl));replace HB:=Aside0.mk (hb);replace HI0:=Aside0.mk (hi);(try clear hb);(try clear hb2);(try clear hk);(try clear hi)) | ((with_reducible refine gf 98 rfl ?_);refine sqLq rfl (some 27) Try.func98 (spec_l1Power.calls _ _ _ _ A17.out) ?_;intro nd) | ((with_reducible refine gf 24 rfl ?_);refine sqLc rfl (some 29) Try.func24 (spec_l1Rd_pick.calls _ g _ _ _ _ _ w0 _ (IsS79.mv HI0) (sqB2 HB (IsS79.ge HI0.out)) A18.out) ?_;rintro e w21 ⟨rfl,hi,hb,hk⟩;refine ⟨_,rfl,?_⟩;replace HK:=Aside0.mk (KeepBut.trans (sqK HK) hk (.inl rfl));replace HB:=Aside0.mk (hb);replace HI0:=Aside0.mk (hi);(try clear hb);(try clear hb2);(try clear hk);(try clear hi)))
  go_ret
  exact ⟨sqEw,by repeat (first | (with_reducible first | exact HI0.out | apply IsS79.alloc | apply IsS79.drewN | apply IsS79.drew | apply IsS79.set_1) | exact HI0.out),by repeat (first | (with_reducible first | exact HB.out | apply below_alloc | apply pw_below_drewN | apply below_drew1 | refine below_set ?_ (IsS79.ge HI0.out)) | exact HB.out),sqK HK⟩
 have z5 : (t0 == 6) = false:=beq_eq_false_iff_ne.mpr c15;have z6 : (t0 != 6) = true:=bne_iff_ne.mpr c15;replace H:=sqj H;rcases H with ⟨c22,H⟩ | ⟨c22,H⟩
 ·have z7 : (t0 == 7) = true:=beq_iff_eq.mpr c22;have z8 : (t0 != 7) = false:=bne_eq_false_iff_eq.mpr c22;clear c22;replace H:=sqbi H;obtain ⟨⟨t13,t14⟩,A23,H⟩:=H;(try dsimp only at H);replace H:=sqbi H;obtain ⟨t15,A24,H⟩:=H;(try dsimp only at H);replace H:=sqbi H;obtain ⟨⟨t16,t17⟩,A25,H⟩:=H;(try dsimp only at H);simp only [Option.some.injEq,Prod.mk.injEq] at H;obtain ⟨rfl,rfl⟩:=H;go_enter Try.func85,Try.ntmps85;go_wp2_with (first | ((with_reducible refine gf 24 rfl ?_);refine sqLc rfl (some 7) Try.func24 (spec_l1Rd_pick.calls _ g _ _ _ _ _ w0 _ (IsS79.mv HI0) (sqB2 HB (IsS79.ge HI0.out)) A2.out) ?_;rintro e w26 ⟨rfl,hi,hb,hk⟩;refine ⟨_,rfl,?_⟩;replace HK:=Aside0.mk (KeepBut.trans (sqK HK) hk (.inl rfl));replace HB:=Aside0.mk (hb);replace HI0:=Aside0.mk (hi);(try clear hb);(try clear hb2);(try clear hk);(try clear hi)) | ((with_reducible refine gf 24 rfl ?_);refine sqLc rfl (some 35) Try.func24 (spec_l1Rd_pick.calls _ g _ _ _ _ _ w0 _ (IsS79.mv HI0) (sqB2 HB (IsS79.ge HI0.out)) A23.out) ?_;rintro e w27 ⟨rfl,hi,hb,hk⟩;refine ⟨_,rfl,?_⟩;replace HK:=Aside0.mk (KeepBut.trans (sqK HK) hk (.inl rfl));replace HB:=Aside0.mk (hb);replace HI0:=Aside0.mk (hi);(try clear hb);(try clear hb2);(try clear hk);(try clear hi)) | ((with_reducible refine gf 98 rfl ?_);refine sqLq rfl (some 36) Try.func98 (spec_l1Power.calls _ _ _ _ A24.out) ?_;intro nd) | ((with_reducible refine gf 24 rfl ?_);refine sqLc rfl (some 39) Try.func24 (spec_l1Rd_pick.calls _ g _ _ _ _ _ w0 _ (IsS79.mv HI0) (sqB2 HB (IsS79.ge HI0.out)) A25.out) ?_;rintro e w28 ⟨rfl,hi,hb,hk⟩;refine ⟨_,rfl,?_⟩;replace HK:=Aside0.mk (KeepBut.trans (sqK HK) hk (.inl rfl));replace HB:=Aside0.mk (hb);replace HI0:=Aside0.mk (hi);(try clear hb);(try clear hb2);(try clear hk);(try clear hi)))
  go_ret
  exact ⟨sqEw,by repeat (first | (with_reducible first | exact HI0.out | apply IsS79.alloc | apply IsS79.drewN | apply IsS79.drew | apply IsS79.set_1) | exact HI0.out),by repeat (first | (with_reducible first | exact HB.out | apply below_alloc | apply pw_below_drewN | apply below_drew1 | refine below_set ?_ (IsS79.ge HI0.out)) | exact HB.out),sqK HK⟩
 have z7 : (t0 == 7) = false:=beq_eq_false_iff_ne.mpr c22;have z8 : (t0 != 7) = true:=bne_iff_ne.mpr c22;have H':=Aside0.mk H;clear H;go_enter Try.func85,Try.ntmps85;go_wp2_with (first | ((with_reducible refine gf 24 rfl ?_);refine sqLc rfl (some 7) Try.func24 (spec_l1Rd_pick.calls _ g _ _ _ _ _ w0 _ (IsS79.mv HI0) (sqB2 HB (IsS79.ge HI0.out)) A2.out) ?_;rintro e w29 ⟨rfl,hi,hb,hk⟩;refine ⟨_,rfl,?_⟩;replace HK:=Aside0.mk (KeepBut.trans (sqK HK) hk (.inl rfl));replace HB:=Aside0.mk (hb);replace HI0:=Aside0.mk (hi);(try clear hb);(try clear hb2);(try clear hk);(try clear hi)))
 go_loopg [4,5] k (fun kq v4 v5 w'=>∃ (x0 : Int) (x1 : Int) (x2 : Int),v4 = .int .i64 x0∧v5 = .int .i64 x1∧Aside0 (spec_l1Rd_num.l0 kq x0 x1 s0_0 x2 = some (r1,r2))∧Aside0 (kq ≤ k)∧Aside0 (IsS79 w0 w' g s0_0 x2)∧Aside0 (KeepBut w w' g none)∧Aside0 (Below w0.heap.size w0 w'))
 case atStart=>exact ⟨(0),(0),(t1),sqE,sqE,H',⟨Nat.le_refl _⟩,⟨IsS79.mv HI0⟩,⟨sqK HK⟩,⟨sqB2 HB (IsS79.ge HI0.out)⟩⟩
 case round =>
  clear H';obtain ⟨x0,x1,x2,rfl,rfl,HA,HK1,HI0,HK,HB⟩:=hrel;cases gk with
  | zero=>exact absurd HA.out (by simp [spec_l1Rd_num.l0])
  | succ k1 =>
   have H:=HA.out;clear HA;simp only [spec_l1Rd_num.l0] at H;replace H:=sqi H;rcases H with ⟨c30,H⟩ | ⟨c30,H⟩
   ·have z9:=decide_eq_false c30;clear c30;replace H:=sqbi H;obtain ⟨t18,A33,H⟩:=H;(try dsimp only at H);simp only [Option.some.injEq,Prod.mk.injEq] at H;obtain ⟨rfl,rfl⟩:=H;go_wp2_with (first | ((with_reducible refine gf 66 rfl ?_);refine sqLq rfl (some 52) Try.func66 (spec_NumWrap.calls _ _ _ A33.out) ?_;intro nd))
    go_ret
    exact ⟨sqEw,by repeat (first | (with_reducible first | exact HI0.out | apply IsS79.alloc | apply IsS79.drewN | apply IsS79.drew | apply IsS79.set_1) | exact HI0.out),by repeat (first | (with_reducible first | exact HB.out | apply below_alloc | apply pw_below_drewN | apply below_drew1 | refine below_set ?_ (IsS79.ge HI0.out)) | exact HB.out),sqK HK⟩
   have z9:=decide_eq_true c30;clear c30;replace H:=sqbi H;obtain ⟨⟨t19,t20⟩,A31,H⟩:=H;(try dsimp only at H);have H':=Aside0.mk H;clear H;go_wp2_with (first | ((with_reducible refine gf 24 rfl ?_);refine sqLc rfl (some 49) Try.func24 (spec_l1Rd_pick.calls _ g _ _ _ _ _ w0 _ (IsS79.mv HI0) (sqB2 HB (IsS79.ge HI0.out)) A31.out) ?_;rintro e w32 ⟨rfl,hi,hb,hk⟩;refine ⟨_,rfl,?_⟩;replace HK:=Aside0.mk (KeepBut.trans (sqK HK) hk (.inl rfl));replace HB:=Aside0.mk (hb);replace HI0:=Aside0.mk (hi);(try clear hb);(try clear hb2);(try clear hk);(try clear hi)));go_roundg k1
   case measure=>have:=HK1.out;omega
   case rel=>exact ⟨(wrap64 ((wrap64 (x0 * 256)) + t19)),(wrap64 (x1 + 1)),(t20),sqE,sqE,H',⟨by have:=HK1.out;omega⟩,⟨IsS79.mv HI0⟩,⟨sqK HK⟩,⟨sqB2 HB (IsS79.ge HI0.out)⟩⟩

/-! ### spec_l1Rd_wild: function 70 -/
theorem spec_l1Rd_wild.calls (k : Nat) (g : Nat) (s0_0 : List Int) (s0_1 : Int) (r1 : Int) (r2 : Int) (w0 w : World) (hI : IsS79 w0 w g s0_0 s0_1) (hB : Below w0.heap.size w0 w) (h : spec_l1Rd_wild.f k s0_0 s0_1 = some (r1,r2)) :
  Calls Try.prog 70 #[.pointer (some ⟨g,0,none⟩)] w fun e w'=>e = .returned (.int .i64 r1)∧IsS79 w0 w' g s0_0 r2∧Below w0.heap.size w0 w'∧KeepBut w w' g none:=by
 have HI0:=Aside0.mk hI;have HK:=Aside0.mk (KeepBut.refl w g none);have HL:=Aside0.mk hB.size;clear hI;have HW0:=Aside0.mk hB.size;have HB:=Aside0.mk hB;clear hB;have H:=h;unfold spec_l1Rd_wild.f at H;clear h;replace H:=sqbi H;obtain ⟨⟨t0,t1⟩,A2,H⟩:=H;(try dsimp only at H);replace H:=sqj H;rcases H with ⟨c3,H⟩ | ⟨c3,H⟩
 ·have z0 : (t0 == 0) = true:=beq_iff_eq.mpr c3;have z1 : (t0 != 0) = false:=bne_eq_false_iff_eq.mpr c3;clear c3;replace H:=sqbi H;obtain ⟨⟨t2,t3⟩,A4,H⟩:=H;(try dsimp only at H);simp only [Option.some.injEq,Prod.mk.injEq] at H;obtain ⟨rfl,rfl⟩:=H;go_enter Try.func70,Try.ntmps70;go_wp2_with (first | ((with_reducible refine gf 24 rfl ?_);refine sqLc rfl (some 5) Try.func24 (spec_l1Rd_pick.calls _ g _ _ _ _ _ w0 _ (IsS79.mv HI0) (sqB2 HB (IsS79.ge HI0.out)) A2.out) ?_;rintro e w5 ⟨rfl,hi,hb,hk⟩;refine ⟨_,rfl,?_⟩;replace HK:=Aside0.mk (KeepBut.trans (sqK HK) hk (.inl rfl));replace HB:=Aside0.mk (hb);replace HI0:=Aside0.mk (hi);(try clear hb);(try clear hb2);(try clear hk);(try clear hi)) | ((with_reducible refine gf 24 rfl ?_);refine sqLc rfl (some 9) Try.func24 (spec_l1Rd_pick.calls _ g _ _ _ _ _ w0 _ (IsS79.mv HI0) (sqB2 HB (IsS79.ge HI0.out)) A4.out) ?_;rintro e w6 ⟨rfl,hi,hb,hk⟩;refine ⟨_,rfl,?_⟩;replace HK:=Aside0.mk (KeepBut.trans (sqK HK) hk (.inl rfl));replace HB:=Aside0.mk (hb);replace HI0:=Aside0.mk (hi);(try clear hb);(try clear hb2);(try clear hk);(try clear hi)))
  go_ret
  exact ⟨sqEw,by repeat (first | (with_reducible first | exact HI0.out | apply IsS79.alloc | apply IsS79.drewN | apply IsS79.drew | apply IsS79.set_1) | exact HI0.out),by repeat (first | (with_reducible first | exact HB.out | apply below_alloc | apply pw_below_drewN | apply below_drew1 | refine below_set ?_ (IsS79.ge HI0.out)) | exact HB.out),sqK HK⟩
 have z0 : (t0 == 0) = false:=beq_eq_false_iff_ne.mpr c3;have z1 : (t0 != 0) = true:=bne_iff_ne.mpr c3;replace H:=sqj H;rcases H with ⟨c7,H⟩ | ⟨c7,H⟩
 ·have z2 : (t0 == 1) = true:=beq_iff_eq.mpr c7;have z3 : (t0 != 1) = false:=bne_eq_false_iff_eq.mpr c7;clear c7;replace H:=sqbi H;obtain ⟨⟨t4,t5⟩,A8,H⟩:=H;(try dsimp only at H);simp only [Option.some.injEq,Prod.mk.injEq] at H;obtain ⟨rfl,rfl⟩:=H;go_enter Try.func70,Try.ntmps70;go_wp2_with (first | ((with_reducible refine gf 24 rfl ?_);refine sqLc rfl (some 5) Try.func24 (spec_l1Rd_pick.calls _ g _ _ _ _ _ w0 _ (IsS79.mv HI0) (sqB2 HB (IsS79.ge HI0.out)) A2.out) ?_;rintro e w9 ⟨rfl,hi,hb,hk⟩;refine ⟨_,rfl,?_⟩;replace HK:=Aside0.mk (KeepBut.trans (sqK HK) hk (.inl rfl));replace HB:=Aside0.mk (hb);replace HI0:=Aside0.mk (hi);(try clear hb);(try clear hb2);(try clear hk);(try clear hi)) | ((with_reducible refine gf 24 rfl ?_);refine sqLc rfl (some 14) Try.func24 (spec_l1Rd_pick.calls _ g _ _ _ _ _ w0 _ (IsS79.mv HI0) (sqB2 HB (IsS79.ge HI0.out)) A8.out) ?_;rintro e w10 ⟨rfl,hi,hb,hk⟩;refine ⟨_,rfl,?_⟩;replace HK:=Aside0.mk (KeepBut.trans (sqK HK) hk (.inl rfl));replace HB:=Aside0.mk (hb);replace HI0:=Aside0.mk (hi);(try clear hb);(try clear hb2);(try clear hk);(try clear hi)))
  go_ret
  exact ⟨sqEw,by repeat (first | (with_reducible first | exact HI0.out | apply IsS79.alloc | apply IsS79.drewN | apply IsS79.drew | apply IsS79.set_1) | exact HI0.out),by repeat (first | (with_reducible first | exact HB.out | apply below_alloc | apply pw_below_drewN | apply below_drew1 | refine below_set ?_ (IsS79.ge HI0.out)) | exact HB.out),sqK HK⟩
 have z2 : (t0 == 1) = false:=beq_eq_false_iff_ne.mpr c7;have z3 : (t0 != 1) = true:=bne_iff_ne.mpr c7;replace H:=sqj H;rcases H with ⟨c11,H⟩ | ⟨c11,H⟩
 ·have z4 : (t0 == 2) = true:=beq_iff_eq.mpr c11;have z5 : (t0 != 2) = false:=bne_eq_false_iff_eq.mpr c11;clear c11;replace H:=sqbi H;obtain ⟨⟨t6,t7⟩,A12,H⟩:=H;(try dsimp only at H);simp only [Option.some.injEq,Prod.mk.injEq] at H;obtain ⟨rfl,rfl⟩:=H;go_enter Try.func70,Try.ntmps70;go_wp2_with (first | ((with_reducible refine gf 24 rfl ?_);refine sqLc rfl (some 5) Try.func24 (spec_l1Rd_pick.calls _ g _ _ _ _ _ w0 _ (IsS79.mv HI0) (sqB2 HB (IsS79.ge HI0.out)) A2.out) ?_;rintro e w13 ⟨rfl,hi,hb,hk⟩;refine ⟨_,rfl,?_⟩;replace HK:=Aside0.mk (KeepBut.trans (sqK HK) hk (.inl rfl));replace HB:=Aside0.mk (hb);replace HI0:=Aside0.mk (hi);(try clear hb);(try clear hb2);(try clear hk);(try clear hi)) | ((with_reducible refine gf 24 rfl ?_);refine sqLc rfl (some 19) Try.func24 (spec_l1Rd_pick.calls _ g _ _ _ _ _ w0 _ (IsS79.mv HI0) (sqB2 HB (IsS79.ge HI0.out)) A12.out) ?_;rintro e w14 ⟨rfl,hi,hb,hk⟩;refine ⟨_,rfl,?_⟩;replace HK:=Aside0.mk (KeepBut.trans (sqK HK) hk (.inl rfl));replace HB:=Aside0.mk (hb);replace HI0:=Aside0.mk (hi);(try clear hb);(try clear hb2);(try clear hk);(try clear hi)))
  go_ret
  exact ⟨sqEw,by repeat (first | (with_reducible first | exact HI0.out | apply IsS79.alloc | apply IsS79.drewN | apply IsS79.drew | apply IsS79.set_1) | exact HI0.out),by repeat (first | (with_reducible first | exact HB.out | apply below_alloc | apply pw_below_drewN | apply below_drew1 | refine below_set ?_ (IsS79.ge HI0.out)) | exact HB.out),sqK HK⟩
 have z4 : (t0 == 2) = false:=beq_eq_false_iff_ne.mpr c11;have z5 : (t0 != 2) = true:=bne_iff_ne.mpr c11;replace H:=sqi H;rcases H with ⟨c15,H⟩ | ⟨c15,H⟩
 ·have z6 : (t0 == 3) = false:=beq_eq_false_iff_ne.mpr c15;have z7 : (t0 != 3) = true:=bne_iff_ne.mpr c15;replace H:=sqbi H;obtain ⟨⟨t8,t9⟩,A19,H⟩:=H;(try dsimp only at H);simp only [Option.some.injEq,Prod.mk.injEq] at H;obtain ⟨rfl,rfl⟩:=H;go_enter Try.func70,Try.ntmps70;go_wp2_with (first | ((with_reducible refine gf 24 rfl ?_);refine sqLc rfl (some 5) Try.func24 (spec_l1Rd_pick.calls _ g _ _ _ _ _ w0 _ (IsS79.mv HI0) (sqB2 HB (IsS79.ge HI0.out)) A2.out) ?_;rintro e w20 ⟨rfl,hi,hb,hk⟩;refine ⟨_,rfl,?_⟩;replace HK:=Aside0.mk (KeepBut.trans (sqK HK) hk (.inl rfl));replace HB:=Aside0.mk (hb);replace HI0:=Aside0.mk (hi);(try clear hb);(try clear hb2);(try clear hk);(try clear hi)) | ((with_reducible refine gf 85 rfl ?_);refine sqLc rfl (some 27) Try.func85 (spec_l1Rd_num.calls _ g _ _ _ _ w0 _ (IsS79.mv HI0) (sqB2 HB (IsS79.ge HI0.out)) A19.out) ?_;rintro e w21 ⟨rfl,hi,hb,hk⟩;refine ⟨_,rfl,?_⟩;replace HK:=Aside0.mk (KeepBut.trans (sqK HK) hk (.inl rfl));replace HB:=Aside0.mk (hb);replace HI0:=Aside0.mk (hi);(try clear hb);(try clear hb2);(try clear hk);(try clear hi)))
  go_ret
  exact ⟨sqEw,by repeat (first | (with_reducible first | exact HI0.out | apply IsS79.alloc | apply IsS79.drewN | apply IsS79.drew | apply IsS79.set_1) | exact HI0.out),by repeat (first | (with_reducible first | exact HB.out | apply below_alloc | apply pw_below_drewN | apply below_drew1 | refine below_set ?_ (IsS79.ge HI0.out)) | exact HB.out),sqK HK⟩
 have z6 : (t0 == 3) = true:=beq_iff_eq.mpr c15;have z7 : (t0 != 3) = false:=bne_eq_false_iff_eq.mpr c15;clear c15;replace H:=sqbi H;obtain ⟨⟨t10,t11⟩,A16,H⟩:=H;(try dsimp only at H);simp only [Option.some.injEq,Prod.mk.injEq] at H;obtain ⟨rfl,rfl⟩:=H;go_enter Try.func70,Try.ntmps70;go_wp2_with (first | ((with_reducible refine gf 24 rfl ?_);refine sqLc rfl (some 5) Try.func24 (spec_l1Rd_pick.calls _ g _ _ _ _ _ w0 _ (IsS79.mv HI0) (sqB2 HB (IsS79.ge HI0.out)) A2.out) ?_;rintro e w17 ⟨rfl,hi,hb,hk⟩;refine ⟨_,rfl,?_⟩;replace HK:=Aside0.mk (KeepBut.trans (sqK HK) hk (.inl rfl));replace HB:=Aside0.mk (hb);replace HI0:=Aside0.mk (hi);(try clear hb);(try clear hb2);(try clear hk);(try clear hi)) | ((with_reducible refine gf 24 rfl ?_);refine sqLc rfl (some 24) Try.func24 (spec_l1Rd_pick.calls _ g _ _ _ _ _ w0 _ (IsS79.mv HI0) (sqB2 HB (IsS79.ge HI0.out)) A16.out) ?_;rintro e w18 ⟨rfl,hi,hb,hk⟩;refine ⟨_,rfl,?_⟩;replace HK:=Aside0.mk (KeepBut.trans (sqK HK) hk (.inl rfl));replace HB:=Aside0.mk (hb);replace HI0:=Aside0.mk (hi);(try clear hb);(try clear hb2);(try clear hk);(try clear hi)))
 go_ret
 exact ⟨sqEw,by repeat (first | (with_reducible first | exact HI0.out | apply IsS79.alloc | apply IsS79.drewN | apply IsS79.drew | apply IsS79.set_1) | exact HI0.out),by repeat (first | (with_reducible first | exact HB.out | apply below_alloc | apply pw_below_drewN | apply below_drew1 | refine below_set ?_ (IsS79.ge HI0.out)) | exact HB.out),sqK HK⟩

/-! ### spec_l8None: function 38 -/
theorem spec_l8None.calls  (r1 : Int) (r2 : Int) (w : World) (h : spec_l8None.f  = some (r1,r2)) :
  Calls Try.prog 38 #[] w fun e w'=>e = .returned (.agg #[.int .i64 r1,.int .i64 r2])∧Below w.heap.size w w':=by
 have hu24:=Try.underlying24;have HB:=Aside0.mk (Below.refl w.heap.size w);have H:=h;unfold spec_l8None.f at H;clear h;simp only [Option.some.injEq,Prod.mk.injEq] at H;obtain ⟨rfl,rfl⟩:=H;go_enter Try.func38,Try.ntmps38;go_wp2_with (first | ((with_reducible refine gd 0 rfl ?_);refine sqX 0 #[.int .i64 0,.int .i64 0] 24 HB ?_;clear HB;intro gb0 hg w1 hb B0 GW0 HB;clear hb hg;obtain ⟨_,_,_,_⟩:=sqc2 B0));refine sqre #[.int .i64 1,.int .i64 0] (sqP B0) Try.underlying24 ?_;exact sqe HB

/-! ### spec_l8Min: function 80 -/
theorem spec_l8Min.calls (a0 : Int) (a1 : Int) (r : Int) (w : World) (h : spec_l8Min.f a0 a1 = some r) :
  Calls Try.prog 80 #[.int .i64 a0,.int .i64 a1] w fun e w'=>e = .returned (.int .i64 r)∧Drawn0 w w':=by
 have H:=h;unfold spec_l8Min.f at H;clear h;replace H:=sqj H;rcases H with ⟨c3,H⟩ | ⟨c3,H⟩
 ·have z0:=decide_eq_true c3;clear c3;obtain rfl:=Option.some.inj H;go_enter Try.func80,Try.ntmps80
  go_wp2
  go_ret
  exact ⟨sqE,sqD⟩
 have z0:=decide_eq_false c3;clear c3;obtain rfl:=Option.some.inj H;go_enter Try.func80,Try.ntmps80
 go_wp2
 go_ret
 exact ⟨sqE,sqD⟩

end Go.Proofs.Ytlbheepfmjbpnaa.PFnRangeDo
