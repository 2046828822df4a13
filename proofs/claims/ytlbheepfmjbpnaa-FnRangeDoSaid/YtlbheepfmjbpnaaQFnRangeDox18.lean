/- Functions of the program as plain Lean functions, and that calls of them come to what these tell. Conditions: those in each law. -/
import Derived.Test.YtlbheepfmjbpnaaSq
import Derived.Test.YtlbheepfmjbpnaaDFnRangeDo
import Derived.Test.YtlbheepfmjbpnaaQFnRangeDox0
import Derived.Test.YtlbheepfmjbpnaaQFnRangeDox16
import Derived.Test.YtlbheepfmjbpnaaQFnRangeDox2
import Derived.Test.YtlbheepfmjbpnaaQFnRangeDox5
namespace Go.Proofs.Ytlbheepfmjbpnaa.PFnRangeDo
open Go.RowKit Go.Proofs.Ytlbheepfmjbpnaa.Sq Go.Proofs.YtlbheepfmjbpnaaW.PrintWords Go.Proofs.YtlbheepfmjbpnaaW.PrintLast Go.Proofs.YtlbheepfmjbpnaaW.PrintMore
attribute [local go_sem] max2_int min2_int max_two min_two max_three min_three max_four min_four   -- for this text's walks alone
set_option linter.unusedVariables false
set_option linter.unusedSimpArgs false

/-- A state of type 63 at block g of W; what its slices lead to came in by w0. -/
def IsS63 (w0 W : World) (g : Nat) (f0 : Bool) (f1 : Int) (f2 : Int) : Prop:=W.heap[g]? = some (.cells #[.bool f0,.int .i64 f1,.int .i64 f2] 63 (0,0))∧w0.heap.size ≤ g
theorem IsS63.grown {w0 W : World} {g : Nat} {f0 : Bool} {f1 : Int} {f2 : Int} {W1 : World} {row : Option Nat} (h : IsS63 w0 W g f0 f1 f2) (hw : W.grownBy W1 row) (hne : some g≠row) : IsS63 w0 W1 g f0 f1 f2:=by
 obtain ⟨hb,hg⟩:=h;exact ⟨blk_grown hb hw hne,hg⟩
theorem IsS63.own_neN {w0 W : World} {g : Nat} {f0 : Bool} {f1 : Int} {f2 : Int} {α : Type} {d : Kd α} {e : Nat} {base : Nat} {ok : Nat→Prop} {v : Value} {xs : List α} (h : IsS63 w0 W g f0 f1 f2) (ho : Kd.N d e W base ok v xs) (ht : e≠63) : some g≠v.ownBlock:=by
 obtain ⟨hb,hg⟩:=h;exact Kd.N_ne ho hb ht
theorem IsS63.fresh {w0 W : World} {g : Nat} {f0 : Bool} {f1 : Int} {f2 : Int} (h : IsS63 w0 W g f0 f1 f2) : ∀ k,W.heap.size ≤ k→k≠g:=by
 obtain ⟨hb,hg⟩:=h;exact Kd.freshB hb
theorem IsS63.kept {w0 W : World} {g : Nat} {f0 : Bool} {f1 : Int} {f2 : Int} {W1 : World} {S : Nat→Prop} (h : IsS63 w0 W g f0 f1 f2) (hk : Kept W W1 S) (hne : ¬ S g) : IsS63 w0 W1 g f0 f1 f2:=by
 obtain ⟨hb,hg⟩:=h;exact ⟨blk_kept hb hk hne,hg⟩
theorem IsS63.below {w0 W : World} {g : Nat} {f0 : Bool} {f1 : Int} {f2 : Int} {W1 : World} (h : IsS63 w0 W g f0 f1 f2) (hw : Below W.heap.size W W1) : IsS63 w0 W1 g f0 f1 f2:=h.grown (grown_of_below hw none) (by simp)
theorem IsS63.alloc {w0 W : World} {g : Nat} {f0 : Bool} {f1 : Int} {f2 : Int} (h : IsS63 w0 W g f0 f1 f2) (o : Obj) : IsS63 w0 (W.alloc o) g f0 f1 f2:=h.below (below_alloc (Below.refl _ _) o)
theorem IsS63.drewN {w0 W : World} {g : Nat} {f0 : Bool} {f1 : Int} {f2 : Int} (h : IsS63 w0 W g f0 f1 f2) (m : Nat) : IsS63 w0 (W.drewN m) g f0 f1 f2:=h
theorem IsS63.drew {w0 W : World} {g : Nat} {f0 : Bool} {f1 : Int} {f2 : Int} (h : IsS63 w0 W g f0 f1 f2) : IsS63 w0 W.drew g f0 f1 f2:=h
theorem IsS63.at_ {w0 W : World} {g : Nat} {f0 : Bool} {f1 : Int} {f2 : Int} {w' : World} {m : Nat} (hq : W.drewN m = w') (h : IsS63 w0 W g f0 f1 f2) : IsS63 w0 w' g f0 f1 f2:=by subst hq;exact IsS63.drewN h m
theorem IsS63.apart {w0 W : World} {g : Nat} {f0 : Bool} {f1 : Int} {f2 : Int} {α : Type} {d : Kd α} {e : Nat} {base : Nat} {ok : Nat→Prop} {v : Value} {xs : List α} (h : IsS63 w0 W g f0 f1 f2) (ho : d.R e W base ok v xs) (ht : ∀ q,q ∈ e :: d.E→q≠63) : d.R e W base (fun k=>ok k∧k≠g) v xs:=by
 obtain ⟨hb,hg⟩:=h;exact Kd.R_types ho hb ht
theorem IsS63.own_ne {w0 W : World} {g : Nat} {f0 : Bool} {f1 : Int} {f2 : Int} {α : Type} {d : Kd α} {e : Nat} {base : Nat} {ok : Nat→Prop} {v : Value} {xs : List α} (h : IsS63 w0 W g f0 f1 f2) (ho : d.R e W base ok v xs) (ht : e≠63) : some g≠v.ownBlock:=by
 obtain ⟨hb,hg⟩:=h;exact Kd.R_ne ho hb ht
theorem IsS63.apartQ {w0 W : World} {g : Nat} {f0 : Bool} {f1 : Int} {f2 : Int} {α : Type} {d : Kd α} {e : Nat} {base : Nat} {ok : Nat→Prop} {v : Value} {xs : List α} (h : IsS63 w0 W g f0 f1 f2) (ho : d.Q e W base ok v xs) (ht : ∀ q,q ∈ e :: d.E→q≠63) : d.Q e W base (fun k=>ok k∧k≠g) v xs:=by
 obtain ⟨hb,hg⟩:=h;exact Kd.Q_types ho hb ht
theorem IsS63.own_neQ {w0 W : World} {g : Nat} {f0 : Bool} {f1 : Int} {f2 : Int} {α : Type} {d : Kd α} {e : Nat} {base : Nat} {ok : Nat→Prop} {v : Value} {xs : List α} (h : IsS63 w0 W g f0 f1 f2) (ho : d.Q e W base ok v xs) (ht : e≠63) : some g≠v.ownBlock:=by
 obtain ⟨hb,hg⟩:=h;exact Kd.Q_ne ho hb ht
theorem IsS63.apartS {w0 W : World} {g : Nat} {f0 : Bool} {f1 : Int} {f2 : Int} {α : Type} {d : Kd α} {e : Nat} {base : Nat} {ok : Nat→Prop} {v : Value} {xs : List α} (h : IsS63 w0 W g f0 f1 f2) (ho : d.S e W base ok v xs) (ht : ∀ q,q ∈ e :: d.E→q≠63) : d.S e W base (fun k=>ok k∧k≠g) v xs:=by
 obtain ⟨hb,hg⟩:=h;exact Kd.S_types ho hb ht
theorem IsS63.own_neS {w0 W : World} {g : Nat} {f0 : Bool} {f1 : Int} {f2 : Int} {α : Type} {d : Kd α} {e : Nat} {base : Nat} {ok : Nat→Prop} {v : Value} {xs : List α} (h : IsS63 w0 W g f0 f1 f2) (ho : d.S e W base ok v xs) (ht : e≠63) : some g≠v.ownBlock:=by
 obtain ⟨hb,hg⟩:=h;exact Kd.S_ne ho hb ht
theorem IsS63.lt {w0 W : World} {g : Nat} {f0 : Bool} {f1 : Int} {f2 : Int} (h : IsS63 w0 W g f0 f1 f2) : g < W.heap.size:=by
 obtain ⟨hb,hg⟩:=h;exact blk_lt hb
theorem IsS63.ge {w0 W : World} {g : Nat} {f0 : Bool} {f1 : Int} {f2 : Int} (h : IsS63 w0 W g f0 f1 f2) : w0.heap.size ≤ g:=by
 obtain ⟨hb,hg⟩:=h;exact hg
theorem IsS63.ne_blk {w0 W : World} {g : Nat} {f0 : Bool} {f1 : Int} {f2 : Int} {a : Nat} {cs : Array Value} {t : TypeId} {fr : Nat × Nat} (h : IsS63 w0 W g f0 f1 f2) (hb2 : W.heap[a]? = some (.cells cs t fr)) (ht : t≠63) : g≠a:=by
 obtain ⟨hb,hg⟩:=h;rintro rfl;rw [hb] at hb2;injection hb2 with hb2;injection hb2 with _ ht2;exact ht ht2.symm
theorem IsS63.far {w0 W : World} {g : Nat} {f0 : Bool} {f1 : Int} {f2 : Int} {p : Addr} (h : IsS63 w0 W g f0 f1 f2) (hne : g≠p.block) (u : Value) : IsS63 w0 (W.setCell p u) g f0 f1 f2:=by
 obtain ⟨hb,hg⟩:=h;exact ⟨blk_far hb hne u,hg⟩
theorem cellS63_0 {W : World} {g : Nat} {f0 : Bool} {f1 : Int} {f2 : Int} (h : W.heap[g]? = some (.cells #[.bool f0,.int .i64 f1,.int .i64 f2] 63 (0,0))) : W.cell? ⟨g,0,none⟩ = some (.bool f0):=(blk_cell h 0).trans rfl
theorem IsS63.set_0 {w0 W : World} {g : Nat} {f0 : Bool} {f1 : Int} {f2 : Int} (h : IsS63 w0 W g f0 f1 f2) (x : Bool) : IsS63 w0 (W.setCell ⟨g,0,none⟩ (.bool x)) g x f1 f2:=by
 obtain ⟨hb,hg⟩:=h;exact ⟨by simpa using blk_set hb 0 (.bool x),hg⟩
theorem cellS63_1 {W : World} {g : Nat} {f0 : Bool} {f1 : Int} {f2 : Int} (h : W.heap[g]? = some (.cells #[.bool f0,.int .i64 f1,.int .i64 f2] 63 (0,0))) : W.cell? ⟨g,1,none⟩ = some (.int .i64 f1):=(blk_cell h 1).trans rfl
theorem IsS63.set_1 {w0 W : World} {g : Nat} {f0 : Bool} {f1 : Int} {f2 : Int} (h : IsS63 w0 W g f0 f1 f2) (x : Int) : IsS63 w0 (W.setCell ⟨g,1,none⟩ (.int .i64 x)) g f0 x f2:=by
 obtain ⟨hb,hg⟩:=h;exact ⟨by simpa using blk_set hb 1 (.int .i64 x),hg⟩
theorem cellS63_2 {W : World} {g : Nat} {f0 : Bool} {f1 : Int} {f2 : Int} (h : W.heap[g]? = some (.cells #[.bool f0,.int .i64 f1,.int .i64 f2] 63 (0,0))) : W.cell? ⟨g,2,none⟩ = some (.int .i64 f2):=(blk_cell h 2).trans rfl
theorem IsS63.set_2 {w0 W : World} {g : Nat} {f0 : Bool} {f1 : Int} {f2 : Int} (h : IsS63 w0 W g f0 f1 f2) (x : Int) : IsS63 w0 (W.setCell ⟨g,2,none⟩ (.int .i64 x)) g f0 f1 x:=by
 obtain ⟨hb,hg⟩:=h;exact ⟨by simpa using blk_set hb 2 (.int .i64 x),hg⟩
theorem IsS63.new (w0 W : World) (f0 : Bool) (f1 : Int) (f2 : Int) (hB : Below w0.heap.size w0 W) : IsS63 w0 (W.alloc (.cells #[.bool f0,.int .i64 f1,.int .i64 f2] 63)) W.heap.size f0 f1 f2:=⟨by simpa using heap_alloc_new W _,hB.size⟩
theorem IsS63.mv {p q : Prop} (H : Aside0 p) (s : p→q:=by
  intro h_;repeat (first | (with_reducible first | exact h_ | apply IsS63.alloc | apply IsS63.drewN | apply IsS63.drew | apply IsS63.set_0 | apply IsS63.set_1 | apply IsS63.set_2 | refine IsS63.far ?_ (Aside0.out (by assumption)) _) | exact h_)) : q:=s H.out

set_option maxHeartbeats 8000000
set_option maxRecDepth 100000
/-! ### spec_l8R_add: function 83 -/
theorem spec_l8R_add.calls (k : Nat) (g : Nat) (s0_0 : Bool) (s0_1 : Int) (s0_2 : Int) (a1 : Int) (r1 : Bool) (r2 : Int) (r3 : Int) (w0 w : World) (hI : IsS63 w0 w g s0_0 s0_1 s0_2) (hB : Below w0.heap.size w0 w) (h : spec_l8R_add.f k s0_0 s0_1 s0_2 a1 = some (r1,r2,r3)) :
  Calls Try.prog 83 #[.pointer (some ⟨g,0,none⟩),.int .i64 a1] w fun e w'=>e = .returned (.tuple #[])∧IsS63 w0 w' g r1 r2 r3∧Below w0.heap.size w0 w'∧KeepBut w w' g none:=by
 have HI0:=Aside0.mk hI;have HK:=Aside0.mk (KeepBut.refl w g none);have HL:=Aside0.mk hB.size;clear hI;have HW0:=Aside0.mk hB.size;have HB:=Aside0.mk hB;clear hB;have H:=h;unfold spec_l8R_add.f at H;clear h;have HC3:=Aside0.mk H;clear H;go_enter Try.func83,Try.ntmps83;go_upto_region 0 with (fail);go_cut [16] (fun v16 wc=>∃ (kq : Nat) (x0 : Bool),v16 = .bool x0∧Aside0 (spec_l8R_add.j0 kq a1 x0 s0_0 s0_1 s0_2 = some (r1,r2,r3))∧Aside0 (kq ≤ k)∧Aside0 (IsS63 w0 wc g s0_0 s0_1 s0_2)∧Aside0 (KeepBut w wc g none)∧Aside0 (Below w0.heap.size w0 wc))
 case first =>
  have H:=HC3.out;clear HC3
  by_cases c4 : s0_0 = true
  ·subst c4;rw [if_pos rfl] at H;have H':=Aside0.mk H;clear H;obtain ⟨HGz5,hgz5⟩:=HI0.out;have z2:=cellS63_0 HGz5;have z3:=cellS63_1 HGz5;have z4:=cellS63_2 HGz5;have z5:=blk_frozen HGz5 0;have z6:=blk_frozen HGz5 1;have z7:=blk_frozen HGz5 2;clear HGz5 hgz5
   go_wp2
   go_meet
   case rel=>exact ⟨_,(decide (a1 < s0_1)),sqE,H',⟨sqle⟩,⟨IsS63.mv HI0⟩,⟨sqK HK⟩,⟨sqB2 HB (IsS63.ge HI0.out)⟩⟩
  replace c4:=Bool.eq_false_iff.mpr c4;subst c4;rw [sqff] at H;have H':=Aside0.mk H;clear H;obtain ⟨HGz6,hgz6⟩:=HI0.out;have z8:=cellS63_0 HGz6;have z9:=cellS63_1 HGz6;have za:=cellS63_2 HGz6;have zb:=blk_frozen HGz6 0;have zc:=blk_frozen HGz6 1;have zd:=blk_frozen HGz6 2;clear HGz6 hgz6
  go_wp2
  go_meet
  case rel=>exact ⟨_,(true),sqE,H',⟨sqle⟩,⟨IsS63.mv HI0⟩,⟨sqK HK⟩,⟨sqB2 HB (IsS63.ge HI0.out)⟩⟩
 case rest =>
  clear HC3;obtain ⟨kq,x0,rfl,HA,HJ2,HI0,HK,HB⟩:=hcut;cases kq with
  | zero=>exact absurd HA.out (by simp [spec_l8R_add.j0])
  | succ kj2 =>
   have H:=HA.out;clear HA;simp only [spec_l8R_add.j0] at H
   by_cases c7 : x0 = true
   ·subst c7;rw [if_pos rfl] at H;rcases sqI (s0_0 = true) with c8 | c8
    ·replace c8:=Bool.eq_false_iff.mpr c8;subst c8;rw [sqff] at H;simp only [Option.some.injEq,Prod.mk.injEq] at H;obtain ⟨rfl,rfl,rfl⟩:=H;obtain ⟨HGz12,hgz12⟩:=HI0.out;have ze:=cellS63_0 HGz12;have zf:=cellS63_1 HGz12;have zg:=cellS63_2 HGz12;have zh:=blk_frozen HGz12 0;have zi:=blk_frozen HGz12 1;have zj:=blk_frozen HGz12 2;clear HGz12 hgz12
     go_wp2
     first | go_end0 | ((try simp only [Exit.inBlock,Exit.then]);refine bodyPost_ret (results_none rfl _ _ _) rfl ?_)
     exact ⟨sqEw,by repeat (first | (with_reducible first | exact HI0.out | apply IsS63.alloc | apply IsS63.drewN | apply IsS63.drew | apply IsS63.set_0 | apply IsS63.set_1 | apply IsS63.set_2) | exact HI0.out),by repeat (first | (with_reducible first | exact HB.out | apply below_alloc | apply pw_below_drewN | apply below_drew1 | refine below_set ?_ (IsS63.ge HI0.out)) | exact HB.out),sqK HK⟩
    subst c8;rw [if_pos rfl] at H;replace H:=sqj H;rcases H with ⟨c9,H⟩ | ⟨c9,H⟩
    ·have z0 : decide (s0_2 < a1) = true:=decide_eq_true c9;clear c9;simp only [Option.some.injEq,Prod.mk.injEq] at H;obtain ⟨rfl,rfl,rfl⟩:=H;obtain ⟨HGz10,hgz10⟩:=HI0.out;have zk:=cellS63_0 HGz10;have zl:=cellS63_1 HGz10;have zm:=cellS63_2 HGz10;have zn:=blk_frozen HGz10 0;have zo:=blk_frozen HGz10 1;have zp:=blk_frozen HGz10 2;clear HGz10 hgz10
     go_wp2
     first | go_end0 | ((try simp only [Exit.inBlock,Exit.then]);refine bodyPost_ret (results_none rfl _ _ _) rfl ?_)
     exact ⟨sqEw,by repeat (first | (with_reducible first | exact HI0.out | apply IsS63.alloc | apply IsS63.drewN | apply IsS63.drew | apply IsS63.set_0 | apply IsS63.set_1 | apply IsS63.set_2) | exact HI0.out),by repeat (first | (with_reducible first | exact HB.out | apply below_alloc | apply pw_below_drewN | apply below_drew1 | refine below_set ?_ (IsS63.ge HI0.out)) | exact HB.out),sqK HK⟩
    have z0 : decide (s0_2 < a1) = false:=decide_eq_false c9;clear c9;simp only [Option.some.injEq,Prod.mk.injEq] at H;obtain ⟨rfl,rfl,rfl⟩:=H;obtain ⟨HGz11,hgz11⟩:=HI0.out;have zq:=cellS63_0 HGz11;have zr:=cellS63_1 HGz11;have zt:=cellS63_2 HGz11;have zu:=blk_frozen HGz11 0;have zv:=blk_frozen HGz11 1;have zw:=blk_frozen HGz11 2;clear HGz11 hgz11
    go_wp2
    first | go_end0 | ((try simp only [Exit.inBlock,Exit.then]);refine bodyPost_ret (results_none rfl _ _ _) rfl ?_)
    exact ⟨sqEw,by repeat (first | (with_reducible first | exact HI0.out | apply IsS63.alloc | apply IsS63.drewN | apply IsS63.drew | apply IsS63.set_0 | apply IsS63.set_1 | apply IsS63.set_2) | exact HI0.out),by repeat (first | (with_reducible first | exact HB.out | apply below_alloc | apply pw_below_drewN | apply below_drew1 | refine below_set ?_ (IsS63.ge HI0.out)) | exact HB.out),sqK HK⟩
   replace c7:=Bool.eq_false_iff.mpr c7;subst c7;rw [sqff] at H;rcases sqI (s0_0 = true) with c13 | c13
   ·replace c13:=Bool.eq_false_iff.mpr c13;subst c13;rw [sqff] at H;simp only [Option.some.injEq,Prod.mk.injEq] at H;obtain ⟨rfl,rfl,rfl⟩:=H;obtain ⟨HGz17,hgz17⟩:=HI0.out;have zx:=cellS63_0 HGz17;have zy:=cellS63_1 HGz17;have zz:=cellS63_2 HGz17;have zA:=blk_frozen HGz17 0;have zB:=blk_frozen HGz17 1;have zC:=blk_frozen HGz17 2;clear HGz17 hgz17
    go_wp2
    first | go_end0 | ((try simp only [Exit.inBlock,Exit.then]);refine bodyPost_ret (results_none rfl _ _ _) rfl ?_)
    exact ⟨sqEw,by repeat (first | (with_reducible first | exact HI0.out | apply IsS63.alloc | apply IsS63.drewN | apply IsS63.drew | apply IsS63.set_0 | apply IsS63.set_1 | apply IsS63.set_2) | exact HI0.out),by repeat (first | (with_reducible first | exact HB.out | apply below_alloc | apply pw_below_drewN | apply below_drew1 | refine below_set ?_ (IsS63.ge HI0.out)) | exact HB.out),sqK HK⟩
   subst c13;rw [if_pos rfl] at H;replace H:=sqj H;rcases H with ⟨c14,H⟩ | ⟨c14,H⟩
   ·have z1 : decide (s0_2 < a1) = true:=decide_eq_true c14;clear c14;simp only [Option.some.injEq,Prod.mk.injEq] at H;obtain ⟨rfl,rfl,rfl⟩:=H;obtain ⟨HGz15,hgz15⟩:=HI0.out;have zD:=cellS63_0 HGz15;have zE:=cellS63_1 HGz15;have zF:=cellS63_2 HGz15;have zG:=blk_frozen HGz15 0;have zH:=blk_frozen HGz15 1;have zI:=blk_frozen HGz15 2;clear HGz15 hgz15
    go_wp2
    first | go_end0 | ((try simp only [Exit.inBlock,Exit.then]);refine bodyPost_ret (results_none rfl _ _ _) rfl ?_)
    exact ⟨sqEw,by repeat (first | (with_reducible first | exact HI0.out | apply IsS63.alloc | apply IsS63.drewN | apply IsS63.drew | apply IsS63.set_0 | apply IsS63.set_1 | apply IsS63.set_2) | exact HI0.out),by repeat (first | (with_reducible first | exact HB.out | apply below_alloc | apply pw_below_drewN | apply below_drew1 | refine below_set ?_ (IsS63.ge HI0.out)) | exact HB.out),sqK HK⟩
   have z1 : decide (s0_2 < a1) = false:=decide_eq_false c14;clear c14;simp only [Option.some.injEq,Prod.mk.injEq] at H;obtain ⟨rfl,rfl,rfl⟩:=H;obtain ⟨HGz16,hgz16⟩:=HI0.out;have zJ:=cellS63_0 HGz16;have zK:=cellS63_1 HGz16;have zL:=cellS63_2 HGz16;have zM:=blk_frozen HGz16 0;have zN:=blk_frozen HGz16 1;have zO:=blk_frozen HGz16 2;clear HGz16 hgz16
   go_wp2
   first | go_end0 | ((try simp only [Exit.inBlock,Exit.then]);refine bodyPost_ret (results_none rfl _ _ _) rfl ?_)
   exact ⟨sqEw,by repeat (first | (with_reducible first | exact HI0.out | apply IsS63.alloc | apply IsS63.drewN | apply IsS63.drew | apply IsS63.set_0 | apply IsS63.set_1 | apply IsS63.set_2) | exact HI0.out),by repeat (first | (with_reducible first | exact HB.out | apply below_alloc | apply pw_below_drewN | apply below_drew1 | refine below_set ?_ (IsS63.ge HI0.out)) | exact HB.out),sqK HK⟩

/-! ### spec_l8R_corners: function 42 -/
theorem spec_l8R_corners.calls (k : Nat) (g : Nat) (s0_0 : Bool) (s0_1 : Int) (s0_2 : Int) (a1 : Int) (a2_0 : Int) (a2_1 : Int) (a3_0 : Int) (a3_1 : Int) (r1 : Bool) (r2 : Int) (r3 : Int) (w0 w : World) (hI : IsS63 w0 w g s0_0 s0_1 s0_2) (hB : Below w0.heap.size w0 w) (h : spec_l8R_corners.f k s0_0 s0_1 s0_2 a1 a2_0 a2_1 a3_0 a3_1 = some (r1,r2,r3)) :
  Calls Try.prog 42 #[.pointer (some ⟨g,0,none⟩),.int .i64 a1,.agg #[.int .i64 a2_0,.int .i64 a2_1],.agg #[.int .i64 a3_0,.int .i64 a3_1]] w fun e w'=>e = .returned (.tuple #[])∧IsS63 w0 w' g r1 r2 r3∧Below w0.heap.size w0 w'∧KeepBut w w' g none:=by
 have hu24:=Try.underlying24;have HI0:=Aside0.mk hI;have HK:=Aside0.mk (KeepBut.refl w g none);have HL:=Aside0.mk hB.size;clear hI;have HW0:=Aside0.mk hB.size;have HB:=Aside0.mk hB;clear hB;have H:=h;unfold spec_l8R_corners.f at H;clear h;replace H:=sqbi H;obtain ⟨t0,A5,H⟩:=H;(try dsimp only at H);replace H:=sqbi H;obtain ⟨⟨t1,t2,t3⟩,A6,H⟩:=H;(try dsimp only at H);replace H:=sqbi H;obtain ⟨t4,A7,H⟩:=H;(try dsimp only at H);replace H:=sqbi H;obtain ⟨⟨t5,t6,t7⟩,A8,H⟩:=H;(try dsimp only at H);replace H:=sqbi H;obtain ⟨t8,A9,H⟩:=H;(try dsimp only at H);replace H:=sqbi H;obtain ⟨⟨t9,t10,t11⟩,A10,H⟩:=H;(try dsimp only at H);replace H:=sqbi H;obtain ⟨t12,A11,H⟩:=H;(try dsimp only at H);replace H:=sqbi H;obtain ⟨⟨t13,t14,t15⟩,A12,H⟩:=H;(try dsimp only at H);simp only [Option.some.injEq,Prod.mk.injEq] at H;obtain ⟨rfl,rfl,rfl⟩:=H;go_enter Try.func42,Try.ntmps42;go_wp2_with (first | ((with_reducible refine gd 6 rfl ?_);refine sqx 6 #[.int .i64 a2_0,.int .i64 a2_1] 24 ?_;intro gb0 hg w13 hbox hb;replace HB:=Aside0.mk (below_step (sqB2 HB (IsS63.ge HI0.out)) hb);have B0:=Aside0.mk (hbox);have GW0:=Aside0.mk ((by rw [hg];exact (keep_size (w:=w) (g:=g) (row:=none) (sqK HK)) : w.heap.size ≤ gb0));have GE0:=Aside0.mk ((Nat.le_trans HW0.out (by rw [hg];exact (keep_size (w:=w) (g:=g) (row:=none) (sqK HK)) : w.heap.size ≤ gb0) : w0.heap.size ≤ gb0));replace HK:=Aside0.mk (KeepBut.trans (sqK HK) (KeepBut.of_below hb g none) (.inl rfl));have N1_0:=Aside0.mk ((by rw [hg];exact Nat.ne_of_lt (IsS63.lt (show IsS63 w0 _ g s0_0 s0_1 s0_2 from by repeat (first | (with_reducible first | exact HI0.out | apply IsS63.alloc | apply IsS63.drewN | apply IsS63.drew | apply IsS63.set_0 | apply IsS63.set_1 | apply IsS63.set_2) | exact HI0.out))) : g≠gb0));have N0_1:=Aside0.mk ((by rw [hg];exact Nat.ne_of_gt (IsS63.lt (show IsS63 w0 _ g s0_0 s0_1 s0_2 from by repeat (first | (with_reducible first | exact HI0.out | apply IsS63.alloc | apply IsS63.drewN | apply IsS63.drew | apply IsS63.set_0 | apply IsS63.set_1 | apply IsS63.set_2) | exact HI0.out))) : gb0≠g));replace HI0:=Aside0.mk (IsS63.below (IsS63.mv HI0) hb);clear hb hbox hg) | ((with_reducible refine gd 7 rfl ?_);refine sqx 7 #[.int .i64 a3_0,.int .i64 a3_1] 24 ?_;intro gb2 hg w14 hbox hb;replace HB:=Aside0.mk (below_step (sqB2 HB (IsS63.ge HI0.out)) hb);have B2:=Aside0.mk (hbox);have GW2:=Aside0.mk ((by rw [hg];exact (keep_size (w:=w) (g:=g) (row:=none) (sqK HK)) : w.heap.size ≤ gb2));have GE2:=Aside0.mk ((Nat.le_trans HW0.out (by rw [hg];exact (keep_size (w:=w) (g:=g) (row:=none) (sqK HK)) : w.heap.size ≤ gb2) : w0.heap.size ≤ gb2));replace HK:=Aside0.mk (KeepBut.trans (sqK HK) (KeepBut.of_below hb g none) (.inl rfl));have N0_2:=sqn B0 hg;have N2_0:=sqm B0 hg;replace B0:=sqb B0 hb;have N1_2:=Aside0.mk ((by rw [hg];exact Nat.ne_of_lt (IsS63.lt (show IsS63 w0 _ g s0_0 s0_1 s0_2 from by repeat (first | (with_reducible first | exact HI0.out | apply IsS63.alloc | apply IsS63.drewN | apply IsS63.drew | apply IsS63.set_0 | apply IsS63.set_1 | apply IsS63.set_2 | refine IsS63.far ?_ N1_0.out _) | exact HI0.out))) : g≠gb2));have N2_1:=Aside0.mk ((by rw [hg];exact Nat.ne_of_gt (IsS63.lt (show IsS63 w0 _ g s0_0 s0_1 s0_2 from by repeat (first | (with_reducible first | exact HI0.out | apply IsS63.alloc | apply IsS63.drewN | apply IsS63.drew | apply IsS63.set_0 | apply IsS63.set_1 | apply IsS63.set_2 | refine IsS63.far ?_ N1_0.out _) | exact HI0.out))) : gb2≠g));replace HI0:=Aside0.mk (IsS63.below (IsS63.mv HI0) hb);clear hb hbox hg;obtain ⟨_,_,_,_⟩:=sqN2 N0_2 N0_1;obtain ⟨_,_,_,_⟩:=sqc2 B0;obtain ⟨_,_⟩:=sqN1 N2_1;obtain ⟨_,_,_,_⟩:=sqc2 B2) | ((with_reducible refine gf 65 rfl ?_);refine sqLq rfl (some 14) Try.func65 (spec_l1Exact.calls _ _ _ _ _ _ A5.out) ?_;intro nd) | ((with_reducible refine gf 83 rfl ?_);refine sqLc rfl (some 15) Try.func83 (spec_l8R_add.calls _ g _ _ _ _ _ _ _ w0 _ (IsS63.mv HI0) (sqB2 HB (IsS63.ge HI0.out)) A6.out) ?_;rintro e w20 ⟨rfl,hi,hb,hk⟩;refine ⟨_,rfl,?_⟩;replace B0:=sqkb hk B0 N0_1;replace B2:=sqkb hk B2 N2_1;replace HK:=Aside0.mk (KeepBut.trans (sqK HK) hk (.inl rfl));replace HB:=Aside0.mk (hb);replace HI0:=Aside0.mk (hi);(try clear hb);(try clear hb2);(try clear hk);(try clear hi);obtain ⟨_,_,_,_⟩:=sqc2 B0;obtain ⟨_,_,_,_⟩:=sqc2 B2) | ((with_reducible refine gf 65 rfl ?_);refine sqLq rfl (some 22) Try.func65 (spec_l1Exact.calls _ _ _ _ _ _ A7.out) ?_;intro nd) | ((with_reducible refine gf 83 rfl ?_);refine sqLc rfl (some 23) Try.func83 (spec_l8R_add.calls _ g _ _ _ _ _ _ _ w0 _ (IsS63.mv HI0) (sqB2 HB (IsS63.ge HI0.out)) A8.out) ?_;rintro e w23 ⟨rfl,hi,hb,hk⟩;refine ⟨_,rfl,?_⟩;replace B0:=sqkb hk B0 N0_1;replace B2:=sqkb hk B2 N2_1;replace HK:=Aside0.mk (KeepBut.trans (sqK HK) hk (.inl rfl));replace HB:=Aside0.mk (hb);replace HI0:=Aside0.mk (hi);(try clear hb);(try clear hb2);(try clear hk);(try clear hi);obtain ⟨_,_,_,_⟩:=sqc2 B0;obtain ⟨_,_,_,_⟩:=sqc2 B2) | ((with_reducible refine gf 65 rfl ?_);refine sqLq rfl (some 30) Try.func65 (spec_l1Exact.calls _ _ _ _ _ _ A9.out) ?_;intro nd) | ((with_reducible refine gf 83 rfl ?_);refine sqLc rfl (some 31) Try.func83 (spec_l8R_add.calls _ g _ _ _ _ _ _ _ w0 _ (IsS63.mv HI0) (sqB2 HB (IsS63.ge HI0.out)) A10.out) ?_;rintro e w26 ⟨rfl,hi,hb,hk⟩;refine ⟨_,rfl,?_⟩;replace B0:=sqkb hk B0 N0_1;replace B2:=sqkb hk B2 N2_1;replace HK:=Aside0.mk (KeepBut.trans (sqK HK) hk (.inl rfl));replace HB:=Aside0.mk (hb);replace HI0:=Aside0.mk (hi);(try clear hb);(try clear hb2);(try clear hk);(try clear hi);obtain ⟨_,_,_,_⟩:=sqc2 B0;obtain ⟨_,_,_,_⟩:=sqc2 B2) | ((with_reducible refine gf 65 rfl ?_);refine sqLq rfl (some 38) Try.func65 (spec_l1Exact.calls _ _ _ _ _ _ A11.out) ?_;intro nd) | ((with_reducible refine gf 83 rfl ?_);refine sqLc rfl (some 39) Try.func83 (spec_l8R_add.calls _ g _ _ _ _ _ _ _ w0 _ (IsS63.mv HI0) (sqB2 HB (IsS63.ge HI0.out)) A12.out) ?_;rintro e w29 ⟨rfl,hi,hb,hk⟩;refine ⟨_,rfl,?_⟩;replace B0:=sqkb hk B0 N0_1;replace B2:=sqkb hk B2 N2_1;replace HK:=Aside0.mk (KeepBut.trans (sqK HK) hk (.inl rfl));replace HB:=Aside0.mk (hb);replace HI0:=Aside0.mk (hi);(try clear hb);(try clear hb2);(try clear hk);(try clear hi)))
 first | go_end0 | ((try simp only [Exit.inBlock,Exit.then]);refine bodyPost_ret (results_none rfl _ _ _) rfl ?_)
 exact ⟨sqEw,by repeat (first | (with_reducible first | exact HI0.out | apply IsS63.alloc | apply IsS63.drewN | apply IsS63.drew | apply IsS63.set_0 | apply IsS63.set_1 | apply IsS63.set_2 | refine IsS63.far ?_ N1_0.out _ | refine IsS63.far ?_ N1_2.out _) | exact HI0.out),by repeat (first | (with_reducible first | exact HB.out | apply below_alloc | apply pw_below_drewN | apply below_drew1 | refine below_set ?_ (IsS63.ge HI0.out) | refine below_set ?_ GE0.out | refine below_set ?_ GE2.out) | exact HB.out),sqK HK⟩

/-! ### spec_RangeHas: function 67 -/
theorem spec_RangeHas.calls (a0_0 : Int) (a0_1 : Int) (a1 : Int) (r : Bool) (w : World) (h : spec_RangeHas.f a0_0 a0_1 a1 = some r) :
  Calls Try.prog 67 #[.agg #[.int .i64 a0_0,.int .i64 a0_1],.int .i64 a1] w fun e w'=>e = .returned (.bool r)∧Below w.heap.size w w':=by
 have hu24:=Try.underlying24;have HB:=Aside0.mk (Below.refl w.heap.size w);have H:=h;unfold spec_RangeHas.f at H;clear h;replace H:=sqbi H;obtain ⟨t0,A3,H⟩:=H;(try dsimp only at H);rcases sqI (t0 = true) with c4 | c4
 ·replace c4:=Bool.eq_false_iff.mpr c4;subst c4;rw [sqff] at H;obtain rfl:=Option.some.inj H;go_enter Try.func67,Try.ntmps67;go_wp2_with (first | ((with_reducible refine gd 2 rfl ?_);refine sqX 2 #[.int .i64 a0_0,.int .i64 a0_1] 24 HB ?_;clear HB;intro gb0 hg w10 hb B0 GW0 HB;clear hb hg;obtain ⟨_,_,_,_⟩:=sqc2 B0) | ((with_reducible refine gf 9 rfl ?_);refine sqLb rfl (some 6) Try.func9 (spec_RangeOk.calls _ _ _ _ A3.out) ?_;intro w12 hb;replace B0:=sqb B0 hb;replace HB:=sqs HB hb;(try clear hb)))
  go_ret
  exact sqe HB
 subst c4;rw [if_pos rfl] at H;replace H:=sqbi H;obtain ⟨t1,A5,H⟩:=H;(try dsimp only at H);obtain rfl:=Option.some.inj H;go_enter Try.func67,Try.ntmps67;go_wp2_with (first | ((with_reducible refine gd 2 rfl ?_);refine sqX 2 #[.int .i64 a0_0,.int .i64 a0_1] 24 HB ?_;clear HB;intro gb0 hg w6 hb B0 GW0 HB;clear hb hg;obtain ⟨_,_,_,_⟩:=sqc2 B0) | ((with_reducible refine gf 9 rfl ?_);refine sqLb rfl (some 6) Try.func9 (spec_RangeOk.calls _ _ _ _ A3.out) ?_;intro w8 hb;replace B0:=sqb B0 hb;replace HB:=sqs HB hb;(try clear hb);obtain ⟨_,_,_,_⟩:=sqc2 B0) | (go_at_call 37;(with_reducible refine (spec_l1In.calls a1 a0_0 a0_1 t1 _ A5.out).mono ?_);rintro e w' ⟨rfl,⟨nd,rfl⟩⟩))
 go_ret
 exact sqe HB

attribute [local go_sem high] eqA24
/-! ### spec_RangeJoin: function 77 -/
def spec_RangeJoin.T7 : Bool × List (List Nat × List Nat):=(true,[([],[]),([0],[0]),([],[]),([2],[2]),([1,3],[1,3]),([],[]),([5],[5]),([],[]),([7],[7]),([6,8,4],[6,8]),([4,9],[4,9]),([10,9,0,1,2,3,4,5,6,7,8,9,10],[10])])
def spec_RangeJoin.B7 : List Nat:=[0,1,0,4,15,0,32,0,128,511,1023,2047]
theorem spec_RangeJoin.tab7 : rtab .any (opsOf Try.f77 7) = spec_RangeJoin.T7:=by kernel_rfl
theorem spec_RangeJoin.bits7 : waitsOk spec_RangeJoin.T7.2 spec_RangeJoin.B7 = true:=by kernel_rfl
theorem spec_RangeJoin.calls (k : Nat) (a0_0 : Int) (a0_1 : Int) (a1_0 : Int) (a1_1 : Int) (r1 : Int) (r2 : Int) (w : World) (h : spec_RangeJoin.f k a0_0 a0_1 a1_0 a1_1 = some (r1,r2)) :
  Calls Try.prog 77 #[.agg #[.int .i64 a0_0,.int .i64 a0_1],.agg #[.int .i64 a1_0,.int .i64 a1_1]] w fun e w'=>e = .returned (.agg #[.int .i64 r1,.int .i64 r2])∧Below w.heap.size w w':=by
 have hu24:=Try.underlying24;have HB:=Aside0.mk (Below.refl w.heap.size w);have H:=h;unfold spec_RangeJoin.f at H;clear h;have HC3:=Aside0.mk H;clear H;go_enter Try.func77,Try.ntmps77;go_upto_region 1 with (first | ((with_reducible refine gd 2 rfl ?_);refine sqX 2 #[.int .i64 a0_0,.int .i64 a0_1] 24 HB ?_;clear HB;intro gb0 hg w4 hb B0 GW0 HB;clear hb hg) | ((with_reducible refine gd 3 rfl ?_);refine sqX 3 #[.int .i64 a1_0,.int .i64 a1_1] 24 HB ?_;clear HB;intro gb1 hg w5 hb B1 GW1 HB;have N0_1:=sqn B0 hg;have N1_0:=sqm B0 hg;replace B0:=sqb B0 hb;clear hb hg) | ((with_reducible refine gd 4 rfl ?_);refine sqX 4 #[.int .i64 0,.int .i64 0] 24 HB ?_;clear HB;intro gb2 hg w6 hb B2 GW2 HB;have N0_2:=sqn B0 hg;have N2_0:=sqm B0 hg;have N1_2:=sqn B1 hg;have N2_1:=sqm B1 hg;refine sqM2 B0 B1 hb ?_;clear B0 B1;intro B0 B1;clear hb hg))
 (try simp only [Act.put,List.setIfInBounds_toArray,List.set_cons_zero,List.set_cons_succ])
 go_cut [12] (fun v12 wc=>∃ (kq : Nat) (x0 : Bool),v12 = .bool x0∧Aside0 (spec_RangeJoin.j0 kq x0 a0_0 a0_1 a1_0 a1_1 = some (r1,r2))∧Aside0 (kq ≤ k)∧Aside0 (wc.heap[gb0]? = some (.cells #[.int .i64 a0_0,.int .i64 a0_1] 24 (0,0)))∧Aside0 (wc.heap[gb1]? = some (.cells #[.int .i64 a1_0,.int .i64 a1_1] 24 (0,0)))∧Aside0 (wc.heap[gb2]? = some (.cells #[.int .i64 0,.int .i64 0] 24 (0,0)))∧Aside0 (Below w.heap.size w wc))
 case first =>
  have H:=HC3.out;clear HC3;replace H:=sqbi H;obtain ⟨t0,A7,H⟩:=H;(try dsimp only at H);rcases sqI (t0 = true) with c8 | c8
  ·replace c8:=Bool.eq_false_iff.mpr c8;subst c8;rw [sqff] at H;have H':=Aside0.mk H;clear H;obtain ⟨_,_,_,_⟩:=sqN2 N0_1 N0_2;obtain ⟨_,_,_,_⟩:=sqc2 B0;go_wp2_with (first | ((with_reducible refine gf 9 rfl ?_);refine sqLb rfl (some 6) Try.func9 (spec_RangeOk.calls _ _ _ _ A7.out) ?_;intro w20 hb;refine sqM3 B0 B1 B2 hb ?_;clear B0 B1 B2;intro B0 B1 B2;replace HB:=sqs HB hb;(try clear hb)));go_meet
   case rel=>exact ⟨_,(true),sqE,H',⟨sqle⟩,sqk B0,sqk B1,sqk B2,sqh HB⟩
  subst c8;rw [if_pos rfl] at H;replace H:=sqbi H;obtain ⟨t1,A9,H⟩:=H;(try dsimp only at H);have H':=Aside0.mk H;clear H;obtain ⟨_,_,_,_⟩:=sqN2 N0_1 N0_2;obtain ⟨_,_,_,_⟩:=sqc2 B0;go_wp2_with (first | ((with_reducible refine gf 9 rfl ?_);refine sqLb rfl (some 6) Try.func9 (spec_RangeOk.calls _ _ _ _ A7.out) ?_;intro w13 hb;refine sqM3 B0 B1 B2 hb ?_;clear B0 B1 B2;intro B0 B1 B2;replace HB:=sqs HB hb;(try clear hb);obtain ⟨_,_⟩:=sqN1 N1_2;obtain ⟨_,_,_,_⟩:=sqc2 B1) | (go_at_call 9;(with_reducible refine (spec_RangeOk.calls a1_0 a1_1 t1 _ A9.out).mono ?_);rintro e w16 ⟨rfl,hb⟩;refine sqM3 B0 B1 B2 hb ?_;clear B0 B1 B2;intro B0 B1 B2;replace HB:=sqs HB hb;(try clear hb)));go_meet
  case rel=>exact ⟨_,(!t1),sqE,H',⟨sqle⟩,sqk B0,sqk B1,sqk B2,sqh HB⟩
 case rest =>
  clear HC3;obtain ⟨kq,x0,rfl,HA,HJ2,B0,B1,B2,HB⟩:=hcut;cases kq with
  | zero=>exact absurd HA.out (by simp [spec_RangeJoin.j0])
  | succ kj2 =>
   have H:=HA.out;clear HA;simp only [spec_RangeJoin.j0] at H
   by_cases c21 : x0 = true
   ·subst c21;rw [if_pos rfl] at H;replace H:=sqbi H;obtain ⟨⟨t2,t3⟩,A22,H⟩:=H;(try dsimp only at H);simp only [Option.some.injEq,Prod.mk.injEq] at H;obtain ⟨rfl,rfl⟩:=H;go_wp2_with (first | ((with_reducible refine gf 38 rfl ?_);refine sqLb rfl (some 13) Try.func38 (spec_l8None.calls _ _ _ A22.out) ?_;intro w23 hb;refine sqM3 B0 B1 B2 hb ?_;clear B0 B1 B2;intro B0 B1 B2;replace HB:=sqs HB hb;(try clear hb);obtain ⟨_,_,_,_⟩:=sqN2 N2_0 N2_1;obtain ⟨_,_,_,_⟩:=sqc2 B2));refine sqre #[.int .i64 t2,.int .i64 t3] (sqP B2) Try.underlying24 ?_;exact sqe HB
   replace c21:=Bool.eq_false_iff.mpr c21;subst c21;rw [sqff] at H;replace H:=sqbi H;obtain ⟨⟨t4,t5⟩,A27,H⟩:=H;(try dsimp only at H);replace H:=sqj H;rcases H with ⟨c28,H⟩ | ⟨c28,H⟩
   ·have z0 : (a0_0 == t4 && (a0_1 == t5)) = true:=c28
    (try (have z1 : decide (a0_0 = t4 && (a0_1 == t5)) = true:=by simpa using c28))
    (try (have z2 : (a0_0 == t4 && (a0_1 == t5)) = true:=by simpa using c28))
    clear c28;simp only [Option.some.injEq,Prod.mk.injEq] at H;obtain ⟨rfl,rfl⟩:=H
    try go_wp2
    replace B0:=sqdr B0;replace B1:=sqdr B1;replace B2:=sqdr B2;replace HB:=sqdB HB;refine sqst 3 (fun w'=>Ce2 w' gb0 (.int .i64 a0_0) (.int .i64 a0_1)) sqz (fun hHeld=>?_);generalize wc.drew = w29 at B0 B1 B2 HB hHeld ⊢;refine take_ (i:=0) (N:=some 14) (v:=?_) (a':=?_) #[true,false,false] rfl rfl (by kernel_rfl) (fun _ _ _ h=>h) (Or.inl ⟨by rfl,?_⟩) hHeld ?_ ?_;rotate_left
    ·rintro w' ⟨s0,s1⟩
     go_simp
     with_reducible rfl
    rotate_left
    ·simp only [Act.put,List.setIfInBounds_toArray,List.set_cons_zero,List.set_cons_succ,i64_w,i32_w]
     rfl
    refine one_ (i:=1) (N:=some 15) #[true,true,false] rfl rfl (by kernel_rfl) (by decide) (fun K hK=>?_);refine sqGb rfl Try.func38 (spec_l8None.calls _ _ _ A27.out) ?_;intro w30 hb;refine sqM3 B0 B1 B2 hb ?_;clear B0 B1 B2;intro B0 B1 B2;replace HB:=sqs HB hb;(try clear hb);refine hK.out _ _ sqz (fun hHeld=>?_);clear hK K;refine sqnm ?_;refine pure_ (i:=2) (N:=some 16) (v:=?_) (a':=?_) #[true,true,true] rfl rfl (by kernel_rfl) (fun _ _ _ h=>h) (Or.inl ⟨by rfl,?_⟩) ?_ ?_;rotate_left
    ·intro w'
     go_simp
     with_reducible rfl
    rotate_left
    ·simp only [Act.put,List.setIfInBounds_toArray,List.set_cons_zero,List.set_cons_succ,i64_w,i32_w]
     rfl
    refine done_ (by kernel_rfl) ?_;obtain ⟨_,_,_,_⟩:=sqN2 N1_0 N1_2;obtain ⟨_,_,_,_⟩:=sqc2 B1;obtain ⟨_,_⟩:=sqN1 N2_0;obtain ⟨_,_,_,_⟩:=sqc2 B2
    try go_wp2
    refine sqre #[.int .i64 a1_0,.int .i64 a1_1] (sqP B2) Try.underlying24 ?_;exact sqe HB
   have z0 : (a0_0 == t4 && (a0_1 == t5)) = false:=by simpa using c28
   (try (have z1 : decide (a0_0 = t4 && (a0_1 == t5)) = false:=by simpa using c28))
   (try (have z2 : (a0_0 == t4 && (a0_1 == t5)) = false:=by simpa using c28))
   (try (have z6 : ¬ (a0_0 = t4 && (a0_1 == t5)):=by simpa using c28))
   clear c28;replace H:=sqbi H;obtain ⟨⟨t6,t7⟩,A36,H⟩:=H;(try dsimp only at H);replace H:=sqj H;rcases H with ⟨c37,H⟩ | ⟨c37,H⟩
   ·have z3 : (a1_0 == t6 && (a1_1 == t7)) = true:=c37
    (try (have z4 : decide (a1_0 = t6 && (a1_1 == t7)) = true:=by simpa using c37))
    (try (have z5 : (a1_0 == t6 && (a1_1 == t7)) = true:=by simpa using c37))
    clear c37;simp only [Option.some.injEq,Prod.mk.injEq] at H;obtain ⟨rfl,rfl⟩:=H
    try go_wp2
    replace B0:=sqdr B0;replace B1:=sqdr B1;replace B2:=sqdr B2;replace HB:=sqdB HB;refine sqst 3 (fun w'=>Ce2 w' gb0 (.int .i64 a0_0) (.int .i64 a0_1)) sqz (fun hHeld=>?_);generalize wc.drew = w38 at B0 B1 B2 HB hHeld ⊢;refine take_ (i:=0) (N:=some 14) (v:=?_) (a':=?_) #[true,false,false] rfl rfl (by kernel_rfl) (fun _ _ _ h=>h) (Or.inl ⟨by rfl,?_⟩) hHeld ?_ ?_;rotate_left
    ·rintro w' ⟨s0,s1⟩
     go_simp
     with_reducible rfl
    rotate_left
    ·simp only [Act.put,List.setIfInBounds_toArray,List.set_cons_zero,List.set_cons_succ,i64_w,i32_w]
     rfl
    refine one_ (i:=1) (N:=some 15) #[true,true,false] rfl rfl (by kernel_rfl) (by decide) (fun K hK=>?_);refine sqGb rfl Try.func38 (spec_l8None.calls _ _ _ A27.out) ?_;intro w39 hb;refine sqM3 B0 B1 B2 hb ?_;clear B0 B1 B2;intro B0 B1 B2;replace HB:=sqs HB hb;(try clear hb);refine hK.out _ _ sqz (fun hHeld=>?_);clear hK K;refine sqnm ?_;refine pure_ (i:=2) (N:=some 16) (v:=?_) (a':=?_) #[true,true,true] rfl rfl (by kernel_rfl) (fun _ _ _ h=>h) (Or.inl ⟨by rfl,?_⟩) ?_ ?_;rotate_left
    ·intro w'
     go_simp
     with_reducible rfl
    rotate_left
    ·simp only [Act.put,List.setIfInBounds_toArray,List.set_cons_zero,List.set_cons_succ,i64_w,i32_w]
     rfl
    refine done_ (by kernel_rfl) ?_
    try go_wp2
    replace B0:=sqdr B0;replace B1:=sqdr B1;replace B2:=sqdr B2;replace HB:=sqdB HB;refine sqst 3 (fun w'=>Ce2 w' gb1 (.int .i64 a1_0) (.int .i64 a1_1)) sqz (fun hHeld=>?_);generalize w39.drew = w40 at B0 B1 B2 HB hHeld ⊢;refine take_ (i:=0) (N:=some 18) (v:=?_) (a':=?_) #[true,false,false] rfl rfl (by kernel_rfl) (fun _ _ _ h=>h) (Or.inl ⟨by rfl,?_⟩) hHeld ?_ ?_;rotate_left
    ·rintro w' ⟨s0,s1⟩
     go_simp
     with_reducible rfl
    rotate_left
    ·simp only [Act.put,List.setIfInBounds_toArray,List.set_cons_zero,List.set_cons_succ,i64_w,i32_w]
     rfl
    refine one_ (i:=1) (N:=some 19) #[true,true,false] rfl rfl (by kernel_rfl) (by decide) (fun K hK=>?_);refine sqGb rfl Try.func38 (spec_l8None.calls _ _ _ A36.out) ?_;intro w41 hb;refine sqM3 B0 B1 B2 hb ?_;clear B0 B1 B2;intro B0 B1 B2;replace HB:=sqs HB hb;(try clear hb);refine hK.out _ _ sqz (fun hHeld=>?_);clear hK K;refine sqnm ?_;refine pure_ (i:=2) (N:=some 20) (v:=?_) (a':=?_) #[true,true,true] rfl rfl (by kernel_rfl) (fun _ _ _ h=>h) (Or.inl ⟨by rfl,?_⟩) ?_ ?_;rotate_left
    ·intro w'
     go_simp
     with_reducible rfl
    rotate_left
    ·simp only [Act.put,List.setIfInBounds_toArray,List.set_cons_zero,List.set_cons_succ,i64_w,i32_w]
     rfl
    refine done_ (by kernel_rfl) ?_;obtain ⟨_,_,_,_⟩:=sqN2 N0_1 N0_2;obtain ⟨_,_,_,_⟩:=sqc2 B0;obtain ⟨_,_⟩:=sqN1 N2_1;obtain ⟨_,_,_,_⟩:=sqc2 B2
    try go_wp2
    refine sqre #[.int .i64 a0_0,.int .i64 a0_1] (sqP B2) Try.underlying24 ?_;exact sqe HB
   have z3 : (a1_0 == t6 && (a1_1 == t7)) = false:=by simpa using c37
   (try (have z4 : decide (a1_0 = t6 && (a1_1 == t7)) = false:=by simpa using c37))
   (try (have z5 : (a1_0 == t6 && (a1_1 == t7)) = false:=by simpa using c37))
   (try (have z7 : ¬ (a1_0 = t6 && (a1_1 == t7)):=by simpa using c37))
   clear c37;replace H:=sqbi H;obtain ⟨t8,A47,H⟩:=H;(try dsimp only at H);replace H:=sqbi H;obtain ⟨t9,A48,H⟩:=H;(try dsimp only at H);simp only [Option.some.injEq,Prod.mk.injEq] at H;obtain ⟨rfl,rfl⟩:=H
   try go_wp2
   replace B0:=sqdr B0;replace B1:=sqdr B1;replace B2:=sqdr B2;replace HB:=sqdB HB;refine sqst 3 (fun w'=>Ce2 w' gb0 (.int .i64 a0_0) (.int .i64 a0_1)) sqz (fun hHeld=>?_);generalize wc.drew = w49 at B0 B1 B2 HB hHeld ⊢;refine take_ (i:=0) (N:=some 14) (v:=?_) (a':=?_) #[true,false,false] rfl rfl (by kernel_rfl) (fun _ _ _ h=>h) (Or.inl ⟨by rfl,?_⟩) hHeld ?_ ?_;rotate_left
   ·rintro w' ⟨s0,s1⟩
    go_simp
    with_reducible rfl
   rotate_left
   ·simp only [Act.put,List.setIfInBounds_toArray,List.set_cons_zero,List.set_cons_succ,i64_w,i32_w]
    rfl
   refine one_ (i:=1) (N:=some 15) #[true,true,false] rfl rfl (by kernel_rfl) (by decide) (fun K hK=>?_);refine sqGb rfl Try.func38 (spec_l8None.calls _ _ _ A27.out) ?_;intro w50 hb;refine sqM3 B0 B1 B2 hb ?_;clear B0 B1 B2;intro B0 B1 B2;replace HB:=sqs HB hb;(try clear hb);refine hK.out _ _ sqz (fun hHeld=>?_);clear hK K;refine sqnm ?_;refine pure_ (i:=2) (N:=some 16) (v:=?_) (a':=?_) #[true,true,true] rfl rfl (by kernel_rfl) (fun _ _ _ h=>h) (Or.inl ⟨by rfl,?_⟩) ?_ ?_;rotate_left
   ·intro w'
    go_simp
    with_reducible rfl
   rotate_left
   ·simp only [Act.put,List.setIfInBounds_toArray,List.set_cons_zero,List.set_cons_succ,i64_w,i32_w]
    rfl
   refine done_ (by kernel_rfl) ?_
   try go_wp2
   replace B0:=sqdr B0;replace B1:=sqdr B1;replace B2:=sqdr B2;replace HB:=sqdB HB;refine sqst 3 (fun w'=>Ce2 w' gb1 (.int .i64 a1_0) (.int .i64 a1_1)) sqz (fun hHeld=>?_);generalize w50.drew = w51 at B0 B1 B2 HB hHeld ⊢;refine take_ (i:=0) (N:=some 18) (v:=?_) (a':=?_) #[true,false,false] rfl rfl (by kernel_rfl) (fun _ _ _ h=>h) (Or.inl ⟨by rfl,?_⟩) hHeld ?_ ?_;rotate_left
   ·rintro w' ⟨s0,s1⟩
    go_simp
    with_reducible rfl
   rotate_left
   ·simp only [Act.put,List.setIfInBounds_toArray,List.set_cons_zero,List.set_cons_succ,i64_w,i32_w]
    rfl
   refine one_ (i:=1) (N:=some 19) #[true,true,false] rfl rfl (by kernel_rfl) (by decide) (fun K hK=>?_);refine sqGb rfl Try.func38 (spec_l8None.calls _ _ _ A36.out) ?_;intro w52 hb;refine sqM3 B0 B1 B2 hb ?_;clear B0 B1 B2;intro B0 B1 B2;replace HB:=sqs HB hb;(try clear hb);refine hK.out _ _ sqz (fun hHeld=>?_);clear hK K;refine sqnm ?_;refine pure_ (i:=2) (N:=some 20) (v:=?_) (a':=?_) #[true,true,true] rfl rfl (by kernel_rfl) (fun _ _ _ h=>h) (Or.inl ⟨by rfl,?_⟩) ?_ ?_;rotate_left
   ·intro w'
    go_simp
    with_reducible rfl
   rotate_left
   ·simp only [Act.put,List.setIfInBounds_toArray,List.set_cons_zero,List.set_cons_succ,i64_w,i32_w]
    rfl
   refine done_ (by kernel_rfl) ?_
   try go_wp2
   replace B0:=sqdr B0;replace B1:=sqdr B1;replace B2:=sqdr B2;replace HB:=sqdB HB;refine sqst 12 (fun w'=>Ce2 w' gb0 (.int .i64 a0_0) (.int .i64 a0_1)∧Ce2 w' gb1 (.int .i64 a1_0) (.int .i64 a1_1)) sqz (fun hHeld=>?_);refine with_tabW spec_RangeJoin.tab7 spec_RangeJoin.bits7 (fun HT_ HW_=>?_);generalize w52.drew = w53 at B0 B1 B2 HB hHeld ⊢;refine sqp HT_ 0 22 ?_;refine sqp HT_ 2 24 ?_;refine sqp HT_ 5 27 ?_;refine sqp HT_ 7 29 ?_;refine sqw HT_ HW_ 1 23 hHeld ?_;refine sqw HT_ HW_ 3 25 hHeld ?_;refine sqw HT_ HW_ 6 28 hHeld ?_;refine sqw HT_ HW_ 8 30 hHeld ?_;refine sqo HT_ 4 26 (fun K hK=>?_);refine sqGq rfl Try.func80 (spec_l8Min.calls _ _ _ _ A47.out) ?_;intro nd;refine hK.out _ _ sqz (fun hHeld=>?_);clear hK K;refine sqnm ?_;refine sqo HT_ 9 31 (fun K hK=>?_);refine sqGq rfl Try.func81 (spec_l8Max.calls _ _ _ _ A48.out) ?_;intro nd;refine hK.out _ _ sqz (fun hHeld=>?_);clear hK K;refine sqnm ?_;refine sqp HT_ 10 32 ?_;refine sqo0 HT_ 11 (fun K hK=>?_);obtain ⟨_,_,_,_⟩:=sqc2 B2;obtain ⟨_,_,_,_⟩:=sqN2 N0_2 N1_2;refine sqsk ?_;refine hK.out _ _ sqzf (fun hHeld=>?_);clear hK K;refine done_ (done_of HT_.out (by kernel_rfl)) ?_
   try go_wp2
   refine sqre #[.int .i64 t8,.int .i64 t9] (sqP B2) Try.underlying24 ?_;exact sqe HB

/-! ### spec_l8Rem: function 78 -/
theorem spec_l8Rem.calls (k : Nat) (a0_0 : Int) (a0_1 : Int) (a1 : Int) (a2 : Int) (r1 : Int) (r2 : Int) (w : World) (h : spec_l8Rem.f k a0_0 a0_1 a1 a2 = some (r1,r2)) :
  Calls Try.prog 78 #[.agg #[.int .i64 a0_0,.int .i64 a0_1],.int .i64 a1,.int .i64 a2] w fun e w'=>e = .returned (.agg #[.int .i64 r1,.int .i64 r2])∧Below w.heap.size w w':=by
 have hu24:=Try.underlying24;have HB:=Aside0.mk (Below.refl w.heap.size w);have H:=h;unfold spec_l8Rem.f at H;clear h;have HC4:=Aside0.mk H;clear H;go_enter Try.func78,Try.ntmps78;go_upto_region 1 with (first | ((with_reducible refine gd 3 rfl ?_);refine sqX 3 #[.int .i64 a0_0,.int .i64 a0_1] 24 HB ?_;clear HB;intro gb0 hg w5 hb B0 GW0 HB;clear hb hg) | ((with_reducible refine gd 6 rfl ?_);refine sqX 6 #[.int .i64 0,.int .i64 0] 24 HB ?_;clear HB;intro gb1 hg w6 hb B1 GW1 HB;have N0_1:=sqn B0 hg;have N1_0:=sqm B0 hg;replace B0:=sqb B0 hb;clear hb hg))
 (try simp only [Act.put,List.setIfInBounds_toArray,List.set_cons_zero,List.set_cons_succ])
 go_cut [18] (fun v18 wc=>∃ (kq : Nat) (x0 : Bool),v18 = .bool x0∧Aside0 (spec_l8Rem.j0 kq a2 x0 a0_0 a0_1 = some (r1,r2))∧Aside0 (kq ≤ k)∧Aside0 (wc.heap[gb0]? = some (.cells #[.int .i64 a0_0,.int .i64 a0_1] 24 (0,0)))∧Aside0 (wc.heap[gb1]? = some (.cells #[.int .i64 0,.int .i64 0] 24 (0,0)))∧Aside0 (Below w.heap.size w wc))
 case first =>
  have H:=HC4.out;clear HC4;replace H:=sqi H;rcases H with ⟨c7,H⟩ | ⟨c7,H⟩
  ·have z0 : decide ((wrap64 (-a1)) < a0_0) = false:=decide_eq_false c7;clear c7
   (first | rw [z0] | (simp only [i64_w,i32_w];rw [z0]) | skip)
   have H':=Aside0.mk H;clear H;obtain ⟨_,_⟩:=sqN1 N0_1;obtain ⟨_,_,_,_⟩:=sqc2 B0
   go_wp2
   go_meet
   case rel=>exact ⟨_,(false),sqE,H',⟨sqle⟩,sqk B0,sqk B1,sqh HB⟩
  have z0 : decide ((wrap64 (-a1)) < a0_0) = true:=decide_eq_true c7;clear c7
  (first | rw [z0] | (simp only [i64_w,i32_w];rw [z0]) | skip)
  have H':=Aside0.mk H;clear H;obtain ⟨_,_⟩:=sqN1 N0_1;obtain ⟨_,_,_,_⟩:=sqc2 B0
  go_wp2
  go_meet
  case rel=>exact ⟨_,(decide (a0_1 < a1)),sqE,H',⟨sqle⟩,sqk B0,sqk B1,sqh HB⟩
 case rest =>
  clear HC4;obtain ⟨kq,x0,rfl,HA,HJ3,B0,B1,HB⟩:=hcut;cases kq with
  | zero=>exact absurd HA.out (by simp [spec_l8Rem.j0])
  | succ kj3 =>
   have H:=HA.out;clear HA;simp only [spec_l8Rem.j0] at H
   by_cases c12 : x0 = true
   ·subst c12;rw [if_pos rfl] at H;simp only [Option.some.injEq,Prod.mk.injEq] at H;obtain ⟨rfl,rfl⟩:=H;obtain ⟨_,_⟩:=sqN1 N0_1;obtain ⟨_,_,_,_⟩:=sqc2 B0;obtain ⟨_,_,_,_⟩:=sqc2 B1
    go_wp2
    refine sqre #[.int .i64 a0_0,.int .i64 a0_1] (sqP B1) Try.underlying24 ?_;exact sqe HB
   replace c12:=Bool.eq_false_iff.mpr c12;subst c12;rw [sqff] at H;go_upto_region 4 with (first | ((with_reducible refine gd 7 rfl ?_);refine sqX 7 #[.int .i64 0,.int .i64 0] 24 HB ?_;clear HB;intro gb2 hg wy hb B2 GW2 HB;have N0_2:=sqn B0 hg;have N2_0:=sqm B0 hg;have N1_2:=sqn B1 hg;have N2_1:=sqm B1 hg;refine sqM2 B0 B1 hb ?_;clear B0 B1;intro B0 B1;clear hb hg;obtain ⟨_,_,_,_⟩:=sqN2 N2_0 N2_1;obtain ⟨_,_,_,_⟩:=sqc2 B2;obtain ⟨_,_⟩:=sqN1 N0_1;obtain ⟨_,_,_,_⟩:=sqc2 B0;obtain ⟨_,_,_,_⟩:=sqc2 B1))
   obtain ⟨wz,hw_⟩ : ∃ w_,w_ = ((wy.setCell ⟨gb2,0,none⟩ (.int .i64 0)).setCell ⟨gb2,1,none⟩ (.int .i64 0)):=⟨_,rfl⟩;replace B0:=sqTe hw_ B0;replace B1:=sqTe hw_ B1
   replace B2 : Aside0 (wz.heap[gb2]? = some (.cells #[.int .i64 0,.int .i64 0] 24 (0,0))):=by rw [hw_];exact ⟨sqP B2⟩
   replace HB:=sqhw hw_ HB
   rw [← hw_];clear hw_;obtain ⟨_,_,_,_⟩:=sqN2 N2_0 N2_1;obtain ⟨_,_,_,_⟩:=sqc2 B2;obtain ⟨_,_⟩:=sqN1 N0_1;obtain ⟨_,_,_,_⟩:=sqc2 B0;obtain ⟨_,_,_,_⟩:=sqc2 B1
   replace H:=sqi H;rcases H with ⟨c16,H⟩ | ⟨c16,H⟩
   ·have z1:=decide_eq_false c16;clear c16;replace H:=sqi H;rcases H with ⟨c34,H⟩ | ⟨c34,H⟩
    ·have z2 : decide (0 < a0_1) = false:=decide_eq_false c34;clear c34;simp only [Option.some.injEq,Prod.mk.injEq] at H;obtain ⟨rfl,rfl⟩:=H;go_wp2;refine sqre #[.int .i64 0,.int .i64 0] (sqP B1) Try.underlying24 ?_;exact sqe HB
    have z2 : decide (0 < a0_1) = true:=decide_eq_true c34;clear c34;replace H:=sqbi H;obtain ⟨t0,A35,H⟩:=H;(try dsimp only at H);simp only [Option.some.injEq,Prod.mk.injEq] at H;obtain ⟨rfl,rfl⟩:=H;go_wp2_with (first | ((with_reducible refine gf 80 rfl ?_);refine sqLq rfl (some 37) Try.func80 (spec_l8Min.calls _ _ _ _ A35.out) ?_;intro nd;obtain ⟨_,_,_,_⟩:=sqc2 B1));refine sqre #[.int .i64 0,.int .i64 t0] (sqP B1) Try.underlying24 ?_;exact sqe HB
   have z1:=decide_eq_true c16;clear c16;replace H:=sqbi H;obtain ⟨t1,A17,H⟩:=H;(try dsimp only at H);replace H:=sqi H;rcases H with ⟨c18,H⟩ | ⟨c18,H⟩
   ·have z3 : decide (0 < a0_1) = false:=decide_eq_false c18;clear c18;simp only [Option.some.injEq,Prod.mk.injEq] at H;obtain ⟨rfl,rfl⟩:=H;go_wp2_with (first | ((with_reducible refine gf 81 rfl ?_);refine sqLq rfl (some 28) Try.func81 (spec_l8Max.calls _ _ _ _ A17.out) ?_;intro nd;obtain ⟨_,_,_,_⟩:=sqc2 B1));refine sqre #[.int .i64 t1,.int .i64 0] (sqP B1) Try.underlying24 ?_;exact sqe HB
   have z3 : decide (0 < a0_1) = true:=decide_eq_true c18;clear c18;replace H:=sqbi H;obtain ⟨t2,A19,H⟩:=H;(try dsimp only at H);simp only [Option.some.injEq,Prod.mk.injEq] at H;obtain ⟨rfl,rfl⟩:=H;go_wp2_with (first | ((with_reducible refine gf 81 rfl ?_);refine sqLq rfl (some 28) Try.func81 (spec_l8Max.calls _ _ _ _ A17.out) ?_;intro nd) | ((with_reducible refine gf 80 rfl ?_);refine sqLq rfl (some 37) Try.func80 (spec_l8Min.calls _ _ _ _ A19.out) ?_;intro nd;obtain ⟨_,_,_,_⟩:=sqc2 B1));refine sqre #[.int .i64 t1,.int .i64 t2] (sqP B1) Try.underlying24 ?_;exact sqe HB

/-! spec_l8New: not in the program (the copy that was printed has it for &l8R{}) -/

end Go.Proofs.Ytlbheepfmjbpnaa.PFnRangeDo
