/- StatisticOf: a part of its proof. No condition. -/
import Derived.Test.YtfpianecohobjaaVPx0
import Derived.Test.YtfpianecohobjaaVPx12
import Derived.Test.YtfpianecohobjaaVPx16
namespace Go.Proofs.Ytfpianecohobjaa.P
open Go.RowKit Go.Proofs.YtfpianecohobjaaW.PrintWords Go.Proofs.YtfpianecohobjaaW.PrintLast Go.Proofs.YtfpianecohobjaaW.PrintMore
set_option maxHeartbeats 8000000
set_option maxRecDepth 100000
set_option linter.unusedVariables false
set_option linter.unusedSimpArgs false
def q4_bound.f (a0 : Int) (a1 : Int) : Option (Bool) := (q4_in.f a0 0 40).bind fun g1 => (if g1 = true then (if a1 = (-1) then (some true) else ((q4_in.f a1 a0 40).bind fun j1 => (some j1))) else (some false))
theorem q4_bound.calls (a0 : Int) (a1 : Int) (r : Bool) (w : World) (h : q4_bound.f a0 a1 = some r) :
  Calls Try.prog 69 #[.int .i64 a0, .int .i64 a1] w fun e w' => e = .returned (.bool r) ∧ Drawn0 w w' := by
 have H : ((q4_in.f a0 0 40).bind fun g1 => (if g1 = true then (if a1 = (-1) then (some true) else ((q4_in.f a1 a0 40).bind fun j1 => (some j1))) else (some false))) = some r := h
 clear h
 obtain ⟨g1, A3, H⟩ := obA H
 by_cases c4 : g1 = true
 subst c4
 replace H := ift H
 by_cases c5 : a1 = (-1)
 rw [if_pos c5] at H
 have o4 := beq_iff_eq.mpr c5
 have o3 := bne_eq_false_iff_eq.mpr c5
 clear c5
 obtain rfl := Option.some.inj H
 rotate_left
 rw [if_neg c5] at H
 have o4 := beq_eq_false_iff_ne.mpr c5
 have o3 := bne_iff_ne.mpr c5
 obtain ⟨j1, A6, H⟩ := obA H
 obtain rfl := Option.some.inj H
 rotate_left
 replace c4 := Bool.eq_false_iff.mpr c4
 subst c4
 replace H := iff_ H
 obtain rfl := Option.some.inj H
 all_goals
  go_enter Try.func69, Try.ntmps69
  go_wp2_with (first | ((with_reducible refine gate_callee (f := 47) rfl ?_); refine gl 6 Try.func47 #[.int .i64 a0, .int .i64 0, .int .i64 40] (h := ?_); (with_reducible refine (q4_in.calls _ _ _ _ _ A3.out).mono ?_); rintro e w' ⟨rfl, ⟨nd, rfl⟩⟩; refine ⟨_, rfl, ?_⟩) | (go_at_call 47; (with_reducible refine (q4_in.calls _ _ _ _ _ A6.out).mono ?_); rintro e w' ⟨rfl, ⟨nd, rfl⟩⟩))
  go_ret
  exact ⟨by first | rfl | (simp; done) | (simp [*]; done), drw⟩
def q4_edge.l0 : Nat → Int → Int → List (S68) → List (S71) → ByteArray → Int → Int → Int → Int → Int → Int → Option (Int)
 | 0, _, _, _, _, _, _, _, _, _, _, _ => none
 | k + 1, x1, x6, d0, c9, h2, h1, h0, g9, g8, g7, g6 => if x6 < x1 then (if 0 ≤ x6 then (if x6 < (c9.length : Int) then (if ((rd_T71 c9 x6).f0).toList = h2.toList then (some 5) else (q4_edge.l0 k x1 (wrap64 (x6 + 1)) d0 c9 h2 h1 h0 g9 g8 g7 g6)) else (none)) else (none)) else ((q4_in.f h1 0 (wrap64 ((d0.length : Int) - 1))).bind fun j6 => (if j6 = true then ((q4_in.f h0 0 (wrap64 ((d0.length : Int) - 1))).bind fun j5 => (if j5 = true then ((q4_bound.f g9 g8).bind fun j4 => (if j4 = true then ((q4_bound.f g7 g6).bind fun j3 => (if j3 = true then (some 0) else (some 6))) else (some 6))) else (some 6))) else (some 6)))
def q4_edge.f (k : Nat) (b4 : List (S68)) (a2 : List (S71)) (a1 : Int) : Option (Int) := if 0 ≤ a1 then (if a1 < (a2.length : Int) then ((q1_IsName.f k ((rd_T71 a2 a1).f0)).bind fun g0 => (if g0 = true then (q4_edge.l0 k a1 0 b4 a2 ((rd_T71 a2 a1).f0) ((rd_T71 a2 a1).f1) ((rd_T71 a2 a1).f2) ((rd_T71 a2 a1).f3) ((rd_T71 a2 a1).f4) ((rd_T71 a2 a1).f5) ((rd_T71 a2 a1).f6)) else (some 2))) else (none)) else (none)
theorem q4_edge.calls (k : Nat) (c1 : Option Addr) (b9 : Nat) (b4 : List (S68)) (g5 : Option Addr) (b8 : Nat) (a2 : List (S71)) (a1 : Int) (r : Int) (w : World) (m0 : Kd.C k68 w c1 b4.length b4) (m4 : b4.length ≤ b9) (j9 : Kd.C k71 w g5 a2.length a2) (m3 : a2.length ≤ b8) (h : q4_edge.f k b4 a2 a1 = some r) :
  Calls Try.prog 42 #[.agg #[.slice c1 b4.length b9, .slice g5 a2.length b8], .int .i64 a1] w fun e w' => e = .returned (.int .i64 r) ∧ Below w.heap.size w w' := by
 have hu25 := Try.underlying25
 have hu71 := Try.underlying71
 have s9 := Aside0.mk m0
 have t1 := Aside0.mk m4
 clear m0 m4
 have e9 := Aside0.mk j9
 have t0 := Aside0.mk m3
 clear j9 m3
 have HB := Aside0.mk (Below.refl w.heap.size w)
 have H : (if 0 ≤ a1 then (if a1 < (a2.length : Int) then ((q1_IsName.f k ((rd_T71 a2 a1).f0)).bind fun g0 => (if g0 = true then (q4_edge.l0 k a1 0 b4 a2 ((rd_T71 a2 a1).f0) ((rd_T71 a2 a1).f1) ((rd_T71 a2 a1).f2) ((rd_T71 a2 a1).f3) ((rd_T71 a2 a1).f4) ((rd_T71 a2 a1).f5) ((rd_T71 a2 a1).f6)) else (some 2))) else (none)) else (none)) = some r := h
 clear h
 obtain ⟨c3, H⟩ := itn H
 have o6 := decide_eq_true c3
 clear c3
 obtain ⟨c4, H⟩ := itn H
 have o5 := decide_eq_true c4
 clear c4
 obtain ⟨g0, A5, H⟩ := obA H
 by_cases c6 : g0 = true
 subst c6
 replace H := ift H
 have H' := Aside0.mk H
 clear H
 rotate_left
 replace c6 := Bool.eq_false_iff.mpr c6
 subst c6
 replace H := iff_ H
 obtain rfl := Option.some.inj H
 all_goals
  go_enter Try.func42, Try.ntmps42
  go_wp2_with (first | ((with_reducible refine gate_dst (N := 2) rfl ?_); refine be 2 #[.slice c1 b4.length b9, .slice g5 a2.length b8] 25 ?_; intro c7 hg n8 hbox hb; have a3 := Aside0.mk (hbox); have n0 := bsz HB hg; replace HB := bstep HB hb; clear hb hbox hg; obtain ⟨e8, e7, d9, d8⟩ := cz2 a3; have b6 : 0 ≤ a1 := odt; have b5 : a1 < (a2.length : Int) := odt; obtain ⟨c0, g2, b3, b2, b1, b0, a9, a8, a7⟩ := at_T71 e9.out a1 b6 b5; cases g2; replace b3 := hxc HB b3; replace b2 := hxc HB b2; replace b1 := hxc HB b1; replace b0 := hxc HB b0; replace a9 := hxc HB a9; replace a8 := hxc HB a8; replace a7 := hxc HB a7; replace b6 := eq_true b6; replace b5 := eq_true b5) | ((with_reducible refine gate_dst (N := 5) rfl ?_); refine be 5 #[.string (⟨#[]⟩ : ByteArray), .int .i64 0, .int .i64 0, .int .i64 0, .int .i64 0, .int .i64 0, .int .i64 0] 71 ?_; intro c2 hg n7 hbox hb; have a4 := Aside0.mk (hbox); have m9 := bsz HB hg; replace HB := bstep HB hb; have a6 := blt a3 hg; have a5 := bgt a3 hg; replace a3 := bkb a3 hb; clear hb hbox hg; have m2 := a5.out; have m1 := a6.out; obtain ⟨e6, e5, e4, e3, e2, e1, e0, d7, d6, d5, d4, d3, d2, d1⟩ := cz7 a4) | (go_at_call 67; (with_reducible refine (q1_IsName.calls _ _ _ _ A5.out).mono ?_); rintro e n6 ⟨rfl, hb⟩; replace a3 := Aside0.mk (blk_below (g := c7) (o := .cells #[.slice c1 b4.length b9, .slice (some c0) a2.length b8] 25 (0, 0)) (bkF a3) hb); replace a4 := Aside0.mk (blk_below (g := c2) (o := .cells #[.string ((rd_T71 a2 a1).f0), .int .i64 ((rd_T71 a2 a1).f1), .int .i64 ((rd_T71 a2 a1).f2), .int .i64 ((rd_T71 a2 a1).f3), .int .i64 ((rd_T71 a2 a1).f4), .int .i64 ((rd_T71 a2 a1).f5), .int .i64 ((rd_T71 a2 a1).f6)] 71 (0, 0)) (bkP a4) hb); replace HB := bstep HB hb; clear hb))
  repeat (go_quiet (first | ((with_reducible refine gate_dst (N := 2) rfl ?_); refine be 2 #[.slice c1 b4.length b9, .slice g5 a2.length b8] 25 ?_; intro c7 hg n8 hbox hb; have a3 := Aside0.mk (hbox); have n0 := bsz HB hg; replace HB := bstep HB hb; clear hb hbox hg; obtain ⟨e8, e7, d9, d8⟩ := cz2 a3; have b6 : 0 ≤ a1 := odt; have b5 : a1 < (a2.length : Int) := odt; obtain ⟨c0, g2, b3, b2, b1, b0, a9, a8, a7⟩ := at_T71 e9.out a1 b6 b5; cases g2; replace b3 := hxc HB b3; replace b2 := hxc HB b2; replace b1 := hxc HB b1; replace b0 := hxc HB b0; replace a9 := hxc HB a9; replace a8 := hxc HB a8; replace a7 := hxc HB a7; replace b6 := eq_true b6; replace b5 := eq_true b5) | ((with_reducible refine gate_dst (N := 5) rfl ?_); refine be 5 #[.string (⟨#[]⟩ : ByteArray), .int .i64 0, .int .i64 0, .int .i64 0, .int .i64 0, .int .i64 0, .int .i64 0] 71 ?_; intro c2 hg n7 hbox hb; have a4 := Aside0.mk (hbox); have m9 := bsz HB hg; replace HB := bstep HB hb; have a6 := blt a3 hg; have a5 := bgt a3 hg; replace a3 := bkb a3 hb; clear hb hbox hg; have m2 := a5.out; have m1 := a6.out; obtain ⟨e6, e5, e4, e3, e2, e1, e0, d7, d6, d5, d4, d3, d2, d1⟩ := cz7 a4) | (go_at_call 67; (with_reducible refine (q1_IsName.calls _ _ _ _ A5.out).mono ?_); rintro e n6 ⟨rfl, hb⟩; replace a3 := Aside0.mk (blk_below (g := c7) (o := .cells #[.slice c1 b4.length b9, .slice (some c0) a2.length b8] 25 (0, 0)) (bkF a3) hb); replace a4 := Aside0.mk (blk_below (g := c2) (o := .cells #[.string ((rd_T71 a2 a1).f0), .int .i64 ((rd_T71 a2 a1).f1), .int .i64 ((rd_T71 a2 a1).f2), .int .i64 ((rd_T71 a2 a1).f3), .int .i64 ((rd_T71 a2 a1).f4), .int .i64 ((rd_T71 a2 a1).f5), .int .i64 ((rd_T71 a2 a1).f6)] 71 (0, 0)) (bkP a4) hb); replace HB := bstep HB hb; clear hb)); try go_wp2_with (first | ((with_reducible refine gate_dst (N := 2) rfl ?_); refine be 2 #[.slice c1 b4.length b9, .slice g5 a2.length b8] 25 ?_; intro c7 hg n8 hbox hb; have a3 := Aside0.mk (hbox); have n0 := bsz HB hg; replace HB := bstep HB hb; clear hb hbox hg; obtain ⟨e8, e7, d9, d8⟩ := cz2 a3; have b6 : 0 ≤ a1 := odt; have b5 : a1 < (a2.length : Int) := odt; obtain ⟨c0, g2, b3, b2, b1, b0, a9, a8, a7⟩ := at_T71 e9.out a1 b6 b5; cases g2; replace b3 := hxc HB b3; replace b2 := hxc HB b2; replace b1 := hxc HB b1; replace b0 := hxc HB b0; replace a9 := hxc HB a9; replace a8 := hxc HB a8; replace a7 := hxc HB a7; replace b6 := eq_true b6; replace b5 := eq_true b5) | ((with_reducible refine gate_dst (N := 5) rfl ?_); refine be 5 #[.string (⟨#[]⟩ : ByteArray), .int .i64 0, .int .i64 0, .int .i64 0, .int .i64 0, .int .i64 0, .int .i64 0] 71 ?_; intro c2 hg n7 hbox hb; have a4 := Aside0.mk (hbox); have m9 := bsz HB hg; replace HB := bstep HB hb; have a6 := blt a3 hg; have a5 := bgt a3 hg; replace a3 := bkb a3 hb; clear hb hbox hg; have m2 := a5.out; have m1 := a6.out; obtain ⟨e6, e5, e4, e3, e2, e1, e0, d7, d6, d5, d4, d3, d2, d1⟩ := cz7 a4) | (go_at_call 67; (with_reducible refine (q1_IsName.calls _ _ _ _ A5.out).mono ?_); rintro e n6 ⟨rfl, hb⟩; replace a3 := Aside0.mk (blk_below (g := c7) (o := .cells #[.slice c1 b4.length b9, .slice (some c0) a2.length b8] 25 (0, 0)) (bkF a3) hb); replace a4 := Aside0.mk (blk_below (g := c2) (o := .cells #[.string ((rd_T71 a2 a1).f0), .int .i64 ((rd_T71 a2 a1).f1), .int .i64 ((rd_T71 a2 a1).f2), .int .i64 ((rd_T71 a2 a1).f3), .int .i64 ((rd_T71 a2 a1).f4), .int .i64 ((rd_T71 a2 a1).f5), .int .i64 ((rd_T71 a2 a1).f6)] 71 (0, 0)) (bkP a4) hb); replace HB := bstep HB hb; clear hb)))
 ·go_ret
  exact ⟨erf, bb HB⟩
 ·go_loopg [6] k (fun kq v6 w' => ∃ (b7 : Int), v6 = .int .i64 b7 ∧ Aside0 (q4_edge.l0 kq a1 b7 b4 a2 ((rd_T71 a2 a1).f0) ((rd_T71 a2 a1).f1) ((rd_T71 a2 a1).f2) ((rd_T71 a2 a1).f3) ((rd_T71 a2 a1).f4) ((rd_T71 a2 a1).f5) ((rd_T71 a2 a1).f6) = some r) ∧ Aside0 (kq ≤ k) ∧ Aside0 (w'.heap[c7]? = some (.cells #[(.slice c1 b4.length b9), (.slice (some c0) a2.length b8)] 25 (0, 0))) ∧ Aside0 (w'.heap[c2]? = some (.cells #[.string ((rd_T71 a2 a1).f0), .int .i64 ((rd_T71 a2 a1).f1), .int .i64 ((rd_T71 a2 a1).f2), .int .i64 ((rd_T71 a2 a1).f3), .int .i64 ((rd_T71 a2 a1).f4), .int .i64 ((rd_T71 a2 a1).f5), .int .i64 ((rd_T71 a2 a1).f6)] 71 (0, 0))) ∧ Aside0 (Below w.heap.size w w'))
  case atStart => exact ⟨(0), eqs, H', ⟨Nat.le_refl _⟩, ⟨bk a3⟩, ⟨bk a4⟩, ⟨bb HB⟩⟩
  case round =>
   clear H'
   try clear o6 o5 c6 e6 e5 e4 e3 e2 e1 e0 e8 e7 d7 d6 d5 d4 d3 d2 d1 d9 d8 b3 b2 b1 b0 a9 a8 a7 b6 b5
   obtain ⟨b7, rfl, HA, o1, a3, a4, HB⟩ := hrel
   cases gk with
   | zero => exact absurd HA.out (by simp [q4_edge.l0])
   | succ k1 =>
    have H := HA.out
    clear HA
    simp only [q4_edge.l0] at H
    by_cases j0 : b7 < a1
    ·rw [if_pos j0] at H
     have n4 := decide_eq_true j0
     clear j0
     obtain ⟨o0, H⟩ := itn H
     have s8 := decide_eq_true o0
     clear o0
     obtain ⟨n9, H⟩ := itn H
     have s7 := decide_eq_true n9
     clear n9
     by_cases g3 : ((rd_T71 a2 b7).f0).toList = ((rd_T71 a2 a1).f0).toList
     rw [if_pos g3] at H
     have n3 := beq_iff_eq.mpr g3
     have n2 := bne_eq_false_iff_eq.mpr g3
     clear g3
     obtain rfl := Option.some.inj H
     rotate_left
     rw [if_neg g3] at H
     have n3 := beq_eq_false_iff_ne.mpr g3
     have n2 := bne_iff_ne.mpr g3
     have H' := Aside0.mk H
     clear H
     all_goals
      have s6 := a6.out
      have s4 := a5.out
      obtain ⟨s2, s1, q4, q3⟩ := cz2 a3
      have j8 : 0 ≤ b7 := odt
      have j7 : b7 < (a2.length : Int) := odt
      obtain ⟨n5, o2, h9, h8, h7, h6, h5, h4, h3⟩ := at_T71 e9.out b7 j8 j7
      obtain rfl : c0 = n5 := (by injection o2)
      replace h9 := hxc HB h9
      replace h8 := hxc HB h8
      replace h7 := hxc HB h7
      replace h6 := hxc HB h6
      replace h5 := hxc HB h5
      replace h4 := hxc HB h4
      replace h3 := hxc HB h3
      replace j8 := eq_true j8
      replace j7 := eq_true j7
      obtain ⟨s0, r9, r8, r7, r6, r5, r4, q2, q1, q0, p9, p8, p7, p6⟩ := cz7 a4
      go_wp2
      repeat (go_quiet (fail); try go_wp2)
     ·go_roundg k1
      case measure => have := o1.out; omega
      case rel => exact ⟨(wrap64 (b7 + 1)), eqs, H', ⟨by have := o1.out; omega⟩, ⟨bk a3⟩, ⟨bk a4⟩, ⟨bb HB⟩⟩
     ·go_ret
      exact ⟨erf, bb HB⟩
    rw [if_neg j0] at H
    have n4 := decide_eq_false j0
    clear j0
    obtain ⟨j6, c8, H⟩ := obA H
    by_cases m8 : j6 = true
    subst m8
    replace H := ift H
    obtain ⟨j5, g4, H⟩ := obA H
    by_cases m7 : j5 = true
    subst m7
    replace H := ift H
    obtain ⟨j4, j2, H⟩ := obA H
    by_cases m6 : j4 = true
    subst m6
    replace H := ift H
    obtain ⟨j3, n1, H⟩ := obA H
    by_cases m5 : j3 = true
    subst m5
    replace H := ift H
    obtain rfl := Option.some.inj H
    rotate_left
    replace m5 := Bool.eq_false_iff.mpr m5
    subst m5
    replace H := iff_ H
    obtain rfl := Option.some.inj H
    rotate_left
    replace m6 := Bool.eq_false_iff.mpr m6
    subst m6
    replace H := iff_ H
    obtain rfl := Option.some.inj H
    rotate_left
    replace m7 := Bool.eq_false_iff.mpr m7
    subst m7
    replace H := iff_ H
    obtain rfl := Option.some.inj H
    rotate_left
    replace m8 := Bool.eq_false_iff.mpr m8
    subst m8
    replace H := iff_ H
    obtain rfl := Option.some.inj H
    all_goals
     have s5 := a6.out
     have s3 := a5.out
     obtain ⟨r3, r2, p5, p4⟩ := cz2 a3
     obtain ⟨r1, r0, q9, q8, q7, q6, q5, p3, p2, p1, p0, o9, o8, o7⟩ := cz7 a4
     go_wp2_with (first | (go_at_call 47; (with_reducible refine (q4_in.calls _ _ _ _ _ c8.out).mono ?_); rintro e w' ⟨rfl, ⟨nd, rfl⟩⟩; (try first | exact ⟨rfl, _, World.drewN_drewN _ _ _⟩ | exact ⟨rfl, _, Eq.trans (World.drewN_drewN _ _ _) (congrArg (World.drewN _) (Nat.add_assoc _ _ _))⟩)) | (go_at_call 47; (with_reducible refine (q4_in.calls _ _ _ _ _ g4.out).mono ?_); rintro e w' ⟨rfl, ⟨nd, rfl⟩⟩; (try first | exact ⟨rfl, _, World.drewN_drewN _ _ _⟩ | exact ⟨rfl, _, Eq.trans (World.drewN_drewN _ _ _) (congrArg (World.drewN _) (Nat.add_assoc _ _ _))⟩)) | (go_at_call 69; (with_reducible refine (q4_bound.calls _ _ _ _ j2.out).mono ?_); rintro e w' ⟨rfl, ⟨nd, rfl⟩⟩; (try first | exact ⟨rfl, _, World.drewN_drewN _ _ _⟩ | exact ⟨rfl, _, Eq.trans (World.drewN_drewN _ _ _) (congrArg (World.drewN _) (Nat.add_assoc _ _ _))⟩)) | (go_at_call 69; (with_reducible refine (q4_bound.calls _ _ _ _ n1.out).mono ?_); rintro e w' ⟨rfl, ⟨nd, rfl⟩⟩; (try first | exact ⟨rfl, _, World.drewN_drewN _ _ _⟩ | exact ⟨rfl, _, Eq.trans (World.drewN_drewN _ _ _) (congrArg (World.drewN _) (Nat.add_assoc _ _ _))⟩)))
    ·repeat (go_quiet (first | (go_at_call 47; (with_reducible refine (q4_in.calls _ _ _ _ _ c8.out).mono ?_); rintro e w' ⟨rfl, ⟨nd, rfl⟩⟩; (try first | exact ⟨rfl, _, World.drewN_drewN _ _ _⟩ | exact ⟨rfl, _, Eq.trans (World.drewN_drewN _ _ _) (congrArg (World.drewN _) (Nat.add_assoc _ _ _))⟩))); try go_wp2_with (first | (go_at_call 47; (with_reducible refine (q4_in.calls _ _ _ _ _ c8.out).mono ?_); rintro e w' ⟨rfl, ⟨nd, rfl⟩⟩; (try first | exact ⟨rfl, _, World.drewN_drewN _ _ _⟩ | exact ⟨rfl, _, Eq.trans (World.drewN_drewN _ _ _) (congrArg (World.drewN _) (Nat.add_assoc _ _ _))⟩))))
     go_ret
     exact ⟨erf, bb HB⟩
    iterate 2
     ·repeat (go_quiet (first | (go_at_call 47; (with_reducible refine (q4_in.calls _ _ _ _ _ c8.out).mono ?_); rintro e w' ⟨rfl, ⟨nd, rfl⟩⟩; (try first | exact ⟨rfl, _, World.drewN_drewN _ _ _⟩ | exact ⟨rfl, _, Eq.trans (World.drewN_drewN _ _ _) (congrArg (World.drewN _) (Nat.add_assoc _ _ _))⟩)) | (go_at_call 47; (with_reducible refine (q4_in.calls _ _ _ _ _ g4.out).mono ?_); rintro e w' ⟨rfl, ⟨nd, rfl⟩⟩; (try first | exact ⟨rfl, _, World.drewN_drewN _ _ _⟩ | exact ⟨rfl, _, Eq.trans (World.drewN_drewN _ _ _) (congrArg (World.drewN _) (Nat.add_assoc _ _ _))⟩)) | (go_at_call 69; (with_reducible refine (q4_bound.calls _ _ _ _ j2.out).mono ?_); rintro e w' ⟨rfl, ⟨nd, rfl⟩⟩; (try first | exact ⟨rfl, _, World.drewN_drewN _ _ _⟩ | exact ⟨rfl, _, Eq.trans (World.drewN_drewN _ _ _) (congrArg (World.drewN _) (Nat.add_assoc _ _ _))⟩)) | (go_at_call 69; (with_reducible refine (q4_bound.calls _ _ _ _ n1.out).mono ?_); rintro e w' ⟨rfl, ⟨nd, rfl⟩⟩; (try first | exact ⟨rfl, _, World.drewN_drewN _ _ _⟩ | exact ⟨rfl, _, Eq.trans (World.drewN_drewN _ _ _) (congrArg (World.drewN _) (Nat.add_assoc _ _ _))⟩))); try go_wp2_with (first | (go_at_call 47; (with_reducible refine (q4_in.calls _ _ _ _ _ c8.out).mono ?_); rintro e w' ⟨rfl, ⟨nd, rfl⟩⟩; (try first | exact ⟨rfl, _, World.drewN_drewN _ _ _⟩ | exact ⟨rfl, _, Eq.trans (World.drewN_drewN _ _ _) (congrArg (World.drewN _) (Nat.add_assoc _ _ _))⟩)) | (go_at_call 47; (with_reducible refine (q4_in.calls _ _ _ _ _ g4.out).mono ?_); rintro e w' ⟨rfl, ⟨nd, rfl⟩⟩; (try first | exact ⟨rfl, _, World.drewN_drewN _ _ _⟩ | exact ⟨rfl, _, Eq.trans (World.drewN_drewN _ _ _) (congrArg (World.drewN _) (Nat.add_assoc _ _ _))⟩)) | (go_at_call 69; (with_reducible refine (q4_bound.calls _ _ _ _ j2.out).mono ?_); rintro e w' ⟨rfl, ⟨nd, rfl⟩⟩; (try first | exact ⟨rfl, _, World.drewN_drewN _ _ _⟩ | exact ⟨rfl, _, Eq.trans (World.drewN_drewN _ _ _) (congrArg (World.drewN _) (Nat.add_assoc _ _ _))⟩)) | (go_at_call 69; (with_reducible refine (q4_bound.calls _ _ _ _ n1.out).mono ?_); rintro e w' ⟨rfl, ⟨nd, rfl⟩⟩; (try first | exact ⟨rfl, _, World.drewN_drewN _ _ _⟩ | exact ⟨rfl, _, Eq.trans (World.drewN_drewN _ _ _) (congrArg (World.drewN _) (Nat.add_assoc _ _ _))⟩))))
      go_ret
      exact ⟨erf, bb HB⟩
    ·repeat (go_quiet (first | (go_at_call 47; (with_reducible refine (q4_in.calls _ _ _ _ _ c8.out).mono ?_); rintro e w' ⟨rfl, ⟨nd, rfl⟩⟩; (try first | exact ⟨rfl, _, World.drewN_drewN _ _ _⟩ | exact ⟨rfl, _, Eq.trans (World.drewN_drewN _ _ _) (congrArg (World.drewN _) (Nat.add_assoc _ _ _))⟩)) | (go_at_call 47; (with_reducible refine (q4_in.calls _ _ _ _ _ g4.out).mono ?_); rintro e w' ⟨rfl, ⟨nd, rfl⟩⟩; (try first | exact ⟨rfl, _, World.drewN_drewN _ _ _⟩ | exact ⟨rfl, _, Eq.trans (World.drewN_drewN _ _ _) (congrArg (World.drewN _) (Nat.add_assoc _ _ _))⟩)) | (go_at_call 69; (with_reducible refine (q4_bound.calls _ _ _ _ j2.out).mono ?_); rintro e w' ⟨rfl, ⟨nd, rfl⟩⟩; (try first | exact ⟨rfl, _, World.drewN_drewN _ _ _⟩ | exact ⟨rfl, _, Eq.trans (World.drewN_drewN _ _ _) (congrArg (World.drewN _) (Nat.add_assoc _ _ _))⟩))); try go_wp2_with (first | (go_at_call 47; (with_reducible refine (q4_in.calls _ _ _ _ _ c8.out).mono ?_); rintro e w' ⟨rfl, ⟨nd, rfl⟩⟩; (try first | exact ⟨rfl, _, World.drewN_drewN _ _ _⟩ | exact ⟨rfl, _, Eq.trans (World.drewN_drewN _ _ _) (congrArg (World.drewN _) (Nat.add_assoc _ _ _))⟩)) | (go_at_call 47; (with_reducible refine (q4_in.calls _ _ _ _ _ g4.out).mono ?_); rintro e w' ⟨rfl, ⟨nd, rfl⟩⟩; (try first | exact ⟨rfl, _, World.drewN_drewN _ _ _⟩ | exact ⟨rfl, _, Eq.trans (World.drewN_drewN _ _ _) (congrArg (World.drewN _) (Nat.add_assoc _ _ _))⟩)) | (go_at_call 69; (with_reducible refine (q4_bound.calls _ _ _ _ j2.out).mono ?_); rintro e w' ⟨rfl, ⟨nd, rfl⟩⟩; (try first | exact ⟨rfl, _, World.drewN_drewN _ _ _⟩ | exact ⟨rfl, _, Eq.trans (World.drewN_drewN _ _ _) (congrArg (World.drewN _) (Nat.add_assoc _ _ _))⟩))))
     go_ret
     exact ⟨erf, bb HB⟩
    ·repeat (go_quiet (first | (go_at_call 47; (with_reducible refine (q4_in.calls _ _ _ _ _ c8.out).mono ?_); rintro e w' ⟨rfl, ⟨nd, rfl⟩⟩; (try first | exact ⟨rfl, _, World.drewN_drewN _ _ _⟩ | exact ⟨rfl, _, Eq.trans (World.drewN_drewN _ _ _) (congrArg (World.drewN _) (Nat.add_assoc _ _ _))⟩)) | (go_at_call 47; (with_reducible refine (q4_in.calls _ _ _ _ _ g4.out).mono ?_); rintro e w' ⟨rfl, ⟨nd, rfl⟩⟩; (try first | exact ⟨rfl, _, World.drewN_drewN _ _ _⟩ | exact ⟨rfl, _, Eq.trans (World.drewN_drewN _ _ _) (congrArg (World.drewN _) (Nat.add_assoc _ _ _))⟩))); try go_wp2_with (first | (go_at_call 47; (with_reducible refine (q4_in.calls _ _ _ _ _ c8.out).mono ?_); rintro e w' ⟨rfl, ⟨nd, rfl⟩⟩; (try first | exact ⟨rfl, _, World.drewN_drewN _ _ _⟩ | exact ⟨rfl, _, Eq.trans (World.drewN_drewN _ _ _) (congrArg (World.drewN _) (Nat.add_assoc _ _ _))⟩)) | (go_at_call 47; (with_reducible refine (q4_in.calls _ _ _ _ _ g4.out).mono ?_); rintro e w' ⟨rfl, ⟨nd, rfl⟩⟩; (try first | exact ⟨rfl, _, World.drewN_drewN _ _ _⟩ | exact ⟨rfl, _, Eq.trans (World.drewN_drewN _ _ _) (congrArg (World.drewN _) (Nat.add_assoc _ _ _))⟩))))
     go_ret
     exact ⟨erf, bb HB⟩
end Go.Proofs.Ytfpianecohobjaa.P
