/- StatisticOf: a part of its proof. No condition. -/
import Derived.Test.YtfpianecohobjaaGreatYPx0
import Derived.Test.YtfpianecohobjaaGreatYMb
namespace Go.Proofs.YtfpianecohobjaaGreat.P
open Go.RowKit Go.Proofs.YtfpianecohobjaaGreatW.PrintWords Go.Proofs.YtfpianecohobjaaGreatW.PrintLast Go.Proofs.YtfpianecohobjaaGreatW.PrintMore
set_option linter.unusedVariables false
set_option linter.unusedSimpArgs false
def q4_bound.f (a0 : Int) (a1 : Int) : Option (Bool) := (q4_in.f a0 0 40).bind fun e2 => (if e2 = true then (if a1 = (-1) then (some true) else ((q4_in.f a1 a0 40).bind fun e1 => (some e1))) else (some false))
set_option maxHeartbeats 8000000 in
set_option maxRecDepth 100000 in
theorem q4_bound.calls (a0 : Int) (a1 : Int) (r : Bool) (w : World) (h : q4_bound.f a0 a1 = some r) :
  Calls Tryz.prog 112 #[.int .i64 a0, .int .i64 a1] w fun e w' => e = .returned (.bool r) ∧ Drawn0 w w' := by
 have H : ((q4_in.f a0 0 40).bind fun e2 => (if e2 = true then (if a1 = (-1) then (some true) else ((q4_in.f a1 a0 40).bind fun e1 => (some e1))) else (some false))) = some r := h
 clear h
 obtain ⟨e2, A3, H⟩ := obA H
 by_cases c4 : e2 = true
 rotate_left
 ·replace c4 := Bool.eq_false_iff.mpr c4
  subst c4
  replace H := iff_ H
  obtain rfl := Option.some.inj H
  go_enter Tryz.func112, Tryz.ntmps112
  go_wp2_with ((with_reducible refine gate_callee (f := 90) rfl ?_); refine gl 6 Tryz.func90 #[.int .i64 a0, .int .i64 0, .int .i64 40] (h := ?_); (with_reducible refine (q4_in.calls a0 0 40 false _ A3.out).mono ?_); rintro e w' ⟨rfl, ⟨nd, rfl⟩⟩; refine ⟨_, rfl, ?_⟩)
  go_ret
  exact ⟨by first | rfl | (simp; done) | (simp [*]; done), drw⟩
 subst c4
 replace H := ift H
 by_cases c5 : a1 = (-1)
 ·rw [if_pos c5] at H
  have n9 := beq_iff_eq.mpr c5
  have n8 := bne_eq_false_iff_eq.mpr c5
  clear c5
  obtain rfl := Option.some.inj H
  go_enter Tryz.func112, Tryz.ntmps112
  go_wp2_with ((with_reducible refine gate_callee (f := 90) rfl ?_); refine gl 6 Tryz.func90 #[.int .i64 a0, .int .i64 0, .int .i64 40] (h := ?_); (with_reducible refine (q4_in.calls a0 0 40 true _ A3.out).mono ?_); rintro e w' ⟨rfl, ⟨nd, rfl⟩⟩; refine ⟨_, rfl, ?_⟩)
  go_ret
  exact ⟨by first | rfl | (simp; done) | (simp [*]; done), drw⟩
 rw [if_neg c5] at H
 have n9 := beq_eq_false_iff_ne.mpr c5
 have n8 := bne_iff_ne.mpr c5
 obtain ⟨e1, A6, H⟩ := obA H
 obtain rfl := Option.some.inj H
 go_enter Tryz.func112, Tryz.ntmps112
 go_wp2_with (first | ((with_reducible refine gate_callee (f := 90) rfl ?_); refine gl 6 Tryz.func90 #[.int .i64 a0, .int .i64 0, .int .i64 40] (h := ?_); (with_reducible refine (q4_in.calls a0 0 40 true _ A3.out).mono ?_); rintro e w' ⟨rfl, ⟨nd, rfl⟩⟩; refine ⟨_, rfl, ?_⟩) | (go_at_call 90; (with_reducible refine (q4_in.calls a1 a0 40 e1 _ A6.out).mono ?_); rintro e w' ⟨rfl, ⟨nd, rfl⟩⟩))
 go_ret
 exact ⟨by first | rfl | (simp; done) | (simp [*]; done), drw⟩
def q4_edge.l0 : Nat → Int → Int → List (S96) → List (S101) → ByteArray → Int → Int → Int → Int → Int → Int → Option (Int)
 | 0, _, _, _, _, _, _, _, _, _, _, _ => none
 | k + 1, x1, x6, d6, d5, g0, e9, e8, e7, e6, e5, e4 => if x6 < x1 then (if 0 ≤ x6 then (if x6 < (d5.length : Int) then (if ((rd_T101 d5 x6).f0).toList = g0.toList then (some 5) else (q4_edge.l0 k x1 (wrap64 (x6 + 1)) d6 d5 g0 e9 e8 e7 e6 e5 e4)) else (none)) else (none)) else ((q4_in.f e9 0 (wrap64 ((d6.length : Int) - 1))).bind fun g8 => (if g8 = true then ((q4_in.f e8 0 (wrap64 ((d6.length : Int) - 1))).bind fun g7 => (if g7 = true then ((q4_bound.f e7 e6).bind fun g6 => (if g6 = true then ((q4_bound.f e5 e4).bind fun g5 => (if g5 = true then (some 0) else (some 6))) else (some 6))) else (some 6))) else (some 6)))
def q4_edge.f (k : Nat) (a6 : List (S96)) (a2 : List (S101)) (a1 : Int) : Option (Int) := if 0 ≤ a1 then (if a1 < (a2.length : Int) then ((q1_IsName.f k ((rd_T101 a2 a1).f0)).bind fun e0 => (if e0 = true then (q4_edge.l0 k a1 0 a6 a2 ((rd_T101 a2 a1).f0) ((rd_T101 a2 a1).f1) ((rd_T101 a2 a1).f2) ((rd_T101 a2 a1).f3) ((rd_T101 a2 a1).f4) ((rd_T101 a2 a1).f5) ((rd_T101 a2 a1).f6)) else (some 2))) else (none)) else (none)
set_option maxHeartbeats 8000000 in
set_option maxRecDepth 100000 in
theorem q4_edge.calls (k : Nat) (d4 : Option Addr) (d3 : Nat) (a6 : List (S96)) (g3 : Option Addr) (d2 : Nat) (a2 : List (S101)) (a1 : Int) (r : Int) (w : World) (h2 : Kd.C k96 w d4 a6.length a6) (h4 : a6.length ≤ d3) (h1 : Kd.C k101 w g3 a2.length a2) (h3 : a2.length ≤ d2) (h : q4_edge.f k a6 a2 a1 = some r) :
  Calls Tryz.prog 89 #[.agg #[.slice d4 a6.length d3, .slice g3 a2.length d2], .int .i64 a1] w fun e w' => e = .returned (.int .i64 r) ∧ Below w.heap.size w w' := by
 have hu31 := Tryz.underlying31
 have hu101 := Tryz.underlying101
 have I4 := Aside0.mk h2
 have I6 := Aside0.mk h4
 clear h2 h4
 have d9 := Aside0.mk h1
 have I5 := Aside0.mk h3
 clear h1 h3
 have HB := Aside0.mk (Below.refl w.heap.size w)
 have H : (if 0 ≤ a1 then (if a1 < (a2.length : Int) then ((q1_IsName.f k ((rd_T101 a2 a1).f0)).bind fun e0 => (if e0 = true then (q4_edge.l0 k a1 0 a6 a2 ((rd_T101 a2 a1).f0) ((rd_T101 a2 a1).f1) ((rd_T101 a2 a1).f2) ((rd_T101 a2 a1).f3) ((rd_T101 a2 a1).f4) ((rd_T101 a2 a1).f5) ((rd_T101 a2 a1).f6)) else (some 2))) else (none)) else (none)) = some r := h
 clear h
 obtain ⟨c3, H⟩ := itn H
 have o1 := decide_eq_true c3
 clear c3
 obtain ⟨c4, H⟩ := itn H
 have o0 := decide_eq_true c4
 clear c4
 obtain ⟨e0, A5, H⟩ := obA H
 by_cases c6 : e0 = true
 rotate_left
 ·replace c6 := Bool.eq_false_iff.mpr c6
  subst c6
  replace H := iff_ H
  obtain rfl := Option.some.inj H
  go_enter Tryz.func89, Tryz.ntmps89
  go_wp2_with (first | ((with_reducible refine gate_dst (N := 2) rfl ?_); refine be 2 #[.slice d4 a6.length d3, .slice g3 a2.length d2] 31 ?_; intro d8 hg I9 hbox hb; have a3 := Aside0.mk (hbox); have n3 := bsz HB hg; replace HB := bstep HB hb; clear hb hbox hg; obtain ⟨x7, x5, p0, o9⟩ := cz2 a3; have c8 : 0 ≤ a1 := odt; have c7 : a1 < (a2.length : Int) := odt; obtain ⟨c9, h0, b5, b4, b3, b2, b1, b0, a9⟩ := at_T101 d9.out a1 c8 c7; cases h0; replace b5 := hxc HB b5; replace b4 := hxc HB b4; replace b3 := hxc HB b3; replace b2 := hxc HB b2; replace b1 := hxc HB b1; replace b0 := hxc HB b0; replace a9 := hxc HB a9; replace c8 := eq_true c8; replace c7 := eq_true c7) | ((with_reducible refine gate_dst (N := 5) rfl ?_); refine be 5 #[.string (⟨#[]⟩ : ByteArray), .int .i64 0, .int .i64 0, .int .i64 0, .int .i64 0, .int .i64 0, .int .i64 0] 101 ?_; intro d7 hg I8 hbox hb; have a7 := Aside0.mk (hbox); have n2 := bsz HB hg; replace HB := bstep HB hb; have a5 := blt a3 hg; have a4 := bgt a3 hg; replace a3 := bkb a3 hb; clear hb hbox hg; have H3 := a4.out; have G4 := a5.out; obtain ⟨x4, x3, x2, x0, w8, w6, w5, o8, o7, o6, o5, o4, o3, o2⟩ := cz7 a7) | (go_at_call 109; (with_reducible refine (q1_IsName.calls k ((rd_T101 a2 a1).f0) false _ A5.out).mono ?_); rintro e I7 ⟨rfl, hb⟩; replace a3 := Aside0.mk (blk_below (g := d8) (o := .cells #[.slice d4 a6.length d3, .slice (some c9) a2.length d2] 31 (0, 0)) (bkF a3) hb); replace a7 := Aside0.mk (blk_below (g := d7) (o := .cells #[.string ((rd_T101 a2 a1).f0), .int .i64 ((rd_T101 a2 a1).f1), .int .i64 ((rd_T101 a2 a1).f2), .int .i64 ((rd_T101 a2 a1).f3), .int .i64 ((rd_T101 a2 a1).f4), .int .i64 ((rd_T101 a2 a1).f5), .int .i64 ((rd_T101 a2 a1).f6)] 101 (0, 0)) (by (with_reducible repeat (first | refine dN ?_ _ | refine dR ?_ | refine dA ?_ _)); refine blk_put (cs := #[.string ((rd_T101 a2 a1).f0), .int .i64 ((rd_T101 a2 a1).f1), .int .i64 ((rd_T101 a2 a1).f2), .int .i64 ((rd_T101 a2 a1).f3), .int .i64 ((rd_T101 a2 a1).f4), .int .i64 ((rd_T101 a2 a1).f5), .int .i64 0]) ?_ 6 _ rfl; refine blk_put (cs := #[.string ((rd_T101 a2 a1).f0), .int .i64 ((rd_T101 a2 a1).f1), .int .i64 ((rd_T101 a2 a1).f2), .int .i64 ((rd_T101 a2 a1).f3), .int .i64 ((rd_T101 a2 a1).f4), .int .i64 0, .int .i64 0]) ?_ 5 _ rfl; refine blk_put (cs := #[.string ((rd_T101 a2 a1).f0), .int .i64 ((rd_T101 a2 a1).f1), .int .i64 ((rd_T101 a2 a1).f2), .int .i64 ((rd_T101 a2 a1).f3), .int .i64 0, .int .i64 0, .int .i64 0]) ?_ 4 _ rfl; refine blk_put (cs := #[.string ((rd_T101 a2 a1).f0), .int .i64 ((rd_T101 a2 a1).f1), .int .i64 ((rd_T101 a2 a1).f2), .int .i64 0, .int .i64 0, .int .i64 0, .int .i64 0]) ?_ 3 _ rfl; refine blk_put (cs := #[.string ((rd_T101 a2 a1).f0), .int .i64 ((rd_T101 a2 a1).f1), .int .i64 0, .int .i64 0, .int .i64 0, .int .i64 0, .int .i64 0]) ?_ 2 _ rfl; refine blk_put (cs := #[.string ((rd_T101 a2 a1).f0), .int .i64 0, .int .i64 0, .int .i64 0, .int .i64 0, .int .i64 0, .int .i64 0]) ?_ 1 _ rfl; refine blk_put (cs := #[.string (⟨#[]⟩ : ByteArray), .int .i64 0, .int .i64 0, .int .i64 0, .int .i64 0, .int .i64 0, .int .i64 0]) ?_ 0 _ rfl; (with_reducible repeat (first | refine dN ?_ _ | refine dR ?_ | refine dA ?_ _)); exact a7.out) hb); replace HB := bstep HB hb; (try clear hb); (try clear hb2); (try clear hk); (try clear hi)))
  repeat (go_quiet (fail); try go_wp2_with (fail))
  go_ret
  exact ⟨erf, bb HB⟩
 subst c6
 replace H := ift H
 have H' := Aside0.mk H
 clear H
 go_enter Tryz.func89, Tryz.ntmps89
 go_wp2_with (first | ((with_reducible refine gate_dst (N := 2) rfl ?_); refine be 2 #[.slice d4 a6.length d3, .slice g3 a2.length d2] 31 ?_; intro d8 hg w7 hbox hb; have a3 := Aside0.mk (hbox); have n3 := bsz HB hg; replace HB := bstep HB hb; clear hb hbox hg; obtain ⟨m7, m6, m5, m4⟩ := cz2 a3; have c8 : 0 ≤ a1 := odt; have c7 : a1 < (a2.length : Int) := odt; obtain ⟨c9, h0, b5, b4, b3, b2, b1, b0, a9⟩ := at_T101 d9.out a1 c8 c7; cases h0; replace b5 := hxc HB b5; replace b4 := hxc HB b4; replace b3 := hxc HB b3; replace b2 := hxc HB b2; replace b1 := hxc HB b1; replace b0 := hxc HB b0; replace a9 := hxc HB a9; replace c8 := eq_true c8; replace c7 := eq_true c7) | ((with_reducible refine gate_dst (N := 5) rfl ?_); refine be 5 #[.string (⟨#[]⟩ : ByteArray), .int .i64 0, .int .i64 0, .int .i64 0, .int .i64 0, .int .i64 0, .int .i64 0] 101 ?_; intro d7 hg w9 hbox hb; have a7 := Aside0.mk (hbox); have n2 := bsz HB hg; replace HB := bstep HB hb; have a5 := blt a3 hg; have a4 := bgt a3 hg; replace a3 := bkb a3 hb; clear hb hbox hg; have I1 := a4.out; have H2 := a5.out; obtain ⟨m3, m2, m1, m0, j9, j8, j7, j6, j5, j4, j3, j2, j1, j0⟩ := cz7 a7) | (go_at_call 109; (with_reducible refine (q1_IsName.calls k ((rd_T101 a2 a1).f0) true _ A5.out).mono ?_); rintro e J0 ⟨rfl, hb⟩; replace a3 := Aside0.mk (blk_below (g := d8) (o := .cells #[.slice d4 a6.length d3, .slice (some c9) a2.length d2] 31 (0, 0)) (bkF a3) hb); replace a7 := Aside0.mk (blk_below (g := d7) (o := .cells #[.string ((rd_T101 a2 a1).f0), .int .i64 ((rd_T101 a2 a1).f1), .int .i64 ((rd_T101 a2 a1).f2), .int .i64 ((rd_T101 a2 a1).f3), .int .i64 ((rd_T101 a2 a1).f4), .int .i64 ((rd_T101 a2 a1).f5), .int .i64 ((rd_T101 a2 a1).f6)] 101 (0, 0)) (by (with_reducible repeat (first | refine dN ?_ _ | refine dR ?_ | refine dA ?_ _)); refine blk_put (cs := #[.string ((rd_T101 a2 a1).f0), .int .i64 ((rd_T101 a2 a1).f1), .int .i64 ((rd_T101 a2 a1).f2), .int .i64 ((rd_T101 a2 a1).f3), .int .i64 ((rd_T101 a2 a1).f4), .int .i64 ((rd_T101 a2 a1).f5), .int .i64 0]) ?_ 6 _ rfl; refine blk_put (cs := #[.string ((rd_T101 a2 a1).f0), .int .i64 ((rd_T101 a2 a1).f1), .int .i64 ((rd_T101 a2 a1).f2), .int .i64 ((rd_T101 a2 a1).f3), .int .i64 ((rd_T101 a2 a1).f4), .int .i64 0, .int .i64 0]) ?_ 5 _ rfl; refine blk_put (cs := #[.string ((rd_T101 a2 a1).f0), .int .i64 ((rd_T101 a2 a1).f1), .int .i64 ((rd_T101 a2 a1).f2), .int .i64 ((rd_T101 a2 a1).f3), .int .i64 0, .int .i64 0, .int .i64 0]) ?_ 4 _ rfl; refine blk_put (cs := #[.string ((rd_T101 a2 a1).f0), .int .i64 ((rd_T101 a2 a1).f1), .int .i64 ((rd_T101 a2 a1).f2), .int .i64 0, .int .i64 0, .int .i64 0, .int .i64 0]) ?_ 3 _ rfl; refine blk_put (cs := #[.string ((rd_T101 a2 a1).f0), .int .i64 ((rd_T101 a2 a1).f1), .int .i64 0, .int .i64 0, .int .i64 0, .int .i64 0, .int .i64 0]) ?_ 2 _ rfl; refine blk_put (cs := #[.string ((rd_T101 a2 a1).f0), .int .i64 0, .int .i64 0, .int .i64 0, .int .i64 0, .int .i64 0, .int .i64 0]) ?_ 1 _ rfl; refine blk_put (cs := #[.string (⟨#[]⟩ : ByteArray), .int .i64 0, .int .i64 0, .int .i64 0, .int .i64 0, .int .i64 0, .int .i64 0]) ?_ 0 _ rfl; (with_reducible repeat (first | refine dN ?_ _ | refine dR ?_ | refine dA ?_ _)); exact a7.out) hb); replace HB := bstep HB hb; (try clear hb); (try clear hb2); (try clear hk); (try clear hi)))
 repeat (go_quiet (fail); try go_wp2_with (fail))
 go_loopg [6] k (fun kq v6 w' => ∃ (a8 : Int), v6 = .int .i64 a8 ∧ Aside0 (q4_edge.l0 kq a1 a8 a6 a2 ((rd_T101 a2 a1).f0) ((rd_T101 a2 a1).f1) ((rd_T101 a2 a1).f2) ((rd_T101 a2 a1).f3) ((rd_T101 a2 a1).f4) ((rd_T101 a2 a1).f5) ((rd_T101 a2 a1).f6) = some r) ∧ Aside0 (kq ≤ k) ∧ Aside0 (w'.heap[d8]? = some (.cells #[(.slice d4 a6.length d3), (.slice (some c9) a2.length d2)] 31 (0, 0))) ∧ Aside0 (w'.heap[d7]? = some (.cells #[.string ((rd_T101 a2 a1).f0), .int .i64 ((rd_T101 a2 a1).f1), .int .i64 ((rd_T101 a2 a1).f2), .int .i64 ((rd_T101 a2 a1).f3), .int .i64 ((rd_T101 a2 a1).f4), .int .i64 ((rd_T101 a2 a1).f5), .int .i64 ((rd_T101 a2 a1).f6)] 101 (0, 0))) ∧ Aside0 (Below w.heap.size w w'))
 case atStart => exact ⟨(0), eqs, H', ⟨Nat.le_refl _⟩, ⟨bk a3⟩, ⟨bk a7⟩, ⟨bb HB⟩⟩
 case round =>
  clear H'
  clear o1
  clear o0
  clear m3
  clear m2
  clear m1
  clear m0
  clear j9
  clear j8
  clear j7
  clear m7
  clear m6
  clear j6
  clear j5
  clear j4
  clear j3
  clear j2
  clear j1
  clear j0
  clear m5
  clear m4
  clear b5
  clear b4
  clear b3
  clear b2
  clear b1
  clear b0
  clear a9
  clear c8
  clear c7
  obtain ⟨a8, rfl, HA, n6, a3, a7, HB⟩ := hrel
  cases gk with
  | zero => exact absurd HA.out (by simp [q4_edge.l0])
  | succ k1 =>
   have H := HA.out
   clear HA
   simp only [q4_edge.l0] at H
   by_cases g1 : a8 < a1
   ·rw [if_pos g1] at H
    have n1 := decide_eq_true g1
    clear g1
    obtain ⟨n5, H⟩ := itn H
    have I3 := decide_eq_true n5
    clear n5
    obtain ⟨n4, H⟩ := itn H
    have I2 := decide_eq_true n4
    clear n4
    by_cases e3 : ((rd_T101 a2 a8).f0).toList = ((rd_T101 a2 a1).f0).toList
    ·rw [if_pos e3] at H
     have n0 := beq_iff_eq.mpr e3
     have m9 := bne_eq_false_iff_eq.mpr e3
     clear e3
     obtain rfl := Option.some.inj H
     have I0 := a5.out
     have H1 := a4.out
     obtain ⟨G3, G2, w4, w3⟩ := cz2 a3
     have d1 : 0 ≤ a8 := odt
     have d0 : a8 < (a2.length : Int) := odt
     obtain ⟨g2, g9, c2, c1, c0, b9, b8, b7, b6⟩ := at_T101 d9.out a8 d1 d0
     obtain rfl : c9 = g2 := (by injection g9)
     replace c2 := hxc HB c2
     replace c1 := hxc HB c1
     replace c0 := hxc HB c0
     replace b9 := hxc HB b9
     replace b8 := hxc HB b8
     replace b7 := hxc HB b7
     replace b6 := hxc HB b6
     replace d1 := eq_true d1
     replace d0 := eq_true d0
     obtain ⟨G1, G0, F9, F8, F7, F6, F5, w2, w1, w0, v9, v8, v7, v5⟩ := cz7 a7
     go_wp2
     repeat (go_quiet (fail); try go_wp2)
     go_ret
     exact ⟨erf, bb HB⟩
    rw [if_neg e3] at H
    have n0 := beq_eq_false_iff_ne.mpr e3
    have m9 := bne_iff_ne.mpr e3
    have H' := Aside0.mk H
    clear H
    have H9 := a5.out
    have H0 := a4.out
    obtain ⟨F4, F3, v4, v3⟩ := cz2 a3
    have d1 : 0 ≤ a8 := odt
    have d0 : a8 < (a2.length : Int) := odt
    obtain ⟨g2, g9, c2, c1, c0, b9, b8, b7, b6⟩ := at_T101 d9.out a8 d1 d0
    obtain rfl : c9 = g2 := (by injection g9)
    replace c2 := hxc HB c2
    replace c1 := hxc HB c1
    replace c0 := hxc HB c0
    replace b9 := hxc HB b9
    replace b8 := hxc HB b8
    replace b7 := hxc HB b7
    replace b6 := hxc HB b6
    replace d1 := eq_true d1
    replace d0 := eq_true d0
    obtain ⟨F2, F1, F0, E9, E8, E7, E6, v2, v1, v0, t9, t8, t7, t6⟩ := cz7 a7
    go_wp2
    repeat (go_quiet (fail); try go_wp2)
    go_roundg k1
    case measure => have := n6.out; omega
    case rel => exact ⟨(wrap64 (a8 + 1)), eqs, H', ⟨by have := n6.out; omega⟩, ⟨bk a3⟩, ⟨bk a7⟩, ⟨bb HB⟩⟩
   rw [if_neg g1] at H
   have n1 := decide_eq_false g1
   clear g1
   obtain ⟨g8, g4, H⟩ := obA H
   by_cases h8 : g8 = true
   rotate_left
   ·replace h8 := Bool.eq_false_iff.mpr h8
    subst h8
    replace H := iff_ H
    obtain rfl := Option.some.inj H
    have H4 := a5.out
    have G5 := a4.out
    obtain ⟨y6, y5, p9, p8⟩ := cz2 a3
    obtain ⟨y4, y3, y2, y1, y0, x9, x8, p7, p6, p5, p4, p3, p2, p1⟩ := cz7 a7
    go_wp2_with (go_at_call 90; (with_reducible refine (q4_in.calls ((rd_T101 a2 a1).f1) 0 (wrap64 ((a6.length : Int) - 1)) false _ g4.out).mono ?_); rintro e w' ⟨rfl, ⟨nd, rfl⟩⟩; (try first | exact ⟨rfl, _, World.drewN_drewN _ _ _⟩ | exact ⟨rfl, _, Eq.trans (World.drewN_drewN _ _ _) (congrArg (World.drewN _) (Nat.add_assoc _ _ _))⟩))
    repeat (go_quiet (fail); try go_wp2_with (fail))
    go_ret
    exact ⟨erf, bb HB⟩
   subst h8
   replace H := ift H
   obtain ⟨g7, h9, H⟩ := obA H
   by_cases h7 : g7 = true
   rotate_left
   ·replace h7 := Bool.eq_false_iff.mpr h7
    subst h7
    replace H := iff_ H
    obtain rfl := Option.some.inj H
    have H5 := a5.out
    have G6 := a4.out
    obtain ⟨A8, A7, q8, q7⟩ := cz2 a3
    obtain ⟨A4, A2, A1, A0, y9, y8, y7, q6, q5, q4, q3, q2, q1, q0⟩ := cz7 a7
    go_wp2_with (first | (go_at_call 90; (with_reducible refine (q4_in.calls ((rd_T101 a2 a1).f1) 0 (wrap64 ((a6.length : Int) - 1)) true _ g4.out).mono ?_); rintro e w' ⟨rfl, ⟨nd, rfl⟩⟩; (try first | exact ⟨rfl, _, World.drewN_drewN _ _ _⟩ | exact ⟨rfl, _, Eq.trans (World.drewN_drewN _ _ _) (congrArg (World.drewN _) (Nat.add_assoc _ _ _))⟩)) | (go_at_call 90; (with_reducible refine (q4_in.calls ((rd_T101 a2 a1).f2) 0 (wrap64 ((a6.length : Int) - 1)) false _ h9.out).mono ?_); rintro e w' ⟨rfl, ⟨nd, rfl⟩⟩; (try first | exact ⟨rfl, _, World.drewN_drewN _ _ _⟩ | exact ⟨rfl, _, Eq.trans (World.drewN_drewN _ _ _) (congrArg (World.drewN _) (Nat.add_assoc _ _ _))⟩)))
    repeat (go_quiet (fail); try go_wp2_with (fail))
    go_ret
    exact ⟨erf, bb HB⟩
   subst h7
   replace H := ift H
   obtain ⟨g6, m8, H⟩ := obA H
   by_cases h6 : g6 = true
   rotate_left
   ·replace h6 := Bool.eq_false_iff.mpr h6
    subst h6
    replace H := iff_ H
    obtain rfl := Option.some.inj H
    have H6 := a5.out
    have G7 := a4.out
    obtain ⟨C7, C6, r7, r6⟩ := cz2 a3
    obtain ⟨C5, C4, C3, C2, C1, C0, A9, r5, r4, r3, r2, r1, r0, q9⟩ := cz7 a7
    go_wp2_with (first | (go_at_call 90; (with_reducible refine (q4_in.calls ((rd_T101 a2 a1).f1) 0 (wrap64 ((a6.length : Int) - 1)) true _ g4.out).mono ?_); rintro e w' ⟨rfl, ⟨nd, rfl⟩⟩; (try first | exact ⟨rfl, _, World.drewN_drewN _ _ _⟩ | exact ⟨rfl, _, Eq.trans (World.drewN_drewN _ _ _) (congrArg (World.drewN _) (Nat.add_assoc _ _ _))⟩)) | (go_at_call 90; (with_reducible refine (q4_in.calls ((rd_T101 a2 a1).f2) 0 (wrap64 ((a6.length : Int) - 1)) true _ h9.out).mono ?_); rintro e w' ⟨rfl, ⟨nd, rfl⟩⟩; (try first | exact ⟨rfl, _, World.drewN_drewN _ _ _⟩ | exact ⟨rfl, _, Eq.trans (World.drewN_drewN _ _ _) (congrArg (World.drewN _) (Nat.add_assoc _ _ _))⟩)) | (go_at_call 112; (with_reducible refine (q4_bound.calls ((rd_T101 a2 a1).f3) ((rd_T101 a2 a1).f4) false _ m8.out).mono ?_); rintro e w' ⟨rfl, ⟨nd, rfl⟩⟩; (try first | exact ⟨rfl, _, World.drewN_drewN _ _ _⟩ | exact ⟨rfl, _, Eq.trans (World.drewN_drewN _ _ _) (congrArg (World.drewN _) (Nat.add_assoc _ _ _))⟩)))
    repeat (go_quiet (fail); try go_wp2_with (fail))
    go_ret
    exact ⟨erf, bb HB⟩
   subst h6
   replace H := ift H
   obtain ⟨g5, n7, H⟩ := obA H
   by_cases h5 : g5 = true
   ·subst h5
    replace H := ift H
    obtain rfl := Option.some.inj H
    have H8 := a5.out
    have G9 := a4.out
    obtain ⟨E5, E4, t5, t4⟩ := cz2 a3
    obtain ⟨E3, E2, E1, E0, D9, D8, D7, t3, t2, t1, t0, s9, s8, s7⟩ := cz7 a7
    go_wp2_with (first | (go_at_call 90; (with_reducible refine (q4_in.calls ((rd_T101 a2 a1).f1) 0 (wrap64 ((a6.length : Int) - 1)) true _ g4.out).mono ?_); rintro e w' ⟨rfl, ⟨nd, rfl⟩⟩; (try first | exact ⟨rfl, _, World.drewN_drewN _ _ _⟩ | exact ⟨rfl, _, Eq.trans (World.drewN_drewN _ _ _) (congrArg (World.drewN _) (Nat.add_assoc _ _ _))⟩)) | (go_at_call 90; (with_reducible refine (q4_in.calls ((rd_T101 a2 a1).f2) 0 (wrap64 ((a6.length : Int) - 1)) true _ h9.out).mono ?_); rintro e w' ⟨rfl, ⟨nd, rfl⟩⟩; (try first | exact ⟨rfl, _, World.drewN_drewN _ _ _⟩ | exact ⟨rfl, _, Eq.trans (World.drewN_drewN _ _ _) (congrArg (World.drewN _) (Nat.add_assoc _ _ _))⟩)) | (go_at_call 112; (with_reducible refine (q4_bound.calls ((rd_T101 a2 a1).f3) ((rd_T101 a2 a1).f4) true _ m8.out).mono ?_); rintro e w' ⟨rfl, ⟨nd, rfl⟩⟩; (try first | exact ⟨rfl, _, World.drewN_drewN _ _ _⟩ | exact ⟨rfl, _, Eq.trans (World.drewN_drewN _ _ _) (congrArg (World.drewN _) (Nat.add_assoc _ _ _))⟩)) | (go_at_call 112; (with_reducible refine (q4_bound.calls ((rd_T101 a2 a1).f5) ((rd_T101 a2 a1).f6) true _ n7.out).mono ?_); rintro e w' ⟨rfl, ⟨nd, rfl⟩⟩; (try first | exact ⟨rfl, _, World.drewN_drewN _ _ _⟩ | exact ⟨rfl, _, Eq.trans (World.drewN_drewN _ _ _) (congrArg (World.drewN _) (Nat.add_assoc _ _ _))⟩)))
    repeat (go_quiet (fail); try go_wp2_with (fail))
    go_ret
    exact ⟨erf, bb HB⟩
   replace h5 := Bool.eq_false_iff.mpr h5
   subst h5
   replace H := iff_ H
   obtain rfl := Option.some.inj H
   have H7 := a5.out
   have G8 := a4.out
   obtain ⟨D6, D5, s6, s5⟩ := cz2 a3
   obtain ⟨D4, D3, D2, D1, D0, C9, C8, s4, s3, s2, s1, s0, r9, r8⟩ := cz7 a7
   go_wp2_with (first | (go_at_call 90; (with_reducible refine (q4_in.calls ((rd_T101 a2 a1).f1) 0 (wrap64 ((a6.length : Int) - 1)) true _ g4.out).mono ?_); rintro e w' ⟨rfl, ⟨nd, rfl⟩⟩; (try first | exact ⟨rfl, _, World.drewN_drewN _ _ _⟩ | exact ⟨rfl, _, Eq.trans (World.drewN_drewN _ _ _) (congrArg (World.drewN _) (Nat.add_assoc _ _ _))⟩)) | (go_at_call 90; (with_reducible refine (q4_in.calls ((rd_T101 a2 a1).f2) 0 (wrap64 ((a6.length : Int) - 1)) true _ h9.out).mono ?_); rintro e w' ⟨rfl, ⟨nd, rfl⟩⟩; (try first | exact ⟨rfl, _, World.drewN_drewN _ _ _⟩ | exact ⟨rfl, _, Eq.trans (World.drewN_drewN _ _ _) (congrArg (World.drewN _) (Nat.add_assoc _ _ _))⟩)) | (go_at_call 112; (with_reducible refine (q4_bound.calls ((rd_T101 a2 a1).f3) ((rd_T101 a2 a1).f4) true _ m8.out).mono ?_); rintro e w' ⟨rfl, ⟨nd, rfl⟩⟩; (try first | exact ⟨rfl, _, World.drewN_drewN _ _ _⟩ | exact ⟨rfl, _, Eq.trans (World.drewN_drewN _ _ _) (congrArg (World.drewN _) (Nat.add_assoc _ _ _))⟩)) | (go_at_call 112; (with_reducible refine (q4_bound.calls ((rd_T101 a2 a1).f5) ((rd_T101 a2 a1).f6) false _ n7.out).mono ?_); rintro e w' ⟨rfl, ⟨nd, rfl⟩⟩; (try first | exact ⟨rfl, _, World.drewN_drewN _ _ _⟩ | exact ⟨rfl, _, Eq.trans (World.drewN_drewN _ _ _) (congrArg (World.drewN _) (Nat.add_assoc _ _ _))⟩)))
   repeat (go_quiet (fail); try go_wp2_with (fail))
   go_ret
   exact ⟨erf, bb HB⟩
end Go.Proofs.YtfpianecohobjaaGreat.P
