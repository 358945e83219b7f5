/- StatisticOf: a part of its proof. No condition. -/
import Derived.Test.YtfpianecohobjaaVPx0
import Derived.Test.YtfpianecohobjaaVPx22
import Derived.Test.YtfpianecohobjaaVPx39
import Derived.Test.YtfpianecohobjaaVPx40
namespace Go.Proofs.Ytfpianecohobjaa.P
open Go.RowKit Go.Proofs.YtfpianecohobjaaW.PrintWords Go.Proofs.YtfpianecohobjaaW.PrintLast Go.Proofs.YtfpianecohobjaaW.PrintMore
set_option maxHeartbeats 8000000
set_option maxRecDepth 100000
set_option linter.unusedVariables false
set_option linter.unusedSimpArgs false
def statistic_Nodes.l0 : Nat → Int → Int → List (S88) → Int → Int → List (S68) → List (S71) → Option (Int × Int)
 | 0, _, _, _, _, _, _, _ => none
 | k + 1, x2, x9, d5, j6, c6, b8, b7 => if c6 < j6 then (if 0 ≤ c6 then (if c6 < (d5.length : Int) then ((types_Is.f k b8 b7 ((rd_T88 d5 c6).f0) x2).bind fun e1 => (if e1 = true then (statistic_Nodes.l0 k x2 (wrap64 (x9 + ((rd_T88 d5 c6).f3))) d5 j6 (wrap64 (c6 + 1)) b8 b7) else (statistic_Nodes.l0 k x2 x9 d5 j6 (wrap64 (c6 + 1)) b8 b7))) else (none)) else (none)) else (some (x9, 0))
def statistic_Nodes.f (k : Nat) (a7 : List (S68)) (b0 : List (S71)) (a5 : List (S88)) (b1 : List (S88)) (a2 : Int) : Option (Int × Int) := (statistic_Valid.f k a7 b0 a5 b1).bind fun b2 => (if b2 = 0 then ((statistic_is.f a2 (a7.length : Int)).bind fun c8 => (if c8 = true then (statistic_Nodes.l0 k a2 0 a5 (a5.length : Int) 0 a7 b0) else (some (0, 6)))) else (some (0, b2)))
theorem statistic_Nodes.mono_l : ∀ k, (∀ y0 y1 y2 y3 y4 y5 y6, LeO (statistic_Nodes.l0 k y0 y1 y2 y3 y4 y5 y6) (statistic_Nodes.l0 (k + 1) y0 y1 y2 y3 y4 y5 y6))
 | 0 => by (intros; intro r h; simp [statistic_Nodes.l0] at h)
 | k + 1 => by
  have ih0 := statistic_Nodes.mono_l k
  (intros; first | unfold statistic_Nodes.l0)
  all_goals with_reducible repeat' first | exact ih0 .. | exact statistic_Valid.mono .. | exact types_Is.mono .. | exact LeO.refl _ | exact LeO.none _ | refine LeO.ite ?_ ?_ | refine LeO.bind ?_ fun _ => ?_
theorem statistic_Nodes.mono : ∀ a0 a1 a2 a3 a4 k, LeO (statistic_Nodes.f k a0 a1 a2 a3 a4) (statistic_Nodes.f (k + 1) a0 a1 a2 a3 a4) := by
 intro a0 a1 a2 a3 a4 k
 have ih0 := statistic_Nodes.mono_l k
 unfold statistic_Nodes.f
 with_reducible repeat' first | exact ih0 .. | exact statistic_Valid.mono .. | exact types_Is.mono .. | exact LeO.refl _ | exact LeO.none _ | refine LeO.ite ?_ ?_ | refine LeO.bind ?_ fun _ => ?_
theorem statistic_Nodes.calls (k : Nat) (b6 : Option Addr) (b4 : Nat) (a7 : List (S68)) (b5 : Option Addr) (b3 : Nat) (b0 : List (S71)) (c9 : Option Addr) (c0 : Nat) (a5 : List (S88)) (c1 : Option Addr) (b9 : Nat) (b1 : List (S88)) (a2 : Int) (r1 : Int) (r2 : Int) (w : World) (e7 : Kd.C k68 w b6 a7.length a7) (g1 : a7.length ≤ b4) (e6 : Kd.C k71 w b5 b0.length b0) (g0 : b0.length ≤ b3) (e5 : Kd.C k88 w c9 a5.length a5) (e9 : a5.length ≤ c0) (e4 : Kd.C k88 w c1 b1.length b1) (e8 : b1.length ≤ b9) (h : statistic_Nodes.f k a7 b0 a5 b1 a2 = some (r1, r2)) :
  Calls Try.prog 36 #[.agg #[.slice b6 a7.length b4, .slice b5 b0.length b3], .agg #[.slice c9 a5.length c0, .slice c1 b1.length b9], .int .i64 a2] w fun e w' => e = .returned (.tuple #[.int .i64 r1, .int .i64 r2]) ∧ Below w.heap.size w w' := by
 have hu25 := Try.underlying25
 have hu64 := Try.underlying64
 have hu88 := Try.underlying88
 have g7 := Aside0.mk e7
 have g9 := Aside0.mk g1
 clear e7 g1
 have g6 := Aside0.mk e6
 have g8 := Aside0.mk g0
 clear e6 g0
 have g5 := Aside0.mk e5
 have m4 := Aside0.mk e9
 clear e5 e9
 have m2 := Aside0.mk e4
 have m3 := Aside0.mk e8
 clear e4 e8
 have HB := Aside0.mk (Below.refl w.heap.size w)
 have H : ((statistic_Valid.f k a7 b0 a5 b1).bind fun b2 => (if b2 = 0 then ((statistic_is.f a2 (a7.length : Int)).bind fun c8 => (if c8 = true then (statistic_Nodes.l0 k a2 0 a5 (a5.length : Int) 0 a7 b0) else (some (0, 6)))) else (some (0, b2)))) = some (r1, r2) := h
 clear h
 obtain ⟨b2, A4, H⟩ := obA H
 by_cases c5 : b2 = 0
 rw [if_pos c5] at H
 have j8 := beq_iff_eq.mpr c5
 have j7 := bne_eq_false_iff_eq.mpr c5
 clear c5
 obtain ⟨c8, A6, H⟩ := obA H
 by_cases c7 : c8 = true
 subst c7
 replace H := ift H
 have H' := Aside0.mk H
 clear H
 rotate_left
 replace c7 := Bool.eq_false_iff.mpr c7
 subst c7
 replace H := iff_ H
 simp only [Option.some.injEq, Prod.mk.injEq] at H
 obtain ⟨rfl, rfl⟩ := H
 rotate_left
 rw [if_neg c5] at H
 have j8 := beq_eq_false_iff_ne.mpr c5
 have j7 := bne_iff_ne.mpr c5
 simp only [Option.some.injEq, Prod.mk.injEq] at H
 obtain ⟨rfl, rfl⟩ := H
 all_goals
  go_enter Try.func36, Try.ntmps36
  go_wp2_with (first | ((with_reducible refine gate_dst (N := 3) rfl ?_); refine be 3 #[.slice b6 a7.length b4, .slice b5 b0.length b3] 25 ?_; intro g3 hg q6 hbox hb; have a6 := Aside0.mk (hbox); have q3 := bsz HB hg; replace HB := bstep HB hb; clear hb hbox hg) | ((with_reducible refine gate_dst (N := 4) rfl ?_); refine be 4 #[.slice c9 a5.length c0, .slice c1 b1.length b9] 64 ?_; intro g2 hg q5 hbox hb; have a9 := Aside0.mk (hbox); have q2 := bsz HB hg; replace HB := bstep HB hb; have c3 := blt a6 hg; have c2 := bgt a6 hg; replace a6 := bkb a6 hb; clear hb hbox hg; have p5 := c3.out; have p1 := c2.out; obtain ⟨j3, j2, h5, h4⟩ := cz2 a6; obtain ⟨j1, j0, h3, h2⟩ := cz2 a9) | ((with_reducible refine gate_callee (f := 57) rfl ?_); refine gl 14 Try.func57 #[.agg #[.slice b6 a7.length b4, .slice b5 b0.length b3], .agg #[.slice c9 a5.length c0, .slice c1 b1.length b9]] (h := ?_); (with_reducible refine (statistic_Valid.calls _ _ _ _ _ _ _ _ _ _ _ _ _ _ _ (cb g7 HB) g9.out (cb g6 HB) g8.out (cb g5 HB) m4.out (cb m2 HB) m3.out A4.out).mono ?_); rintro e q4 ⟨rfl, hb⟩; refine ⟨_, rfl, ?_⟩; replace a6 := bkb a6 hb; replace a9 := bkb a9 hb; replace HB := bstep HB hb; clear hb; obtain ⟨h9, h8, h1, h0⟩ := cz2 a6) | ((with_reducible refine gate_callee (f := 58) rfl ?_); refine gl 22 Try.func58 #[.int .i64 a2, .int .i64 (a7.length : Int)] (h := ?_); (with_reducible refine (statistic_is.calls _ _ _ _ A6.out).mono ?_); rintro e w' ⟨rfl, ⟨nd, rfl⟩⟩; refine ⟨_, rfl, ?_⟩; obtain ⟨j5, j4, h7, h6⟩ := cz2 a9))
 ·go_ret2
  exact ⟨erf, bb HB⟩
 ·go_loopg [9, 27] k (fun kq v9 o9 w' => ∃ (e0 : Int) (a8 : Int), v9 = .int .i64 e0 ∧ o9 = .int .i64 a8 ∧ Aside0 (statistic_Nodes.l0 kq a2 e0 a5 (a5.length : Int) a8 a7 b0 = some (r1, r2)) ∧ Aside0 (kq ≤ k) ∧ Aside0 (w'.heap[g3]? = some (.cells #[(.slice b6 a7.length b4), (.slice b5 b0.length b3)] 25 (0, 0))) ∧ Aside0 (w'.heap[g2]? = some (.cells #[(.slice c9 a5.length c0), (.slice c1 b1.length b9)] 64 (0, 0))) ∧ Aside0 (Below w.heap.size w w'))
  case atStart => exact ⟨(0), (0), eqs, eqs, H', ⟨Nat.le_refl _⟩, ⟨bk a6⟩, ⟨bk a9⟩, ⟨bb HB⟩⟩
  case round =>
   clear H'
   try clear j8 j7 c7 j3 j2 j1 j0 h9 h8 j5 j4 h5 h4 h3 h2 h1 h0 h7 h6
   obtain ⟨e0, a8, rfl, rfl, HA, m7, a6, a9, HB⟩ := hrel
   cases gk with
   | zero => exact absurd HA.out (by simp [statistic_Nodes.l0])
   | succ k1 =>
    have H := HA.out
    clear HA
    simp only [statistic_Nodes.l0] at H
    by_cases d4 : a8 < (a5.length : Int)
    rotate_left
    ·rw [if_neg d4] at H
     have m0 := decide_eq_false d4
     clear d4
     simp only [Option.some.injEq, Prod.mk.injEq] at H
     obtain ⟨rfl, rfl⟩ := H
     go_wp2
     go_ret2
     exact ⟨erf, bb HB⟩
    rw [if_pos d4] at H
    have m0 := decide_eq_true d4
    clear d4
    obtain ⟨m6, H⟩ := itn H
    have q0 := decide_eq_true m6
    clear m6
    obtain ⟨m5, H⟩ := itn H
    have p9 := decide_eq_true m5
    clear m5
    obtain ⟨e1, p0, H⟩ := obA H
    by_cases g4 : e1 = true
    subst g4
    replace H := ift H
    have H' := Aside0.mk H
    clear H
    rotate_left
    replace g4 := Bool.eq_false_iff.mpr g4
    subst g4
    replace H := iff_ H
    have H' := Aside0.mk H
    clear H
    all_goals
     have e3 : 0 ≤ a8 := odt
     have e2 : a8 < (a5.length : Int) := odt
     obtain ⟨m1, m8, d3, d2, d1, d0⟩ := at_T88 g5.out a8 e3 e2
     cases m8
     replace d3 := hxc HB d3
     replace d2 := hxc HB d2
     replace d1 := hxc HB d1
     replace d0 := hxc HB d0
     replace e3 := eq_true e3
     replace e2 := eq_true e2
     go_wp2_with (first | ((with_reducible refine gate_dst (N := 11) rfl ?_); refine be 11 #[.int .i64 0, .int .i64 0, .int .i64 0, .int .i64 0] 88 ?_; intro j9 hg q8 hbox hb; have c4 := Aside0.mk (hbox); have q1 := bsz HB hg; replace HB := bstep HB hb; have d9 := blt a6 hg; have d7 := bgt a6 hg; replace a6 := bkb a6 hb; have d8 := blt a9 hg; have d6 := bgt a9 hg; replace a9 := bkb a9 hb; clear hb hbox hg; have p8 := d7.out; have p4 := d9.out; have p7 := d6.out; have p3 := d8.out; obtain ⟨o8, o7, o6, o5, n8, n7, n6, n5⟩ := cz4 c4; have p6 := c3.out; have p2 := c2.out; obtain ⟨o4, o3, n4, n3⟩ := cz2 a6) | ((with_reducible refine gate_callee (f := 20) rfl ?_); refine gl 35 Try.func20 #[.agg #[.slice b6 a7.length b4, .slice b5 b0.length b3], .int .i64 ((rd_T88 a5 a8).f0), .int .i64 a2] (h := ?_); (with_reducible refine (types_Is.calls _ _ _ _ _ _ _ _ _ _ _ (Kd.C_below g7.out (bb HB)) g9.out (Kd.C_below g6.out (bb HB)) g8.out p0.out).mono ?_); rintro e q7 ⟨rfl, hb⟩; refine ⟨_, rfl, ?_⟩; replace a6 := Aside0.mk (blk_below (g := g3) (o := .cells #[.slice b6 a7.length b4, .slice b5 b0.length b3] 25 (0, 0)) (bkF a6) hb); replace a9 := Aside0.mk (blk_below (g := g2) (o := .cells #[.slice (some m1) a5.length c0, .slice c1 b1.length b9] 64 (0, 0)) (bkF a9) hb); replace c4 := Aside0.mk (blk_below (g := j9) (o := .cells #[.int .i64 ((rd_T88 a5 a8).f0), .int .i64 ((rd_T88 a5 a8).f1), .int .i64 ((rd_T88 a5 a8).f2), .int .i64 ((rd_T88 a5 a8).f3)] 88 (0, 0)) (bkP c4) hb); replace HB := bstep HB hb; clear hb; obtain ⟨o2, o1, o0, n9, n2, n1, n0, m9⟩ := cz4 c4))
     go_roundg k1
     case measure => have := m7.out; omega
     case rel => exact ⟨_, (wrap64 (a8 + 1)), eqs, eqs, H', ⟨by have := m7.out; omega⟩, ⟨bk a6⟩, ⟨bk a9⟩, ⟨bb HB⟩⟩
 ·go_ret2
  exact ⟨erf, bb HB⟩
end Go.Proofs.Ytfpianecohobjaa.P
