/- StatisticOf: a part of its proof. No condition. -/
import Derived.Test.YtfpianecohobjaaVPx0
import Derived.Test.YtfpianecohobjaaVPx5
import Derived.Test.YtfpianecohobjaaVPx6
import Derived.Test.YtfpianecohobjaaVH0
namespace Go.Proofs.Ytfpianecohobjaa.P
open Go.RowKit Go.Proofs.YtfpianecohobjaaW.PrintWords Go.Proofs.YtfpianecohobjaaW.PrintLast Go.Proofs.YtfpianecohobjaaW.PrintMore
set_option maxHeartbeats 8000000
set_option maxRecDepth 100000
set_option linter.unusedVariables false
set_option linter.unusedSimpArgs false
mutual
def types_Valid.l0 : Nat → List (S68) → Int → Int → List (S68) → List (S71) → Option (ByteArray × Int)
 | 0, _, _, _, _, _ => none
 | k + 1, j7, n5, d8, b4, b2 => if d8 < n5 then (if 0 ≤ d8 then (if d8 < (j7.length : Int) then ((types_node.f k b4 b2 d8).bind fun g9 => (if g9 = 0 then (types_Valid.l0 k j7 n5 (wrap64 (d8 + 1)) b4 b2) else (some ((rd_T68 j7 d8).f0, g9)))) else (none)) else (none)) else (types_Valid.l1 k b2 (b2.length : Int) 0 b4 b2)
def types_Valid.l1 : Nat → List (S71) → Int → Int → List (S68) → List (S71) → Option (ByteArray × Int)
 | 0, _, _, _, _, _ => none
 | k + 1, j6, n4, d7, b4, b2 => if d7 < n4 then (if 0 ≤ d7 then (if d7 < (j6.length : Int) then ((types_edge.f k b4 b2 d7).bind fun g8 => (if g8 = 0 then (types_Valid.l1 k j6 n4 (wrap64 (d7 + 1)) b4 b2) else (some ((rd_T71 j6 d7).f0, g8)))) else (none)) else (none)) else (some ((⟨#[]⟩ : ByteArray), 0))
end
def types_Valid.f (k : Nat) (a3 : List (S68)) (a4 : List (S71)) : Option (ByteArray × Int) := if (a3.length : Int) = 0 then (some ((⟨#[]⟩ : ByteArray), 7)) else (if (a3.length : Int) > 12 then (some ((⟨#[]⟩ : ByteArray), 3)) else (if (a4.length : Int) > 20 then (some ((⟨#[]⟩ : ByteArray), 3)) else (types_Valid.l0 k a3 (a3.length : Int) 0 a3 a4)))
theorem types_Valid.mono_l : ∀ k, (∀ y0 y1 y2 y3 y4, LeO (types_Valid.l0 k y0 y1 y2 y3 y4) (types_Valid.l0 (k + 1) y0 y1 y2 y3 y4)) ∧ (∀ y0 y1 y2 y3 y4, LeO (types_Valid.l1 k y0 y1 y2 y3 y4) (types_Valid.l1 (k + 1) y0 y1 y2 y3 y4))
 | 0 => by refine ⟨?_, ?_⟩ <;> (intros; intro r h; simp [types_Valid.l0, types_Valid.l1] at h)
 | k + 1 => by
  obtain ⟨ih0, ih1⟩ := types_Valid.mono_l k
  refine ⟨?_, ?_⟩ <;> (intros; first | unfold types_Valid.l0 | unfold types_Valid.l1)
  all_goals with_reducible repeat' first | exact ih0 .. | exact ih1 .. | exact types_edge.mono .. | exact types_node.mono .. | exact LeO.refl _ | exact LeO.none _ | refine LeO.ite ?_ ?_ | refine LeO.bind ?_ fun _ => ?_
theorem types_Valid.mono : ∀ a0 a1 k, LeO (types_Valid.f k a0 a1) (types_Valid.f (k + 1) a0 a1) := by
 intro a0 a1 k
 obtain ⟨ih0, ih1⟩ := types_Valid.mono_l k
 unfold types_Valid.f
 with_reducible repeat' first | exact ih0 .. | exact ih1 .. | exact types_edge.mono .. | exact types_node.mono .. | exact LeO.refl _ | exact LeO.none _ | refine LeO.ite ?_ ?_ | refine LeO.bind ?_ fun _ => ?_
theorem types_Valid.calls (k : Nat) (b1 : Option Addr) (a8 : Nat) (a3 : List (S68)) (b0 : Option Addr) (a7 : Nat) (a4 : List (S71)) (r1 : ByteArray) (r2 : Int) (w : World) (b8 : Kd.C k68 w b1 a3.length a3) (c0 : a3.length ≤ a8) (b7 : Kd.C k71 w b0 a4.length a4) (b9 : a4.length ≤ a7) (h : types_Valid.f k a3 a4 = some (r1, r2)) :
  Calls Try.prog 14 #[.agg #[.slice b1 a3.length a8, .slice b0 a4.length a7]] w fun e w' => e = .returned (.tuple #[.string r1, .int .i64 r2]) ∧ Below w.heap.size w w' := by
 have hu25 := Try.underlying25
 have hu68 := Try.underlying68
 have hu71 := Try.underlying71
 have b6 := Aside0.mk b8
 have d0 := Aside0.mk c0
 clear b8 c0
 have b5 := Aside0.mk b7
 have c9 := Aside0.mk b9
 clear b7 b9
 have HB := Aside0.mk (Below.refl w.heap.size w)
 have H : (if (a3.length : Int) = 0 then (some ((⟨#[]⟩ : ByteArray), 7)) else (if (a3.length : Int) > 12 then (some ((⟨#[]⟩ : ByteArray), 3)) else (if (a4.length : Int) > 20 then (some ((⟨#[]⟩ : ByteArray), 3)) else (types_Valid.l0 k a3 (a3.length : Int) 0 a3 a4)))) = some (r1, r2) := h
 clear h
 by_cases c2 : (a3.length : Int) = 0
 rw [if_pos c2] at H
 have m3 := beq_iff_eq.mpr c2
 have m2 := bne_eq_false_iff_eq.mpr c2
 clear c2
 simp only [Option.some.injEq, Prod.mk.injEq] at H
 obtain ⟨rfl, rfl⟩ := H
 rotate_left
 rw [if_neg c2] at H
 have m3 := beq_eq_false_iff_ne.mpr c2
 have m2 := bne_iff_ne.mpr c2
 have p0 : ¬ (a3 = []) := fun h_ => c2 (by rw [h_]; rfl)
 by_cases c5 : (a3.length : Int) > 12
 rw [if_pos c5] at H
 have m1 : decide (12 < (a3.length : Int)) = true := decide_eq_true c5
 have m0 : decide (12 < a3.length) = true := decide_eq_true (by omega)
 clear c5
 simp only [Option.some.injEq, Prod.mk.injEq] at H
 obtain ⟨rfl, rfl⟩ := H
 rotate_left
 rw [if_neg c5] at H
 have m1 : decide (12 < (a3.length : Int)) = false := decide_eq_false c5
 have m0 : decide (12 < a3.length) = false := decide_eq_false (by omega)
 clear c5
 by_cases c8 : (a4.length : Int) > 20
 rw [if_pos c8] at H
 have j9 : decide (20 < (a4.length : Int)) = true := decide_eq_true c8
 have j8 : decide (20 < a4.length) = true := decide_eq_true (by omega)
 clear c8
 simp only [Option.some.injEq, Prod.mk.injEq] at H
 obtain ⟨rfl, rfl⟩ := H
 rotate_left
 rw [if_neg c8] at H
 have j9 : decide (20 < (a4.length : Int)) = false := decide_eq_false c8
 have j8 : decide (20 < a4.length) = false := decide_eq_false (by omega)
 clear c8
 have H' := Aside0.mk H
 clear H
 all_goals
  go_enter Try.func14, Try.ntmps14
  go_wp2_with (first | ((with_reducible refine gate_dst (N := 1) rfl ?_); (try (refine gate_guard (by rfl) ?_; dsimp only)); refine be 1 #[.slice b1 a3.length a8, .slice b0 a4.length a7] 25 ?_; intro d1 hg w1 hbox hb; have a5 := Aside0.mk (hbox); have x6 := bsz HB hg; replace HB := bstep HB hb; clear hb hbox hg; obtain ⟨g5, g4, g3, g2⟩ := cz2 a5))
 ·go_loopg [29] k (fun kq w3 w' => ∃ (a9 : Int), w3 = .int .i64 a9 ∧ Aside0 (types_Valid.l0 kq a3 (a3.length : Int) a9 a3 a4 = some (r1, r2)) ∧ Aside0 (kq ≤ k) ∧ Aside0 (w'.heap[d1]? = some (.cells #[(.slice b1 a3.length a8), (.slice b0 a4.length a7)] 25 (0, 0))) ∧ Aside0 (Below w.heap.size w w'))
  case atStart => exact ⟨(0), eqs, H', ⟨Nat.le_refl _⟩, ⟨bk a5⟩, ⟨bb HB⟩⟩
  case round =>
   clear H'
   try clear m3 m2 p0 m1 m0 j9 j8 g5 g4 g3 g2
   obtain ⟨a9, rfl, HA, j1, a5, HB⟩ := hrel
   cases gk with
   | zero => exact absurd HA.out (by simp [types_Valid.l0])
   | succ k1 =>
    have H := HA.out
    clear HA
    simp only [types_Valid.l0] at H
    by_cases g7 : a9 < (a3.length : Int)
    ·rw [if_pos g7] at H
     have h8 := decide_eq_true g7
     clear g7
     obtain ⟨o1, H⟩ := itn H
     have x3 := decide_eq_true o1
     clear o1
     obtain ⟨o0, H⟩ := itn H
     have x2 := decide_eq_true o0
     clear o0
     obtain ⟨g9, w5, H⟩ := obA H
     by_cases d6 : g9 = 0
     rw [if_pos d6] at H
     have n2 := beq_iff_eq.mpr d6
     have n1 := bne_eq_false_iff_eq.mpr d6
     clear d6
     have H' := Aside0.mk H
     clear H
     rotate_left
     rw [if_neg d6] at H
     have n2 := beq_eq_false_iff_ne.mpr d6
     have n1 := bne_iff_ne.mpr d6
     simp only [Option.some.injEq, Prod.mk.injEq] at H
     obtain ⟨rfl, rfl⟩ := H
     all_goals
      have h7 : 0 ≤ a9 := odt
      have h5 : a9 < (a3.length : Int) := odt
      obtain ⟨j0, m5, m4, o7, e9, e8, e7, e6, g0, g1⟩ := at_T68 b6.out a9 h7 h5
      cases o7
      replace e9 := hxc HB e9
      replace e8 := hxc HB e8
      replace e7 := hxc HB e7
      replace e6 := hxc HB e6
      have v9 := Aside0.mk g1
      have w0 := Aside0.mk g0
      clear g1 g0
      replace h7 := eq_true h7
      replace h5 := eq_true h5
      go_wp2_with (first | ((with_reducible refine gate_dst (N := 5) rfl ?_); (try (refine gate_guard (by rfl) ?_; dsimp only)); refine be 5 #[.string (⟨#[]⟩ : ByteArray), .int .i64 0, .bool false, .slice none 0 0] 68 ?_; intro m7 hg y6 hbox hb; have d3 := Aside0.mk (hbox); have x5 := bsz HB hg; replace HB := bstep HB hb; have h3 := blt a5 hg; have h1 := bgt a5 hg; replace a5 := bkb a5 hb; clear hb hbox hg; have w9 := h1.out; have w7 := h3.out; obtain ⟨v6, v5, v4, v3, r8, r7, r6, r5⟩ := cz4 d3; obtain ⟨v2, v1, r4, r3⟩ := cz2 a5) | ((with_reducible refine gate_callee (f := 39) rfl ?_); refine gl 36 Try.func39 #[.agg #[.slice (some j0) a3.length a8, .slice b0 a4.length a7], .int .i64 a9] (h := ?_); (with_reducible refine (types_node.calls _ _ _ _ _ _ _ _ _ _ (Kd.C_below b6.out (bb HB)) d0.out (Kd.C_below b5.out (bb HB)) c9.out w5.out).mono ?_); rintro e y5 ⟨rfl, hb⟩; refine ⟨_, rfl, ?_⟩; replace a5 := Aside0.mk (blk_below (g := d1) (o := .cells #[.slice (some j0) a3.length a8, .slice b0 a4.length a7] 25 (0, 0)) (bkF a5) hb); replace d3 := Aside0.mk (blk_below (g := m7) (o := .cells #[.string ((rd_T68 a3 a9).f0), .int .i64 ((rd_T68 a3 a9).f1), .bool ((rd_T68 a3 a9).f2), .slice m5 ((rd_T68 a3 a9).f3).length m4] 68 (0, 0)) (bkP d3) hb); replace HB := bstep HB hb; clear hb; obtain ⟨v0, t9, t8, t7, r0, q9, q8, q7⟩ := cz4 d3))
     ·go_ret2
      exact ⟨erf, bb HB⟩
     ·go_roundg k1
      case measure => have := j1.out; omega
      case rel => exact ⟨(wrap64 (a9 + 1)), eqs, H', ⟨by have := j1.out; omega⟩, ⟨bk a5⟩, ⟨bb HB⟩⟩
    rw [if_neg g7] at H
    have h8 := decide_eq_false g7
    clear g7
    have H' := Aside0.mk H
    clear H
    obtain ⟨j5, j4, j3, j2⟩ := cz2 a5
    go_wp2
    go_loopg [46] k1 (fun kq w2 w' => ∃ (a6 : Int), w2 = .int .i64 a6 ∧ Aside0 (types_Valid.l1 kq a4 (a4.length : Int) a6 a3 a4 = some (r1, r2)) ∧ Aside0 (kq ≤ k1) ∧ Aside0 (w'.heap[d1]? = some (.cells #[(.slice b1 a3.length a8), (.slice b0 a4.length a7)] 25 (0, 0))) ∧ Aside0 (Below w.heap.size w w'))
    case atStart => exact ⟨(0), eqs, H', ⟨Nat.le_refl _⟩, ⟨bk a5⟩, ⟨bb HB⟩⟩
    case round =>
     clear H'
     try clear h8 j5 j4 j3 j2
     obtain ⟨a6, rfl, HA, o3, a5, HB⟩ := hrel
     cases gk with
     | zero => exact absurd HA.out (by simp [types_Valid.l1])
     | succ k2 =>
      have H := HA.out
      clear HA
      simp only [types_Valid.l1] at H
      by_cases g6 : a6 < (a4.length : Int)
      rotate_left
      ·rw [if_neg g6] at H
       have n0 := decide_eq_false g6
       clear g6
       simp only [Option.some.injEq, Prod.mk.injEq] at H
       obtain ⟨rfl, rfl⟩ := H
       go_wp2
       go_ret2
       exact ⟨erf, bb HB⟩
      rw [if_pos g6] at H
      have n0 := decide_eq_true g6
      clear g6
      obtain ⟨n9, H⟩ := itn H
      have x1 := decide_eq_true n9
      clear n9
      obtain ⟨n8, H⟩ := itn H
      have x0 := decide_eq_true n8
      clear n8
      obtain ⟨g8, w4, H⟩ := obA H
      by_cases d5 : g8 = 0
      rw [if_pos d5] at H
      have m9 := beq_iff_eq.mpr d5
      have m8 := bne_eq_false_iff_eq.mpr d5
      clear d5
      have H' := Aside0.mk H
      clear H
      rotate_left
      rw [if_neg d5] at H
      have m9 := beq_eq_false_iff_ne.mpr d5
      have m8 := bne_iff_ne.mpr d5
      simp only [Option.some.injEq, Prod.mk.injEq] at H
      obtain ⟨rfl, rfl⟩ := H
      all_goals
       have h6 : 0 ≤ a6 := odt
       have h4 : a6 < (a4.length : Int) := odt
       obtain ⟨h9, o6, e5, e4, e3, e2, e1, e0, d9⟩ := at_T71 b5.out a6 h6 h4
       cases o6
       replace e5 := hxc HB e5
       replace e4 := hxc HB e4
       replace e3 := hxc HB e3
       replace e2 := hxc HB e2
       replace e1 := hxc HB e1
       replace e0 := hxc HB e0
       replace d9 := hxc HB d9
       replace h6 := eq_true h6
       replace h4 := eq_true h4
       go_wp2_with (first | ((with_reducible refine gate_dst (N := 8) rfl ?_); (try (refine gate_guard (by rfl) ?_; dsimp only)); refine be 8 #[.string (⟨#[]⟩ : ByteArray), .int .i64 0, .int .i64 0, .int .i64 0, .int .i64 0, .int .i64 0, .int .i64 0] 71 ?_; intro m6 hg x9 hbox hb; have d2 := Aside0.mk (hbox); have x4 := bsz HB hg; replace HB := bstep HB hb; have h2 := blt a5 hg; have h0 := bgt a5 hg; replace a5 := bkb a5 hb; clear hb hbox hg; have w8 := h0.out; have w6 := h2.out; obtain ⟨t6, t5, t4, t3, t2, t1, t0, q6, q5, q4, q3, q2, q1, q0⟩ := cz7 d2; obtain ⟨s9, s8, p9, p8⟩ := cz2 a5) | ((with_reducible refine gate_callee (f := 40) rfl ?_); refine gl 53 Try.func40 #[.agg #[.slice b1 a3.length a8, .slice (some h9) a4.length a7], .int .i64 a6] (h := ?_); (with_reducible refine (types_edge.calls _ _ _ _ _ _ _ _ _ _ (Kd.C_below b6.out (bb HB)) d0.out (Kd.C_below b5.out (bb HB)) c9.out w4.out).mono ?_); rintro e x8 ⟨rfl, hb⟩; refine ⟨_, rfl, ?_⟩; replace a5 := Aside0.mk (blk_below (g := d1) (o := .cells #[.slice b1 a3.length a8, .slice (some h9) a4.length a7] 25 (0, 0)) (bkF a5) hb); replace d2 := Aside0.mk (blk_below (g := m6) (o := .cells #[.string ((rd_T71 a4 a6).f0), .int .i64 ((rd_T71 a4 a6).f1), .int .i64 ((rd_T71 a4 a6).f2), .int .i64 ((rd_T71 a4 a6).f3), .int .i64 ((rd_T71 a4 a6).f4), .int .i64 ((rd_T71 a4 a6).f5), .int .i64 ((rd_T71 a4 a6).f6)] 71 (0, 0)) (bkP d2) hb); replace HB := bstep HB hb; clear hb; obtain ⟨s7, s6, s5, s4, s3, s2, s1, p7, p6, p5, p4, p3, p2, p1⟩ := cz7 d2))
      ·go_ret2
       exact ⟨erf, bb HB⟩
      ·go_roundg k2
       case measure => have := j1.out; have := o3.out; omega
       case rel => exact ⟨(wrap64 (a6 + 1)), eqs, H', ⟨by have := j1.out; have := o3.out; omega⟩, ⟨bk a5⟩, ⟨bb HB⟩⟩
 iterate 3
  ·go_ret2
   exact ⟨erf, bb HB⟩
def types_given.f (k : Nat) (a3 : List (S68)) (a4 : List (S71)) (l1 : List Int) : Option (Int) := (types_Valid.f k a3 a4).bind fun c7 => (if c7.2 = 0 then ((any_given.f l1 a3).bind fun d4 => (if d4 = true then (some 6) else (some 0))) else (some c7.2))
theorem types_given.mono : ∀ a0 a1 a2 k, LeO (types_given.f k a0 a1 a2) (types_given.f (k + 1) a0 a1 a2) := by
 intro a0 a1 a2 k
 unfold types_given.f
 with_reducible repeat' first | exact types_Valid.mono .. | exact LeO.refl _ | exact LeO.none _ | refine LeO.ite ?_ ?_ | refine LeO.bind ?_ fun _ => ?_
theorem types_given.calls (k : Nat) (b1 : Option Addr) (a8 : Nat) (a3 : List (S68)) (b0 : Option Addr) (a7 : Nat) (a4 : List (S71)) (A1 : Option Addr) (c1 : Nat) (l1 : List Int) (r : Int) (w : World) (b8 : Kd.C k68 w b1 a3.length a3) (c0 : a3.length ≤ a8) (b7 : Kd.C k71 w b0 a4.length a4) (b9 : a4.length ≤ a7) (n6 : Kd.C (Kd.int .i64) w A1 l1.length l1) (n7 : l1.length ≤ c1) (h : types_given.f k a3 a4 l1 = some r) :
  Calls Try.prog 43 #[.agg #[.slice b1 a3.length a8, .slice b0 a4.length a7], .slice A1 l1.length c1] w fun e w' => e = .returned (.int .i64 r) ∧ Below w.heap.size w w' := by
 have hu25 := Try.underlying25
 have b6 := Aside0.mk b8
 have d0 := Aside0.mk c0
 clear b8 c0
 have b5 := Aside0.mk b7
 have c9 := Aside0.mk b9
 clear b7 b9
 have o2 := Aside0.mk n6
 have o4 := Aside0.mk n7
 clear n6 n7
 have HB := Aside0.mk (Below.refl w.heap.size w)
 have H : ((types_Valid.f k a3 a4).bind fun c7 => (if c7.2 = 0 then ((any_given.f l1 a3).bind fun d4 => (if d4 = true then (some 6) else (some 0))) else (some c7.2))) = some r := h
 clear h
 obtain ⟨⟨x7, o5⟩, A3, H⟩ := obA H
 try dsimp only at H
 by_cases c4 : o5 = 0
 rw [if_pos c4] at H
 have o9 := beq_iff_eq.mpr c4
 have o8 := bne_eq_false_iff_eq.mpr c4
 clear c4
 obtain ⟨d4, A5, H⟩ := obA H
 by_cases c6 : d4 = true
 rotate_left
 ·replace c6 := Bool.eq_false_iff.mpr c6
  subst c6
  replace H := iff_ H
  obtain rfl := Option.some.inj H
  go_enter Try.func43, Try.ntmps43
  go_wp2_with (first | ((with_reducible refine gate_dst (N := 2) rfl ?_); refine be 2 #[.slice b1 a3.length a8, .slice b0 a4.length a7] 25 ?_; intro c3 hg w1 hbox hb; have b3 := Aside0.mk (hbox); have n3 := bsz HB hg; replace HB := bstep HB hb; clear hb hbox hg; obtain ⟨g5, g4, g3, g2⟩ := cz2 b3) | ((with_reducible refine gate_callee (f := 14) rfl ?_); refine gl 9 Try.func14 #[.agg #[.slice b1 a3.length a8, .slice b0 a4.length a7]] (h := ?_); (with_reducible refine (types_Valid.calls _ _ _ _ _ _ _ _ _ _ (cb b6 HB) d0.out (cb b5 HB) c9.out A3.out).mono ?_); rintro e A0 ⟨rfl, hb⟩; refine ⟨_, rfl, ?_⟩; replace b3 := bkb b3 hb; replace HB := bstep HB hb; clear hb) | ((with_reducible refine gate_callee (f := 70) rfl ?_); refine gl 17 Try.func70 #[.slice A1 l1.length c1, .func (.func 71) #[] #[.pointer (some ⟨c3, 0, none⟩)]] (h := ?_); (with_reducible refine (any_given.calls _ _ l1 c3 b1 a8 a3 (.slice b0 a4.length a7) false _ (cb o2 HB) o4.out (bk b3) A5.out).mono ?_); rintro e y9 ⟨rfl, hb⟩; refine ⟨_, rfl, ?_⟩; replace HB := bstep HB hb; clear hb))
  go_ret
  exact ⟨erf, bb HB⟩
 rotate_left
 subst c6
 replace H := ift H
 obtain rfl := Option.some.inj H
 rotate_left
 rw [if_neg c4] at H
 have o9 := beq_eq_false_iff_ne.mpr c4
 have o8 := bne_iff_ne.mpr c4
 obtain rfl := Option.some.inj H
 all_goals
  go_enter Try.func43, Try.ntmps43
  go_wp2_with (first | ((with_reducible refine gate_dst (N := 2) rfl ?_); refine be 2 #[.slice b1 a3.length a8, .slice b0 a4.length a7] 25 ?_; intro c3 hg y8 hbox hb; have b3 := Aside0.mk (hbox); have n3 := bsz HB hg; replace HB := bstep HB hb; clear hb hbox hg; obtain ⟨v8, v7, s0, r9⟩ := cz2 b3) | ((with_reducible refine gate_callee (f := 14) rfl ?_); refine gl 9 Try.func14 #[.agg #[.slice b1 a3.length a8, .slice b0 a4.length a7]] (h := ?_); (with_reducible refine (types_Valid.calls _ _ _ _ _ _ _ _ _ _ (cb b6 HB) d0.out (cb b5 HB) c9.out A3.out).mono ?_); rintro e y7 ⟨rfl, hb⟩; refine ⟨_, rfl, ?_⟩; replace b3 := bkb b3 hb; replace HB := bstep HB hb; clear hb) | ((with_reducible refine gate_callee (f := 70) rfl ?_); refine gl 17 Try.func70 #[.slice A1 l1.length c1, .func (.func 71) #[] #[.pointer (some ⟨c3, 0, none⟩)]] (h := ?_); (with_reducible refine (any_given.calls _ _ l1 c3 b1 a8 a3 (.slice b0 a4.length a7) true _ (cb o2 HB) o4.out (bk b3) A5.out).mono ?_); rintro e A2 ⟨rfl, hb⟩; refine ⟨_, rfl, ?_⟩; replace b3 := bkb b3 hb; replace HB := bstep HB hb; clear hb))
  go_ret
  exact ⟨erf, bb HB⟩
end Go.Proofs.Ytfpianecohobjaa.P
