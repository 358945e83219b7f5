/- StatisticOf: a part of its proof. No condition. -/
import Derived.Test.YtfpianecohobjaaGreatOPx0
import Derived.Test.YtfpianecohobjaaGreatOMa
import Derived.Test.YtfpianecohobjaaGreatOMk
import Derived.Test.YtfpianecohobjaaGreatOMg
namespace Go.Proofs.YtfpianecohobjaaGreat.P
open Go.RowKit Go.Proofs.YtfpianecohobjaaGreatW.PrintWords Go.Proofs.YtfpianecohobjaaGreatW.PrintLast Go.Proofs.YtfpianecohobjaaGreatW.PrintMore
set_option maxHeartbeats 8000000
set_option maxRecDepth 100000
set_option linter.unusedVariables false
set_option linter.unusedSimpArgs false
def types_Is.f (k : Nat) (a5 : List (S96)) (a6 : List (S101)) (a1 : Int) (a2 : Int) : Option (Bool) := (types_given.f k a5 a6 (([a1, a2] : List Int))).bind fun b9 => (if b9 = 0 then ((types_is.f k a5 a6 a1 a2).bind fun d3 => (some d3)) else (some false))
theorem types_Is.mono : ∀ a0 a1 a2 a3 k, LeO (types_Is.f k a0 a1 a2 a3) (types_Is.f (k + 1) a0 a1 a2 a3) := by
 intro a0 a1 a2 a3 k
 unfold types_Is.f
 with_reducible repeat' first | exact types_given.mono .. | exact types_is.mono .. | exact LeO.refl _ | exact LeO.none _ | refine LeO.ite ?_ ?_ | refine LeO.bind ?_ fun _ => ?_
theorem types_Is.calls (k : Nat) (b5 : Option Addr) (b3 : Nat) (a5 : List (S96)) (b4 : Option Addr) (b2 : Nat) (a6 : List (S101)) (a1 : Int) (a2 : Int) (r : Bool) (w : World) (c2 : Kd.C k96 w b5 a5.length a5) (c4 : a5.length ≤ b3) (c1 : Kd.C k101 w b4 a6.length a6) (c3 : a6.length ≤ b2) (h : types_Is.f k a5 a6 a1 a2 = some r) :
  Calls Tryz.prog 59 #[.agg #[.slice b5 a5.length b3, .slice b4 a6.length b2], .int .i64 a1, .int .i64 a2] w fun e w' => e = .returned (.bool r) ∧ Below w.heap.size w w' := by
 have hu31 := Tryz.underlying31
 have c8 := Aside0.mk c2
 have d0 := Aside0.mk c4
 clear c2 c4
 have c6 := Aside0.mk c1
 have c9 := Aside0.mk c3
 clear c1 c3
 have HB := Aside0.mk (Below.refl w.heap.size w)
 have H : ((types_given.f k a5 a6 (([a1, a2] : List Int))).bind fun b9 => (if b9 = 0 then ((types_is.f k a5 a6 a1 a2).bind fun d3 => (some d3)) else (some false))) = some r := h
 clear h
 obtain ⟨m5, c0⟩ : ∃ y_ : List Int, y_ = (([a1, a2] : List Int)) := ⟨_, rfl⟩
 replace H : ((types_given.f k a5 a6 m5).bind fun b9 => (if b9 = 0 then ((types_is.f k a5 a6 a1 a2).bind fun d3 => (some d3)) else (some false))) = some r := by first | (rw [c0]; with_reducible exact H) | (have H2_ := (Option.bind_some _ _).symm.trans H; rw [c0]; with_reducible exact H2_) | (have H2_ := (Option.bind_some _ _).symm.trans H; with_reducible exact H2_) | with_reducible exact H | (rw [c0]; exact H) | exact H
 have h7 := Aside0.mk c0
 clear c0
 obtain ⟨b9, A4, H⟩ := obA H
 by_cases c5 : b9 = 0
 rw [if_pos c5] at H
 have g0 := beq_iff_eq.mpr c5
 have e9 := bne_eq_false_iff_eq.mpr c5
 clear c5
 obtain ⟨d3, A6, H⟩ := obA H
 obtain rfl := Option.some.inj H
 rotate_left
 rw [if_neg c5] at H
 have g0 := beq_eq_false_iff_ne.mpr c5
 have e9 := bne_iff_ne.mpr c5
 obtain rfl := Option.some.inj H
 all_goals
  go_enter Tryz.func59, Tryz.ntmps59
  go_wp2_with (first | ((with_reducible refine gate_dst (N := 3) rfl ?_); refine be 3 #[.slice b5 a5.length b3, .slice b4 a6.length b2] 31 ?_; intro s1 hg t6 hbox hb; have b6 := Aside0.mk (hbox); have s7 := bsz HB hg; replace HB := bstep HB hb; clear hb hbox hg; obtain ⟨q6, q5, p2, p1⟩ := cz2 b6) | ((with_reducible refine gate_dst (N := 10) rfl ?_); refine Kd.R_lit (Kd.int .i64) _ 3 ?hg (N := 10) ?hd (xs := ([a1, a2] : List Int)) (inner := [.int .i64 a1, .int .i64 a2]) (ok := fun _ => True) (okp := fun _ => True) ?hr ?hp (fun _ hk => hk) trivial (Below.refl _ _) (Nat.le_refl _) (by simp) ?_; (case hd => rfl); (case hg => rfl); (case hr => first | (go_simp; done) | (go_simp; rfl)); (case hp => exact (Reps.one (show Kd.M (Kd.int .i64) _ _ _ a1 [.int .i64 a1] from rfl) (Reps.one (show Kd.M (Kd.int .i64) _ _ _ a2 [.int .i64 a2] from rfl) (Reps.none _ _)))); intro s8 t5 e2 hb hg_ hnew_; clear hg_ hnew_; (first | rw [← h7.out] at e2 | (simp only [Int.reduceToNat] at e2; rw [← h7.out] at e2)); have b7 := Aside0.mk (Kd.R_lower e2 (below_size (bb HB))); replace b6 := bkb b6 hb; replace HB := bstep HB hb; clear hb e2; obtain ⟨o0, n9, eo19⟩ := Kd.R_slice b7.out; subst eo19) | ((with_reducible refine gate_callee (f := 79) rfl ?_); refine gl 11 Tryz.func79 #[.agg #[.slice b5 a5.length b3, .slice b4 a6.length b2], .slice o0 m5.length n9] (h := ?_); (with_reducible refine (types_given.calls _ _ _ _ _ _ _ _ _ _ _ _ (cb c8 HB) d0.out (cb c6 HB) c9.out ?m8 ?m7 A4.out).mono ?_); (case m8 => repeat (first | exact (Kd.R_reads' b7.out).2.2 | (with_reducible refine Kd.C_alloc ?_ _) | (with_reducible refine Kd.C_drewN ?_ _) | (with_reducible refine Kd.C_drew ?_))); (case m7 => exact (Kd.R_reads' b7.out).2.1); rintro e t4 ⟨rfl, hb⟩; refine ⟨_, rfl, ?_⟩; replace b7 := kRb b7 hb; replace b6 := bkb b6 hb; replace HB := bstep HB hb; clear hb; obtain ⟨q8, q7, p4, p3⟩ := cz2 b6) | (go_at_call 80; (with_reducible refine (types_is.calls _ _ _ _ _ _ _ _ _ _ _ (cb c8 HB) d0.out (cb c6 HB) c9.out A6.out).mono ?_); rintro e t7 ⟨rfl, hb⟩; replace b7 := kRb b7 hb; replace b6 := bkb b6 hb; replace HB := bstep HB hb; clear hb))
  go_ret
  exact ⟨erf, bb HB⟩
def statistic_Nodes.l0 : Nat → Int → Int → List (S75) → Int → Int → List (S96) → List (S101) → Option (Int × Int)
 | 0, _, _, _, _, _, _, _ => none
 | k + 1, x2, x9, g1, m6, e0, d2, d1 => if e0 < m6 then (if 0 ≤ e0 then (if e0 < (g1.length : Int) then ((types_Is.f k d2 d1 ((rd_T75 g1 e0).f0) x2).bind fun g7 => (if g7 = true then (statistic_Nodes.l0 k x2 (wrap64 (x9 + ((rd_T75 g1 e0).f3))) g1 m6 (wrap64 (e0 + 1)) d2 d1) else (statistic_Nodes.l0 k x2 x9 g1 m6 (wrap64 (e0 + 1)) d2 d1))) else (none)) else (none)) else (some (x9, 0))
def statistic_Nodes.f (k : Nat) (a5 : List (S96)) (a6 : List (S101)) (a7 : List (S75)) (b1 : List (S75)) (a2 : Int) : Option (Int × Int) := (statistic_Valid.f k a5 a6 a7 b1).bind fun b8 => (if b8 = 0 then ((statistic_is.f a2 (a5.length : Int)).bind fun e1 => (if e1 = true then (statistic_Nodes.l0 k a2 0 a7 (a7.length : Int) 0 a5 a6) else (some (0, 6)))) else (some (0, b8)))
theorem statistic_Nodes.mono_l : ∀ k, (∀ y0 y1 y2 y3 y4 y5 y6, LeO (statistic_Nodes.l0 k y0 y1 y2 y3 y4 y5 y6) (statistic_Nodes.l0 (k + 1) y0 y1 y2 y3 y4 y5 y6))
 | 0 => by (intros; intro r h; simp [statistic_Nodes.l0] at h)
 | k + 1 => by
  have ih0 := statistic_Nodes.mono_l k
  (intros; first | unfold statistic_Nodes.l0)
  all_goals with_reducible repeat' first | exact ih0 .. | exact statistic_Valid.mono .. | exact types_Is.mono .. | exact LeO.refl _ | exact LeO.none _ | refine LeO.ite ?_ ?_ | refine LeO.bind ?_ fun _ => ?_
theorem statistic_Nodes.mono : ∀ a0 a1 a2 a3 a4 k, LeO (statistic_Nodes.f k a0 a1 a2 a3 a4) (statistic_Nodes.f (k + 1) a0 a1 a2 a3 a4) := by
 intro a0 a1 a2 a3 a4 k
 have ih0 := statistic_Nodes.mono_l k
 unfold statistic_Nodes.f
 with_reducible repeat' first | exact ih0 .. | exact statistic_Valid.mono .. | exact types_Is.mono .. | exact LeO.refl _ | exact LeO.none _ | refine LeO.ite ?_ ?_ | refine LeO.bind ?_ fun _ => ?_
theorem statistic_Nodes.calls (k : Nat) (b5 : Option Addr) (b3 : Nat) (a5 : List (S96)) (b4 : Option Addr) (b2 : Nat) (a6 : List (S101)) (e3 : Option Addr) (d5 : Nat) (a7 : List (S75)) (d6 : Option Addr) (d4 : Nat) (b1 : List (S75)) (a2 : Int) (r1 : Int) (r2 : Int) (w : World) (c2 : Kd.C k96 w b5 a5.length a5) (c4 : a5.length ≤ b3) (c1 : Kd.C k101 w b4 a6.length a6) (c3 : a6.length ≤ b2) (h1 : Kd.C k75 w e3 a7.length a7) (h3 : a7.length ≤ d5) (h0 : Kd.C k75 w d6 b1.length b1) (h2 : b1.length ≤ d4) (h : statistic_Nodes.f k a5 a6 a7 b1 a2 = some (r1, r2)) :
  Calls Tryz.prog 25 #[.agg #[.slice b5 a5.length b3, .slice b4 a6.length b2], .agg #[.slice e3 a7.length d5, .slice d6 b1.length d4], .int .i64 a2] w fun e w' => e = .returned (.tuple #[.int .i64 r1, .int .i64 r2]) ∧ Below w.heap.size w w' := by
 have hu31 := Tryz.underlying31
 have hu46 := Tryz.underlying46
 have hu75 := Tryz.underlying75
 have c8 := Aside0.mk c2
 have d0 := Aside0.mk c4
 clear c2 c4
 have c6 := Aside0.mk c1
 have c9 := Aside0.mk c3
 clear c1 c3
 have h8 := Aside0.mk h1
 have n4 := Aside0.mk h3
 clear h1 h3
 have n2 := Aside0.mk h0
 have n3 := Aside0.mk h2
 clear h0 h2
 have HB := Aside0.mk (Below.refl w.heap.size w)
 have H : ((statistic_Valid.f k a5 a6 a7 b1).bind fun b8 => (if b8 = 0 then ((statistic_is.f a2 (a5.length : Int)).bind fun e1 => (if e1 = true then (statistic_Nodes.l0 k a2 0 a7 (a7.length : Int) 0 a5 a6) else (some (0, 6)))) else (some (0, b8)))) = some (r1, r2) := h
 clear h
 obtain ⟨b8, A4, H⟩ := obA H
 by_cases c5 : b8 = 0
 rw [if_pos c5] at H
 have g0 := beq_iff_eq.mpr c5
 have e9 := bne_eq_false_iff_eq.mpr c5
 clear c5
 obtain ⟨e1, A6, H⟩ := obA H
 by_cases c7 : e1 = true
 subst c7
 replace H := ift H
 have H' := Aside0.mk H
 clear H
 rotate_left
 replace c7 := Bool.eq_false_iff.mpr c7
 subst c7
 replace H := iff_ H
 simp only [Option.some.injEq, Prod.mk.injEq] at H
 obtain ⟨rfl, rfl⟩ := H
 rotate_left
 rw [if_neg c5] at H
 have g0 := beq_eq_false_iff_ne.mpr c5
 have e9 := bne_iff_ne.mpr c5
 simp only [Option.some.injEq, Prod.mk.injEq] at H
 obtain ⟨rfl, rfl⟩ := H
 all_goals
  go_enter Tryz.func25, Tryz.ntmps25
  go_wp2_with (first | ((with_reducible refine gate_dst (N := 3) rfl ?_); refine be 3 #[.slice b5 a5.length b3, .slice b4 a6.length b2] 31 ?_; intro h5 hg t1 hbox hb; have a8 := Aside0.mk (hbox); have s6 := bsz HB hg; replace HB := bstep HB hb; clear hb hbox hg) | ((with_reducible refine gate_dst (N := 4) rfl ?_); refine be 4 #[.slice e3 a7.length d5, .slice d6 b1.length d4] 46 ?_; intro h4 hg t0 hbox hb; have b0 := Aside0.mk (hbox); have s5 := bsz HB hg; replace HB := bstep HB hb; have d8 := blt a8 hg; have d7 := bgt a8 hg; replace a8 := bkb a8 hb; clear hb hbox hg; have r7 := d8.out; have r3 := d7.out; obtain ⟨m2, m1, j4, j3⟩ := cz2 a8; obtain ⟨m0, j9, j2, j1⟩ := cz2 b0) | ((with_reducible refine gate_callee (f := 23) rfl ?_); refine gl 14 Tryz.func23 #[.agg #[.slice b5 a5.length b3, .slice b4 a6.length b2], .agg #[.slice e3 a7.length d5, .slice d6 b1.length d4]] (h := ?_); (with_reducible refine (statistic_Valid.calls _ _ _ _ _ _ _ _ _ _ _ _ _ _ _ (cb c8 HB) d0.out (cb c6 HB) c9.out (cb h8 HB) n4.out (cb n2 HB) n3.out A4.out).mono ?_); rintro e s9 ⟨rfl, hb⟩; refine ⟨_, rfl, ?_⟩; replace a8 := bkb a8 hb; replace b0 := bkb b0 hb; replace HB := bstep HB hb; clear hb; obtain ⟨j8, j7, j0, h9⟩ := cz2 a8) | ((with_reducible refine gate_callee (f := 46) rfl ?_); refine gl 22 Tryz.func46 #[.int .i64 a2, .int .i64 (a5.length : Int)] (h := ?_); (with_reducible refine (statistic_is.calls _ _ _ _ A6.out).mono ?_); rintro e w' ⟨rfl, ⟨nd, rfl⟩⟩; refine ⟨_, rfl, ?_⟩; obtain ⟨m4, m3, j6, j5⟩ := cz2 b0))
 ·go_ret2
  exact ⟨erf, bb HB⟩
 ·go_loopg [9, 27] k (fun kq v9 q9 w' => ∃ (g6 : Int) (a9 : Int), v9 = .int .i64 g6 ∧ q9 = .int .i64 a9 ∧ Aside0 (statistic_Nodes.l0 kq a2 g6 a7 (a7.length : Int) a9 a5 a6 = some (r1, r2)) ∧ Aside0 (kq ≤ k) ∧ Aside0 (w'.heap[h5]? = some (.cells #[(.slice b5 a5.length b3), (.slice b4 a6.length b2)] 31 (0, 0))) ∧ Aside0 (w'.heap[h4]? = some (.cells #[(.slice e3 a7.length d5), (.slice d6 b1.length d4)] 46 (0, 0))) ∧ Aside0 (Below w.heap.size w w'))
  case atStart => exact ⟨(0), (0), eqs, eqs, H', ⟨Nat.le_refl _⟩, ⟨bk a8⟩, ⟨bk b0⟩, ⟨bb HB⟩⟩
  case round =>
   clear H' g0 e9 m2 m1 m0 j9 j8 j7 m4 m3 j4 j3 j2 j1 j0 h9 j6 j5
   obtain ⟨g6, a9, rfl, rfl, HA, n7, a8, b0, HB⟩ := hrel
   cases gk with
   | zero => exact absurd HA.out (by simp [statistic_Nodes.l0])
   | succ k1 =>
    have H := HA.out
    clear HA
    simp only [statistic_Nodes.l0] at H
    by_cases e8 : a9 < (a7.length : Int)
    rotate_left
    ·rw [if_neg e8] at H
     have n0 := decide_eq_false e8
     clear e8
     simp only [Option.some.injEq, Prod.mk.injEq] at H
     obtain ⟨rfl, rfl⟩ := H
     go_wp2
     go_ret2
     exact ⟨erf, bb HB⟩
    rw [if_pos e8] at H
    have n0 := decide_eq_true e8
    clear e8
    obtain ⟨n6, H⟩ := itn H
    have s3 := decide_eq_true n6
    clear n6
    obtain ⟨n5, H⟩ := itn H
    have s2 := decide_eq_true n5
    clear n5
    obtain ⟨g7, r0, H⟩ := obA H
    by_cases h6 : g7 = true
    subst h6
    replace H := ift H
    have H' := Aside0.mk H
    clear H
    rotate_left
    replace h6 := Bool.eq_false_iff.mpr h6
    subst h6
    replace H := iff_ H
    have H' := Aside0.mk H
    clear H
    all_goals
     have g9 : 0 ≤ a9 := odt
     have g8 : a9 < (a7.length : Int) := odt
     obtain ⟨n1, n8, e7, e6, e5, e4⟩ := at_T75 h8.out a9 g9 g8
     cases n8
     replace e7 := hxc HB e7
     replace e6 := hxc HB e6
     replace e5 := hxc HB e5
     replace e4 := hxc HB e4
     replace g9 := eq_true g9
     replace g8 := eq_true g8
     go_wp2_with (first | ((with_reducible refine gate_dst (N := 11) rfl ?_); refine be 11 #[.int .i64 0, .int .i64 0, .int .i64 0, .int .i64 0] 75 ?_; intro m9 hg t3 hbox hb; have d9 := Aside0.mk (hbox); have s4 := bsz HB hg; replace HB := bstep HB hb; have g5 := blt a8 hg; have g3 := bgt a8 hg; replace a8 := bkb a8 hb; have g4 := blt b0 hg; have g2 := bgt b0 hg; replace b0 := bkb b0 hb; clear hb hbox hg; have s0 := g3.out; have r6 := g5.out; have r9 := g2.out; have r5 := g4.out; obtain ⟨q4, q3, q2, q1, p0, o9, o8, o7⟩ := cz4 d9; have r8 := d8.out; have r4 := d7.out; obtain ⟨q0, p9, o6, o5⟩ := cz2 a8) | ((with_reducible refine gate_callee (f := 59) rfl ?_); refine gl 35 Tryz.func59 #[.agg #[.slice b5 a5.length b3, .slice b4 a6.length b2], .int .i64 ((rd_T75 a7 a9).f0), .int .i64 a2] (h := ?_); (with_reducible refine (types_Is.calls _ _ _ _ _ _ _ _ _ _ _ (Kd.C_below c8.out (bb HB)) d0.out (Kd.C_below c6.out (bb HB)) c9.out r0.out).mono ?_); rintro e t2 ⟨rfl, hb⟩; refine ⟨_, rfl, ?_⟩; replace a8 := Aside0.mk (blk_below (g := h5) (o := .cells #[.slice b5 a5.length b3, .slice b4 a6.length b2] 31 (0, 0)) (bkF a8) hb); replace b0 := Aside0.mk (blk_below (g := h4) (o := .cells #[.slice (some n1) a7.length d5, .slice d6 b1.length d4] 46 (0, 0)) (bkF b0) hb); replace d9 := Aside0.mk (blk_below (g := m9) (o := .cells #[.int .i64 ((rd_T75 a7 a9).f0), .int .i64 ((rd_T75 a7 a9).f1), .int .i64 ((rd_T75 a7 a9).f2), .int .i64 ((rd_T75 a7 a9).f3)] 75 (0, 0)) (bkP d9) hb); replace HB := bstep HB hb; clear hb; obtain ⟨p8, p7, p6, p5, o4, o3, o2, o1⟩ := cz4 d9))
     go_roundg k1
     case measure => have := n7.out; omega
     case rel => exact ⟨_, (wrap64 (a9 + 1)), eqs, eqs, H', ⟨by have := n7.out; omega⟩, ⟨bk a8⟩, ⟨bk b0⟩, ⟨bb HB⟩⟩
 ·go_ret2
  exact ⟨erf, bb HB⟩
mutual
def statistic_Edges.j0 : Nat → Int → Int → Int → Bool → List (S96) → List (S101) → List (S75) → List (S75) → Option (Int × Int)
 | 0, _, _, _, _, _, _, _, _ => none
 | k + 1, x2, x3, x4, C4, b7, b6, s7, h2 => if C4 = true then (some (0, 6)) else (statistic_Edges.l0 k x2 x3 x4 0 h2 (h2.length : Int) 0 b7 b6)
def statistic_Edges.l0 : Nat → Int → Int → Int → Int → List (S75) → Int → Int → List (S96) → List (S101) → Option (Int × Int)
 | 0, _, _, _, _, _, _, _, _, _ => none
 | k + 1, x2, x3, x4, j5, d8, j4, d2, b7, b6 => if d2 < j4 then (if 0 ≤ d2 then (if d2 < (d8.length : Int) then (if ((rd_T75 d8 d2).f0) = x2 then ((types_Is.f k b7 b6 ((rd_T75 d8 d2).f1) x3).bind fun m2 => (if m2 = true then ((types_Is.f k b7 b6 ((rd_T75 d8 d2).f2) x4).bind fun m1 => (if m1 = true then (statistic_Edges.l0 k x2 x3 x4 (wrap64 (j5 + ((rd_T75 d8 d2).f3))) d8 j4 (wrap64 (d2 + 1)) b7 b6) else (statistic_Edges.l0 k x2 x3 x4 j5 d8 j4 (wrap64 (d2 + 1)) b7 b6))) else (statistic_Edges.l0 k x2 x3 x4 j5 d8 j4 (wrap64 (d2 + 1)) b7 b6))) else (statistic_Edges.l0 k x2 x3 x4 j5 d8 j4 (wrap64 (d2 + 1)) b7 b6)) else (none)) else (none)) else (some (j5, 0))
end
def statistic_Edges.f (k : Nat) (b1 : List (S96)) (b2 : List (S101)) (b4 : List (S75)) (a8 : List (S75)) (a2 : Int) (a3 : Int) (a4 : Int) : Option (Int × Int) := (statistic_Valid.f k b1 b2 b4 a8).bind fun d7 => (if d7 = 0 then ((statistic_is.f a2 (b2.length : Int)).bind fun g7 => (if g7 = true then ((statistic_is.f a3 (b1.length : Int)).bind fun g6 => (if g6 = true then ((statistic_is.f a4 (b1.length : Int)).bind fun j2 => (statistic_Edges.j0 k a2 a3 a4 (!j2) b1 b2 b4 a8)) else (statistic_Edges.j0 k a2 a3 a4 true b1 b2 b4 a8))) else (statistic_Edges.j0 k a2 a3 a4 true b1 b2 b4 a8))) else (some (0, d7)))
theorem statistic_Edges.mono_l : ∀ k, (∀ y0 y1 y2 y3 y4 y5 y6 y7, LeO (statistic_Edges.j0 k y0 y1 y2 y3 y4 y5 y6 y7) (statistic_Edges.j0 (k + 1) y0 y1 y2 y3 y4 y5 y6 y7)) ∧ (∀ y0 y1 y2 y3 y4 y5 y6 y7 y8, LeO (statistic_Edges.l0 k y0 y1 y2 y3 y4 y5 y6 y7 y8) (statistic_Edges.l0 (k + 1) y0 y1 y2 y3 y4 y5 y6 y7 y8))
 | 0 => by refine ⟨?_, ?_⟩ <;> (intros; intro r h; simp [statistic_Edges.j0, statistic_Edges.l0] at h)
 | k + 1 => by
  obtain ⟨ih0, ih1⟩ := statistic_Edges.mono_l k
  refine ⟨?_, ?_⟩ <;> (intros; first | unfold statistic_Edges.j0 | unfold statistic_Edges.l0)
  all_goals with_reducible repeat' first | exact ih0 .. | exact ih1 .. | exact statistic_Valid.mono .. | exact types_Is.mono .. | exact LeO.refl _ | exact LeO.none _ | refine LeO.ite ?_ ?_ | refine LeO.bind ?_ fun _ => ?_
theorem statistic_Edges.mono : ∀ a0 a1 a2 a3 a4 a5 a6 k, LeO (statistic_Edges.f k a0 a1 a2 a3 a4 a5 a6) (statistic_Edges.f (k + 1) a0 a1 a2 a3 a4 a5 a6) := by
 intro a0 a1 a2 a3 a4 a5 a6 k
 obtain ⟨ih0, ih1⟩ := statistic_Edges.mono_l k
 unfold statistic_Edges.f
 with_reducible repeat' first | exact ih0 .. | exact ih1 .. | exact statistic_Valid.mono .. | exact types_Is.mono .. | exact LeO.refl _ | exact LeO.none _ | refine LeO.ite ?_ ?_ | refine LeO.bind ?_ fun _ => ?_
theorem statistic_Edges.calls (k : Nat) (d1 : Option Addr) (c6 : Nat) (b1 : List (S96)) (d0 : Option Addr) (c5 : Nat) (b2 : List (S101)) (c9 : Option Addr) (c3 : Nat) (b4 : List (S75)) (d3 : Option Addr) (c2 : Nat) (a8 : List (S75)) (a2 : Int) (a3 : Int) (a4 : Int) (r1 : Int) (r2 : Int) (w : World) (n2 : Kd.C k96 w d1 b1.length b1) (n6 : b1.length ≤ c6) (n1 : Kd.C k101 w d0 b2.length b2) (n5 : b2.length ≤ c5) (n0 : Kd.C k75 w c9 b4.length b4) (n4 : b4.length ≤ c3) (m9 : Kd.C k75 w d3 a8.length a8) (n3 : a8.length ≤ c2) (h : statistic_Edges.f k b1 b2 b4 a8 a2 a3 a4 = some (r1, r2)) :
  Calls Tryz.prog 28 #[.agg #[.slice d1 b1.length c6, .slice d0 b2.length c5], .agg #[.slice c9 b4.length c3, .slice d3 a8.length c2], .int .i64 a2, .int .i64 a3, .int .i64 a4] w fun e w' => e = .returned (.tuple #[.int .i64 r1, .int .i64 r2]) ∧ Below w.heap.size w w' := by
 have hu31 := Tryz.underlying31
 have hu46 := Tryz.underlying46
 have hu75 := Tryz.underlying75
 have e9 := Aside0.mk n2
 have g4 := Aside0.mk n6
 clear n2 n6
 have e8 := Aside0.mk n1
 have g3 := Aside0.mk n5
 clear n1 n5
 have o7 := Aside0.mk n0
 have p2 := Aside0.mk n4
 clear n0 n4
 have j3 := Aside0.mk m9
 have p1 := Aside0.mk n3
 clear m9 n3
 have HB := Aside0.mk (Below.refl w.heap.size w)
 have H : ((statistic_Valid.f k b1 b2 b4 a8).bind fun d7 => (if d7 = 0 then ((statistic_is.f a2 (b2.length : Int)).bind fun g7 => (if g7 = true then ((statistic_is.f a3 (b1.length : Int)).bind fun g6 => (if g6 = true then ((statistic_is.f a4 (b1.length : Int)).bind fun j2 => (statistic_Edges.j0 k a2 a3 a4 (!j2) b1 b2 b4 a8)) else (statistic_Edges.j0 k a2 a3 a4 true b1 b2 b4 a8))) else (statistic_Edges.j0 k a2 a3 a4 true b1 b2 b4 a8))) else (some (0, d7)))) = some (r1, r2) := h
 clear h
 obtain ⟨d7, A6, H⟩ := obA H
 by_cases c7 : d7 = 0
 rotate_left
 ·rw [if_neg c7] at H
  have q8 := beq_eq_false_iff_ne.mpr c7
  have q7 := bne_iff_ne.mpr c7
  simp only [Option.some.injEq, Prod.mk.injEq] at H
  obtain ⟨rfl, rfl⟩ := H
  go_enter Tryz.func28, Tryz.ntmps28
  go_wp2_with (first | ((with_reducible refine gate_dst (N := 5) rfl ?_); (try (refine gate_guard (by rfl) ?_; dsimp only)); refine be 5 #[.slice d1 b1.length c6, .slice d0 b2.length c5] 31 ?_; intro e7 hg F8 hbox hb; have a7 := Aside0.mk (hbox); have r9 := bsz HB hg; replace HB := bstep HB hb; clear hb hbox hg) | ((with_reducible refine gate_dst (N := 6) rfl ?_); (try (refine gate_guard (by rfl) ?_; dsimp only)); refine be 6 #[.slice c9 b4.length c3, .slice d3 a8.length c2] 46 ?_; intro e6 hg F7 hbox hb; have b0 := Aside0.mk (hbox); have r8 := bsz HB hg; replace HB := bstep HB hb; have b9 := blt a7 hg; have b8 := bgt a7 hg; replace a7 := bkb a7 hb; clear hb hbox hg; have E0 := b9.out; have D3 := b8.out; obtain ⟨x0, w7, t1, t0⟩ := cz2 a7; obtain ⟨w6, w4, s9, s8⟩ := cz2 b0) | ((with_reducible refine gate_callee (f := 23) rfl ?_); refine gl 18 Tryz.func23 #[.agg #[.slice d1 b1.length c6, .slice d0 b2.length c5], .agg #[.slice c9 b4.length c3, .slice d3 a8.length c2]] (h := ?_); (with_reducible refine (statistic_Valid.calls _ _ _ _ _ _ _ _ _ _ _ _ _ _ _ (cb e9 HB) g4.out (cb e8 HB) g3.out (cb o7 HB) p2.out (cb j3 HB) p1.out A6.out).mono ?_); rintro e F6 ⟨rfl, hb⟩; refine ⟨_, rfl, ?_⟩; replace a7 := bkb a7 hb; replace b0 := bkb b0 hb; replace HB := bstep HB hb; clear hb))
  go_ret2
  exact ⟨erf, bb HB⟩
 rw [if_pos c7] at H
 have q8 := beq_iff_eq.mpr c7
 have q7 := bne_eq_false_iff_eq.mpr c7
 clear c7
 have q9 := Aside0.mk H
 clear H
 go_enter Tryz.func28, Tryz.ntmps28
 go_upto_region 4 with (first | ((with_reducible refine gate_dst (N := 5) rfl ?_); (try (refine gate_guard (by rfl) ?_; dsimp only)); refine be 5 #[.slice d1 b1.length c6, .slice d0 b2.length c5] 31 ?_; intro e7 hg w9 hbox hb; have a7 := Aside0.mk (hbox); have r9 := bsz HB hg; replace HB := bstep HB hb; clear hb hbox hg) | ((with_reducible refine gate_dst (N := 6) rfl ?_); (try (refine gate_guard (by rfl) ?_; dsimp only)); refine be 6 #[.slice c9 b4.length c3, .slice d3 a8.length c2] 46 ?_; intro e6 hg G5 hbox hb; have b0 := Aside0.mk (hbox); have r8 := bsz HB hg; replace HB := bstep HB hb; have b9 := blt a7 hg; have b8 := bgt a7 hg; replace a7 := bkb a7 hb; clear hb hbox hg; have E6 := b9.out; have D9 := b8.out; obtain ⟨q4, q3, p8, p7⟩ := cz2 a7; obtain ⟨q2, q1, p6, p5⟩ := cz2 b0) | ((with_reducible refine gate_callee (f := 23) rfl ?_); refine gl 18 Tryz.func23 #[.agg #[.slice d1 b1.length c6, .slice d0 b2.length c5], .agg #[.slice c9 b4.length c3, .slice d3 a8.length c2]] (h := ?_); (with_reducible refine (statistic_Valid.calls _ _ _ _ _ _ _ _ _ _ _ _ _ _ _ (cb e9 HB) g4.out (cb e8 HB) g3.out (cb o7 HB) p2.out (cb j3 HB) p1.out A6.out).mono ?_); rintro e G2 ⟨rfl, hb⟩; refine ⟨_, rfl, ?_⟩; replace a7 := bkb a7 hb; replace b0 := bkb b0 hb; replace HB := bstep HB hb; clear hb))
 (try simp only [Act.put, List.setIfInBounds_toArray, List.set_cons_zero, List.set_cons_succ])
 go_cut [43] (fun C6 wc => ∃ (kq : Nat) (e5 : Bool), C6 = .bool e5 ∧ Aside0 (statistic_Edges.j0 kq a2 a3 a4 e5 b1 b2 b4 a8 = some (r1, r2)) ∧ Aside0 (kq ≤ k) ∧ Aside0 (wc.heap[e7]? = some (.cells #[(.slice d1 b1.length c6), (.slice d0 b2.length c5)] 31 (0, 0))) ∧ Aside0 (wc.heap[e6]? = some (.cells #[(.slice c9 b4.length c3), (.slice d3 a8.length c2)] 46 (0, 0))) ∧ Aside0 (Below w.heap.size w wc))
 case first =>
  have H := q9.out
  clear q9
  obtain ⟨g7, D2, H⟩ := obA H
  by_cases o1 : g7 = true
  subst o1
  replace H := ift H
  obtain ⟨g6, D1, H⟩ := obA H
  by_cases o0 : g6 = true
  subst o0
  replace H := ift H
  obtain ⟨j2, D0, H⟩ := obA H
  have H' := Aside0.mk H
  clear H
  rotate_left
  replace o0 := Bool.eq_false_iff.mpr o0
  subst o0
  replace H := iff_ H
  have H' := Aside0.mk H
  clear H
  rotate_left
  replace o1 := Bool.eq_false_iff.mpr o1
  subst o1
  replace H := iff_ H
  have H' := Aside0.mk H
  clear H
  all_goals
   have E5 := b9.out
   have D8 := b8.out
   obtain ⟨C1, C0, v9, v8⟩ := cz2 a7
   go_wp2_with (first | ((with_reducible refine gate_callee (f := 46) rfl ?_); refine gl 26 Tryz.func46 #[.int .i64 a2, .int .i64 (b2.length : Int)] (h := ?_); (with_reducible refine (statistic_is.calls _ _ _ _ D2.out).mono ?_); rintro e w' ⟨rfl, ⟨nd, rfl⟩⟩; refine ⟨_, rfl, ?_⟩) | (go_at_call 46; (with_reducible refine (statistic_is.calls _ _ _ _ D1.out).mono ?_); rintro e w' ⟨rfl, ⟨nd, rfl⟩⟩) | (go_at_call 46; (with_reducible refine (statistic_is.calls _ _ _ _ D0.out).mono ?_); rintro e w' ⟨rfl, ⟨nd, rfl⟩⟩))
   go_meet
   case rel => exact ⟨_, _, eqs, H', ⟨by first | omega | exact Nat.le_refl _⟩, ⟨bk a7⟩, ⟨bk b0⟩, ⟨bb HB⟩⟩
 case rest =>
  clear q9 q8 q7 q4 q3 q2 q1 p8 p7 p6 p5
  obtain ⟨kq, e5, rfl, HA, p0, a7, b0, HB⟩ := hcut
  cases kq with
  | zero => exact absurd HA.out (by simp [statistic_Edges.j0])
  | succ s1 =>
   have H := HA.out
   clear HA
   simp only [statistic_Edges.j0] at H
   by_cases n9 : e5 = true
   ·subst n9
    replace H := ift H
    simp only [Option.some.injEq, Prod.mk.injEq] at H
    obtain ⟨rfl, rfl⟩ := H
    go_wp2
    go_ret2
    exact ⟨erf, bb HB⟩
   replace n9 := Bool.eq_false_iff.mpr n9
   subst n9
   replace H := iff_ H
   have H' := Aside0.mk H
   clear H
   have E4 := b8.out
   have D7 := b9.out
   obtain ⟨q0, p9, p4, p3⟩ := cz2 b0
   go_wp2
   go_loopg [13, 47] s1 (fun kq C7 C5 w' => ∃ (d4 : Int) (b5 : Int), C7 = .int .i64 d4 ∧ C5 = .int .i64 b5 ∧ Aside0 (statistic_Edges.l0 kq a2 a3 a4 d4 a8 (a8.length : Int) b5 b1 b2 = some (r1, r2)) ∧ Aside0 (kq ≤ s1) ∧ Aside0 (w'.heap[e7]? = some (.cells #[(.slice d1 b1.length c6), (.slice d0 b2.length c5)] 31 (0, 0))) ∧ Aside0 (w'.heap[e6]? = some (.cells #[(.slice c9 b4.length c3), (.slice d3 a8.length c2)] 46 (0, 0))) ∧ Aside0 (Below w.heap.size w w'))
   case atStart => exact ⟨(0), (0), eqs, eqs, H', ⟨Nat.le_refl _⟩, ⟨bk a7⟩, ⟨bk b0⟩, ⟨bb HB⟩⟩
   case round =>
    clear H' q0 p9 p4 p3
    obtain ⟨d4, b5, rfl, rfl, HA, o9, a7, b0, HB⟩ := hrel
    cases gk with
    | zero => exact absurd HA.out (by simp [statistic_Edges.l0])
    | succ k2 =>
     have H := HA.out
     clear HA
     simp only [statistic_Edges.l0] at H
     by_cases h9 : b5 < (a8.length : Int)
     rotate_left
     ·rw [if_neg h9] at H
      have r6 := decide_eq_false h9
      clear h9
      simp only [Option.some.injEq, Prod.mk.injEq] at H
      obtain ⟨rfl, rfl⟩ := H
      go_wp2
      go_ret2
      exact ⟨erf, bb HB⟩
     rw [if_pos h9] at H
     have r6 := decide_eq_true h9
     clear h9
     obtain ⟨s4, H⟩ := itn H
     have E8 := decide_eq_true s4
     clear s4
     obtain ⟨s3, H⟩ := itn H
     have E7 := decide_eq_true s3
     clear s3
     by_cases h0 : ((rd_T75 a8 b5).f0) = a2
     rw [if_pos h0] at H
     have r5 := beq_iff_eq.mpr h0
     have r4 := bne_eq_false_iff_eq.mpr h0
     clear h0
     obtain ⟨m2, C9, H⟩ := obA H
     by_cases n8 : m2 = true
     subst n8
     replace H := ift H
     obtain ⟨m1, C8, H⟩ := obA H
     by_cases n7 : m1 = true
     subst n7
     replace H := ift H
     have H' := Aside0.mk H
     clear H
     rotate_left
     replace n7 := Bool.eq_false_iff.mpr n7
     subst n7
     replace H := iff_ H
     have H' := Aside0.mk H
     clear H
     rotate_left
     replace n8 := Bool.eq_false_iff.mpr n8
     subst n8
     replace H := iff_ H
     have H' := Aside0.mk H
     clear H
     rotate_left
     rw [if_neg h0] at H
     have r5 := beq_eq_false_iff_ne.mpr h0
     have r4 := bne_iff_ne.mpr h0
     have H' := Aside0.mk H
     clear H
     all_goals
      have m4 : 0 ≤ b5 := odt
      have m3 : b5 < (a8.length : Int) := odt
      obtain ⟨r7, s6, h6, h5, h4, h3⟩ := at_T75 j3.out b5 m4 m3
      cases s6
      replace h6 := hxc HB h6
      replace h5 := hxc HB h5
      replace h4 := hxc HB h4
      replace h3 := hxc HB h3
      replace m4 := eq_true m4
      replace m3 := eq_true m3
      go_wp2_with (first | ((with_reducible refine gate_dst (N := 15) rfl ?_); (try (refine gate_guard (by rfl) ?_; dsimp only)); refine be 15 #[.int .i64 0, .int .i64 0, .int .i64 0, .int .i64 0] 75 ?_; intro r3 hg G1 hbox hb; have c8 := Aside0.mk (hbox); have F0 := bsz HB hg; replace HB := bstep HB hb; have m0 := blt a7 hg; have j8 := bgt a7 hg; replace a7 := bkb a7 hb; have j9 := blt b0 hg; have j7 := bgt b0 hg; replace b0 := bkb b0 hb; clear hb hbox hg; have E3 := j8.out; have D6 := m0.out; have E2 := j7.out; have D5 := j9.out; obtain ⟨A9, A8, A7, A5, v7, v6, v5, v4⟩ := cz4 c8; have E1 := b9.out; have D4 := b8.out; obtain ⟨A4, A3, v3, v2⟩ := cz2 a7) | (go_at_call 59; (with_reducible refine (types_Is.calls _ _ _ _ _ _ _ _ _ _ _ (Kd.C_below e9.out (bb HB)) g4.out (Kd.C_below e8.out (bb HB)) g3.out C9.out).mono ?_); rintro e G0 ⟨rfl, hb⟩; replace a7 := Aside0.mk (blk_below (g := e7) (o := .cells #[.slice d1 b1.length c6, .slice d0 b2.length c5] 31 (0, 0)) (bkF a7) hb); replace b0 := Aside0.mk (blk_below (g := e6) (o := .cells #[.slice c9 b4.length c3, .slice (some r7) a8.length c2] 46 (0, 0)) (bkF b0) hb); replace c8 := Aside0.mk (blk_below (g := r3) (o := .cells #[.int .i64 ((rd_T75 a8 b5).f0), .int .i64 ((rd_T75 a8 b5).f1), .int .i64 ((rd_T75 a8 b5).f2), .int .i64 ((rd_T75 a8 b5).f3)] 75 (0, 0)) (bkP c8) hb); replace HB := bstep HB hb; clear hb; obtain ⟨A2, A1, v1, v0⟩ := cz2 a7; obtain ⟨A0, y9, x9, x8, t9, t8, t7, t6⟩ := cz4 c8) | (go_at_call 59; (with_reducible refine (types_Is.calls _ _ _ _ _ _ _ _ _ _ _ (cb e9 HB) g4.out (cb e8 HB) g3.out C8.out).mono ?_); rintro e F9 ⟨rfl, hb⟩; replace a7 := bkb a7 hb; replace b0 := bkb b0 hb; replace c8 := bkb c8 hb; replace HB := bstep HB hb; clear hb; obtain ⟨x7, x6, x5, x1, t5, t4, t3, t2⟩ := cz4 c8))
      go_roundg k2
      case measure => have := p0.out; have := o9.out; omega
     ·case rel => exact ⟨(d4), (wrap64 (b5 + 1)), eqs, eqs, H', ⟨by have := p0.out; have := o9.out; omega⟩, ⟨bkF a7⟩, ⟨bkF b0⟩, ⟨bb HB⟩⟩
     ·case rel => exact ⟨(wrap64 (d4 + ((rd_T75 a8 b5).f3))), (wrap64 (b5 + 1)), eqs, eqs, H', ⟨by have := p0.out; have := o9.out; omega⟩, ⟨bk a7⟩, ⟨bk b0⟩, ⟨bb HB⟩⟩
     iterate 2
      ·case rel => exact ⟨(d4), (wrap64 (b5 + 1)), eqs, eqs, H', ⟨by have := p0.out; have := o9.out; omega⟩, ⟨bk a7⟩, ⟨bk b0⟩, ⟨bb HB⟩⟩
def q4_Example.f  : Option ((List (S96)) × (List (S101))) := some ((([(⟨(⟨#[65, 99, 99, 111, 117, 110, 116]⟩ : ByteArray), (-1), true, (([(⟨(⟨#[98, 97, 108, 97, 110, 99, 101]⟩ : ByteArray), (-1000), 1000, ([] : List ByteArray)⟩ : S99)] : List (S99)))⟩ : S96), (⟨(⟨#[67, 97, 115, 104]⟩ : ByteArray), 0, false, ([] : List (S99))⟩ : S96), (⟨(⟨#[76, 111, 97, 110]⟩ : ByteArray), 0, false, (([(⟨(⟨#[115, 116, 97, 116, 101]⟩ : ByteArray), 0, 1, (([(⟨#[111, 112, 101, 110]⟩ : ByteArray), (⟨#[99, 108, 111, 115, 101, 100]⟩ : ByteArray)] : List ByteArray))⟩ : S99)] : List (S99)))⟩ : S96), (⟨(⟨#[80, 101, 114, 115, 111, 110]⟩ : ByteArray), (-1), false, ([] : List (S99))⟩ : S96)] : List (S96))), (([(⟨(⟨#[111, 119, 110, 115]⟩ : ByteArray), 3, 0, 0, (-1), 1, 1⟩ : S101), (⟨(⟨#[112, 97, 121, 115]⟩ : ByteArray), 1, 1, 0, (-1), 0, (-1)⟩ : S101)] : List (S101))))
theorem q4_Example.calls  (r1 : List (S96)) (r2 : List (S101)) (w : World) (h : q4_Example.f  = some (r1, r2)) :
  Calls Tryz.prog 34 #[] w fun e w' => ∃ s0 q5 : Value, e = .returned (.agg #[s0, q5]) ∧ Kd.N k96 96 w' w.heap.size (fun k_ => (w.heap.size ≤ k_) ∧ some k_ ≠ (q5 : Value).ownBlock) s0 r1 ∧ Kd.R k101 101 w' w.heap.size (fun k_ => (w.heap.size ≤ k_)) q5 r2 ∧ Below w.heap.size w w' := by
 have hu31 := Tryz.underlying31
 have hu99 := Tryz.underlying99
 have hu96 := Tryz.underlying96
 have hu101 := Tryz.underlying101
 have HB := Aside0.mk (Below.refl w.heap.size w)
 have H : (some ((([(⟨(⟨#[65, 99, 99, 111, 117, 110, 116]⟩ : ByteArray), (-1), true, (([(⟨(⟨#[98, 97, 108, 97, 110, 99, 101]⟩ : ByteArray), (-1000), 1000, ([] : List ByteArray)⟩ : S99)] : List (S99)))⟩ : S96), (⟨(⟨#[67, 97, 115, 104]⟩ : ByteArray), 0, false, ([] : List (S99))⟩ : S96), (⟨(⟨#[76, 111, 97, 110]⟩ : ByteArray), 0, false, (([(⟨(⟨#[115, 116, 97, 116, 101]⟩ : ByteArray), 0, 1, (([(⟨#[111, 112, 101, 110]⟩ : ByteArray), (⟨#[99, 108, 111, 115, 101, 100]⟩ : ByteArray)] : List ByteArray))⟩ : S99)] : List (S99)))⟩ : S96), (⟨(⟨#[80, 101, 114, 115, 111, 110]⟩ : ByteArray), (-1), false, ([] : List (S99))⟩ : S96)] : List (S96))), (([(⟨(⟨#[111, 119, 110, 115]⟩ : ByteArray), 3, 0, 0, (-1), 1, 1⟩ : S101), (⟨(⟨#[112, 97, 121, 115]⟩ : ByteArray), 1, 1, 0, (-1), 0, (-1)⟩ : S101)] : List (S101))))) = some (r1, r2) := h
 clear h
 obtain ⟨c0, e3⟩ : ∃ y_ : List (S99), y_ = (([(⟨(⟨#[98, 97, 108, 97, 110, 99, 101]⟩ : ByteArray), (-1000), 1000, ([] : List ByteArray)⟩ : S99)] : List (S99))) := ⟨_, rfl⟩
 replace H : (some ((([(⟨(⟨#[65, 99, 99, 111, 117, 110, 116]⟩ : ByteArray), (-1), true, c0⟩ : S96), (⟨(⟨#[67, 97, 115, 104]⟩ : ByteArray), 0, false, ([] : List (S99))⟩ : S96), (⟨(⟨#[76, 111, 97, 110]⟩ : ByteArray), 0, false, (([(⟨(⟨#[115, 116, 97, 116, 101]⟩ : ByteArray), 0, 1, (([(⟨#[111, 112, 101, 110]⟩ : ByteArray), (⟨#[99, 108, 111, 115, 101, 100]⟩ : ByteArray)] : List ByteArray))⟩ : S99)] : List (S99)))⟩ : S96), (⟨(⟨#[80, 101, 114, 115, 111, 110]⟩ : ByteArray), (-1), false, ([] : List (S99))⟩ : S96)] : List (S96))), (([(⟨(⟨#[111, 119, 110, 115]⟩ : ByteArray), 3, 0, 0, (-1), 1, 1⟩ : S101), (⟨(⟨#[112, 97, 121, 115]⟩ : ByteArray), 1, 1, 0, (-1), 0, (-1)⟩ : S101)] : List (S101))))) = some (r1, r2) := by first | (rw [e3]; with_reducible exact H) | (have H2_ := (Option.bind_some _ _).symm.trans H; rw [e3]; with_reducible exact H2_) | (have H2_ := (Option.bind_some _ _).symm.trans H; with_reducible exact H2_) | with_reducible exact H | (rw [e3]; exact H) | exact H
 have o6 := Aside0.mk e3
 clear e3
 obtain ⟨d6, e2⟩ : ∃ y_ : List ByteArray, y_ = (([(⟨#[111, 112, 101, 110]⟩ : ByteArray), (⟨#[99, 108, 111, 115, 101, 100]⟩ : ByteArray)] : List ByteArray)) := ⟨_, rfl⟩
 replace H : (some ((([(⟨(⟨#[65, 99, 99, 111, 117, 110, 116]⟩ : ByteArray), (-1), true, c0⟩ : S96), (⟨(⟨#[67, 97, 115, 104]⟩ : ByteArray), 0, false, ([] : List (S99))⟩ : S96), (⟨(⟨#[76, 111, 97, 110]⟩ : ByteArray), 0, false, (([(⟨(⟨#[115, 116, 97, 116, 101]⟩ : ByteArray), 0, 1, d6⟩ : S99)] : List (S99)))⟩ : S96), (⟨(⟨#[80, 101, 114, 115, 111, 110]⟩ : ByteArray), (-1), false, ([] : List (S99))⟩ : S96)] : List (S96))), (([(⟨(⟨#[111, 119, 110, 115]⟩ : ByteArray), 3, 0, 0, (-1), 1, 1⟩ : S101), (⟨(⟨#[112, 97, 121, 115]⟩ : ByteArray), 1, 1, 0, (-1), 0, (-1)⟩ : S101)] : List (S101))))) = some (r1, r2) := by first | (rw [e2]; with_reducible exact H) | (have H2_ := (Option.bind_some _ _).symm.trans H; rw [e2]; with_reducible exact H2_) | (have H2_ := (Option.bind_some _ _).symm.trans H; with_reducible exact H2_) | with_reducible exact H | (rw [e2]; exact H) | exact H
 have o5 := Aside0.mk e2
 clear e2
 obtain ⟨d5, e1⟩ : ∃ y_ : List (S99), y_ = (([(⟨(⟨#[115, 116, 97, 116, 101]⟩ : ByteArray), 0, 1, d6⟩ : S99)] : List (S99))) := ⟨_, rfl⟩
 replace H : (some ((([(⟨(⟨#[65, 99, 99, 111, 117, 110, 116]⟩ : ByteArray), (-1), true, c0⟩ : S96), (⟨(⟨#[67, 97, 115, 104]⟩ : ByteArray), 0, false, ([] : List (S99))⟩ : S96), (⟨(⟨#[76, 111, 97, 110]⟩ : ByteArray), 0, false, d5⟩ : S96), (⟨(⟨#[80, 101, 114, 115, 111, 110]⟩ : ByteArray), (-1), false, ([] : List (S99))⟩ : S96)] : List (S96))), (([(⟨(⟨#[111, 119, 110, 115]⟩ : ByteArray), 3, 0, 0, (-1), 1, 1⟩ : S101), (⟨(⟨#[112, 97, 121, 115]⟩ : ByteArray), 1, 1, 0, (-1), 0, (-1)⟩ : S101)] : List (S101))))) = some (r1, r2) := by first | (rw [e1]; with_reducible exact H) | (have H2_ := (Option.bind_some _ _).symm.trans H; rw [e1]; with_reducible exact H2_) | (have H2_ := (Option.bind_some _ _).symm.trans H; with_reducible exact H2_) | with_reducible exact H | (rw [e1]; exact H) | exact H
 have o4 := Aside0.mk e1
 clear e1
 obtain ⟨g5, e0⟩ : ∃ y_ : List (S96), y_ = (([(⟨(⟨#[65, 99, 99, 111, 117, 110, 116]⟩ : ByteArray), (-1), true, c0⟩ : S96), (⟨(⟨#[67, 97, 115, 104]⟩ : ByteArray), 0, false, ([] : List (S99))⟩ : S96), (⟨(⟨#[76, 111, 97, 110]⟩ : ByteArray), 0, false, d5⟩ : S96), (⟨(⟨#[80, 101, 114, 115, 111, 110]⟩ : ByteArray), (-1), false, ([] : List (S99))⟩ : S96)] : List (S96))) := ⟨_, rfl⟩
 replace H : (some (g5, (([(⟨(⟨#[111, 119, 110, 115]⟩ : ByteArray), 3, 0, 0, (-1), 1, 1⟩ : S101), (⟨(⟨#[112, 97, 121, 115]⟩ : ByteArray), 1, 1, 0, (-1), 0, (-1)⟩ : S101)] : List (S101))))) = some (r1, r2) := by first | (rw [e0]; with_reducible exact H) | (have H2_ := (Option.bind_some _ _).symm.trans H; rw [e0]; with_reducible exact H2_) | (have H2_ := (Option.bind_some _ _).symm.trans H; with_reducible exact H2_) | with_reducible exact H | (rw [e0]; exact H) | exact H
 have o3 := Aside0.mk e0
 clear e0
 obtain ⟨j1, d9⟩ : ∃ y_ : List (S101), y_ = (([(⟨(⟨#[111, 119, 110, 115]⟩ : ByteArray), 3, 0, 0, (-1), 1, 1⟩ : S101), (⟨(⟨#[112, 97, 121, 115]⟩ : ByteArray), 1, 1, 0, (-1), 0, (-1)⟩ : S101)] : List (S101))) := ⟨_, rfl⟩
 replace H : (some (g5, j1)) = some (r1, r2) := by first | (rw [d9]; with_reducible exact H) | (have H2_ := (Option.bind_some _ _).symm.trans H; rw [d9]; with_reducible exact H2_) | (have H2_ := (Option.bind_some _ _).symm.trans H; with_reducible exact H2_) | with_reducible exact H | (rw [d9]; exact H) | exact H
 have o2 := Aside0.mk d9
 clear d9
 simp only [Option.some.injEq, Prod.mk.injEq] at H
 obtain ⟨rfl, rfl⟩ := H
 go_enter Tryz.func34, Tryz.ntmps34
 go_wp2_with (first | ((with_reducible refine gate_dst (N := 0) rfl ?_); refine be 0 #[.slice none 0 0, .slice none 0 0] 31 ?_; intro a9 hg w1 hbox hb; have b3 := Aside0.mk (hbox); have E9 := bsz HB hg; replace HB := bstep HB hb; clear hb hbox hg) | ((with_reducible refine gate_dst (N := 2) rfl ?_); refine Kd.N_lit k99 _ 99 ?hg (N' := 2) ?hd (xs := ([(⟨(⟨#[98, 97, 108, 97, 110, 99, 101]⟩ : ByteArray), (-1000), 1000, ([] : List ByteArray)⟩ : S99)] : List (S99))) (inner := [.string (⟨#[98, 97, 108, 97, 110, 99, 101]⟩ : ByteArray), .int .i64 (-1000), .int .i64 1000, .slice none 0 0]) (ok := (fun k_ => (w.heap.size ≤ k_) ∧ k_ ≠ a9)) (okp := (fun k_ => (w.heap.size ≤ k_) ∧ k_ ≠ a9)) ?hr ?hp (fun _ hk => hk) ((show ∀ k_, w1.heap.size ≤ k_ → (fun k_ => (w.heap.size ≤ k_) ∧ k_ ≠ a9) k_ from fun k_ hk => ⟨(Nat.le_trans (below_size (bb HB)) hk), Kd.freshB (g := a9) (o := .cells #[.slice none 0 0, .slice none 0 0] 31 (0, 0)) (bk b3) k_ hk⟩) _ (Nat.le_refl _)) (Below.refl _ _) (Nat.le_refl _) (by simp) ?_; (case hd => rfl); (case hg => rfl); (case hr => first | (go_simp; done) | (go_simp; rfl)); (case hp => exact (Reps.c4 (show Kd.FK k99 _ _ (⟨(⟨#[98, 97, 108, 97, 110, 99, 101]⟩ : ByteArray), (-1000), 1000, ([] : List ByteArray)⟩ : S99) [.string (⟨#[98, 97, 108, 97, 110, 99, 101]⟩ : ByteArray), .int .i64 (-1000), .int .i64 1000, .slice none 0 0] from (k99_mkF _ _ (⟨(⟨#[98, 97, 108, 97, 110, 99, 101]⟩ : ByteArray), (-1000), 1000, ([] : List ByteArray)⟩ : S99) (Nat.le_refl _) (Kd.F_nil _ _ _))) (Reps.none _ _))); intro F5 w2 j6 hb hg_ hnew_; clear hg_ hnew_; (first | rw [← o6.out] at j6 | (simp only [Int.reduceToNat] at j6; rw [← o6.out] at j6)); have c1 := Aside0.mk (Kd.N_lower j6 (below_size (bb HB))); replace b3 := bkb b3 hb; replace HB := bstep HB hb; clear hb j6; obtain ⟨h1, g9, eo4⟩ := Kd.N_slice c1.out; subst eo4) | ((with_reducible refine gate_dst (N := 5) rfl ?_); refine Kd.R_lit Kd.string _ 9 ?hg (N := 5) ?hd (xs := ([(⟨#[111, 112, 101, 110]⟩ : ByteArray), (⟨#[99, 108, 111, 115, 101, 100]⟩ : ByteArray)] : List ByteArray)) (inner := [.string (⟨#[111, 112, 101, 110]⟩ : ByteArray), .string (⟨#[99, 108, 111, 115, 101, 100]⟩ : ByteArray)]) (ok := fun _ => True) (okp := fun _ => True) ?hr ?hp (fun _ hk => hk) trivial (Below.refl _ _) (Nat.le_refl _) (by simp) ?_; (case hd => rfl); (case hg => rfl); (case hr => first | (go_simp; done) | (go_simp; rfl)); (case hp => exact (Reps.one (show Kd.M Kd.string _ _ _ (⟨#[111, 112, 101, 110]⟩ : ByteArray) [.string (⟨#[111, 112, 101, 110]⟩ : ByteArray)] from rfl) (Reps.one (show Kd.M Kd.string _ _ _ (⟨#[99, 108, 111, 115, 101, 100]⟩ : ByteArray) [.string (⟨#[99, 108, 111, 115, 101, 100]⟩ : ByteArray)] from rfl) (Reps.none _ _)))); intro F4 w5 h8 hb hg_ hnew_; clear hg_ hnew_; (first | rw [← o5.out] at h8 | (simp only [Int.reduceToNat] at h8; rw [← o5.out] at h8)); replace c1 := Aside0.mk (Kd.N_elder' (kN c1) (Kd.R_base h8) hb); have g2 := Aside0.mk (Kd.R_lower (Kd.R_newM (M := fun k_ => (w.heap.size ≤ k_)) h8 (below_size (bb HB)) (fun k_ h_ => h_)) (below_size (bb HB))); replace b3 := bkb b3 hb; replace HB := bstep HB hb; clear hb h8; obtain ⟨s5, s2, eo7⟩ := Kd.R_slice g2.out; subst eo7) | ((with_reducible refine gate_dst (N := 7) rfl ?_); refine Kd.N_lit k99 _ 99 ?hg (N' := 7) ?hd (xs := ([(⟨(⟨#[115, 116, 97, 116, 101]⟩ : ByteArray), 0, 1, d6⟩ : S99)] : List (S99))) (inner := [.string (⟨#[115, 116, 97, 116, 101]⟩ : ByteArray), .int .i64 0, .int .i64 1, .slice s5 d6.length s2]) (ok := (fun k_ => (w.heap.size ≤ k_) ∧ some k_ ≠ (.slice h1 c0.length g9 : Value).ownBlock ∧ k_ ≠ a9)) (okp := (fun k_ => (w.heap.size ≤ k_) ∧ some k_ ≠ (.slice h1 c0.length g9 : Value).ownBlock ∧ k_ ≠ a9)) ?hr ?hp (fun _ hk => hk) ((show ∀ k_, w5.heap.size ≤ k_ → (fun k_ => (w.heap.size ≤ k_) ∧ some k_ ≠ (.slice h1 c0.length g9 : Value).ownBlock ∧ k_ ≠ a9) k_ from fun k_ hk => ⟨(Nat.le_trans (below_size (bb HB)) hk), Kd.fresh' (Kd.N_lt (kN c1)) k_ hk, Kd.freshB (g := a9) (o := .cells #[.slice none 0 0, .slice none 0 0] 31 (0, 0)) (bk b3) k_ hk⟩) _ (Nat.le_refl _)) (Below.refl _ _) (Nat.le_refl _) (by simp) ?_; (case hd => rfl); (case hg => rfl); (case hr => first | (go_simp; done) | (go_simp; rfl)); (case hp => exact (Reps.c4 (show Kd.FK k99 _ _ (⟨(⟨#[115, 116, 97, 116, 101]⟩ : ByteArray), 0, 1, d6⟩ : S99) [.string (⟨#[115, 116, 97, 116, 101]⟩ : ByteArray), .int .i64 0, .int .i64 1, .slice s5 d6.length s2] from (k99_mkF _ _ (⟨(⟨#[115, 116, 97, 116, 101]⟩ : ByteArray), 0, 1, d6⟩ : S99) (Kd.R_reads' (Kd.R_mono (ok' := (fun k_ => (w.heap.size ≤ k_) ∧ some k_ ≠ (.slice h1 c0.length g9 : Value).ownBlock ∧ k_ ≠ a9)) (Kd.R_types (Kd.R_apart' (g2.out) (Kd.N_typed c1.out) (by decide)) b3.out (by decide)) (fun k_ hk => ⟨hk.1.1.1, ⟨hk.1.2, hk.2⟩⟩))).2.1 (Kd.R_F (Kd.R_mono (ok' := (fun k_ => (w.heap.size ≤ k_) ∧ some k_ ≠ (.slice h1 c0.length g9 : Value).ownBlock ∧ k_ ≠ a9)) (Kd.R_types (Kd.R_apart' (g2.out) (Kd.N_typed c1.out) (by decide)) b3.out (by decide)) (fun k_ hk => ⟨hk.1.1.1, ⟨hk.1.2, hk.2⟩⟩))))) (Reps.none _ _))); intro F3 w8 h7 hb hg_ hnew_; clear hg_ hnew_; (first | rw [← o4.out] at h7 | (simp only [Int.reduceToNat] at h7; rw [← o4.out] at h7)); replace c1 := Aside0.mk (Kd.N_elder' (kN c1) (Kd.N_base h7) hb); have g1 := Aside0.mk (Kd.N_lower h7 (below_size (bb HB))); replace b3 := bkb b3 hb; replace HB := bstep HB hb; clear g2 hb h7; obtain ⟨r0, q6, eo10⟩ := Kd.N_slice g1.out; subst eo10) | ((with_reducible refine gate_dst (N := 10) rfl ?_); refine Kd.N_lit k96 _ 96 ?hg (N' := 10) ?hd (xs := ([(⟨(⟨#[65, 99, 99, 111, 117, 110, 116]⟩ : ByteArray), (-1), true, c0⟩ : S96), (⟨(⟨#[67, 97, 115, 104]⟩ : ByteArray), 0, false, ([] : List (S99))⟩ : S96), (⟨(⟨#[76, 111, 97, 110]⟩ : ByteArray), 0, false, d5⟩ : S96), (⟨(⟨#[80, 101, 114, 115, 111, 110]⟩ : ByteArray), (-1), false, ([] : List (S99))⟩ : S96)] : List (S96))) (inner := [.string (⟨#[65, 99, 99, 111, 117, 110, 116]⟩ : ByteArray), .int .i64 (-1), .bool true, .slice h1 c0.length g9, .string (⟨#[67, 97, 115, 104]⟩ : ByteArray), .int .i64 0, .bool false, .slice none 0 0, .string (⟨#[76, 111, 97, 110]⟩ : ByteArray), .int .i64 0, .bool false, .slice r0 d5.length q6, .string (⟨#[80, 101, 114, 115, 111, 110]⟩ : ByteArray), .int .i64 (-1), .bool false, .slice none 0 0]) (ok := (fun k_ => (w.heap.size ≤ k_) ∧ k_ ≠ a9)) (okp := (fun k_ => (w.heap.size ≤ k_) ∧ k_ ≠ a9)) ?hr ?hp (fun _ hk => hk) ((show ∀ k_, w8.heap.size ≤ k_ → (fun k_ => (w.heap.size ≤ k_) ∧ k_ ≠ a9) k_ from fun k_ hk => ⟨(Nat.le_trans (below_size (bb HB)) hk), Kd.freshB (g := a9) (o := .cells #[.slice none 0 0, .slice none 0 0] 31 (0, 0)) (bk b3) k_ hk⟩) _ (Nat.le_refl _)) (Below.refl _ _) (Nat.le_refl _) (by simp) ?_; (case hd => rfl); (case hg => rfl); (case hr => first | (go_simp; done) | (go_simp; rfl)); (case hp => exact (Reps.c4 (show Kd.FK k96 _ _ (⟨(⟨#[65, 99, 99, 111, 117, 110, 116]⟩ : ByteArray), (-1), true, c0⟩ : S96) [.string (⟨#[65, 99, 99, 111, 117, 110, 116]⟩ : ByteArray), .int .i64 (-1), .bool true, .slice h1 c0.length g9] from (k96_mkF _ _ (⟨(⟨#[65, 99, 99, 111, 117, 110, 116]⟩ : ByteArray), (-1), true, c0⟩ : S96) (Kd.N_reads' (Kd.N_mono (ok' := (fun k_ => (w.heap.size ≤ k_) ∧ k_ ≠ a9)) (c1.out) (fun k_ hk => ⟨hk.1.1.1, hk.1.1.2⟩))).2.1 (Kd.N_F (Kd.N_mono (ok' := (fun k_ => (w.heap.size ≤ k_) ∧ k_ ≠ a9)) (c1.out) (fun k_ hk => ⟨hk.1.1.1, hk.1.1.2⟩))))) (Reps.c4 (show Kd.FK k96 _ _ (⟨(⟨#[67, 97, 115, 104]⟩ : ByteArray), 0, false, ([] : List (S99))⟩ : S96) [.string (⟨#[67, 97, 115, 104]⟩ : ByteArray), .int .i64 0, .bool false, .slice none 0 0] from (k96_mkF _ _ (⟨(⟨#[67, 97, 115, 104]⟩ : ByteArray), 0, false, ([] : List (S99))⟩ : S96) (Nat.le_refl _) (Kd.F_nil _ _ _))) (Reps.c4 (show Kd.FK k96 _ _ (⟨(⟨#[76, 111, 97, 110]⟩ : ByteArray), 0, false, d5⟩ : S96) [.string (⟨#[76, 111, 97, 110]⟩ : ByteArray), .int .i64 0, .bool false, .slice r0 d5.length q6] from (k96_mkF _ _ (⟨(⟨#[76, 111, 97, 110]⟩ : ByteArray), 0, false, d5⟩ : S96) (Kd.N_reads' (Kd.N_mono (ok' := (fun k_ => (w.heap.size ≤ k_) ∧ k_ ≠ a9)) (g1.out) (fun k_ hk => ⟨hk.1, hk.2.2⟩))).2.1 (Kd.N_F (Kd.N_mono (ok' := (fun k_ => (w.heap.size ≤ k_) ∧ k_ ≠ a9)) (g1.out) (fun k_ hk => ⟨hk.1, hk.2.2⟩))))) (Reps.c4 (show Kd.FK k96 _ _ (⟨(⟨#[80, 101, 114, 115, 111, 110]⟩ : ByteArray), (-1), false, ([] : List (S99))⟩ : S96) [.string (⟨#[80, 101, 114, 115, 111, 110]⟩ : ByteArray), .int .i64 (-1), .bool false, .slice none 0 0] from (k96_mkF _ _ (⟨(⟨#[80, 101, 114, 115, 111, 110]⟩ : ByteArray), (-1), false, ([] : List (S99))⟩ : S96) (Nat.le_refl _) (Kd.F_nil _ _ _))) (Reps.none _ _)))))); intro F2 G4 g8 hb hg_ hnew_; clear hg_ hnew_; (first | rw [← o3.out] at g8 | (simp only [Int.reduceToNat] at g8; rw [← o3.out] at g8)); have g0 := Aside0.mk (Kd.N_lower g8 (below_size (bb HB))); replace b3 := bkb b3 hb; replace HB := bstep HB hb; clear c1 g1; clear hb g8) | ((with_reducible refine gate_dst (N := 13) rfl ?_); refine Kd.R_lit k101 _ 101 ?hg (N := 13) ?hd (xs := ([(⟨(⟨#[111, 119, 110, 115]⟩ : ByteArray), 3, 0, 0, (-1), 1, 1⟩ : S101), (⟨(⟨#[112, 97, 121, 115]⟩ : ByteArray), 1, 1, 0, (-1), 0, (-1)⟩ : S101)] : List (S101))) (inner := [.string (⟨#[111, 119, 110, 115]⟩ : ByteArray), .int .i64 3, .int .i64 0, .int .i64 0, .int .i64 (-1), .int .i64 1, .int .i64 1, .string (⟨#[112, 97, 121, 115]⟩ : ByteArray), .int .i64 1, .int .i64 1, .int .i64 0, .int .i64 (-1), .int .i64 0, .int .i64 (-1)]) (ok := fun _ => True) (okp := fun _ => True) ?hr ?hp (fun _ hk => hk) trivial (Below.refl _ _) (Nat.le_refl _) (by simp) ?_; (case hd => rfl); (case hg => rfl); (case hr => first | (go_simp; done) | (go_simp; rfl)); (case hp => exact (Reps.c7 (show Kd.M k101 _ _ _ (⟨(⟨#[111, 119, 110, 115]⟩ : ByteArray), 3, 0, 0, (-1), 1, 1⟩ : S101) [.string (⟨#[111, 119, 110, 115]⟩ : ByteArray), .int .i64 3, .int .i64 0, .int .i64 0, .int .i64 (-1), .int .i64 1, .int .i64 1] from (k101_mkM _ _ _ (⟨(⟨#[111, 119, 110, 115]⟩ : ByteArray), 3, 0, 0, (-1), 1, 1⟩ : S101) )) (Reps.c7 (show Kd.M k101 _ _ _ (⟨(⟨#[112, 97, 121, 115]⟩ : ByteArray), 1, 1, 0, (-1), 0, (-1)⟩ : S101) [.string (⟨#[112, 97, 121, 115]⟩ : ByteArray), .int .i64 1, .int .i64 1, .int .i64 0, .int .i64 (-1), .int .i64 0, .int .i64 (-1)] from (k101_mkM _ _ _ (⟨(⟨#[112, 97, 121, 115]⟩ : ByteArray), 1, 1, 0, (-1), 0, (-1)⟩ : S101) )) (Reps.none _ _)))); intro F1 G3 e4 hb hg_ hnew_; clear hg_ hnew_; (first | rw [← o2.out] at e4 | (simp only [Int.reduceToNat] at e4; rw [← o2.out] at e4)); replace g0 := Aside0.mk (Kd.N_elder' (kN g0) (Kd.R_base e4) hb); have o8 := Aside0.mk (Kd.R_lower (Kd.R_newM (M := fun k_ => (w.heap.size ≤ k_)) e4 (below_size (bb HB)) (fun k_ h_ => h_)) (below_size (bb HB))); replace b3 := bkb b3 hb; replace HB := bstep HB hb; clear hb e4; obtain ⟨m8, m6, eo15⟩ := Kd.R_slice o8.out; subst eo15; obtain ⟨m7, m5, eo16⟩ := Kd.N_slice g0.out; subst eo16; obtain ⟨C3, C2, w3, w0⟩ := cz2 b3))
 refine bodyPost_ret (results_cell_row rfl _ _ a9 31 #[.slice m7 g5.length m5, .slice m8 j1.length m6] (0, 0) _ rfl (bkP b3) Tryz.underlying31 rfl (by kernel_rfl)) rfl ?_
 exact ⟨_, _, erf, by (with_reducible repeat (first | apply Kd.N_alloc | apply Kd.N_drewN | apply Kd.N_drew)); exact Kd.N_mono (Kd.N_far (p := ⟨a9, 1, none⟩) (Kd.N_far (p := ⟨a9, 0, none⟩) (Kd.N_mono g0.out (fun k_ hk => (⟨hk, hk.1.2⟩ : _ ∧ k_ ≠ a9))) (fun _ hk => hk.2) (.slice m7 g5.length m5)) (fun _ hk => hk.2) (.slice m8 j1.length m6)) (fun _ hk => ⟨hk.1.1.1, hk.1.2⟩), by (with_reducible repeat (first | apply Kd.R_alloc | apply Kd.R_drewN | apply Kd.R_drew)); exact Kd.R_mono (Kd.R_far (p := ⟨a9, 1, none⟩) (Kd.R_far (p := ⟨a9, 0, none⟩) (Kd.R_types o8.out b3.out (by decide)) (fun _ hk => hk.2) (.slice m7 g5.length m5)) (fun _ hk => hk.2) (.slice m8 j1.length m6)) (fun _ hk => hk.1.1), bb HB⟩
end Go.Proofs.YtfpianecohobjaaGreat.P
