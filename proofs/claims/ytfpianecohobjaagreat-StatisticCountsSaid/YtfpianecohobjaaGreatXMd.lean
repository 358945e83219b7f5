/- StatisticOf: a part of its proof. No condition. -/
import Derived.Test.YtfpianecohobjaaGreatXPx0
import Derived.Test.YtfpianecohobjaaGreatXMa
import Derived.Test.YtfpianecohobjaaGreatXMk
import Derived.Test.YtfpianecohobjaaGreatXMg
namespace Go.Proofs.YtfpianecohobjaaGreat.P
open Go.RowKit Go.Proofs.YtfpianecohobjaaGreatW.PrintWords Go.Proofs.YtfpianecohobjaaGreatW.PrintLast Go.Proofs.YtfpianecohobjaaGreatW.PrintMore
set_option maxHeartbeats 8000000
set_option maxRecDepth 100000
set_option linter.unusedVariables false
set_option linter.unusedSimpArgs false
def types_Is.f (k : Nat) (a7 : List (S96)) (a8 : List (S101)) (a1 : Int) (a2 : Int) : Option (Bool) := (types_given.f k a7 a8 (([a1, a2] : List Int))).bind fun e1 => (if e1 = 0 then ((types_is.f k a7 a8 a1 a2).bind fun e7 => (some e7)) else (some false))
theorem types_Is.mono : ∀ a0 a1 a2 a3 k, LeO (types_Is.f k a0 a1 a2 a3) (types_Is.f (k + 1) a0 a1 a2 a3) := by
 intro a0 a1 a2 a3 k
 unfold types_Is.f
 repeat' first
   | (with_reducible exact types_given.mono _ _ _ _)
   | (with_reducible exact types_is.mono _ _ _ _ _)
   | (with_reducible exact LeO.refl _)
   | (with_reducible exact LeO.none _)
   | (with_reducible refine LeO.ite ?_ ?_)
   | (with_reducible refine LeO.bind ?_ (fun _ => ?_))
theorem types_Is.calls (k : Nat) (b5 : Option Addr) (b3 : Nat) (a7 : List (S96)) (b4 : Option Addr) (b2 : Nat) (a8 : List (S101)) (a1 : Int) (a2 : Int) (r : Bool) (w : World) (g4 : Kd.C k96 w b5 a7.length a7) (g6 : a7.length ≤ b3) (g3 : Kd.C k101 w b4 a8.length a8) (g5 : a8.length ≤ b2) (h : types_Is.f k a7 a8 a1 a2 = some r) :
  Calls Tryz.prog 59 #[.agg #[.slice b5 a7.length b3, .slice b4 a8.length b2], .int .i64 a1, .int .i64 a2] w fun e w' => e = .returned (.bool r) ∧ Below w.heap.size w w' := by
 have hu31 := Tryz.underlying31
 have c9 := am g4
 have d1 := am g6
 clear g4 g6
 have c8 := am g3
 have d0 := am g5
 clear g3 g5
 have HB := am (Below.refl w.heap.size w)
 have H : ((types_given.f k a7 a8 (([a1, a2] : List Int))).bind fun e1 => (if e1 = 0 then ((types_is.f k a7 a8 a1 a2).bind fun e7 => (some e7)) else (some false))) = some r := h
 clear h
 obtain ⟨h3, h2⟩ := leq (α := List Int) (([a1, a2] : List Int))
 rw [← h2.out] at H
 obtain ⟨e1, A4, H⟩ := obA H
 by_cases c5 : e1 = 0
 rotate_left
 ·rw [if_neg c5] at H
  have j2 := beq_eq_false_iff_ne.mpr c5
  have j1 := bne_iff_ne.mpr c5
  obtain rfl := Option.some.inj H
  go_enter Tryz.func59, Tryz.ntmps59
  go_wp2_with (first | ((with_reducible refine gate_dst (N := 3) rfl ?_); refine be 3 #[.slice b5 a7.length b3, .slice b4 a8.length b2] 31 ?_; intro o5 hg E1 hbox hb; have c0 := am (hbox); have o8 := bsz HB hg; replace HB := bstep HB hb; clear hb hbox hg; obtain ⟨x0, w6, s6, s5⟩ := cz2 c0) | ((with_reducible refine gate_dst (N := 10) rfl ?_); refine Kd.R_lit (Kd.int .i64) _ 3 ?hg (N := 10) ?hd (xs := ([a1, a2] : List Int)) (inner := [.int .i64 a1, .int .i64 a2]) (ok := fun _ => True) (okp := fun _ => True) ?hr ?hp (fun _ hk => hk) trivial (Below.refl _ _) (Nat.le_refl _) (by simp) ?_; (case hd => rfl); (case hg => rfl); (case hr => first | (go_simp; done) | (go_simp; rfl)); (case hp => exact (Reps.one (show Kd.M (Kd.int .i64) _ _ _ a1 [.int .i64 a1] from rfl) (Reps.one (show Kd.M (Kd.int .i64) _ _ _ a2 [.int .i64 a2] from rfl) (Reps.none _ _)))); intro p2 E0 h7 hb hg_ hnew_; clear hg_ hnew_; (first | rw [← h2.out] at h7 | (simp only [Int.reduceToNat] at h7; rw [← h2.out] at h7)); have c3 := am (Kd.R_lower h7 (below_size (bb HB))); replace c0 := bkb c0 hb; replace HB := bstep HB hb; clear hb h7; obtain ⟨p5, p3, eo19⟩ := Kd.R_slice c3.out; subst eo19) | ((with_reducible refine gate_callee (f := 79) rfl ?_); refine gl 11 Tryz.func79 #[.agg #[.slice b5 a7.length b3, .slice b4 a8.length b2], .slice p5 h3.length p3] (h := ?_); (with_reducible refine (types_given.calls k _ _ a7 _ _ a8 _ _ h3 e1 _ ?b9 ?b8 ?b7 ?b6 ?c6 ?c4 A4.out).mono ?_); (case b9 => exact cb c9 HB); (case b8 => exact d1.out); (case b7 => exact cb c8 HB); (case b6 => exact d0.out); (case c6 => repeat (first | exact (Kd.R_reads' c3.out).2.2 | (with_reducible refine Kd.C_alloc ?_ _) | (with_reducible refine Kd.C_drewN ?_ _) | (with_reducible refine Kd.C_drew ?_))); (case c4 => exact (Kd.R_reads' c3.out).2.1); rintro e D9 ⟨rfl, hb⟩; refine ⟨_, rfl, ?_⟩; replace c3 := kRb c3 hb; replace c0 := bkb c0 hb; replace HB := bstep HB hb; (try clear hb); (try clear hb2); (try clear hk); (try clear hi)))
  go_ret
  exact ⟨erf, bb HB⟩
 rw [if_pos c5] at H
 have j2 := beq_iff_eq.mpr c5
 have j1 := bne_eq_false_iff_eq.mpr c5
 clear c5
 obtain ⟨e7, A6, H⟩ := obA H
 obtain rfl := Option.some.inj H
 go_enter Tryz.func59, Tryz.ntmps59
 go_wp2_with (first | ((with_reducible refine gate_dst (N := 3) rfl ?_); refine be 3 #[.slice b5 a7.length b3, .slice b4 a8.length b2] 31 ?_; intro o5 hg w7 hbox hb; have c0 := am (hbox); have o8 := bsz HB hg; replace HB := bstep HB hb; clear hb hbox hg; obtain ⟨x8, x7, x6, x5⟩ := cz2 c0) | ((with_reducible refine gate_dst (N := 10) rfl ?_); refine Kd.R_lit (Kd.int .i64) _ 3 ?hg (N := 10) ?hd (xs := ([a1, a2] : List Int)) (inner := [.int .i64 a1, .int .i64 a2]) (ok := fun _ => True) (okp := fun _ => True) ?hr ?hp (fun _ hk => hk) trivial (Below.refl _ _) (Nat.le_refl _) (by simp) ?_; (case hd => rfl); (case hg => rfl); (case hr => first | (go_simp; done) | (go_simp; rfl)); (case hp => exact (Reps.one (show Kd.M (Kd.int .i64) _ _ _ a1 [.int .i64 a1] from rfl) (Reps.one (show Kd.M (Kd.int .i64) _ _ _ a2 [.int .i64 a2] from rfl) (Reps.none _ _)))); intro p2 w9 h8 hb hg_ hnew_; clear hg_ hnew_; (first | rw [← h2.out] at h8 | (simp only [Int.reduceToNat] at h8; rw [← h2.out] at h8)); have c3 := am (Kd.R_lower h8 (below_size (bb HB))); replace c0 := bkb c0 hb; replace HB := bstep HB hb; clear hb h8; obtain ⟨p6, p4, eo11⟩ := Kd.R_slice c3.out; subst eo11) | ((with_reducible refine gate_callee (f := 79) rfl ?_); refine gl 11 Tryz.func79 #[.agg #[.slice b5 a7.length b3, .slice b4 a8.length b2], .slice p6 h3.length p4] (h := ?_); (with_reducible refine (types_given.calls k _ _ a7 _ _ a8 _ _ h3 e1 _ ?b9 ?b8 ?b7 ?b6 ?c6 ?c4 A4.out).mono ?_); (case b9 => exact cb c9 HB); (case b8 => exact d1.out); (case b7 => exact cb c8 HB); (case b6 => exact d0.out); (case c6 => repeat (first | exact (Kd.R_reads' c3.out).2.2 | (with_reducible refine Kd.C_alloc ?_ _) | (with_reducible refine Kd.C_drewN ?_ _) | (with_reducible refine Kd.C_drew ?_))); (case c4 => exact (Kd.R_reads' c3.out).2.1); rintro e E4 ⟨rfl, hb⟩; refine ⟨_, rfl, ?_⟩; replace c3 := kRb c3 hb; replace c0 := bkb c0 hb; replace HB := bstep HB hb; (try clear hb); (try clear hb2); (try clear hk); (try clear hi); obtain ⟨x3, x1, s8, s7⟩ := cz2 c0) | (go_at_call 80; (with_reducible refine (types_is.calls k _ _ a7 _ _ a8 a1 a2 e7 _ ?b9 ?b8 ?b7 ?b6 A6.out).mono ?_); (case b9 => exact cb c9 HB); (case b8 => exact d1.out); (case b7 => exact cb c8 HB); (case b6 => exact d0.out); rintro e E2 ⟨rfl, hb⟩; replace c3 := kRb c3 hb; replace c0 := bkb c0 hb; replace HB := bstep HB hb; (try clear hb); (try clear hb2); (try clear hk); (try clear hi)))
 go_ret
 exact ⟨erf, bb HB⟩
def statistic_Nodes.l0 : Nat → Int → Int → List (S75) → Int → Int → List (S96) → List (S101) → Option (Int × Int)
 | 0, _, _, _, _, _, _, _ => none
 | k + 1, x2, x9, j7, o4, h5, h1, h0 => if h5 < o4 then (if 0 ≤ h5 then (if h5 < (j7.length : Int) then ((types_Is.f k h1 h0 ((rd_T75 j7 h5).f0) x2).bind fun j8 => (if j8 = true then (statistic_Nodes.l0 k x2 (wrap64 (x9 + ((rd_T75 j7 h5).f3))) j7 o4 (wrap64 (h5 + 1)) h1 h0) else (statistic_Nodes.l0 k x2 x9 j7 o4 (wrap64 (h5 + 1)) h1 h0))) else (none)) else (none)) else (some (x9, 0))
def statistic_Nodes.f (k : Nat) (a7 : List (S96)) (a8 : List (S101)) (a5 : List (S75)) (b1 : List (S75)) (a2 : Int) : Option (Int × Int) := (statistic_Valid.f k a7 a8 a5 b1).bind fun d6 => (if d6 = 0 then ((statistic_is.f a2 (a7.length : Int)).bind fun h6 => (if h6 = true then (statistic_Nodes.l0 k a2 0 a5 (a5.length : Int) 0 a7 a8) else (some (0, 6)))) else (some (0, d6)))
theorem statistic_Nodes.mono_l : ∀ k, (∀ y0 y1 y2 y3 y4 y5 y6, LeO (statistic_Nodes.l0 k y0 y1 y2 y3 y4 y5 y6) (statistic_Nodes.l0 (k + 1) y0 y1 y2 y3 y4 y5 y6))
 | 0 => fun _ _ _ _ _ _ _ r h => by simp [statistic_Nodes.l0] at h
 | k + 1 => by
  have ih0 := statistic_Nodes.mono_l k
  ·intro y0 y1 y2 y3 y4 y5 y6
   unfold statistic_Nodes.l0
   repeat' first
   | (with_reducible exact ih0 _ _ _ _ _ _ _)
   | (with_reducible exact statistic_Valid.mono _ _ _ _ _)
   | (with_reducible exact types_Is.mono _ _ _ _ _)
   | (with_reducible exact LeO.refl _)
   | (with_reducible exact LeO.none _)
   | (with_reducible refine LeO.ite ?_ ?_)
   | (with_reducible refine LeO.bind ?_ (fun _ => ?_))
theorem statistic_Nodes.mono : ∀ a0 a1 a2 a3 a4 k, LeO (statistic_Nodes.f k a0 a1 a2 a3 a4) (statistic_Nodes.f (k + 1) a0 a1 a2 a3 a4) := by
 intro a0 a1 a2 a3 a4 k
 have ih0 := statistic_Nodes.mono_l k
 unfold statistic_Nodes.f
 repeat' first
   | (with_reducible exact ih0 _ _ _ _ _ _ _)
   | (with_reducible exact statistic_Valid.mono _ _ _ _ _)
   | (with_reducible exact types_Is.mono _ _ _ _ _)
   | (with_reducible exact LeO.refl _)
   | (with_reducible exact LeO.none _)
   | (with_reducible refine LeO.ite ?_ ?_)
   | (with_reducible refine LeO.bind ?_ (fun _ => ?_))
theorem statistic_Nodes.calls (k : Nat) (b5 : Option Addr) (b3 : Nat) (a7 : List (S96)) (b4 : Option Addr) (b2 : Nat) (a8 : List (S101)) (e2 : Option Addr) (d3 : Nat) (a5 : List (S75)) (d4 : Option Addr) (d2 : Nat) (b1 : List (S75)) (a2 : Int) (r1 : Int) (r2 : Int) (w : World) (g4 : Kd.C k96 w b5 a7.length a7) (g6 : a7.length ≤ b3) (g3 : Kd.C k101 w b4 a8.length a8) (g5 : a8.length ≤ b2) (m1 : Kd.C k75 w e2 a5.length a5) (m3 : a5.length ≤ d3) (m0 : Kd.C k75 w d4 b1.length b1) (m2 : b1.length ≤ d2) (h : statistic_Nodes.f k a7 a8 a5 b1 a2 = some (r1, r2)) :
  Calls Tryz.prog 25 #[.agg #[.slice b5 a7.length b3, .slice b4 a8.length b2], .agg #[.slice e2 a5.length d3, .slice d4 b1.length d2], .int .i64 a2] w fun e w' => e = .returned (.tuple #[.int .i64 r1, .int .i64 r2]) ∧ Below w.heap.size w w' := by
 have hu31 := Tryz.underlying31
 have hu46 := Tryz.underlying46
 have hu75 := Tryz.underlying75
 have c9 := am g4
 have d1 := am g6
 clear g4 g6
 have c8 := am g3
 have d0 := am g5
 clear g3 g5
 have g9 := am m1
 have j6 := am m3
 clear m1 m3
 have j4 := am m0
 have j5 := am m2
 clear m0 m2
 have HB := am (Below.refl w.heap.size w)
 have H : ((statistic_Valid.f k a7 a8 a5 b1).bind fun d6 => (if d6 = 0 then ((statistic_is.f a2 (a7.length : Int)).bind fun h6 => (if h6 = true then (statistic_Nodes.l0 k a2 0 a5 (a5.length : Int) 0 a7 a8) else (some (0, 6)))) else (some (0, d6)))) = some (r1, r2) := h
 clear h
 obtain ⟨d6, A4, H⟩ := obA H
 by_cases c5 : d6 = 0
 rotate_left
 ·rw [if_neg c5] at H
  have j2 := beq_eq_false_iff_ne.mpr c5
  have j1 := bne_iff_ne.mpr c5
  simp only [Option.some.injEq, Prod.mk.injEq] at H
  obtain ⟨rfl, rfl⟩ := H
  go_enter Tryz.func25, Tryz.ntmps25
  go_wp2_with (first | ((with_reducible refine gate_dst (N := 3) rfl ?_); refine be 3 #[.slice b5 a7.length b3, .slice b4 a8.length b2] 31 ?_; intro g8 hg D1 hbox hb; have a6 := am (hbox); have m7 := bsz HB hg; replace HB := bstep HB hb; clear hb hbox hg) | ((with_reducible refine gate_dst (N := 4) rfl ?_); refine be 4 #[.slice e2 a5.length d3, .slice d4 b1.length d2] 46 ?_; intro g7 hg D0 hbox hb; have b0 := am (hbox); have m6 := bsz HB hg; replace HB := bstep HB hb; have c2 := blt a6 hg; have c1 := bgt a6 hg; replace a6 := bkb a6 hb; clear hb hbox hg; have A8 := c2.out; have y7 := c1.out; obtain ⟨t2, t1, q0, p9⟩ := cz2 a6; obtain ⟨t0, s9, p8, p7⟩ := cz2 b0) | ((with_reducible refine gate_callee (f := 23) rfl ?_); refine gl 14 Tryz.func23 #[.agg #[.slice b5 a7.length b3, .slice b4 a8.length b2], .agg #[.slice e2 a5.length d3, .slice d4 b1.length d2]] (h := ?_); (with_reducible refine (statistic_Valid.calls k _ _ a7 _ _ a8 _ _ a5 _ _ b1 d6 _ ?b9 ?b8 ?b7 ?b6 ?c6 ?c4 ?g1 ?g0 A4.out).mono ?_); (case b9 => exact cb c9 HB); (case b8 => exact d1.out); (case b7 => exact cb c8 HB); (case b6 => exact d0.out); (case c6 => exact cb g9 HB); (case c4 => exact j6.out); (case g1 => exact cb j4 HB); (case g0 => exact j5.out); rintro e C9 ⟨rfl, hb⟩; refine ⟨_, rfl, ?_⟩; replace a6 := bkb a6 hb; replace b0 := bkb b0 hb; replace HB := bstep HB hb; (try clear hb); (try clear hb2); (try clear hk); (try clear hi)))
  go_ret2
  exact ⟨erf, bb HB⟩
 rw [if_pos c5] at H
 have j2 := beq_iff_eq.mpr c5
 have j1 := bne_eq_false_iff_eq.mpr c5
 clear c5
 obtain ⟨h6, A6, H⟩ := obA H
 by_cases c7 : h6 = true
 rotate_left
 ·replace c7 := Bool.eq_false_iff.mpr c7
  subst c7
  replace H := iff_ H
  simp only [Option.some.injEq, Prod.mk.injEq] at H
  obtain ⟨rfl, rfl⟩ := H
  go_enter Tryz.func25, Tryz.ntmps25
  go_wp2_with (first | ((with_reducible refine gate_dst (N := 3) rfl ?_); refine be 3 #[.slice b5 a7.length b3, .slice b4 a8.length b2] 31 ?_; intro g8 hg D4 hbox hb; have a6 := am (hbox); have m7 := bsz HB hg; replace HB := bstep HB hb; clear hb hbox hg) | ((with_reducible refine gate_dst (N := 4) rfl ?_); refine be 4 #[.slice e2 a5.length d3, .slice d4 b1.length d2] 46 ?_; intro g7 hg D3 hbox hb; have b0 := am (hbox); have m6 := bsz HB hg; replace HB := bstep HB hb; have c2 := blt a6 hg; have c1 := bgt a6 hg; replace a6 := bkb a6 hb; clear hb hbox hg; have A9 := c2.out; have y8 := c1.out; obtain ⟨t8, t7, q6, q5⟩ := cz2 a6; obtain ⟨t6, t5, q4, q3⟩ := cz2 b0) | ((with_reducible refine gate_callee (f := 23) rfl ?_); refine gl 14 Tryz.func23 #[.agg #[.slice b5 a7.length b3, .slice b4 a8.length b2], .agg #[.slice e2 a5.length d3, .slice d4 b1.length d2]] (h := ?_); (with_reducible refine (statistic_Valid.calls k _ _ a7 _ _ a8 _ _ a5 _ _ b1 d6 _ ?b9 ?b8 ?b7 ?b6 ?c6 ?c4 ?g1 ?g0 A4.out).mono ?_); (case b9 => exact cb c9 HB); (case b8 => exact d1.out); (case b7 => exact cb c8 HB); (case b6 => exact d0.out); (case c6 => exact cb g9 HB); (case c4 => exact j6.out); (case g1 => exact cb j4 HB); (case g0 => exact j5.out); rintro e D2 ⟨rfl, hb⟩; refine ⟨_, rfl, ?_⟩; replace a6 := bkb a6 hb; replace b0 := bkb b0 hb; replace HB := bstep HB hb; (try clear hb); (try clear hb2); (try clear hk); (try clear hi); obtain ⟨t4, t3, q2, q1⟩ := cz2 a6) | ((with_reducible refine gate_callee (f := 46) rfl ?_); refine gl 22 Tryz.func46 #[.int .i64 a2, .int .i64 (a7.length : Int)] (h := ?_); (with_reducible refine (statistic_is.calls a2 (a7.length : Int) false _ A6.out).mono ?_); rintro e w' ⟨rfl, ⟨nd, rfl⟩⟩; refine ⟨_, rfl, ?_⟩))
  go_ret2
  exact ⟨erf, bb HB⟩
 subst c7
 replace H := ift H
 have H' := am H
 clear H
 go_enter Tryz.func25, Tryz.ntmps25
 go_wp2_with (first | ((with_reducible refine gate_dst (N := 3) rfl ?_); refine be 3 #[.slice b5 a7.length b3, .slice b4 a8.length b2] 31 ?_; intro g8 hg w8 hbox hb; have a6 := am (hbox); have m7 := bsz HB hg; replace HB := bstep HB hb; clear hb hbox hg) | ((with_reducible refine gate_dst (N := 4) rfl ?_); refine be 4 #[.slice e2 a5.length d3, .slice d4 b1.length d2] 46 ?_; intro g7 hg w9 hbox hb; have b0 := am (hbox); have m6 := bsz HB hg; replace HB := bstep HB hb; have c2 := blt a6 hg; have c1 := bgt a6 hg; replace a6 := bkb a6 hb; clear hb hbox hg; have C6 := c2.out; have A7 := c1.out; obtain ⟨o3, o2, n5, n4⟩ := cz2 a6; obtain ⟨o1, o0, n3, n2⟩ := cz2 b0) | ((with_reducible refine gate_callee (f := 23) rfl ?_); refine gl 14 Tryz.func23 #[.agg #[.slice b5 a7.length b3, .slice b4 a8.length b2], .agg #[.slice e2 a5.length d3, .slice d4 b1.length d2]] (h := ?_); (with_reducible refine (statistic_Valid.calls k _ _ a7 _ _ a8 _ _ a5 _ _ b1 d6 _ ?b9 ?b8 ?b7 ?b6 ?c6 ?c4 ?g1 ?g0 A4.out).mono ?_); (case b9 => exact cb c9 HB); (case b8 => exact d1.out); (case b7 => exact cb c8 HB); (case b6 => exact d0.out); (case c6 => exact cb g9 HB); (case c4 => exact j6.out); (case g1 => exact cb j4 HB); (case g0 => exact j5.out); rintro e E3 ⟨rfl, hb⟩; refine ⟨_, rfl, ?_⟩; replace a6 := bkb a6 hb; replace b0 := bkb b0 hb; replace HB := bstep HB hb; (try clear hb); (try clear hb2); (try clear hk); (try clear hi); obtain ⟨n9, n8, n1, n0⟩ := cz2 a6) | ((with_reducible refine gate_callee (f := 46) rfl ?_); refine gl 22 Tryz.func46 #[.int .i64 a2, .int .i64 (a7.length : Int)] (h := ?_); (with_reducible refine (statistic_is.calls a2 (a7.length : Int) true _ A6.out).mono ?_); rintro e w' ⟨rfl, ⟨nd, rfl⟩⟩; refine ⟨_, rfl, ?_⟩; obtain ⟨n7, n6, m9, m8⟩ := cz2 b0))
 go_loopg [9, 27] k (fun kq v9 x4 w' => ∃ (h4 : Int) (a9 : Int), v9 = .int .i64 h4 ∧ x4 = .int .i64 a9 ∧ Aside0 (statistic_Nodes.l0 kq a2 h4 a5 (a5.length : Int) a9 a7 a8 = some (r1, r2)) ∧ Aside0 (kq ≤ k) ∧ Aside0 (w'.heap[g8]? = some (.cells #[(.slice b5 a7.length b3), (.slice b4 a8.length b2)] 31 (0, 0))) ∧ Aside0 (w'.heap[g7]? = some (.cells #[(.slice e2 a5.length d3), (.slice d4 b1.length d2)] 46 (0, 0))) ∧ Aside0 (Below w.heap.size w w'))
 case atStart => exact ⟨(0), (0), eqs, eqs, H', ⟨Nat.le_refl _⟩, ⟨bk a6⟩, ⟨bk b0⟩, ⟨bb HB⟩⟩
 case round =>
  clear H'
  clear j2
  clear j1
  clear o3
  clear o2
  clear o1
  clear o0
  clear n9
  clear n8
  clear n7
  clear n6
  clear n5
  clear n4
  clear n3
  clear n2
  clear n1
  clear n0
  clear m9
  clear m8
  obtain ⟨h4, a9, rfl, rfl, HA, m5, a6, b0, HB⟩ := hrel
  cases gk with
  | zero => exact absurd HA.out (by simp [statistic_Nodes.l0])
  | succ k1 =>
   have H := HA.out
   clear HA
   simp only [statistic_Nodes.l0] at H
   by_cases h9 : a9 < (a5.length : Int)
   rotate_left
   ·rw [if_neg h9] at H
    have o6 := decide_eq_false h9
    clear h9
    simp only [Option.some.injEq, Prod.mk.injEq] at H
    obtain ⟨rfl, rfl⟩ := H
    go_wp2
    go_ret2
    exact ⟨erf, bb HB⟩
   rw [if_pos h9] at H
   have o6 := decide_eq_true h9
   clear h9
   obtain ⟨p0, H⟩ := itn H
   have C8 := decide_eq_true p0
   clear p0
   obtain ⟨o9, H⟩ := itn H
   have C7 := decide_eq_true o9
   clear o9
   obtain ⟨j8, p1, H⟩ := obA H
   by_cases m4 : j8 = true
   ·subst m4
    replace H := ift H
    have H' := am H
    clear H
    have e9 : 0 ≤ a9 := odt
    have e8 : a9 < (a5.length : Int) := odt
    obtain ⟨j3, j9, e0, d9, d8, d7⟩ := at_T75 g9.out a9 e9 e8
    cases j9
    replace e0 := hxc HB e0
    replace d9 := hxc HB d9
    replace d8 := hxc HB d8
    replace d7 := hxc HB d7
    replace e9 := eq_true e9
    replace e8 := eq_true e8
    go_wp2_with (first | ((with_reducible refine gate_dst (N := 11) rfl ?_); refine be 11 #[.int .i64 0, .int .i64 0, .int .i64 0, .int .i64 0] 75 ?_; intro j0 hg D8 hbox hb; have d5 := am (hbox); have o7 := bsz HB hg; replace HB := bstep HB hb; have e6 := blt a6 hg; have e4 := bgt a6 hg; replace a6 := bkb a6 hb; have e5 := blt b0 hg; have e3 := bgt b0 hg; replace b0 := bkb b0 hb; clear hb hbox hg; have C5 := e4.out; have A5 := e6.out; have C4 := e3.out; have A3 := e5.out; obtain ⟨w5, w4, w3, w2, s4, s3, s2, s1⟩ := cz4 d5; have C3 := c2.out; have A2 := c1.out; obtain ⟨w1, w0, s0, r9⟩ := cz2 a6) | ((with_reducible refine gate_callee (f := 59) rfl ?_); refine gl 35 Tryz.func59 #[.agg #[.slice b5 a7.length b3, .slice b4 a8.length b2], .int .i64 ((rd_T75 a5 a9).f0), .int .i64 a2] (h := ?_); (with_reducible refine (types_Is.calls k1 _ _ a7 _ _ a8 ((rd_T75 a5 a9).f0) a2 true _ ?b9 ?b8 ?b7 ?b6 p1.out).mono ?_); (case b9 => exact Kd.C_below c9.out (bb HB)); (case b8 => exact d1.out); (case b7 => exact Kd.C_below c8.out (bb HB)); (case b6 => exact d0.out); rintro e D7 ⟨rfl, hb⟩; refine ⟨_, rfl, ?_⟩; replace a6 := am (blk_below (g := g8) (o := .cells #[.slice b5 a7.length b3, .slice b4 a8.length b2] 31 (0, 0)) (bkF a6) hb); replace b0 := am (blk_below (g := g7) (o := .cells #[.slice (some j3) a5.length d3, .slice d4 b1.length d2] 46 (0, 0)) (bkF b0) hb); replace d5 := am (blk_below (g := j0) (o := .cells #[.int .i64 ((rd_T75 a5 a9).f0), .int .i64 ((rd_T75 a5 a9).f1), .int .i64 ((rd_T75 a5 a9).f2), .int .i64 ((rd_T75 a5 a9).f3)] 75 (0, 0)) (by (with_reducible repeat (first | refine dN ?_ _ | refine dR ?_ | refine dA ?_ _)); refine blk_put (cs := #[.int .i64 ((rd_T75 a5 a9).f0), .int .i64 ((rd_T75 a5 a9).f1), .int .i64 ((rd_T75 a5 a9).f2), .int .i64 0]) ?_ 3 _ rfl; refine blk_put (cs := #[.int .i64 ((rd_T75 a5 a9).f0), .int .i64 ((rd_T75 a5 a9).f1), .int .i64 0, .int .i64 0]) ?_ 2 _ rfl; refine blk_put (cs := #[.int .i64 ((rd_T75 a5 a9).f0), .int .i64 0, .int .i64 0, .int .i64 0]) ?_ 1 _ rfl; refine blk_put (cs := #[.int .i64 0, .int .i64 0, .int .i64 0, .int .i64 0]) ?_ 0 _ rfl; (with_reducible repeat (first | refine dN ?_ _ | refine dR ?_ | refine dA ?_ _)); exact d5.out) hb); replace HB := bstep HB hb; (try clear hb); (try clear hb2); (try clear hk); (try clear hi); obtain ⟨v8, v7, v6, v5, r8, r7, r6, r5⟩ := cz4 d5))
    go_roundg k1
    case measure => have := m5.out; omega
    case rel => exact ⟨(wrap64 (h4 + ((rd_T75 a5 a9).f3))), (wrap64 (a9 + 1)), eqs, eqs, H', ⟨by have := m5.out; omega⟩, ⟨bk a6⟩, ⟨bk b0⟩, ⟨bb HB⟩⟩
   replace m4 := Bool.eq_false_iff.mpr m4
   subst m4
   replace H := iff_ H
   have H' := am H
   clear H
   have e9 : 0 ≤ a9 := odt
   have e8 : a9 < (a5.length : Int) := odt
   obtain ⟨j3, j9, e0, d9, d8, d7⟩ := at_T75 g9.out a9 e9 e8
   cases j9
   replace e0 := hxc HB e0
   replace d9 := hxc HB d9
   replace d8 := hxc HB d8
   replace d7 := hxc HB d7
   replace e9 := eq_true e9
   replace e8 := eq_true e8
   go_wp2_with (first | ((with_reducible refine gate_dst (N := 11) rfl ?_); refine be 11 #[.int .i64 0, .int .i64 0, .int .i64 0, .int .i64 0] 75 ?_; intro j0 hg D6 hbox hb; have d5 := am (hbox); have o7 := bsz HB hg; replace HB := bstep HB hb; have e6 := blt a6 hg; have e4 := bgt a6 hg; replace a6 := bkb a6 hb; have e5 := blt b0 hg; have e3 := bgt b0 hg; replace b0 := bkb b0 hb; clear hb hbox hg; have C2 := e4.out; have A1 := e6.out; have C1 := e3.out; have A0 := e5.out; obtain ⟨v4, v3, v2, v1, r4, r3, r0, q9⟩ := cz4 d5; have C0 := c2.out; have y9 := c1.out; obtain ⟨v0, t9, q8, q7⟩ := cz2 a6) | ((with_reducible refine gate_callee (f := 59) rfl ?_); refine gl 35 Tryz.func59 #[.agg #[.slice b5 a7.length b3, .slice b4 a8.length b2], .int .i64 ((rd_T75 a5 a9).f0), .int .i64 a2] (h := ?_); (with_reducible refine (types_Is.calls k1 _ _ a7 _ _ a8 ((rd_T75 a5 a9).f0) a2 false _ ?b9 ?b8 ?b7 ?b6 p1.out).mono ?_); (case b9 => exact Kd.C_below c9.out (bb HB)); (case b8 => exact d1.out); (case b7 => exact Kd.C_below c8.out (bb HB)); (case b6 => exact d0.out); rintro e D5 ⟨rfl, hb⟩; refine ⟨_, rfl, ?_⟩; replace a6 := am (blk_below (g := g8) (o := .cells #[.slice b5 a7.length b3, .slice b4 a8.length b2] 31 (0, 0)) (bkF a6) hb); replace b0 := am (blk_below (g := g7) (o := .cells #[.slice (some j3) a5.length d3, .slice d4 b1.length d2] 46 (0, 0)) (bkF b0) hb); replace d5 := am (blk_below (g := j0) (o := .cells #[.int .i64 ((rd_T75 a5 a9).f0), .int .i64 ((rd_T75 a5 a9).f1), .int .i64 ((rd_T75 a5 a9).f2), .int .i64 ((rd_T75 a5 a9).f3)] 75 (0, 0)) (by (with_reducible repeat (first | refine dN ?_ _ | refine dR ?_ | refine dA ?_ _)); refine blk_put (cs := #[.int .i64 ((rd_T75 a5 a9).f0), .int .i64 ((rd_T75 a5 a9).f1), .int .i64 ((rd_T75 a5 a9).f2), .int .i64 0]) ?_ 3 _ rfl; refine blk_put (cs := #[.int .i64 ((rd_T75 a5 a9).f0), .int .i64 ((rd_T75 a5 a9).f1), .int .i64 0, .int .i64 0]) ?_ 2 _ rfl; refine blk_put (cs := #[.int .i64 ((rd_T75 a5 a9).f0), .int .i64 0, .int .i64 0, .int .i64 0]) ?_ 1 _ rfl; refine blk_put (cs := #[.int .i64 0, .int .i64 0, .int .i64 0, .int .i64 0]) ?_ 0 _ rfl; (with_reducible repeat (first | refine dN ?_ _ | refine dR ?_ | refine dA ?_ _)); exact d5.out) hb); replace HB := bstep HB hb; (try clear hb); (try clear hb2); (try clear hk); (try clear hi)))
   go_roundg k1
   case measure => have := m5.out; omega
   case rel => exact ⟨(h4), (wrap64 (a9 + 1)), eqs, eqs, H', ⟨by have := m5.out; omega⟩, ⟨bk a6⟩, ⟨bk b0⟩, ⟨bb HB⟩⟩
mutual
def statistic_Edges.j0 : Nat → Int → Int → Int → Bool → List (S96) → List (S101) → List (S75) → List (S75) → Option (Int × Int)
 | 0, _, _, _, _, _, _, _, _ => none
 | k + 1, x2, x3, x4, I9, d6, d5, v0, m4 => if I9 = true then (some (0, 6)) else (statistic_Edges.l0 k x2 x3 x4 0 m4 (m4.length : Int) 0 d6 d5)
def statistic_Edges.l0 : Nat → Int → Int → Int → Int → List (S75) → Int → Int → List (S96) → List (S101) → Option (Int × Int)
 | 0, _, _, _, _, _, _, _, _, _ => none
 | k + 1, x2, x3, x4, n7, h2, n6, g2, d6, d5 => if g2 < n6 then (if 0 ≤ g2 then (if g2 < (h2.length : Int) then (if ((rd_T75 h2 g2).f0) = x2 then ((types_Is.f k d6 d5 ((rd_T75 h2 g2).f1) x3).bind fun o0 => (if o0 = true then ((types_Is.f k d6 d5 ((rd_T75 h2 g2).f2) x4).bind fun n9 => (if n9 = true then (statistic_Edges.l0 k x2 x3 x4 (wrap64 (n7 + ((rd_T75 h2 g2).f3))) h2 n6 (wrap64 (g2 + 1)) d6 d5) else (statistic_Edges.l0 k x2 x3 x4 n7 h2 n6 (wrap64 (g2 + 1)) d6 d5))) else (statistic_Edges.l0 k x2 x3 x4 n7 h2 n6 (wrap64 (g2 + 1)) d6 d5))) else (statistic_Edges.l0 k x2 x3 x4 n7 h2 n6 (wrap64 (g2 + 1)) d6 d5)) else (none)) else (none)) else (some (n7, 0))
end
def statistic_Edges.f (k : Nat) (b2 : List (S96)) (b1 : List (S101)) (b4 : List (S75)) (a9 : List (S75)) (a2 : Int) (a3 : Int) (a4 : Int) : Option (Int × Int) := (statistic_Valid.f k b2 b1 b4 a9).bind fun e7 => (if e7 = 0 then ((statistic_is.f a2 (b1.length : Int)).bind fun j9 => (if j9 = true then ((statistic_is.f a3 (b2.length : Int)).bind fun j8 => (if j8 = true then ((statistic_is.f a4 (b2.length : Int)).bind fun h9 => (statistic_Edges.j0 k a2 a3 a4 (!h9) b2 b1 b4 a9)) else (statistic_Edges.j0 k a2 a3 a4 true b2 b1 b4 a9))) else (statistic_Edges.j0 k a2 a3 a4 true b2 b1 b4 a9))) else (some (0, e7)))
theorem statistic_Edges.mono_l : ∀ k, (∀ y0 y1 y2 y3 y4 y5 y6 y7, LeO (statistic_Edges.j0 k y0 y1 y2 y3 y4 y5 y6 y7) (statistic_Edges.j0 (k + 1) y0 y1 y2 y3 y4 y5 y6 y7)) ∧ (∀ y0 y1 y2 y3 y4 y5 y6 y7 y8, LeO (statistic_Edges.l0 k y0 y1 y2 y3 y4 y5 y6 y7 y8) (statistic_Edges.l0 (k + 1) y0 y1 y2 y3 y4 y5 y6 y7 y8))
 | 0 => ⟨fun _ _ _ _ _ _ _ _ r h => by simp [statistic_Edges.j0] at h, fun _ _ _ _ _ _ _ _ _ r h => by simp [statistic_Edges.l0] at h⟩
 | k + 1 => by
  obtain ⟨ih0, ih1⟩ := statistic_Edges.mono_l k
  refine ⟨?_, ?_⟩
  ·intro y0 y1 y2 y3 y4 y5 y6 y7
   unfold statistic_Edges.j0
   repeat' first
   | (with_reducible exact ih0 _ _ _ _ _ _ _ _)
   | (with_reducible exact ih1 _ _ _ _ _ _ _ _ _)
   | (with_reducible exact statistic_Valid.mono _ _ _ _ _)
   | (with_reducible exact types_Is.mono _ _ _ _ _)
   | (with_reducible exact LeO.refl _)
   | (with_reducible exact LeO.none _)
   | (with_reducible refine LeO.ite ?_ ?_)
   | (with_reducible refine LeO.bind ?_ (fun _ => ?_))
  ·intro y0 y1 y2 y3 y4 y5 y6 y7 y8
   unfold statistic_Edges.l0
   repeat' first
   | (with_reducible exact ih0 _ _ _ _ _ _ _ _)
   | (with_reducible exact ih1 _ _ _ _ _ _ _ _ _)
   | (with_reducible exact statistic_Valid.mono _ _ _ _ _)
   | (with_reducible exact types_Is.mono _ _ _ _ _)
   | (with_reducible exact LeO.refl _)
   | (with_reducible exact LeO.none _)
   | (with_reducible refine LeO.ite ?_ ?_)
   | (with_reducible refine LeO.bind ?_ (fun _ => ?_))
theorem statistic_Edges.mono : ∀ a0 a1 a2 a3 a4 a5 a6 k, LeO (statistic_Edges.f k a0 a1 a2 a3 a4 a5 a6) (statistic_Edges.f (k + 1) a0 a1 a2 a3 a4 a5 a6) := by
 intro a0 a1 a2 a3 a4 a5 a6 k
 obtain ⟨ih0, ih1⟩ := statistic_Edges.mono_l k
 unfold statistic_Edges.f
 repeat' first
   | (with_reducible exact ih0 _ _ _ _ _ _ _ _)
   | (with_reducible exact ih1 _ _ _ _ _ _ _ _ _)
   | (with_reducible exact statistic_Valid.mono _ _ _ _ _)
   | (with_reducible exact types_Is.mono _ _ _ _ _)
   | (with_reducible exact LeO.refl _)
   | (with_reducible exact LeO.none _)
   | (with_reducible refine LeO.ite ?_ ?_)
   | (with_reducible refine LeO.bind ?_ (fun _ => ?_))
theorem statistic_Edges.calls (k : Nat) (e5 : Option Addr) (e2 : Nat) (b2 : List (S96)) (e4 : Option Addr) (e1 : Nat) (b1 : List (S101)) (e3 : Option Addr) (e0 : Nat) (b4 : List (S75)) (g3 : Option Addr) (d9 : Nat) (a9 : List (S75)) (a2 : Int) (a3 : Int) (a4 : Int) (r1 : Int) (r2 : Int) (w : World) (o6 : Kd.C k96 w e5 b2.length b2) (p0 : b2.length ≤ e2) (o5 : Kd.C k101 w e4 b1.length b1) (o9 : b1.length ≤ e1) (o4 : Kd.C k75 w e3 b4.length b4) (o8 : b4.length ≤ e0) (o3 : Kd.C k75 w g3 a9.length a9) (o7 : a9.length ≤ d9) (h : statistic_Edges.f k b2 b1 b4 a9 a2 a3 a4 = some (r1, r2)) :
  Calls Tryz.prog 28 #[.agg #[.slice e5 b2.length e2, .slice e4 b1.length e1], .agg #[.slice e3 b4.length e0, .slice g3 a9.length d9], .int .i64 a2, .int .i64 a3, .int .i64 a4] w fun e w' => e = .returned (.tuple #[.int .i64 r1, .int .i64 r2]) ∧ Below w.heap.size w w' := by
 have hu31 := Tryz.underlying31
 have hu46 := Tryz.underlying46
 have hu75 := Tryz.underlying75
 have e9 := am o6
 have g1 := am p0
 clear o6 p0
 have e8 := am o5
 have g0 := am o9
 clear o5 o9
 have q1 := am o4
 have q4 := am o8
 clear o4 o8
 have g8 := am o3
 have q3 := am o7
 clear o3 o7
 have HB := am (Below.refl w.heap.size w)
 have H : ((statistic_Valid.f k b2 b1 b4 a9).bind fun e7 => (if e7 = 0 then ((statistic_is.f a2 (b1.length : Int)).bind fun j9 => (if j9 = true then ((statistic_is.f a3 (b2.length : Int)).bind fun j8 => (if j8 = true then ((statistic_is.f a4 (b2.length : Int)).bind fun h9 => (statistic_Edges.j0 k a2 a3 a4 (!h9) b2 b1 b4 a9)) else (statistic_Edges.j0 k a2 a3 a4 true b2 b1 b4 a9))) else (statistic_Edges.j0 k a2 a3 a4 true b2 b1 b4 a9))) else (some (0, e7)))) = some (r1, r2) := h
 clear h
 obtain ⟨e7, A6, H⟩ := obA H
 by_cases c7 : e7 = 0
 rotate_left
 ·rw [if_neg c7] at H
  have s2 := beq_eq_false_iff_ne.mpr c7
  have s1 := bne_iff_ne.mpr c7
  simp only [Option.some.injEq, Prod.mk.injEq] at H
  obtain ⟨rfl, rfl⟩ := H
  go_enter Tryz.func28, Tryz.ntmps28
  go_wp2_with (first | ((with_reducible refine gate_dst (N := 5) rfl ?_); (try (refine gate_guard (by rfl) ?_; dsimp only)); refine be 5 #[.slice e5 b2.length e2, .slice e4 b1.length e1] 31 ?_; intro g6 hg O8 hbox hb; have a7 := am (hbox); have t1 := bsz HB hg; replace HB := bstep HB hb; clear hb hbox hg) | ((with_reducible refine gate_dst (N := 6) rfl ?_); (try (refine gate_guard (by rfl) ?_; dsimp only)); refine be 6 #[.slice e3 b4.length e0, .slice g3 a9.length d9] 46 ?_; intro g5 hg O7 hbox hb; have b0 := am (hbox); have t0 := bsz HB hg; replace HB := bstep HB hb; have b7 := blt a7 hg; have b6 := bgt a7 hg; replace a7 := bkb a7 hb; clear hb hbox hg; have M1 := b7.out; have J4 := b6.out; obtain ⟨E2, E1, v4, v3⟩ := cz2 a7; obtain ⟨E0, D9, v2, v1⟩ := cz2 b0) | ((with_reducible refine gate_callee (f := 23) rfl ?_); refine gl 18 Tryz.func23 #[.agg #[.slice e5 b2.length e2, .slice e4 b1.length e1], .agg #[.slice e3 b4.length e0, .slice g3 a9.length d9]] (h := ?_); (with_reducible refine (statistic_Valid.calls k _ _ b2 _ _ b1 _ _ b4 _ _ a9 e7 _ ?d2 ?d1 ?d0 ?c9 ?n2 ?n1 ?n0 ?m9 A6.out).mono ?_); (case d2 => exact cb e9 HB); (case d1 => exact g1.out); (case d0 => exact cb e8 HB); (case c9 => exact g0.out); (case n2 => exact cb q1 HB); (case n1 => exact q4.out); (case n0 => exact cb g8 HB); (case m9 => exact q3.out); rintro e O6 ⟨rfl, hb⟩; refine ⟨_, rfl, ?_⟩; replace a7 := bkb a7 hb; replace b0 := bkb b0 hb; replace HB := bstep HB hb; (try clear hb); (try clear hb2); (try clear hk); (try clear hi)))
  go_ret2
  exact ⟨erf, bb HB⟩
 rw [if_pos c7] at H
 have s2 := beq_iff_eq.mpr c7
 have s1 := bne_eq_false_iff_eq.mpr c7
 clear c7
 have s3 := am H
 clear H
 go_enter Tryz.func28, Tryz.ntmps28
 go_upto_region 4 with (first | ((with_reducible refine gate_dst (N := 5) rfl ?_); (try (refine gate_guard (by rfl) ?_; dsimp only)); refine be 5 #[.slice e5 b2.length e2, .slice e4 b1.length e1] 31 ?_; intro g6 hg w9 hbox hb; have a7 := am (hbox); have t1 := bsz HB hg; replace HB := bstep HB hb; clear hb hbox hg) | ((with_reducible refine gate_dst (N := 6) rfl ?_); (try (refine gate_guard (by rfl) ?_; dsimp only)); refine be 6 #[.slice e3 b4.length e0, .slice g3 a9.length d9] 46 ?_; intro g5 hg Q1 hbox hb; have b0 := am (hbox); have t0 := bsz HB hg; replace HB := bstep HB hb; have b7 := blt a7 hg; have b6 := bgt a7 hg; replace a7 := bkb a7 hb; clear hb hbox hg; have N7 := b7.out; have M0 := b6.out; obtain ⟨r8, r7, r0, q9⟩ := cz2 a7; obtain ⟨r6, r5, q8, q7⟩ := cz2 b0) | ((with_reducible refine gate_callee (f := 23) rfl ?_); refine gl 18 Tryz.func23 #[.agg #[.slice e5 b2.length e2, .slice e4 b1.length e1], .agg #[.slice e3 b4.length e0, .slice g3 a9.length d9]] (h := ?_); (with_reducible refine (statistic_Valid.calls k _ _ b2 _ _ b1 _ _ b4 _ _ a9 e7 _ ?d2 ?d1 ?d0 ?c9 ?n2 ?n1 ?n0 ?m9 A6.out).mono ?_); (case d2 => exact cb e9 HB); (case d1 => exact g1.out); (case d0 => exact cb e8 HB); (case c9 => exact g0.out); (case n2 => exact cb q1 HB); (case n1 => exact q4.out); (case n0 => exact cb g8 HB); (case m9 => exact q3.out); rintro e P8 ⟨rfl, hb⟩; refine ⟨_, rfl, ?_⟩; replace a7 := bkb a7 hb; replace b0 := bkb b0 hb; replace HB := bstep HB hb; (try clear hb); (try clear hb2); (try clear hk); (try clear hi)))
 (try simp only [Act.put, List.setIfInBounds_toArray, List.set_cons_zero, List.set_cons_succ])
 go_cut [43] (fun J1 wc => ∃ (kq : Nat) (j4 : Bool), J1 = .bool j4 ∧ Aside0 (statistic_Edges.j0 kq a2 a3 a4 j4 b2 b1 b4 a9 = some (r1, r2)) ∧ Aside0 (kq ≤ k) ∧ Aside0 (wc.heap[g6]? = some (.cells #[(.slice e5 b2.length e2), (.slice e4 b1.length e1)] 31 (0, 0))) ∧ Aside0 (wc.heap[g5]? = some (.cells #[(.slice e3 b4.length e0), (.slice g3 a9.length d9)] 46 (0, 0))) ∧ Aside0 (Below w.heap.size w wc))
 case first =>
  have H := s3.out
  clear s3
  obtain ⟨j9, s6, H⟩ := obA H
  by_cases p5 : j9 = true
  rotate_left
  ·replace p5 := Bool.eq_false_iff.mpr p5
   subst p5
   replace H := iff_ H
   have H' := am H
   clear H
   have N4 := b7.out
   have L7 := b6.out
   obtain ⟨I2, I1, D2, D1⟩ := cz2 a7
   go_wp2_with ((with_reducible refine gate_callee (f := 46) rfl ?_); refine gl 26 Tryz.func46 #[.int .i64 a2, .int .i64 (b1.length : Int)] (h := ?_); (with_reducible refine (statistic_is.calls a2 (b1.length : Int) false _ s6.out).mono ?_); rintro e w' ⟨rfl, ⟨nd, rfl⟩⟩; refine ⟨_, rfl, ?_⟩)
   go_meet
   case rel => exact ⟨_, (true), eqs, H', ⟨by first | omega | exact Nat.le_refl _⟩, ⟨bk a7⟩, ⟨bk b0⟩, ⟨bb HB⟩⟩
  subst p5
  replace H := ift H
  obtain ⟨j8, t9, H⟩ := obA H
  by_cases p4 : j8 = true
  rotate_left
  ·replace p4 := Bool.eq_false_iff.mpr p4
   subst p4
   replace H := iff_ H
   have H' := am H
   clear H
   have N5 := b7.out
   have L8 := b6.out
   obtain ⟨I4, I3, D4, D3⟩ := cz2 a7
   go_wp2_with (first | ((with_reducible refine gate_callee (f := 46) rfl ?_); refine gl 26 Tryz.func46 #[.int .i64 a2, .int .i64 (b1.length : Int)] (h := ?_); (with_reducible refine (statistic_is.calls a2 (b1.length : Int) true _ s6.out).mono ?_); rintro e w' ⟨rfl, ⟨nd, rfl⟩⟩; refine ⟨_, rfl, ?_⟩) | (go_at_call 46; (with_reducible refine (statistic_is.calls a3 (b2.length : Int) false _ t9.out).mono ?_); rintro e w' ⟨rfl, ⟨nd, rfl⟩⟩))
   go_meet
   case rel => exact ⟨_, (true), eqs, H', ⟨by first | omega | exact Nat.le_refl _⟩, ⟨bk a7⟩, ⟨bk b0⟩, ⟨bb HB⟩⟩
  subst p4
  replace H := ift H
  obtain ⟨h9, J3, H⟩ := obA H
  have H' := am H
  clear H
  have N6 := b7.out
  have L9 := b6.out
  obtain ⟨I6, I5, D6, D5⟩ := cz2 a7
  go_wp2_with (first | ((with_reducible refine gate_callee (f := 46) rfl ?_); refine gl 26 Tryz.func46 #[.int .i64 a2, .int .i64 (b1.length : Int)] (h := ?_); (with_reducible refine (statistic_is.calls a2 (b1.length : Int) true _ s6.out).mono ?_); rintro e w' ⟨rfl, ⟨nd, rfl⟩⟩; refine ⟨_, rfl, ?_⟩) | (go_at_call 46; (with_reducible refine (statistic_is.calls a3 (b2.length : Int) true _ t9.out).mono ?_); rintro e w' ⟨rfl, ⟨nd, rfl⟩⟩) | (go_at_call 46; (with_reducible refine (statistic_is.calls a4 (b2.length : Int) h9 _ J3.out).mono ?_); rintro e w' ⟨rfl, ⟨nd, rfl⟩⟩))
  go_meet
  case rel => exact ⟨_, (!h9), eqs, H', ⟨by first | omega | exact Nat.le_refl _⟩, ⟨bk a7⟩, ⟨bk b0⟩, ⟨bb HB⟩⟩
 case rest =>
  clear s3
  clear s2
  clear s1
  clear r8
  clear r7
  clear r6
  clear r5
  clear r0
  clear q9
  clear q8
  clear q7
  obtain ⟨kq, j4, rfl, HA, j3, a7, b0, HB⟩ := hcut
  cases kq with
  | zero => exact absurd HA.out (by simp [statistic_Edges.j0])
  | succ t3 =>
   have H := HA.out
   clear HA
   simp only [statistic_Edges.j0] at H
   by_cases p3 : j4 = true
   ·subst p3
    replace H := ift H
    simp only [Option.some.injEq, Prod.mk.injEq] at H
    obtain ⟨rfl, rfl⟩ := H
    go_wp2
    go_ret2
    exact ⟨erf, bb HB⟩
   replace p3 := Bool.eq_false_iff.mpr p3
   subst p3
   replace H := iff_ H
   have H' := am H
   clear H
   have N3 := b6.out
   have L6 := b7.out
   obtain ⟨r4, r3, q6, q5⟩ := cz2 b0
   go_wp2
   go_loopg [13, 47] t3 (fun kq J2 J0 w' => ∃ (e6 : Int) (a8 : Int), J2 = .int .i64 e6 ∧ J0 = .int .i64 a8 ∧ Aside0 (statistic_Edges.l0 kq a2 a3 a4 e6 a9 (a9.length : Int) a8 b2 b1 = some (r1, r2)) ∧ Aside0 (kq ≤ t3) ∧ Aside0 (w'.heap[g6]? = some (.cells #[(.slice e5 b2.length e2), (.slice e4 b1.length e1)] 31 (0, 0))) ∧ Aside0 (w'.heap[g5]? = some (.cells #[(.slice e3 b4.length e0), (.slice g3 a9.length d9)] 46 (0, 0))) ∧ Aside0 (Below w.heap.size w w'))
   case atStart => exact ⟨(0), (0), eqs, eqs, H', ⟨Nat.le_refl _⟩, ⟨bk a7⟩, ⟨bk b0⟩, ⟨bb HB⟩⟩
   case round =>
    clear H'
    clear r4
    clear r3
    clear q6
    clear q5
    obtain ⟨e6, a8, rfl, rfl, HA, j2, a7, b0, HB⟩ := hrel
    cases gk with
    | zero => exact absurd HA.out (by simp [statistic_Edges.l0])
    | succ k2 =>
     have H := HA.out
     clear HA
     simp only [statistic_Edges.l0] at H
     by_cases m7 : a8 < (a9.length : Int)
     rotate_left
     ·rw [if_neg m7] at H
      have s9 := decide_eq_false m7
      clear m7
      simp only [Option.some.injEq, Prod.mk.injEq] at H
      obtain ⟨rfl, rfl⟩ := H
      go_wp2
      go_ret2
      exact ⟨erf, bb HB⟩
     rw [if_pos m7] at H
     have s9 := decide_eq_true m7
     clear m7
     obtain ⟨t6, H⟩ := itn H
     have N9 := decide_eq_true t6
     clear t6
     obtain ⟨t5, H⟩ := itn H
     have N8 := decide_eq_true t5
     clear t5
     by_cases m2 : ((rd_T75 a9 a8).f0) = a2
     rotate_left
     ·rw [if_neg m2] at H
      have s8 := beq_eq_false_iff_ne.mpr m2
      have s7 := bne_iff_ne.mpr m2
      have H' := am H
      clear H
      have d4 : 0 ≤ a8 := odt
      have d3 : a8 < (a9.length : Int) := odt
      obtain ⟨g7, h1, c2, c1, c0, b9⟩ := at_T75 g8.out a8 d4 d3
      cases h1
      replace c2 := hxc HB c2
      replace c1 := hxc HB c1
      replace c0 := hxc HB c0
      replace b9 := hxc HB b9
      replace d4 := eq_true d4
      replace d3 := eq_true d3
      go_wp2_with ((with_reducible refine gate_dst (N := 15) rfl ?_); (try (refine gate_guard (by rfl) ?_; dsimp only)); refine be 15 #[.int .i64 0, .int .i64 0, .int .i64 0, .int .i64 0] 75 ?_; intro g4 hg O9 hbox hb; have b5 := am (hbox); have n4 := bsz HB hg; replace HB := bstep HB hb; have c8 := blt a7 hg; have c5 := bgt a7 hg; replace a7 := bkb a7 hb; have c6 := blt b0 hg; have c3 := bgt b0 hg; replace b0 := bkb b0 hb; clear hb hbox hg; have M3 := c5.out; have J6 := c8.out; have M2 := c3.out; have J5 := c6.out; obtain ⟨E6, E5, E4, E3, v8, v7, v6, v5⟩ := cz4 b5)
      go_roundg k2
      case measure => have := j3.out; have := j2.out; omega
      case rel => exact ⟨(e6), (wrap64 (a8 + 1)), eqs, eqs, H', ⟨by have := j3.out; have := j2.out; omega⟩, ⟨bkF a7⟩, ⟨bkF b0⟩, ⟨bb HB⟩⟩
     rw [if_pos m2] at H
     have s8 := beq_iff_eq.mpr m2
     have s7 := bne_eq_false_iff_eq.mpr m2
     clear m2
     obtain ⟨o0, s5, H⟩ := obA H
     by_cases p2 : o0 = true
     rotate_left
     ·replace p2 := Bool.eq_false_iff.mpr p2
      subst p2
      replace H := iff_ H
      have H' := am H
      clear H
      have d4 : 0 ≤ a8 := odt
      have d3 : a8 < (a9.length : Int) := odt
      obtain ⟨g7, h1, c2, c1, c0, b9⟩ := at_T75 g8.out a8 d4 d3
      cases h1
      replace c2 := hxc HB c2
      replace c1 := hxc HB c1
      replace c0 := hxc HB c0
      replace b9 := hxc HB b9
      replace d4 := eq_true d4
      replace d3 := eq_true d3
      go_wp2_with (first | ((with_reducible refine gate_dst (N := 15) rfl ?_); (try (refine gate_guard (by rfl) ?_; dsimp only)); refine be 15 #[.int .i64 0, .int .i64 0, .int .i64 0, .int .i64 0] 75 ?_; intro g4 hg P1 hbox hb; have b5 := am (hbox); have n4 := bsz HB hg; replace HB := bstep HB hb; have c8 := blt a7 hg; have c5 := bgt a7 hg; replace a7 := bkb a7 hb; have c6 := blt b0 hg; have c3 := bgt b0 hg; replace b0 := bkb b0 hb; clear hb hbox hg; have M6 := c5.out; have J9 := c8.out; have M5 := c3.out; have J8 := c6.out; obtain ⟨F2, F1, F0, E9, w7, w6, w4, w3⟩ := cz4 b5; have M4 := b7.out; have J7 := b6.out; obtain ⟨E8, E7, w0, v9⟩ := cz2 a7) | (go_at_call 59; (with_reducible refine (types_Is.calls k2 _ _ b2 _ _ b1 ((rd_T75 a9 a8).f1) a3 false _ ?d2 ?d1 ?d0 ?c9 s5.out).mono ?_); (case d2 => exact Kd.C_below e9.out (bb HB)); (case d1 => exact g1.out); (case d0 => exact Kd.C_below e8.out (bb HB)); (case c9 => exact g0.out); rintro e P0 ⟨rfl, hb⟩; replace a7 := am (blk_below (g := g6) (o := .cells #[.slice e5 b2.length e2, .slice e4 b1.length e1] 31 (0, 0)) (bkF a7) hb); replace b0 := am (blk_below (g := g5) (o := .cells #[.slice e3 b4.length e0, .slice (some g7) a9.length d9] 46 (0, 0)) (bkF b0) hb); replace b5 := am (blk_below (g := g4) (o := .cells #[.int .i64 ((rd_T75 a9 a8).f0), .int .i64 ((rd_T75 a9 a8).f1), .int .i64 ((rd_T75 a9 a8).f2), .int .i64 ((rd_T75 a9 a8).f3)] 75 (0, 0)) (by (with_reducible repeat (first | refine dN ?_ _ | refine dR ?_ | refine dA ?_ _)); refine blk_put (cs := #[.int .i64 ((rd_T75 a9 a8).f0), .int .i64 ((rd_T75 a9 a8).f1), .int .i64 ((rd_T75 a9 a8).f2), .int .i64 0]) ?_ 3 _ rfl; refine blk_put (cs := #[.int .i64 ((rd_T75 a9 a8).f0), .int .i64 ((rd_T75 a9 a8).f1), .int .i64 0, .int .i64 0]) ?_ 2 _ rfl; refine blk_put (cs := #[.int .i64 ((rd_T75 a9 a8).f0), .int .i64 0, .int .i64 0, .int .i64 0]) ?_ 1 _ rfl; refine blk_put (cs := #[.int .i64 0, .int .i64 0, .int .i64 0, .int .i64 0]) ?_ 0 _ rfl; (with_reducible repeat (first | refine dN ?_ _ | refine dR ?_ | refine dA ?_ _)); exact b5.out) hb); replace HB := bstep HB hb; (try clear hb); (try clear hb2); (try clear hk); (try clear hi)))
      go_roundg k2
      case measure => have := j3.out; have := j2.out; omega
      case rel => exact ⟨(e6), (wrap64 (a8 + 1)), eqs, eqs, H', ⟨by have := j3.out; have := j2.out; omega⟩, ⟨bk a7⟩, ⟨bk b0⟩, ⟨bb HB⟩⟩
     subst p2
     replace H := ift H
     obtain ⟨n9, t8, H⟩ := obA H
     by_cases p1 : n9 = true
     ·subst p1
      replace H := ift H
      have H' := am H
      clear H
      have d4 : 0 ≤ a8 := odt
      have d3 : a8 < (a9.length : Int) := odt
      obtain ⟨g7, h1, c2, c1, c0, b9⟩ := at_T75 g8.out a8 d4 d3
      cases h1
      replace c2 := hxc HB c2
      replace c1 := hxc HB c1
      replace c0 := hxc HB c0
      replace b9 := hxc HB b9
      replace d4 := eq_true d4
      replace d3 := eq_true d3
      go_wp2_with (first | ((with_reducible refine gate_dst (N := 15) rfl ?_); (try (refine gate_guard (by rfl) ?_; dsimp only)); refine be 15 #[.int .i64 0, .int .i64 0, .int .i64 0, .int .i64 0] 75 ?_; intro g4 hg P7 hbox hb; have b5 := am (hbox); have n4 := bsz HB hg; replace HB := bstep HB hb; have c8 := blt a7 hg; have c5 := bgt a7 hg; replace a7 := bkb a7 hb; have c6 := blt b0 hg; have c3 := bgt b0 hg; replace b0 := bkb b0 hb; clear hb hbox hg; have N2 := c5.out; have L5 := c8.out; have N1 := c3.out; have L4 := c6.out; obtain ⟨I0, H9, H8, H7, D0, C9, C8, C7⟩ := cz4 b5; have N0 := b7.out; have L3 := b6.out; obtain ⟨H6, H5, C6, C5⟩ := cz2 a7) | (go_at_call 59; (with_reducible refine (types_Is.calls k2 _ _ b2 _ _ b1 ((rd_T75 a9 a8).f1) a3 true _ ?d2 ?d1 ?d0 ?c9 s5.out).mono ?_); (case d2 => exact Kd.C_below e9.out (bb HB)); (case d1 => exact g1.out); (case d0 => exact Kd.C_below e8.out (bb HB)); (case c9 => exact g0.out); rintro e P6 ⟨rfl, hb⟩; replace a7 := am (blk_below (g := g6) (o := .cells #[.slice e5 b2.length e2, .slice e4 b1.length e1] 31 (0, 0)) (bkF a7) hb); replace b0 := am (blk_below (g := g5) (o := .cells #[.slice e3 b4.length e0, .slice (some g7) a9.length d9] 46 (0, 0)) (bkF b0) hb); replace b5 := am (blk_below (g := g4) (o := .cells #[.int .i64 ((rd_T75 a9 a8).f0), .int .i64 ((rd_T75 a9 a8).f1), .int .i64 ((rd_T75 a9 a8).f2), .int .i64 ((rd_T75 a9 a8).f3)] 75 (0, 0)) (by (with_reducible repeat (first | refine dN ?_ _ | refine dR ?_ | refine dA ?_ _)); refine blk_put (cs := #[.int .i64 ((rd_T75 a9 a8).f0), .int .i64 ((rd_T75 a9 a8).f1), .int .i64 ((rd_T75 a9 a8).f2), .int .i64 0]) ?_ 3 _ rfl; refine blk_put (cs := #[.int .i64 ((rd_T75 a9 a8).f0), .int .i64 ((rd_T75 a9 a8).f1), .int .i64 0, .int .i64 0]) ?_ 2 _ rfl; refine blk_put (cs := #[.int .i64 ((rd_T75 a9 a8).f0), .int .i64 0, .int .i64 0, .int .i64 0]) ?_ 1 _ rfl; refine blk_put (cs := #[.int .i64 0, .int .i64 0, .int .i64 0, .int .i64 0]) ?_ 0 _ rfl; (with_reducible repeat (first | refine dN ?_ _ | refine dR ?_ | refine dA ?_ _)); exact b5.out) hb); replace HB := bstep HB hb; (try clear hb); (try clear hb2); (try clear hk); (try clear hi); obtain ⟨H4, H3, C4, C3⟩ := cz2 a7; obtain ⟨H2, H1, H0, G9, C2, C1, C0, A9⟩ := cz4 b5) | (go_at_call 59; (with_reducible refine (types_Is.calls k2 _ _ b2 _ _ b1 ((rd_T75 a9 a8).f2) a4 true _ ?d2 ?d1 ?d0 ?c9 t8.out).mono ?_); (case d2 => exact cb e9 HB); (case d1 => exact g1.out); (case d0 => exact cb e8 HB); (case c9 => exact g0.out); rintro e P5 ⟨rfl, hb⟩; replace a7 := bkb a7 hb; replace b0 := bkb b0 hb; replace b5 := bkb b5 hb; replace HB := bstep HB hb; (try clear hb); (try clear hb2); (try clear hk); (try clear hi); obtain ⟨G8, G7, G6, G5, A8, A7, A5, A4⟩ := cz4 b5))
      go_roundg k2
      case measure => have := j3.out; have := j2.out; omega
      case rel => exact ⟨(wrap64 (e6 + ((rd_T75 a9 a8).f3))), (wrap64 (a8 + 1)), eqs, eqs, H', ⟨by have := j3.out; have := j2.out; omega⟩, ⟨bk a7⟩, ⟨bk b0⟩, ⟨bb HB⟩⟩
     replace p1 := Bool.eq_false_iff.mpr p1
     subst p1
     replace H := iff_ H
     have H' := am H
     clear H
     have d4 : 0 ≤ a8 := odt
     have d3 : a8 < (a9.length : Int) := odt
     obtain ⟨g7, h1, c2, c1, c0, b9⟩ := at_T75 g8.out a8 d4 d3
     cases h1
     replace c2 := hxc HB c2
     replace c1 := hxc HB c1
     replace c0 := hxc HB c0
     replace b9 := hxc HB b9
     replace d4 := eq_true d4
     replace d3 := eq_true d3
     go_wp2_with (first | ((with_reducible refine gate_dst (N := 15) rfl ?_); (try (refine gate_guard (by rfl) ?_; dsimp only)); refine be 15 #[.int .i64 0, .int .i64 0, .int .i64 0, .int .i64 0] 75 ?_; intro g4 hg P4 hbox hb; have b5 := am (hbox); have n4 := bsz HB hg; replace HB := bstep HB hb; have c8 := blt a7 hg; have c5 := bgt a7 hg; replace a7 := bkb a7 hb; have c6 := blt b0 hg; have c3 := bgt b0 hg; replace b0 := bkb b0 hb; clear hb hbox hg; have M9 := c5.out; have L2 := c8.out; have M8 := c3.out; have L1 := c6.out; obtain ⟨G4, G3, G2, G1, A3, A2, A1, A0⟩ := cz4 b5; have M7 := b7.out; have L0 := b6.out; obtain ⟨G0, F9, y9, x9⟩ := cz2 a7) | (go_at_call 59; (with_reducible refine (types_Is.calls k2 _ _ b2 _ _ b1 ((rd_T75 a9 a8).f1) a3 true _ ?d2 ?d1 ?d0 ?c9 s5.out).mono ?_); (case d2 => exact Kd.C_below e9.out (bb HB)); (case d1 => exact g1.out); (case d0 => exact Kd.C_below e8.out (bb HB)); (case c9 => exact g0.out); rintro e P3 ⟨rfl, hb⟩; replace a7 := am (blk_below (g := g6) (o := .cells #[.slice e5 b2.length e2, .slice e4 b1.length e1] 31 (0, 0)) (bkF a7) hb); replace b0 := am (blk_below (g := g5) (o := .cells #[.slice e3 b4.length e0, .slice (some g7) a9.length d9] 46 (0, 0)) (bkF b0) hb); replace b5 := am (blk_below (g := g4) (o := .cells #[.int .i64 ((rd_T75 a9 a8).f0), .int .i64 ((rd_T75 a9 a8).f1), .int .i64 ((rd_T75 a9 a8).f2), .int .i64 ((rd_T75 a9 a8).f3)] 75 (0, 0)) (by (with_reducible repeat (first | refine dN ?_ _ | refine dR ?_ | refine dA ?_ _)); refine blk_put (cs := #[.int .i64 ((rd_T75 a9 a8).f0), .int .i64 ((rd_T75 a9 a8).f1), .int .i64 ((rd_T75 a9 a8).f2), .int .i64 0]) ?_ 3 _ rfl; refine blk_put (cs := #[.int .i64 ((rd_T75 a9 a8).f0), .int .i64 ((rd_T75 a9 a8).f1), .int .i64 0, .int .i64 0]) ?_ 2 _ rfl; refine blk_put (cs := #[.int .i64 ((rd_T75 a9 a8).f0), .int .i64 0, .int .i64 0, .int .i64 0]) ?_ 1 _ rfl; refine blk_put (cs := #[.int .i64 0, .int .i64 0, .int .i64 0, .int .i64 0]) ?_ 0 _ rfl; (with_reducible repeat (first | refine dN ?_ _ | refine dR ?_ | refine dA ?_ _)); exact b5.out) hb); replace HB := bstep HB hb; (try clear hb); (try clear hb2); (try clear hk); (try clear hi); obtain ⟨F8, F7, x8, x7⟩ := cz2 a7; obtain ⟨F6, F5, F4, F3, x6, x5, x1, x0⟩ := cz4 b5) | (go_at_call 59; (with_reducible refine (types_Is.calls k2 _ _ b2 _ _ b1 ((rd_T75 a9 a8).f2) a4 false _ ?d2 ?d1 ?d0 ?c9 t8.out).mono ?_); (case d2 => exact cb e9 HB); (case d1 => exact g1.out); (case d0 => exact cb e8 HB); (case c9 => exact g0.out); rintro e P2 ⟨rfl, hb⟩; replace a7 := bkb a7 hb; replace b0 := bkb b0 hb; replace b5 := bkb b5 hb; replace HB := bstep HB hb; (try clear hb); (try clear hb2); (try clear hk); (try clear hi)))
     go_roundg k2
     case measure => have := j3.out; have := j2.out; omega
     case rel => exact ⟨(e6), (wrap64 (a8 + 1)), eqs, eqs, H', ⟨by have := j3.out; have := j2.out; omega⟩, ⟨bk a7⟩, ⟨bk b0⟩, ⟨bb HB⟩⟩
def q4_Example.f  : Option ((List (S96)) × (List (S101))) := some ((([(⟨(⟨#[65, 99, 99, 111, 117, 110, 116]⟩ : ByteArray), (-1), true, (([(⟨(⟨#[98, 97, 108, 97, 110, 99, 101]⟩ : ByteArray), (-1000), 1000, ([] : List ByteArray)⟩ : S99)] : List (S99)))⟩ : S96), (⟨(⟨#[67, 97, 115, 104]⟩ : ByteArray), 0, false, ([] : List (S99))⟩ : S96), (⟨(⟨#[76, 111, 97, 110]⟩ : ByteArray), 0, false, (([(⟨(⟨#[115, 116, 97, 116, 101]⟩ : ByteArray), 0, 1, (([(⟨#[111, 112, 101, 110]⟩ : ByteArray), (⟨#[99, 108, 111, 115, 101, 100]⟩ : ByteArray)] : List ByteArray))⟩ : S99)] : List (S99)))⟩ : S96), (⟨(⟨#[80, 101, 114, 115, 111, 110]⟩ : ByteArray), (-1), false, ([] : List (S99))⟩ : S96)] : List (S96))), (([(⟨(⟨#[111, 119, 110, 115]⟩ : ByteArray), 3, 0, 0, (-1), 1, 1⟩ : S101), (⟨(⟨#[112, 97, 121, 115]⟩ : ByteArray), 1, 1, 0, (-1), 0, (-1)⟩ : S101)] : List (S101))))
theorem q4_Example.calls  (r1 : List (S96)) (r2 : List (S101)) (w : World) (h : q4_Example.f  = some (r1, r2)) :
  Calls Tryz.prog 34 #[] w fun e w' => ∃ t2 r9 : Value, e = .returned (.agg #[t2, r9]) ∧ Kd.N k96 96 w' w.heap.size (fun k_ => (w.heap.size ≤ k_) ∧ some k_ ≠ (r9 : Value).ownBlock) t2 r1 ∧ Kd.R k101 101 w' w.heap.size (fun k_ => (w.heap.size ≤ k_)) r9 r2 ∧ Below w.heap.size w w' := by
 have hu31 := Tryz.underlying31
 have hu99 := Tryz.underlying99
 have hu96 := Tryz.underlying96
 have hu101 := Tryz.underlying101
 have HB := am (Below.refl w.heap.size w)
 have H : (some ((([(⟨(⟨#[65, 99, 99, 111, 117, 110, 116]⟩ : ByteArray), (-1), true, (([(⟨(⟨#[98, 97, 108, 97, 110, 99, 101]⟩ : ByteArray), (-1000), 1000, ([] : List ByteArray)⟩ : S99)] : List (S99)))⟩ : S96), (⟨(⟨#[67, 97, 115, 104]⟩ : ByteArray), 0, false, ([] : List (S99))⟩ : S96), (⟨(⟨#[76, 111, 97, 110]⟩ : ByteArray), 0, false, (([(⟨(⟨#[115, 116, 97, 116, 101]⟩ : ByteArray), 0, 1, (([(⟨#[111, 112, 101, 110]⟩ : ByteArray), (⟨#[99, 108, 111, 115, 101, 100]⟩ : ByteArray)] : List ByteArray))⟩ : S99)] : List (S99)))⟩ : S96), (⟨(⟨#[80, 101, 114, 115, 111, 110]⟩ : ByteArray), (-1), false, ([] : List (S99))⟩ : S96)] : List (S96))), (([(⟨(⟨#[111, 119, 110, 115]⟩ : ByteArray), 3, 0, 0, (-1), 1, 1⟩ : S101), (⟨(⟨#[112, 97, 121, 115]⟩ : ByteArray), 1, 1, 0, (-1), 0, (-1)⟩ : S101)] : List (S101))))) = some (r1, r2) := h
 clear h
 obtain ⟨d7, q0⟩ := leq (α := List (S99)) (([(⟨(⟨#[98, 97, 108, 97, 110, 99, 101]⟩ : ByteArray), (-1000), 1000, ([] : List ByteArray)⟩ : S99)] : List (S99)))
 rw [← q0.out] at H
 obtain ⟨h0, p9⟩ := leq (α := List ByteArray) (([(⟨#[111, 112, 101, 110]⟩ : ByteArray), (⟨#[99, 108, 111, 115, 101, 100]⟩ : ByteArray)] : List ByteArray))
 rw [← p9.out] at H
 obtain ⟨g9, p8⟩ := leq (α := List (S99)) (([(⟨(⟨#[115, 116, 97, 116, 101]⟩ : ByteArray), 0, 1, h0⟩ : S99)] : List (S99)))
 rw [← p8.out] at H
 obtain ⟨h8, p7⟩ := leq (α := List (S96)) (([(⟨(⟨#[65, 99, 99, 111, 117, 110, 116]⟩ : ByteArray), (-1), true, d7⟩ : S96), (⟨(⟨#[67, 97, 115, 104]⟩ : ByteArray), 0, false, ([] : List (S99))⟩ : S96), (⟨(⟨#[76, 111, 97, 110]⟩ : ByteArray), 0, false, g9⟩ : S96), (⟨(⟨#[80, 101, 114, 115, 111, 110]⟩ : ByteArray), (-1), false, ([] : List (S99))⟩ : S96)] : List (S96)))
 rw [← p7.out] at H
 obtain ⟨m8, p6⟩ := leq (α := List (S101)) (([(⟨(⟨#[111, 119, 110, 115]⟩ : ByteArray), 3, 0, 0, (-1), 1, 1⟩ : S101), (⟨(⟨#[112, 97, 121, 115]⟩ : ByteArray), 1, 1, 0, (-1), 0, (-1)⟩ : S101)] : List (S101)))
 rw [← p6.out] at H
 simp only [Option.some.injEq, Prod.mk.injEq] at H
 obtain ⟨rfl, rfl⟩ := H
 go_enter Tryz.func34, Tryz.ntmps34
 go_wp2_with (first | ((with_reducible refine gate_dst (N := 0) rfl ?_); refine be 0 #[.slice none 0 0, .slice none 0 0] 31 ?_; intro b3 hg w1 hbox hb; have b8 := am (hbox); have O0 := bsz HB hg; replace HB := bstep HB hb; clear hb hbox hg) | ((with_reducible refine gate_dst (N := 2) rfl ?_); refine Kd.N_lit k99 _ 99 ?hg (N' := 2) ?hd (xs := ([(⟨(⟨#[98, 97, 108, 97, 110, 99, 101]⟩ : ByteArray), (-1000), 1000, ([] : List ByteArray)⟩ : S99)] : List (S99))) (inner := [.string (⟨#[98, 97, 108, 97, 110, 99, 101]⟩ : ByteArray), .int .i64 (-1000), .int .i64 1000, .slice none 0 0]) (ok := (fun k_ => (w.heap.size ≤ k_) ∧ k_ ≠ b3)) (okp := (fun k_ => (w.heap.size ≤ k_) ∧ k_ ≠ b3)) ?hr ?hp (fun _ hk => hk) ((show ∀ k_, w1.heap.size ≤ k_ → (fun k_ => (w.heap.size ≤ k_) ∧ k_ ≠ b3) k_ from fun k_ hk => ⟨(Nat.le_trans (below_size (bb HB)) hk), Kd.freshB (g := b3) (o := .cells #[.slice none 0 0, .slice none 0 0] 31 (0, 0)) (bk b8) k_ hk⟩) _ (Nat.le_refl _)) (Below.refl _ _) (Nat.le_refl _) (by simp) ?_; (case hd => rfl); (case hg => rfl); (case hr => first | (go_simp; done) | (go_simp; rfl)); (case hp => exact (Reps.c4 (show Kd.FK k99 _ _ (⟨(⟨#[98, 97, 108, 97, 110, 99, 101]⟩ : ByteArray), (-1000), 1000, ([] : List ByteArray)⟩ : S99) [.string (⟨#[98, 97, 108, 97, 110, 99, 101]⟩ : ByteArray), .int .i64 (-1000), .int .i64 1000, .slice none 0 0] from (k99_mkF _ _ (⟨(⟨#[98, 97, 108, 97, 110, 99, 101]⟩ : ByteArray), (-1000), 1000, ([] : List ByteArray)⟩ : S99) (Nat.le_refl _) (Kd.F_nil _ _ _))) (Reps.none _ _))); intro O5 w2 n8 hb hg_ hnew_; clear hg_ hnew_; (first | rw [← q0.out] at n8 | (simp only [Int.reduceToNat] at n8; rw [← q0.out] at n8)); have d8 := am (Kd.N_lower n8 (below_size (bb HB))); replace b8 := bkb b8 hb; replace HB := bstep HB hb; clear hb n8; obtain ⟨m3, m1, eo4⟩ := Kd.N_slice d8.out; subst eo4) | ((with_reducible refine gate_dst (N := 5) rfl ?_); refine Kd.R_lit Kd.string _ 9 ?hg (N := 5) ?hd (xs := ([(⟨#[111, 112, 101, 110]⟩ : ByteArray), (⟨#[99, 108, 111, 115, 101, 100]⟩ : ByteArray)] : List ByteArray)) (inner := [.string (⟨#[111, 112, 101, 110]⟩ : ByteArray), .string (⟨#[99, 108, 111, 115, 101, 100]⟩ : ByteArray)]) (ok := fun _ => True) (okp := fun _ => True) ?hr ?hp (fun _ hk => hk) trivial (Below.refl _ _) (Nat.le_refl _) (by simp) ?_; (case hd => rfl); (case hg => rfl); (case hr => first | (go_simp; done) | (go_simp; rfl)); (case hp => exact (Reps.one (show Kd.M Kd.string _ _ _ (⟨#[111, 112, 101, 110]⟩ : ByteArray) [.string (⟨#[111, 112, 101, 110]⟩ : ByteArray)] from rfl) (Reps.one (show Kd.M Kd.string _ _ _ (⟨#[99, 108, 111, 115, 101, 100]⟩ : ByteArray) [.string (⟨#[99, 108, 111, 115, 101, 100]⟩ : ByteArray)] from rfl) (Reps.none _ _)))); intro O4 w5 m6 hb hg_ hnew_; clear hg_ hnew_; (first | rw [← p9.out] at m6 | (simp only [Int.reduceToNat] at m6; rw [← p9.out] at m6)); replace d8 := am (Kd.N_elder' (kN d8) (Kd.R_base m6) hb); have j7 := am (Kd.R_lower (Kd.R_newM (M := fun k_ => (w.heap.size ≤ k_)) m6 (below_size (bb HB)) (fun k_ h_ => h_)) (below_size (bb HB))); replace b8 := bkb b8 hb; replace HB := bstep HB hb; clear hb m6; obtain ⟨t7, t4, eo7⟩ := Kd.R_slice j7.out; subst eo7) | ((with_reducible refine gate_dst (N := 7) rfl ?_); refine Kd.N_lit k99 _ 99 ?hg (N' := 7) ?hd (xs := ([(⟨(⟨#[115, 116, 97, 116, 101]⟩ : ByteArray), 0, 1, h0⟩ : S99)] : List (S99))) (inner := [.string (⟨#[115, 116, 97, 116, 101]⟩ : ByteArray), .int .i64 0, .int .i64 1, .slice t7 h0.length t4]) (ok := (fun k_ => (w.heap.size ≤ k_) ∧ some k_ ≠ (.slice m3 d7.length m1 : Value).ownBlock ∧ k_ ≠ b3)) (okp := (fun k_ => (w.heap.size ≤ k_) ∧ some k_ ≠ (.slice m3 d7.length m1 : Value).ownBlock ∧ k_ ≠ b3)) ?hr ?hp (fun _ hk => hk) ((show ∀ k_, w5.heap.size ≤ k_ → (fun k_ => (w.heap.size ≤ k_) ∧ some k_ ≠ (.slice m3 d7.length m1 : Value).ownBlock ∧ k_ ≠ b3) k_ from fun k_ hk => ⟨(Nat.le_trans (below_size (bb HB)) hk), Kd.fresh' (Kd.N_lt (kN d8)) k_ hk, Kd.freshB (g := b3) (o := .cells #[.slice none 0 0, .slice none 0 0] 31 (0, 0)) (bk b8) k_ hk⟩) _ (Nat.le_refl _)) (Below.refl _ _) (Nat.le_refl _) (by simp) ?_; (case hd => rfl); (case hg => rfl); (case hr => first | (go_simp; done) | (go_simp; rfl)); (case hp => exact (Reps.c4 (show Kd.FK k99 _ _ (⟨(⟨#[115, 116, 97, 116, 101]⟩ : ByteArray), 0, 1, h0⟩ : S99) [.string (⟨#[115, 116, 97, 116, 101]⟩ : ByteArray), .int .i64 0, .int .i64 1, .slice t7 h0.length t4] from (k99_mkF _ _ (⟨(⟨#[115, 116, 97, 116, 101]⟩ : ByteArray), 0, 1, h0⟩ : S99) (Kd.R_reads' (Kd.R_mono (ok' := (fun k_ => (w.heap.size ≤ k_) ∧ some k_ ≠ (.slice m3 d7.length m1 : Value).ownBlock ∧ k_ ≠ b3)) (Kd.R_types (Kd.R_apart' (j7.out) (Kd.N_typed d8.out) (by decide)) b8.out (by decide)) (fun k_ hk => ⟨hk.1.1.1, ⟨hk.1.2, hk.2⟩⟩))).2.1 (Kd.R_F (Kd.R_mono (ok' := (fun k_ => (w.heap.size ≤ k_) ∧ some k_ ≠ (.slice m3 d7.length m1 : Value).ownBlock ∧ k_ ≠ b3)) (Kd.R_types (Kd.R_apart' (j7.out) (Kd.N_typed d8.out) (by decide)) b8.out (by decide)) (fun k_ hk => ⟨hk.1.1.1, ⟨hk.1.2, hk.2⟩⟩))))) (Reps.none _ _))); intro O3 w8 m5 hb hg_ hnew_; clear hg_ hnew_; (first | rw [← p8.out] at m5 | (simp only [Int.reduceToNat] at m5; rw [← p8.out] at m5)); replace d8 := am (Kd.N_elder' (kN d8) (Kd.N_base m5) hb); have j6 := am (Kd.N_lower m5 (below_size (bb HB))); replace b8 := bkb b8 hb; replace HB := bstep HB hb; clear j7 hb m5; obtain ⟨s4, s0, eo10⟩ := Kd.N_slice j6.out; subst eo10) | ((with_reducible refine gate_dst (N := 10) rfl ?_); refine Kd.N_lit k96 _ 96 ?hg (N' := 10) ?hd (xs := ([(⟨(⟨#[65, 99, 99, 111, 117, 110, 116]⟩ : ByteArray), (-1), true, d7⟩ : S96), (⟨(⟨#[67, 97, 115, 104]⟩ : ByteArray), 0, false, ([] : List (S99))⟩ : S96), (⟨(⟨#[76, 111, 97, 110]⟩ : ByteArray), 0, false, g9⟩ : S96), (⟨(⟨#[80, 101, 114, 115, 111, 110]⟩ : ByteArray), (-1), false, ([] : List (S99))⟩ : S96)] : List (S96))) (inner := [.string (⟨#[65, 99, 99, 111, 117, 110, 116]⟩ : ByteArray), .int .i64 (-1), .bool true, .slice m3 d7.length m1, .string (⟨#[67, 97, 115, 104]⟩ : ByteArray), .int .i64 0, .bool false, .slice none 0 0, .string (⟨#[76, 111, 97, 110]⟩ : ByteArray), .int .i64 0, .bool false, .slice s4 g9.length s0, .string (⟨#[80, 101, 114, 115, 111, 110]⟩ : ByteArray), .int .i64 (-1), .bool false, .slice none 0 0]) (ok := (fun k_ => (w.heap.size ≤ k_) ∧ k_ ≠ b3)) (okp := (fun k_ => (w.heap.size ≤ k_) ∧ k_ ≠ b3)) ?hr ?hp (fun _ hk => hk) ((show ∀ k_, w8.heap.size ≤ k_ → (fun k_ => (w.heap.size ≤ k_) ∧ k_ ≠ b3) k_ from fun k_ hk => ⟨(Nat.le_trans (below_size (bb HB)) hk), Kd.freshB (g := b3) (o := .cells #[.slice none 0 0, .slice none 0 0] 31 (0, 0)) (bk b8) k_ hk⟩) _ (Nat.le_refl _)) (Below.refl _ _) (Nat.le_refl _) (by simp) ?_; (case hd => rfl); (case hg => rfl); (case hr => first | (go_simp; done) | (go_simp; rfl)); (case hp => exact (Reps.c4 (show Kd.FK k96 _ _ (⟨(⟨#[65, 99, 99, 111, 117, 110, 116]⟩ : ByteArray), (-1), true, d7⟩ : S96) [.string (⟨#[65, 99, 99, 111, 117, 110, 116]⟩ : ByteArray), .int .i64 (-1), .bool true, .slice m3 d7.length m1] from (k96_mkF _ _ (⟨(⟨#[65, 99, 99, 111, 117, 110, 116]⟩ : ByteArray), (-1), true, d7⟩ : S96) (Kd.N_reads' (Kd.N_mono (ok' := (fun k_ => (w.heap.size ≤ k_) ∧ k_ ≠ b3)) (d8.out) (fun k_ hk => ⟨hk.1.1.1, hk.1.1.2⟩))).2.1 (Kd.N_F (Kd.N_mono (ok' := (fun k_ => (w.heap.size ≤ k_) ∧ k_ ≠ b3)) (d8.out) (fun k_ hk => ⟨hk.1.1.1, hk.1.1.2⟩))))) (Reps.c4 (show Kd.FK k96 _ _ (⟨(⟨#[67, 97, 115, 104]⟩ : ByteArray), 0, false, ([] : List (S99))⟩ : S96) [.string (⟨#[67, 97, 115, 104]⟩ : ByteArray), .int .i64 0, .bool false, .slice none 0 0] from (k96_mkF _ _ (⟨(⟨#[67, 97, 115, 104]⟩ : ByteArray), 0, false, ([] : List (S99))⟩ : S96) (Nat.le_refl _) (Kd.F_nil _ _ _))) (Reps.c4 (show Kd.FK k96 _ _ (⟨(⟨#[76, 111, 97, 110]⟩ : ByteArray), 0, false, g9⟩ : S96) [.string (⟨#[76, 111, 97, 110]⟩ : ByteArray), .int .i64 0, .bool false, .slice s4 g9.length s0] from (k96_mkF _ _ (⟨(⟨#[76, 111, 97, 110]⟩ : ByteArray), 0, false, g9⟩ : S96) (Kd.N_reads' (Kd.N_mono (ok' := (fun k_ => (w.heap.size ≤ k_) ∧ k_ ≠ b3)) (j6.out) (fun k_ hk => ⟨hk.1, hk.2.2⟩))).2.1 (Kd.N_F (Kd.N_mono (ok' := (fun k_ => (w.heap.size ≤ k_) ∧ k_ ≠ b3)) (j6.out) (fun k_ hk => ⟨hk.1, hk.2.2⟩))))) (Reps.c4 (show Kd.FK k96 _ _ (⟨(⟨#[80, 101, 114, 115, 111, 110]⟩ : ByteArray), (-1), false, ([] : List (S99))⟩ : S96) [.string (⟨#[80, 101, 114, 115, 111, 110]⟩ : ByteArray), .int .i64 (-1), .bool false, .slice none 0 0] from (k96_mkF _ _ (⟨(⟨#[80, 101, 114, 115, 111, 110]⟩ : ByteArray), (-1), false, ([] : List (S99))⟩ : S96) (Nat.le_refl _) (Kd.F_nil _ _ _))) (Reps.none _ _)))))); intro O2 Q0 m0 hb hg_ hnew_; clear hg_ hnew_; (first | rw [← p7.out] at m0 | (simp only [Int.reduceToNat] at m0; rw [← p7.out] at m0)); have j5 := am (Kd.N_lower m0 (below_size (bb HB))); replace b8 := bkb b8 hb; replace HB := bstep HB hb; clear d8 j6; clear hb m0) | ((with_reducible refine gate_dst (N := 13) rfl ?_); refine Kd.R_lit k101 _ 101 ?hg (N := 13) ?hd (xs := ([(⟨(⟨#[111, 119, 110, 115]⟩ : ByteArray), 3, 0, 0, (-1), 1, 1⟩ : S101), (⟨(⟨#[112, 97, 121, 115]⟩ : ByteArray), 1, 1, 0, (-1), 0, (-1)⟩ : S101)] : List (S101))) (inner := [.string (⟨#[111, 119, 110, 115]⟩ : ByteArray), .int .i64 3, .int .i64 0, .int .i64 0, .int .i64 (-1), .int .i64 1, .int .i64 1, .string (⟨#[112, 97, 121, 115]⟩ : ByteArray), .int .i64 1, .int .i64 1, .int .i64 0, .int .i64 (-1), .int .i64 0, .int .i64 (-1)]) (ok := fun _ => True) (okp := fun _ => True) ?hr ?hp (fun _ hk => hk) trivial (Below.refl _ _) (Nat.le_refl _) (by simp) ?_; (case hd => rfl); (case hg => rfl); (case hr => first | (go_simp; done) | (go_simp; rfl)); (case hp => exact (Reps.c7 (show Kd.M k101 _ _ _ (⟨(⟨#[111, 119, 110, 115]⟩ : ByteArray), 3, 0, 0, (-1), 1, 1⟩ : S101) [.string (⟨#[111, 119, 110, 115]⟩ : ByteArray), .int .i64 3, .int .i64 0, .int .i64 0, .int .i64 (-1), .int .i64 1, .int .i64 1] from (k101_mkM _ _ _ (⟨(⟨#[111, 119, 110, 115]⟩ : ByteArray), 3, 0, 0, (-1), 1, 1⟩ : S101) )) (Reps.c7 (show Kd.M k101 _ _ _ (⟨(⟨#[112, 97, 121, 115]⟩ : ByteArray), 1, 1, 0, (-1), 0, (-1)⟩ : S101) [.string (⟨#[112, 97, 121, 115]⟩ : ByteArray), .int .i64 1, .int .i64 1, .int .i64 0, .int .i64 (-1), .int .i64 0, .int .i64 (-1)] from (k101_mkM _ _ _ (⟨(⟨#[112, 97, 121, 115]⟩ : ByteArray), 1, 1, 0, (-1), 0, (-1)⟩ : S101) )) (Reps.none _ _)))); intro O1 P9 j1 hb hg_ hnew_; clear hg_ hnew_; (first | rw [← p6.out] at j1 | (simp only [Int.reduceToNat] at j1; rw [← p6.out] at j1)); replace j5 := am (Kd.N_elder' (kN j5) (Kd.R_base j1) hb); have q2 := am (Kd.R_lower (Kd.R_newM (M := fun k_ => (w.heap.size ≤ k_)) j1 (below_size (bb HB)) (fun k_ h_ => h_)) (below_size (bb HB))); replace b8 := bkb b8 hb; replace HB := bstep HB hb; clear hb j1; obtain ⟨o2, o1, eo15⟩ := Kd.R_slice q2.out; subst eo15; obtain ⟨n5, n3, eo16⟩ := Kd.N_slice j5.out; subst eo16; obtain ⟨I8, I7, D8, D7⟩ := cz2 b8))
 refine bodyPost_ret (results_cell_row rfl _ _ b3 31 #[.slice n5 h8.length n3, .slice o2 m8.length o1] (0, 0) _ rfl (by (with_reducible repeat (first | refine dN ?_ _ | refine dR ?_ | refine dA ?_ _)); refine blk_put (cs := #[.slice n5 h8.length n3, .slice none 0 0]) ?_ 1 _ rfl; refine blk_put (cs := #[.slice none 0 0, .slice none 0 0]) ?_ 0 _ rfl; (with_reducible repeat (first | refine dN ?_ _ | refine dR ?_ | refine dA ?_ _)); exact b8.out) Tryz.underlying31 rfl (by kernel_rfl)) rfl ?_
 exact ⟨_, _, erf, by (with_reducible repeat (first | apply Kd.N_alloc | apply Kd.N_drewN | apply Kd.N_drew)); exact Kd.N_mono (Kd.N_far (p := ⟨b3, 1, none⟩) (Kd.N_far (p := ⟨b3, 0, none⟩) (Kd.N_mono j5.out (fun k_ hk => (⟨hk, hk.1.2⟩ : _ ∧ k_ ≠ b3))) (fun _ hk => hk.2) (.slice n5 h8.length n3)) (fun _ hk => hk.2) (.slice o2 m8.length o1)) (fun _ hk => ⟨hk.1.1.1, hk.1.2⟩), by (with_reducible repeat (first | apply Kd.R_alloc | apply Kd.R_drewN | apply Kd.R_drew)); exact Kd.R_mono (Kd.R_far (p := ⟨b3, 1, none⟩) (Kd.R_far (p := ⟨b3, 0, none⟩) (Kd.R_types q2.out b8.out (by decide)) (fun _ hk => hk.2) (.slice n5 h8.length n3)) (fun _ hk => hk.2) (.slice o2 m8.length o1)) (fun _ hk => hk.1.1), bb HB⟩
end Go.Proofs.YtfpianecohobjaaGreat.P
