/- StatisticOf: a part of its proof. No condition. -/
import Derived.Test.YtfpianecohobjaaGreatYPx0
import Derived.Test.YtfpianecohobjaaGreatYMa
import Derived.Test.YtfpianecohobjaaGreatYH1
namespace Go.Proofs.YtfpianecohobjaaGreat.P
open Go.RowKit Go.Proofs.YtfpianecohobjaaGreatW.PrintWords Go.Proofs.YtfpianecohobjaaGreatW.PrintLast Go.Proofs.YtfpianecohobjaaGreatW.PrintMore
set_option linter.unusedVariables false
set_option linter.unusedSimpArgs false
attribute [local go_sem high] eqA75
def scarfjointref18_SameCounts.l0 : Nat → List (S75) → List (S75) → Int → Option (Bool)
 | 0, _, _, _ => none
 | k + 1, x0, x1, x5 => if x5 < (x0.length : Int) then (if 0 ≤ x5 then (if x5 < (x1.length : Int) then (if (!(((rd_T75 x0 x5).f0) == ((rd_T75 x1 x5).f0)) || (!(((rd_T75 x0 x5).f1) == ((rd_T75 x1 x5).f1)) || (!(((rd_T75 x0 x5).f2) == ((rd_T75 x1 x5).f2)) || (!(((rd_T75 x0 x5).f3) == ((rd_T75 x1 x5).f3)))))) = true then (some false) else (scarfjointref18_SameCounts.l0 k x0 x1 (wrap64 (x5 + 1)))) else (none)) else (none)) else (some true)
def scarfjointref18_SameCounts.f (k : Nat) (l0 : List (S75)) (l1 : List (S75)) : Option (Bool) := if (l0.length : Int) = (l1.length : Int) then (scarfjointref18_SameCounts.l0 k l0 l1 0) else (some false)
theorem scarfjointref18_SameCounts.mono_l : ∀ k, (∀ y0 y1 y2, LeO (scarfjointref18_SameCounts.l0 k y0 y1 y2) (scarfjointref18_SameCounts.l0 (k + 1) y0 y1 y2))
 | 0 => fun _ _ _ r h => by simp [scarfjointref18_SameCounts.l0] at h
 | k + 1 => by
  have ih0 := scarfjointref18_SameCounts.mono_l k
  ·intro y0 y1 y2
   unfold scarfjointref18_SameCounts.l0
   repeat' first
   | (with_reducible exact ih0 _ _ _)
   | (with_reducible exact LeO.refl _)
   | (with_reducible exact LeO.none _)
   | (with_reducible refine LeO.ite ?_ ?_)
   | (with_reducible refine LeO.bind ?_ (fun _ => ?_))
theorem scarfjointref18_SameCounts.mono : ∀ a0 a1 k, LeO (scarfjointref18_SameCounts.f k a0 a1) (scarfjointref18_SameCounts.f (k + 1) a0 a1) := by
 intro a0 a1 k
 have ih0 := scarfjointref18_SameCounts.mono_l k
 unfold scarfjointref18_SameCounts.f
 repeat' first
   | (with_reducible exact ih0 _ _ _)
   | (with_reducible exact LeO.refl _)
   | (with_reducible exact LeO.none _)
   | (with_reducible refine LeO.ite ?_ ?_)
   | (with_reducible refine LeO.bind ?_ (fun _ => ?_))
set_option maxHeartbeats 8000000 in
set_option maxRecDepth 100000 in
theorem scarfjointref18_SameCounts.calls (k : Nat) (A0 : Option Addr) (c0 : Nat) (l0 : List (S75)) (A1 : Option Addr) (c1 : Nat) (l1 : List (S75)) (r : Bool) (w : World) (g5 : Kd.C k75 w A0 l0.length l0) (g6 : l0.length ≤ c0) (n5 : Kd.C k75 w A1 l1.length l1) (n6 : l1.length ≤ c1) (h : scarfjointref18_SameCounts.f k l0 l1 = some r) :
  Calls Tryz.prog 42 #[.slice A0 l0.length c0, .slice A1 l1.length c1] w fun e w' => e = .returned (.bool r) ∧ Drawn0 w w' := by
 have hu75 := Tryz.underlying75
 have j1 := Aside0.mk g5
 have r0 := Aside0.mk g6
 clear g5 g6
 have n7 := Aside0.mk n5
 have s7 := Aside0.mk n6
 clear n5 n6
 have H : (if (l0.length : Int) = (l1.length : Int) then (scarfjointref18_SameCounts.l0 k l0 l1 0) else (some false)) = some r := h
 clear h
 by_cases c3 : (l0.length : Int) = (l1.length : Int)
 rotate_left
 ·rw [if_neg c3] at H
  have e5 := beq_eq_false_iff_ne.mpr c3
  have m5 := bne_iff_ne.mpr c3
  have m4 : (l0.length == l1.length) = false := by first | simpa using c3 | (simp at c3 ⊢; omega)
  obtain rfl := Option.some.inj H
  go_enter Tryz.func42, Tryz.ntmps42
  go_wp2
  repeat (go_quiet (fail); try go_wp2)
  go_ret
  exact ⟨by first | rfl | (simp; done) | (simp [*]; done), drw⟩
 rw [if_pos c3] at H
 have e5 := beq_iff_eq.mpr c3
 have m5 := bne_eq_false_iff_eq.mpr c3
 have m4 : (l0.length == l1.length) = true := by first | simpa using c3 | (simp at c3 ⊢; omega)
 clear c3
 have H' := Aside0.mk H
 clear H
 go_enter Tryz.func42, Tryz.ntmps42
 go_wp2
 repeat (go_quiet (fail); try go_wp2)
 go_loopg [5] k (fun kq v5 w' => ∃ (a4 : Int), v5 = .int .i64 a4 ∧ Aside0 (scarfjointref18_SameCounts.l0 kq l0 l1 a4 = some r) ∧ Aside0 (kq ≤ k) ∧ Drawn0 w w')
 case atStart => exact ⟨(0), eqs, H', ⟨Nat.le_refl _⟩, drw⟩
 case round =>
  clear H'
  try clear c1
  try clear p2
  try clear c3
  try clear e5
  try clear m5
  try clear m4
  obtain ⟨a4, rfl, HA, g9, ⟨m1, rfl⟩⟩ := hrel
  cases gk with
  | zero => exact absurd HA.out (by simp [scarfjointref18_SameCounts.l0])
  | succ k1 =>
   have H := HA.out
   clear HA
   simp only [scarfjointref18_SameCounts.l0] at H
   by_cases c4 : a4 < (l0.length : Int)
   rotate_left
   ·rw [if_neg c4] at H
    have m3 := decide_eq_false c4
    clear c4
    obtain rfl := Option.some.inj H
    go_wp2
    repeat (go_quiet (fail); try go_wp2)
    go_ret
    exact ⟨by first | rfl | (simp; done) | (simp [*]; done), drw⟩
   rw [if_pos c4] at H
   have m3 := decide_eq_true c4
   clear c4
   obtain ⟨c5, H⟩ := itn H
   have s4 := decide_eq_true c5
   clear c5
   obtain ⟨c6, H⟩ := itn H
   have s3 := decide_eq_true c6
   clear c6
   by_cases c7 : (!(((rd_T75 l0 a4).f0) == ((rd_T75 l1 a4).f0)) || (!(((rd_T75 l0 a4).f1) == ((rd_T75 l1 a4).f1)) || (!(((rd_T75 l0 a4).f2) == ((rd_T75 l1 a4).f2)) || (!(((rd_T75 l0 a4).f3) == ((rd_T75 l1 a4).f3)))))) = true
   ·rw [if_pos c7] at H
    have n9 : (!(((rd_T75 l0 a4).f0) == ((rd_T75 l1 a4).f0)) || (!(((rd_T75 l0 a4).f1) == ((rd_T75 l1 a4).f1)) || (!(((rd_T75 l0 a4).f2) == ((rd_T75 l1 a4).f2)) || (!(((rd_T75 l0 a4).f3) == ((rd_T75 l1 a4).f3)))))) = true := c7
    clear c7
    obtain rfl := Option.some.inj H
    have d2 : 0 ≤ a4 := odt
    have d0 : a4 < (l0.length : Int) := odt
    obtain ⟨m9, h3, m2, m0, j9, j8⟩ := at_T75 j1.out a4 d2 d0
    cases h3
    replace d2 := eq_true d2
    replace d0 := eq_true d0
    have d1 : 0 ≤ a4 := odt
    have c9 : a4 < (l1.length : Int) := odt
    obtain ⟨m8, h2, j7, j6, j5, j4⟩ := at_T75 n7.out a4 d1 c9
    cases h2
    replace d1 := eq_true d1
    replace c9 := eq_true c9
    go_wp2
    repeat (go_quiet (fail); try go_wp2)
    go_ret
    exact ⟨by first | rfl | (simp; done) | (simp [*]; done), drw⟩
   rw [if_neg c7] at H
   have n9 : (!(((rd_T75 l0 a4).f0) == ((rd_T75 l1 a4).f0)) || (!(((rd_T75 l0 a4).f1) == ((rd_T75 l1 a4).f1)) || (!(((rd_T75 l0 a4).f2) == ((rd_T75 l1 a4).f2)) || (!(((rd_T75 l0 a4).f3) == ((rd_T75 l1 a4).f3)))))) = false := by simpa using c7
   clear c7
   have H' := Aside0.mk H
   clear H
   have d2 : 0 ≤ a4 := odt
   have d0 : a4 < (l0.length : Int) := odt
   obtain ⟨m9, h3, m2, m0, j9, j8⟩ := at_T75 j1.out a4 d2 d0
   cases h3
   replace d2 := eq_true d2
   replace d0 := eq_true d0
   have d1 : 0 ≤ a4 := odt
   have c9 : a4 < (l1.length : Int) := odt
   obtain ⟨m8, h2, j7, j6, j5, j4⟩ := at_T75 n7.out a4 d1 c9
   cases h2
   replace d1 := eq_true d1
   replace c9 := eq_true c9
   go_wp2
   repeat (go_quiet (fail); try go_wp2)
   go_roundg k1
   case measure => have := g9.out; omega
   case rel => exact ⟨(wrap64 (a4 + 1)), eqs, H', ⟨by have := g9.out; omega⟩, drw⟩
def scarfjointref18_Same.f (k : Nat) (a5 : List (S75)) (a6 : List (S75)) (a7 : List (S75)) (a9 : List (S75)) : Option (Bool) := (scarfjointref18_SameCounts.f k a5 a7).bind fun e4 => (if e4 = true then ((scarfjointref18_SameCounts.f k a6 a9).bind fun e3 => (some e3)) else (some false))
theorem scarfjointref18_Same.mono : ∀ a0 a1 a2 a3 k, LeO (scarfjointref18_Same.f k a0 a1 a2 a3) (scarfjointref18_Same.f (k + 1) a0 a1 a2 a3) := by
 intro a0 a1 a2 a3 k
 unfold scarfjointref18_Same.f
 repeat' first
   | (with_reducible exact scarfjointref18_SameCounts.mono _ _ _)
   | (with_reducible exact LeO.refl _)
   | (with_reducible exact LeO.none _)
   | (with_reducible refine LeO.ite ?_ ?_)
   | (with_reducible refine LeO.bind ?_ (fun _ => ?_))
set_option maxHeartbeats 8000000 in
set_option maxRecDepth 100000 in
theorem scarfjointref18_Same.calls (k : Nat) (b1 : Option Addr) (b0 : Nat) (a5 : List (S75)) (c8 : Option Addr) (b7 : Nat) (a6 : List (S75)) (d9 : Option Addr) (d8 : Nat) (a7 : List (S75)) (g4 : Option Addr) (g1 : Nat) (a9 : List (S75)) (r : Bool) (w : World) (d5 : Kd.C k75 w b1 a5.length a5) (d7 : a5.length ≤ b0) (d4 : Kd.C k75 w c8 a6.length a6) (d6 : a6.length ≤ b7) (h5 : Kd.C k75 w d9 a7.length a7) (h7 : a7.length ≤ d8) (h4 : Kd.C k75 w g4 a9.length a9) (h6 : a9.length ≤ g1) (h : scarfjointref18_Same.f k a5 a6 a7 a9 = some r) :
  Calls Tryz.prog 15 #[.agg #[.slice b1 a5.length b0, .slice c8 a6.length b7], .agg #[.slice d9 a7.length d8, .slice g4 a9.length g1]] w fun e w' => e = .returned (.bool r) ∧ Below w.heap.size w w' := by
 have hu46 := Tryz.underlying46
 have e0 := Aside0.mk d5
 have e1 := Aside0.mk d7
 clear d5 d7
 have j0 := Aside0.mk d4
 have j3 := Aside0.mk d6
 clear d4 d6
 have h9 := Aside0.mk h5
 have j2 := Aside0.mk h7
 clear h5 h7
 have n0 := Aside0.mk h4
 have n1 := Aside0.mk h6
 clear h4 h6
 have HB := Aside0.mk (Below.refl w.heap.size w)
 have H : ((scarfjointref18_SameCounts.f k a5 a7).bind fun e4 => (if e4 = true then ((scarfjointref18_SameCounts.f k a6 a9).bind fun e3 => (some e3)) else (some false))) = some r := h
 clear h
 obtain ⟨e4, A3, H⟩ := obA H
 by_cases c4 : e4 = true
 rotate_left
 ·replace c4 := Bool.eq_false_iff.mpr c4
  subst c4
  replace H := iff_ H
  obtain rfl := Option.some.inj H
  go_enter Tryz.func15, Tryz.ntmps15
  go_wp2_with (first | ((with_reducible refine gate_dst (N := 2) rfl ?_); refine be 2 #[.slice b1 a5.length b0, .slice c8 a6.length b7] 46 ?_; intro m7 hg s6 hbox hb; have a8 := Aside0.mk (hbox); have n3 := bsz HB hg; replace HB := bstep HB hb; clear hb hbox hg) | ((with_reducible refine gate_dst (N := 3) rfl ?_); refine be 3 #[.slice d9 a7.length d8, .slice g4 a9.length g1] 46 ?_; intro m6 hg s5 hbox hb; have g3 := Aside0.mk (hbox); have n2 := bsz HB hg; replace HB := bstep HB hb; have b9 := blt a8 hg; have b8 := bgt a8 hg; replace a8 := bkb a8 hb; clear hb hbox hg; have r2 := b9.out; have r1 := b8.out; obtain ⟨p0, o9, o4, o3⟩ := cz2 a8; obtain ⟨o8, o7, o2, o1⟩ := cz2 g3) | ((with_reducible refine gate_callee (f := 42) rfl ?_); refine gl 9 Tryz.func42 #[.slice b1 a5.length b0, .slice d9 a7.length d8] (h := ?_); (with_reducible refine (scarfjointref18_SameCounts.calls k _ _ a5 _ _ a7 false _ ?b5 ?b4 ?b3 ?d3 A3.out).mono ?_); (case b5 => exact cb e0 HB); (case b4 => exact e1.out); (case b3 => exact cb h9 HB); (case d3 => exact j2.out); rintro e w' ⟨rfl, ⟨nd, rfl⟩⟩; refine ⟨_, rfl, ?_⟩))
  go_ret
  exact ⟨erf, bb HB⟩
 subst c4
 replace H := ift H
 obtain ⟨e3, A5, H⟩ := obA H
 obtain rfl := Option.some.inj H
 go_enter Tryz.func15, Tryz.ntmps15
 go_wp2_with (first | ((with_reducible refine gate_dst (N := 2) rfl ?_); refine be 2 #[.slice b1 a5.length b0, .slice c8 a6.length b7] 46 ?_; intro m7 hg w6 hbox hb; have a8 := Aside0.mk (hbox); have n3 := bsz HB hg; replace HB := bstep HB hb; clear hb hbox hg) | ((with_reducible refine gate_dst (N := 3) rfl ?_); refine be 3 #[.slice d9 a7.length d8, .slice g4 a9.length g1] 46 ?_; intro m6 hg w7 hbox hb; have g3 := Aside0.mk (hbox); have n2 := bsz HB hg; replace HB := bstep HB hb; have b9 := blt a8 hg; have b8 := bgt a8 hg; replace a8 := bkb a8 hb; clear hb hbox hg; have s1 := b9.out; have r9 := b8.out; obtain ⟨q3, q2, p5, p4⟩ := cz2 a8; obtain ⟨p3, p1, o6, o5⟩ := cz2 g3) | ((with_reducible refine gate_callee (f := 42) rfl ?_); refine gl 9 Tryz.func42 #[.slice b1 a5.length b0, .slice d9 a7.length d8] (h := ?_); (with_reducible refine (scarfjointref18_SameCounts.calls k _ _ a5 _ _ a7 true _ ?b5 ?b4 ?b3 ?d3 A3.out).mono ?_); (case b5 => exact cb e0 HB); (case b4 => exact e1.out); (case b3 => exact cb h9 HB); (case d3 => exact j2.out); rintro e w' ⟨rfl, ⟨nd, rfl⟩⟩; refine ⟨_, rfl, ?_⟩) | (go_at_call 42; (with_reducible refine (scarfjointref18_SameCounts.calls k _ _ a6 _ _ a9 e3 _ ?b5 ?b4 ?b3 ?d3 A5.out).mono ?_); (case b5 => repeat (first | exact (Kd.C_below j0.out (bb HB)) | (with_reducible refine Kd.C_alloc ?_ _) | (with_reducible refine Kd.C_drewN ?_ _) | (with_reducible refine Kd.C_drew ?_))); (case b4 => exact j3.out); (case b3 => repeat (first | exact (Kd.C_below n0.out (bb HB)) | (with_reducible refine Kd.C_alloc ?_ _) | (with_reducible refine Kd.C_drewN ?_ _) | (with_reducible refine Kd.C_drew ?_))); (case d3 => exact n1.out); rintro e w' ⟨rfl, ⟨nd, rfl⟩⟩))
 go_ret
 exact ⟨erf, bb HB⟩
def statistic_is.f (a0 : Int) (a1 : Int) : Option (Bool) := if a0 ≥ 0 then (some (decide (a0 < a1))) else (some false)
set_option maxHeartbeats 8000000 in
set_option maxRecDepth 100000 in
theorem statistic_is.calls (a0 : Int) (a1 : Int) (r : Bool) (w : World) (h : statistic_is.f a0 a1 = some r) :
  Calls Tryz.prog 46 #[.int .i64 a0, .int .i64 a1] w fun e w' => e = .returned (.bool r) ∧ Drawn0 w w' := by
 have H : (if a0 ≥ 0 then (some (decide (a0 < a1))) else (some false)) = some r := h
 clear h
 by_cases c3 : a0 ≥ 0
 ·rw [if_pos c3] at H
  have e5 : decide (0 ≤ a0) = true := decide_eq_true c3
  clear c3
  obtain rfl := Option.some.inj H
  go_enter Tryz.func46, Tryz.ntmps46
  go_wp2
  go_ret
  exact ⟨by first | rfl | (simp; done) | (simp [*]; done), drw⟩
 rw [if_neg c3] at H
 have e5 : decide (0 ≤ a0) = false := decide_eq_false c3
 clear c3
 obtain rfl := Option.some.inj H
 go_enter Tryz.func46, Tryz.ntmps46
 go_wp2
 go_ret
 exact ⟨by first | rfl | (simp; done) | (simp [*]; done), drw⟩
def statistic_total.l0 : Nat → Int → List (S75) → Int → Int → Option (Int)
 | 0, _, _, _, _ => none
 | k + 1, x3, x6, x7, x8 => if x8 < x7 then (if 0 ≤ x8 then (if x8 < (x6.length : Int) then (statistic_total.l0 k (wrap64 (x3 + ((rd_T75 x6 x8).f3))) x6 x7 (wrap64 (x8 + 1))) else (none)) else (none)) else (some x3)
def statistic_total.f (k : Nat) (l0 : List (S75)) : Option (Int) := statistic_total.l0 k 0 l0 (l0.length : Int) 0
theorem statistic_total.mono_l : ∀ k, (∀ y0 y1 y2 y3, LeO (statistic_total.l0 k y0 y1 y2 y3) (statistic_total.l0 (k + 1) y0 y1 y2 y3))
 | 0 => fun _ _ _ _ r h => by simp [statistic_total.l0] at h
 | k + 1 => by
  have ih0 := statistic_total.mono_l k
  ·intro y0 y1 y2 y3
   unfold statistic_total.l0
   repeat' first
   | (with_reducible exact ih0 _ _ _ _)
   | (with_reducible exact LeO.refl _)
   | (with_reducible exact LeO.none _)
   | (with_reducible refine LeO.ite ?_ ?_)
   | (with_reducible refine LeO.bind ?_ (fun _ => ?_))
theorem statistic_total.mono : ∀ a0 k, LeO (statistic_total.f k a0) (statistic_total.f (k + 1) a0) := by
 intro a0 k
 have ih0 := statistic_total.mono_l k
 unfold statistic_total.f
 repeat' first
   | (with_reducible exact ih0 _ _ _ _)
   | (with_reducible exact LeO.refl _)
   | (with_reducible exact LeO.none _)
   | (with_reducible refine LeO.ite ?_ ?_)
   | (with_reducible refine LeO.bind ?_ (fun _ => ?_))
set_option maxHeartbeats 8000000 in
set_option maxRecDepth 100000 in
theorem statistic_total.calls (k : Nat) (A0 : Option Addr) (c0 : Nat) (l0 : List (S75)) (r : Int) (w : World) (g5 : Kd.C k75 w A0 l0.length l0) (g6 : l0.length ≤ c0) (h : statistic_total.f k l0 = some r) :
  Calls Tryz.prog 47 #[.slice A0 l0.length c0] w fun e w' => e = .returned (.int .i64 r) ∧ Below w.heap.size w w' := by
 have hu75 := Tryz.underlying75
 have j1 := Aside0.mk g5
 have r0 := Aside0.mk g6
 clear g5 g6
 have HB := Aside0.mk (Below.refl w.heap.size w)
 have H : (statistic_total.l0 k 0 l0 (l0.length : Int) 0) = some r := h
 clear h
 have H' := Aside0.mk H
 clear H
 go_enter Tryz.func47, Tryz.ntmps47
 go_wp2
 go_loopg [3, 8] k (fun kq v3 v8 w' => ∃ (g0 : Int) (b2 : Int), v3 = .int .i64 g0 ∧ v8 = .int .i64 b2 ∧ Aside0 (statistic_total.l0 kq g0 l0 (l0.length : Int) b2 = some r) ∧ Aside0 (kq ≤ k) ∧ Aside0 (Below w.heap.size w w'))
 case atStart => exact ⟨(0), (0), eqs, eqs, H', ⟨Nat.le_refl _⟩, ⟨bb HB⟩⟩
 case round =>
  clear H'
  obtain ⟨g0, b2, rfl, rfl, HA, g9, HB⟩ := hrel
  cases gk with
  | zero => exact absurd HA.out (by simp [statistic_total.l0])
  | succ k1 =>
   have H := HA.out
   clear HA
   simp only [statistic_total.l0] at H
   by_cases c2 : b2 < (l0.length : Int)
   rotate_left
   ·rw [if_neg c2] at H
    have o0 := decide_eq_false c2
    clear c2
    obtain rfl := Option.some.inj H
    go_wp2
    go_ret
    exact ⟨erf, bb HB⟩
   rw [if_pos c2] at H
   have o0 := decide_eq_true c2
   clear c2
   obtain ⟨c3, H⟩ := itn H
   have e5 := decide_eq_true c3
   clear c3
   obtain ⟨c4, H⟩ := itn H
   have m3 := decide_eq_true c4
   clear c4
   have H' := Aside0.mk H
   clear H
   have h1 : 0 ≤ b2 := odt
   have h0 : b2 < (l0.length : Int) := odt
   obtain ⟨r5, n8, e9, e8, e7, e6⟩ := at_T75 j1.out b2 h1 h0
   cases n8
   replace e9 := hxc HB e9
   replace e8 := hxc HB e8
   replace e7 := hxc HB e7
   replace e6 := hxc HB e6
   replace h1 := eq_true h1
   replace h0 := eq_true h0
   go_wp2_with (first | ((with_reducible refine gate_dst (N := 5) rfl ?_); refine be 5 #[.int .i64 0, .int .i64 0, .int .i64 0, .int .i64 0] 75 ?_; intro r4 hg w5 hbox hb; have n4 := Aside0.mk (hbox); have r8 := bsz HB hg; replace HB := bstep HB hb; clear hb hbox hg; obtain ⟨q9, q8, q7, q6, q1, q0, p9, p8⟩ := cz4 n4))
   go_roundg k1
   case measure => have := g9.out; omega
   case rel => exact ⟨(wrap64 (g0 + ((rd_T75 l0 b2).f3))), (wrap64 (b2 + 1)), eqs, eqs, H', ⟨by have := g9.out; omega⟩, ⟨bb HB⟩⟩
def statistic_has.f (a5 : List (S75)) (a6 : List (S75)) (a1 : Int) : Option (Bool) := (any_has.f a5 a1).bind fun e2 => (some e2)
set_option maxHeartbeats 8000000 in
set_option maxRecDepth 100000 in
theorem statistic_has.calls (b1 : Option Addr) (b0 : Nat) (a5 : List (S75)) (c8 : Option Addr) (b7 : Nat) (a6 : List (S75)) (a1 : Int) (r : Bool) (w : World) (d5 : Kd.C k75 w b1 a5.length a5) (d7 : a5.length ≤ b0) (d4 : Kd.C k75 w c8 a6.length a6) (d6 : a6.length ≤ b7) (h : statistic_has.f a5 a6 a1 = some r) :
  Calls Tryz.prog 54 #[.agg #[.slice b1 a5.length b0, .slice c8 a6.length b7], .int .i64 a1] w fun e w' => e = .returned (.bool r) ∧ Below w.heap.size w w' := by
 have hu46 := Tryz.underlying46
 have e0 := Aside0.mk d5
 have e1 := Aside0.mk d7
 clear d5 d7
 have j0 := Aside0.mk d4
 have j3 := Aside0.mk d6
 clear d4 d6
 have HB := Aside0.mk (Below.refl w.heap.size w)
 have H : ((any_has.f a5 a1).bind fun e2 => (some e2)) = some r := h
 clear h
 obtain ⟨e2, A3, H⟩ := obA H
 obtain rfl := Option.some.inj H
 go_enter Tryz.func54, Tryz.ntmps54
 go_wp2_with (first | ((with_reducible refine gate_dst (N := 2) rfl ?_); refine be 2 #[.slice b1 a5.length b0, .slice c8 a6.length b7] 46 ?_; intro r3 hg w4 hbox hb; have b6 := Aside0.mk (hbox); have r7 := bsz HB hg; replace HB := bstep HB hb; clear hb hbox hg) | ((with_reducible refine gate_dst (N := 3) rfl ?_); refine be 3 #[.int .i64 a1] 3 ?_; intro h8 hg w5 hbox hb; have g2 := Aside0.mk (hbox); have r6 := bsz HB hg; replace HB := bstep HB hb; have g8 := blt b6 hg; have g7 := bgt b6 hg; replace b6 := bkb b6 hb; clear hb hbox hg; have s2 := g8.out; have s0 := g7.out; obtain ⟨q5, q4, p7, p6⟩ := cz2 b6) | ((with_reducible refine gate_callee (f := 49) rfl ?_); refine gl 8 Tryz.func49 #[.slice b1 a5.length b0, .func (.func 81) #[] #[.pointer (some ⟨h8, 0, none⟩)]] (h := ?_); (with_reducible refine (any_has.calls _ _ a5 h8 a1 e2 _ ?b5 ?b4 ?b3 A3.out).mono ?_); (case b5 => exact cb e0 HB); (case b4 => exact e1.out); (case b3 => exact (bk g2)); rintro e w8 ⟨rfl, hb⟩; refine ⟨_, rfl, ?_⟩; replace b6 := bkb b6 hb; replace g2 := bkb g2 hb; replace HB := bstep HB hb; (try clear hb); (try clear hb2); (try clear hk); (try clear hi)))
 go_ret
 exact ⟨erf, bb HB⟩
end Go.Proofs.YtfpianecohobjaaGreat.P
