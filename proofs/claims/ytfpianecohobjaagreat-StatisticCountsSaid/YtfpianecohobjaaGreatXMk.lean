/- StatisticOf: a part of its proof. No condition. -/
import Derived.Test.YtfpianecohobjaaGreatXPx0
import Derived.Test.YtfpianecohobjaaGreatXMa
import Derived.Test.YtfpianecohobjaaGreatXH1
import Derived.Test.YtfpianecohobjaaGreatXMh
import Derived.Test.YtfpianecohobjaaGreatXMg
namespace Go.Proofs.YtfpianecohobjaaGreat.P
open Go.RowKit Go.Proofs.YtfpianecohobjaaGreatW.PrintWords Go.Proofs.YtfpianecohobjaaGreatW.PrintLast Go.Proofs.YtfpianecohobjaaGreatW.PrintMore
set_option maxHeartbeats 8000000
set_option maxRecDepth 100000
set_option linter.unusedVariables false
set_option linter.unusedSimpArgs false
attribute [local go_sem high] eqA75
def scarfjointref18_SameCounts.l0 : Nat → List (S75) → List (S75) → Int → Option (Bool)
 | 0, _, _, _ => none
 | k + 1, x0, x1, x5 => if x5 < (x0.length : Int) then (if 0 ≤ x5 then (if x5 < (x1.length : Int) then (if (!(((rd_T75 x0 x5).f0) == ((rd_T75 x1 x5).f0)) || (!(((rd_T75 x0 x5).f1) == ((rd_T75 x1 x5).f1)) || (!(((rd_T75 x0 x5).f2) == ((rd_T75 x1 x5).f2)) || (!(((rd_T75 x0 x5).f3) == ((rd_T75 x1 x5).f3)))))) = true then (some false) else (scarfjointref18_SameCounts.l0 k x0 x1 (wrap64 (x5 + 1)))) else (none)) else (none)) else (some true)
def scarfjointref18_SameCounts.f (k : Nat) (l0 : List (S75)) (l1 : List (S75)) : Option (Bool) := if (l0.length : Int) = (l1.length : Int) then (scarfjointref18_SameCounts.l0 k l0 l1 0) else (some false)
theorem scarfjointref18_SameCounts.mono_l : ∀ k, (∀ y0 y1 y2, LeO (scarfjointref18_SameCounts.l0 k y0 y1 y2) (scarfjointref18_SameCounts.l0 (k + 1) y0 y1 y2))
 | 0 => fun _ _ _ r h => by simp [scarfjointref18_SameCounts.l0] at h
 | k + 1 => by
  have ih0 := scarfjointref18_SameCounts.mono_l k
  ·intro y0 y1 y2
   unfold scarfjointref18_SameCounts.l0
   repeat' first
   | (with_reducible exact ih0 _ _ _)
   | (with_reducible exact LeO.refl _)
   | (with_reducible exact LeO.none _)
   | (with_reducible refine LeO.ite ?_ ?_)
   | (with_reducible refine LeO.bind ?_ (fun _ => ?_))
theorem scarfjointref18_SameCounts.mono : ∀ a0 a1 k, LeO (scarfjointref18_SameCounts.f k a0 a1) (scarfjointref18_SameCounts.f (k + 1) a0 a1) := by
 intro a0 a1 k
 have ih0 := scarfjointref18_SameCounts.mono_l k
 unfold scarfjointref18_SameCounts.f
 repeat' first
   | (with_reducible exact ih0 _ _ _)
   | (with_reducible exact LeO.refl _)
   | (with_reducible exact LeO.none _)
   | (with_reducible refine LeO.ite ?_ ?_)
   | (with_reducible refine LeO.bind ?_ (fun _ => ?_))
theorem scarfjointref18_SameCounts.calls (k : Nat) (A0 : Option Addr) (c0 : Nat) (l0 : List (S75)) (A1 : Option Addr) (c1 : Nat) (l1 : List (S75)) (r : Bool) (w : World) (g5 : Kd.C k75 w A0 l0.length l0) (g6 : l0.length ≤ c0) (n5 : Kd.C k75 w A1 l1.length l1) (n6 : l1.length ≤ c1) (h : scarfjointref18_SameCounts.f k l0 l1 = some r) :
  Calls Tryz.prog 42 #[.slice A0 l0.length c0, .slice A1 l1.length c1] w fun e w' => e = .returned (.bool r) ∧ Drawn0 w w' := by
 have hu75 := Tryz.underlying75
 have j1 := am g5
 have r0 := am g6
 clear g5 g6
 have n7 := am n5
 have s7 := am n6
 clear n5 n6
 have H : (if (l0.length : Int) = (l1.length : Int) then (scarfjointref18_SameCounts.l0 k l0 l1 0) else (some false)) = some r := h
 clear h
 by_cases c3 : (l0.length : Int) = (l1.length : Int)
 rotate_left
 ·rw [if_neg c3] at H
  have e5 := beq_eq_false_iff_ne.mpr c3
  have m5 := bne_iff_ne.mpr c3
  have m4 : (l0.length == l1.length) = false := by first | simpa using c3 | (simp at c3 ⊢; omega)
  obtain rfl := Option.some.inj H
  go_enter Tryz.func42, Tryz.ntmps42
  go_wp2
  repeat (go_quiet (fail); try go_wp2)
  go_ret
  exact ⟨by first | rfl | (simp; done) | (simp [*]; done), drw⟩
 rw [if_pos c3] at H
 have e5 := beq_iff_eq.mpr c3
 have m5 := bne_eq_false_iff_eq.mpr c3
 have m4 : (l0.length == l1.length) = true := by first | simpa using c3 | (simp at c3 ⊢; omega)
 clear c3
 have H' := am H
 clear H
 go_enter Tryz.func42, Tryz.ntmps42
 go_wp2
 repeat (go_quiet (fail); try go_wp2)
 go_loopg [5] k (fun kq v5 w' => ∃ (a4 : Int), v5 = .int .i64 a4 ∧ Aside0 (scarfjointref18_SameCounts.l0 kq l0 l1 a4 = some r) ∧ Aside0 (kq ≤ k) ∧ Drawn0 w w')
 case atStart => exact ⟨(0), eqs, H', ⟨Nat.le_refl _⟩, drw⟩
 case round =>
  clear H'
  try clear c1
  try clear p2
  try clear c3
  try clear e5
  try clear m5
  try clear m4
  obtain ⟨a4, rfl, HA, g9, ⟨m1, rfl⟩⟩ := hrel
  cases gk with
  | zero => exact absurd HA.out (by simp [scarfjointref18_SameCounts.l0])
  | succ k1 =>
   have H := HA.out
   clear HA
   simp only [scarfjointref18_SameCounts.l0] at H
   by_cases c4 : a4 < (l0.length : Int)
   rotate_left
   ·rw [if_neg c4] at H
    have m3 := decide_eq_false c4
    clear c4
    obtain rfl := Option.some.inj H
    go_wp2
    repeat (go_quiet (fail); try go_wp2)
    go_ret
    exact ⟨by first | rfl | (simp; done) | (simp [*]; done), drw⟩
   rw [if_pos c4] at H
   have m3 := decide_eq_true c4
   clear c4
   obtain ⟨c5, H⟩ := itn H
   have s4 := decide_eq_true c5
   clear c5
   obtain ⟨c6, H⟩ := itn H
   have s3 := decide_eq_true c6
   clear c6
   by_cases c7 : (!(((rd_T75 l0 a4).f0) == ((rd_T75 l1 a4).f0)) || (!(((rd_T75 l0 a4).f1) == ((rd_T75 l1 a4).f1)) || (!(((rd_T75 l0 a4).f2) == ((rd_T75 l1 a4).f2)) || (!(((rd_T75 l0 a4).f3) == ((rd_T75 l1 a4).f3)))))) = true
   ·rw [if_pos c7] at H
    have n9 : (!(((rd_T75 l0 a4).f0) == ((rd_T75 l1 a4).f0)) || (!(((rd_T75 l0 a4).f1) == ((rd_T75 l1 a4).f1)) || (!(((rd_T75 l0 a4).f2) == ((rd_T75 l1 a4).f2)) || (!(((rd_T75 l0 a4).f3) == ((rd_T75 l1 a4).f3)))))) = true := c7
    clear c7
    obtain rfl := Option.some.inj H
    have d2 : 0 ≤ a4 := odt
    have d0 : a4 < (l0.length : Int) := odt
    obtain ⟨m9, h3, m2, m0, j9, j8⟩ := at_T75 j1.out a4 d2 d0
    cases h3
    replace d2 := eq_true d2
    replace d0 := eq_true d0
    have d1 : 0 ≤ a4 := odt
    have c9 : a4 < (l1.length : Int) := odt
    obtain ⟨m8, h2, j7, j6, j5, j4⟩ := at_T75 n7.out a4 d1 c9
    cases h2
    replace d1 := eq_true d1
    replace c9 := eq_true c9
    go_wp2
    repeat (go_quiet (fail); try go_wp2)
    go_ret
    exact ⟨by first | rfl | (simp; done) | (simp [*]; done), drw⟩
   rw [if_neg c7] at H
   have n9 : (!(((rd_T75 l0 a4).f0) == ((rd_T75 l1 a4).f0)) || (!(((rd_T75 l0 a4).f1) == ((rd_T75 l1 a4).f1)) || (!(((rd_T75 l0 a4).f2) == ((rd_T75 l1 a4).f2)) || (!(((rd_T75 l0 a4).f3) == ((rd_T75 l1 a4).f3)))))) = false := by simpa using c7
   clear c7
   have H' := am H
   clear H
   have d2 : 0 ≤ a4 := odt
   have d0 : a4 < (l0.length : Int) := odt
   obtain ⟨m9, h3, m2, m0, j9, j8⟩ := at_T75 j1.out a4 d2 d0
   cases h3
   replace d2 := eq_true d2
   replace d0 := eq_true d0
   have d1 : 0 ≤ a4 := odt
   have c9 : a4 < (l1.length : Int) := odt
   obtain ⟨m8, h2, j7, j6, j5, j4⟩ := at_T75 n7.out a4 d1 c9
   cases h2
   replace d1 := eq_true d1
   replace c9 := eq_true c9
   go_wp2
   repeat (go_quiet (fail); try go_wp2)
   go_roundg k1
   case measure => have := g9.out; omega
   case rel => exact ⟨(wrap64 (a4 + 1)), eqs, H', ⟨by have := g9.out; omega⟩, drw⟩
def scarfjointref18_Same.f (k : Nat) (a5 : List (S75)) (a6 : List (S75)) (a7 : List (S75)) (a9 : List (S75)) : Option (Bool) := (scarfjointref18_SameCounts.f k a5 a7).bind fun e4 => (if e4 = true then ((scarfjointref18_SameCounts.f k a6 a9).bind fun e3 => (some e3)) else (some false))
theorem scarfjointref18_Same.mono : ∀ a0 a1 a2 a3 k, LeO (scarfjointref18_Same.f k a0 a1 a2 a3) (scarfjointref18_Same.f (k + 1) a0 a1 a2 a3) := by
 intro a0 a1 a2 a3 k
 unfold scarfjointref18_Same.f
 repeat' first
   | (with_reducible exact scarfjointref18_SameCounts.mono _ _ _)
   | (with_reducible exact LeO.refl _)
   | (with_reducible exact LeO.none _)
   | (with_reducible refine LeO.ite ?_ ?_)
   | (with_reducible refine LeO.bind ?_ (fun _ => ?_))
theorem scarfjointref18_Same.calls (k : Nat) (b1 : Option Addr) (b0 : Nat) (a5 : List (S75)) (c8 : Option Addr) (b7 : Nat) (a6 : List (S75)) (d9 : Option Addr) (d8 : Nat) (a7 : List (S75)) (g4 : Option Addr) (g1 : Nat) (a9 : List (S75)) (r : Bool) (w : World) (d5 : Kd.C k75 w b1 a5.length a5) (d7 : a5.length ≤ b0) (d4 : Kd.C k75 w c8 a6.length a6) (d6 : a6.length ≤ b7) (h5 : Kd.C k75 w d9 a7.length a7) (h7 : a7.length ≤ d8) (h4 : Kd.C k75 w g4 a9.length a9) (h6 : a9.length ≤ g1) (h : scarfjointref18_Same.f k a5 a6 a7 a9 = some r) :
  Calls Tryz.prog 15 #[.agg #[.slice b1 a5.length b0, .slice c8 a6.length b7], .agg #[.slice d9 a7.length d8, .slice g4 a9.length g1]] w fun e w' => e = .returned (.bool r) ∧ Below w.heap.size w w' := by
 have hu46 := Tryz.underlying46
 have e0 := am d5
 have e1 := am d7
 clear d5 d7
 have j0 := am d4
 have j3 := am d6
 clear d4 d6
 have h9 := am h5
 have j2 := am h7
 clear h5 h7
 have n0 := am h4
 have n1 := am h6
 clear h4 h6
 have HB := am (Below.refl w.heap.size w)
 have H : ((scarfjointref18_SameCounts.f k a5 a7).bind fun e4 => (if e4 = true then ((scarfjointref18_SameCounts.f k a6 a9).bind fun e3 => (some e3)) else (some false))) = some r := h
 clear h
 obtain ⟨e4, A3, H⟩ := obA H
 by_cases c4 : e4 = true
 rotate_left
 ·replace c4 := Bool.eq_false_iff.mpr c4
  subst c4
  replace H := iff_ H
  obtain rfl := Option.some.inj H
  go_enter Tryz.func15, Tryz.ntmps15
  go_wp2_with (first | ((with_reducible refine gate_dst (N := 2) rfl ?_); refine be 2 #[.slice b1 a5.length b0, .slice c8 a6.length b7] 46 ?_; intro m7 hg s6 hbox hb; have a8 := am (hbox); have n3 := bsz HB hg; replace HB := bstep HB hb; clear hb hbox hg) | ((with_reducible refine gate_dst (N := 3) rfl ?_); refine be 3 #[.slice d9 a7.length d8, .slice g4 a9.length g1] 46 ?_; intro m6 hg s5 hbox hb; have g3 := am (hbox); have n2 := bsz HB hg; replace HB := bstep HB hb; have b9 := blt a8 hg; have b8 := bgt a8 hg; replace a8 := bkb a8 hb; clear hb hbox hg; have r2 := b9.out; have r1 := b8.out; obtain ⟨p0, o9, o4, o3⟩ := cz2 a8; obtain ⟨o8, o7, o2, o1⟩ := cz2 g3) | ((with_reducible refine gate_callee (f := 42) rfl ?_); refine gl 9 Tryz.func42 #[.slice b1 a5.length b0, .slice d9 a7.length d8] (h := ?_); (with_reducible refine (scarfjointref18_SameCounts.calls k _ _ a5 _ _ a7 false _ ?b5 ?b4 ?b3 ?d3 A3.out).mono ?_); (case b5 => exact cb e0 HB); (case b4 => exact e1.out); (case b3 => exact cb h9 HB); (case d3 => exact j2.out); rintro e w' ⟨rfl, ⟨nd, rfl⟩⟩; refine ⟨_, rfl, ?_⟩))
  go_ret
  exact ⟨erf, bb HB⟩
 subst c4
 replace H := ift H
 obtain ⟨e3, A5, H⟩ := obA H
 obtain rfl := Option.some.inj H
 go_enter Tryz.func15, Tryz.ntmps15
 go_wp2_with (first | ((with_reducible refine gate_dst (N := 2) rfl ?_); refine be 2 #[.slice b1 a5.length b0, .slice c8 a6.length b7] 46 ?_; intro m7 hg w6 hbox hb; have a8 := am (hbox); have n3 := bsz HB hg; replace HB := bstep HB hb; clear hb hbox hg) | ((with_reducible refine gate_dst (N := 3) rfl ?_); refine be 3 #[.slice d9 a7.length d8, .slice g4 a9.length g1] 46 ?_; intro m6 hg w7 hbox hb; have g3 := am (hbox); have n2 := bsz HB hg; replace HB := bstep HB hb; have b9 := blt a8 hg; have b8 := bgt a8 hg; replace a8 := bkb a8 hb; clear hb hbox hg; have s1 := b9.out; have r9 := b8.out; obtain ⟨q3, q2, p5, p4⟩ := cz2 a8; obtain ⟨p3, p1, o6, o5⟩ := cz2 g3) | ((with_reducible refine gate_callee (f := 42) rfl ?_); refine gl 9 Tryz.func42 #[.slice b1 a5.length b0, .slice d9 a7.length d8] (h := ?_); (with_reducible refine (scarfjointref18_SameCounts.calls k _ _ a5 _ _ a7 true _ ?b5 ?b4 ?b3 ?d3 A3.out).mono ?_); (case b5 => exact cb e0 HB); (case b4 => exact e1.out); (case b3 => exact cb h9 HB); (case d3 => exact j2.out); rintro e w' ⟨rfl, ⟨nd, rfl⟩⟩; refine ⟨_, rfl, ?_⟩) | (go_at_call 42; (with_reducible refine (scarfjointref18_SameCounts.calls k _ _ a6 _ _ a9 e3 _ ?b5 ?b4 ?b3 ?d3 A5.out).mono ?_); (case b5 => repeat (first | exact (Kd.C_below j0.out (bb HB)) | (with_reducible refine Kd.C_alloc ?_ _) | (with_reducible refine Kd.C_drewN ?_ _) | (with_reducible refine Kd.C_drew ?_))); (case b4 => exact j3.out); (case b3 => repeat (first | exact (Kd.C_below n0.out (bb HB)) | (with_reducible refine Kd.C_alloc ?_ _) | (with_reducible refine Kd.C_drewN ?_ _) | (with_reducible refine Kd.C_drew ?_))); (case d3 => exact n1.out); rintro e w' ⟨rfl, ⟨nd, rfl⟩⟩))
 go_ret
 exact ⟨erf, bb HB⟩
def statistic_is.f (a0 : Int) (a1 : Int) : Option (Bool) := if a0 ≥ 0 then (some (decide (a0 < a1))) else (some false)
theorem statistic_is.calls (a0 : Int) (a1 : Int) (r : Bool) (w : World) (h : statistic_is.f a0 a1 = some r) :
  Calls Tryz.prog 46 #[.int .i64 a0, .int .i64 a1] w fun e w' => e = .returned (.bool r) ∧ Drawn0 w w' := by
 have H : (if a0 ≥ 0 then (some (decide (a0 < a1))) else (some false)) = some r := h
 clear h
 by_cases c3 : a0 ≥ 0
 ·rw [if_pos c3] at H
  have e5 : decide (0 ≤ a0) = true := decide_eq_true c3
  clear c3
  obtain rfl := Option.some.inj H
  go_enter Tryz.func46, Tryz.ntmps46
  go_wp2
  go_ret
  exact ⟨by first | rfl | (simp; done) | (simp [*]; done), drw⟩
 rw [if_neg c3] at H
 have e5 : decide (0 ≤ a0) = false := decide_eq_false c3
 clear c3
 obtain rfl := Option.some.inj H
 go_enter Tryz.func46, Tryz.ntmps46
 go_wp2
 go_ret
 exact ⟨by first | rfl | (simp; done) | (simp [*]; done), drw⟩
def statistic_total.l0 : Nat → Int → List (S75) → Int → Int → Option (Int)
 | 0, _, _, _, _ => none
 | k + 1, x3, x6, x7, x8 => if x8 < x7 then (if 0 ≤ x8 then (if x8 < (x6.length : Int) then (statistic_total.l0 k (wrap64 (x3 + ((rd_T75 x6 x8).f3))) x6 x7 (wrap64 (x8 + 1))) else (none)) else (none)) else (some x3)
def statistic_total.f (k : Nat) (l0 : List (S75)) : Option (Int) := statistic_total.l0 k 0 l0 (l0.length : Int) 0
theorem statistic_total.mono_l : ∀ k, (∀ y0 y1 y2 y3, LeO (statistic_total.l0 k y0 y1 y2 y3) (statistic_total.l0 (k + 1) y0 y1 y2 y3))
 | 0 => fun _ _ _ _ r h => by simp [statistic_total.l0] at h
 | k + 1 => by
  have ih0 := statistic_total.mono_l k
  ·intro y0 y1 y2 y3
   unfold statistic_total.l0
   repeat' first
   | (with_reducible exact ih0 _ _ _ _)
   | (with_reducible exact LeO.refl _)
   | (with_reducible exact LeO.none _)
   | (with_reducible refine LeO.ite ?_ ?_)
   | (with_reducible refine LeO.bind ?_ (fun _ => ?_))
theorem statistic_total.mono : ∀ a0 k, LeO (statistic_total.f k a0) (statistic_total.f (k + 1) a0) := by
 intro a0 k
 have ih0 := statistic_total.mono_l k
 unfold statistic_total.f
 repeat' first
   | (with_reducible exact ih0 _ _ _ _)
   | (with_reducible exact LeO.refl _)
   | (with_reducible exact LeO.none _)
   | (with_reducible refine LeO.ite ?_ ?_)
   | (with_reducible refine LeO.bind ?_ (fun _ => ?_))
theorem statistic_total.calls (k : Nat) (A0 : Option Addr) (c0 : Nat) (l0 : List (S75)) (r : Int) (w : World) (g5 : Kd.C k75 w A0 l0.length l0) (g6 : l0.length ≤ c0) (h : statistic_total.f k l0 = some r) :
  Calls Tryz.prog 47 #[.slice A0 l0.length c0] w fun e w' => e = .returned (.int .i64 r) ∧ Below w.heap.size w w' := by
 have hu75 := Tryz.underlying75
 have j1 := am g5
 have r0 := am g6
 clear g5 g6
 have HB := am (Below.refl w.heap.size w)
 have H : (statistic_total.l0 k 0 l0 (l0.length : Int) 0) = some r := h
 clear h
 have H' := am H
 clear H
 go_enter Tryz.func47, Tryz.ntmps47
 go_wp2
 go_loopg [3, 8] k (fun kq v3 v8 w' => ∃ (g0 : Int) (b2 : Int), v3 = .int .i64 g0 ∧ v8 = .int .i64 b2 ∧ Aside0 (statistic_total.l0 kq g0 l0 (l0.length : Int) b2 = some r) ∧ Aside0 (kq ≤ k) ∧ Aside0 (Below w.heap.size w w'))
 case atStart => exact ⟨(0), (0), eqs, eqs, H', ⟨Nat.le_refl _⟩, ⟨bb HB⟩⟩
 case round =>
  clear H'
  obtain ⟨g0, b2, rfl, rfl, HA, g9, HB⟩ := hrel
  cases gk with
  | zero => exact absurd HA.out (by simp [statistic_total.l0])
  | succ k1 =>
   have H := HA.out
   clear HA
   simp only [statistic_total.l0] at H
   by_cases c2 : b2 < (l0.length : Int)
   rotate_left
   ·rw [if_neg c2] at H
    have o0 := decide_eq_false c2
    clear c2
    obtain rfl := Option.some.inj H
    go_wp2
    go_ret
    exact ⟨erf, bb HB⟩
   rw [if_pos c2] at H
   have o0 := decide_eq_true c2
   clear c2
   obtain ⟨c3, H⟩ := itn H
   have e5 := decide_eq_true c3
   clear c3
   obtain ⟨c4, H⟩ := itn H
   have m3 := decide_eq_true c4
   clear c4
   have H' := am H
   clear H
   have h1 : 0 ≤ b2 := odt
   have h0 : b2 < (l0.length : Int) := odt
   obtain ⟨r5, n8, e9, e8, e7, e6⟩ := at_T75 j1.out b2 h1 h0
   cases n8
   replace e9 := hxc HB e9
   replace e8 := hxc HB e8
   replace e7 := hxc HB e7
   replace e6 := hxc HB e6
   replace h1 := eq_true h1
   replace h0 := eq_true h0
   go_wp2_with (first | ((with_reducible refine gate_dst (N := 5) rfl ?_); refine be 5 #[.int .i64 0, .int .i64 0, .int .i64 0, .int .i64 0] 75 ?_; intro r4 hg w5 hbox hb; have n4 := am (hbox); have r8 := bsz HB hg; replace HB := bstep HB hb; clear hb hbox hg; obtain ⟨q9, q8, q7, q6, q1, q0, p9, p8⟩ := cz4 n4))
   go_roundg k1
   case measure => have := g9.out; omega
   case rel => exact ⟨(wrap64 (g0 + ((rd_T75 l0 b2).f3))), (wrap64 (b2 + 1)), eqs, eqs, H', ⟨by have := g9.out; omega⟩, ⟨bb HB⟩⟩
def statistic_has.f (a5 : List (S75)) (a6 : List (S75)) (a1 : Int) : Option (Bool) := (any_has.f a5 a1).bind fun e2 => (some e2)
theorem statistic_has.calls (b1 : Option Addr) (b0 : Nat) (a5 : List (S75)) (c8 : Option Addr) (b7 : Nat) (a6 : List (S75)) (a1 : Int) (r : Bool) (w : World) (d5 : Kd.C k75 w b1 a5.length a5) (d7 : a5.length ≤ b0) (d4 : Kd.C k75 w c8 a6.length a6) (d6 : a6.length ≤ b7) (h : statistic_has.f a5 a6 a1 = some r) :
  Calls Tryz.prog 54 #[.agg #[.slice b1 a5.length b0, .slice c8 a6.length b7], .int .i64 a1] w fun e w' => e = .returned (.bool r) ∧ Below w.heap.size w w' := by
 have hu46 := Tryz.underlying46
 have e0 := am d5
 have e1 := am d7
 clear d5 d7
 have j0 := am d4
 have j3 := am d6
 clear d4 d6
 have HB := am (Below.refl w.heap.size w)
 have H : ((any_has.f a5 a1).bind fun e2 => (some e2)) = some r := h
 clear h
 obtain ⟨e2, A3, H⟩ := obA H
 obtain rfl := Option.some.inj H
 go_enter Tryz.func54, Tryz.ntmps54
 go_wp2_with (first | ((with_reducible refine gate_dst (N := 2) rfl ?_); refine be 2 #[.slice b1 a5.length b0, .slice c8 a6.length b7] 46 ?_; intro r3 hg w4 hbox hb; have b6 := am (hbox); have r7 := bsz HB hg; replace HB := bstep HB hb; clear hb hbox hg) | ((with_reducible refine gate_dst (N := 3) rfl ?_); refine be 3 #[.int .i64 a1] 3 ?_; intro h8 hg w5 hbox hb; have g2 := am (hbox); have r6 := bsz HB hg; replace HB := bstep HB hb; have g8 := blt b6 hg; have g7 := bgt b6 hg; replace b6 := bkb b6 hb; clear hb hbox hg; have s2 := g8.out; have s0 := g7.out; obtain ⟨q5, q4, p7, p6⟩ := cz2 b6) | ((with_reducible refine gate_callee (f := 49) rfl ?_); refine gl 8 Tryz.func49 #[.slice b1 a5.length b0, .func (.func 81) #[] #[.pointer (some ⟨h8, 0, none⟩)]] (h := ?_); (with_reducible refine (any_has.calls _ _ a5 h8 a1 e2 _ ?b5 ?b4 ?b3 A3.out).mono ?_); (case b5 => exact cb e0 HB); (case b4 => exact e1.out); (case b3 => exact (bk g2)); rintro e w8 ⟨rfl, hb⟩; refine ⟨_, rfl, ?_⟩; replace b6 := bkb b6 hb; replace g2 := bkb g2 hb; replace HB := bstep HB hb; (try clear hb); (try clear hb2); (try clear hk); (try clear hi)))
 go_ret
 exact ⟨erf, bb HB⟩
mutual
def statistic_Valid.l0 : Nat → List (S75) → Int → Int → List (S96) → List (S101) → List (S75) → List (S75) → Option (Int)
 | 0, _, _, _, _, _, _, _ => none
 | k + 1, c9, n8, c3, b9, c1, b3, b2 => if c3 < n8 then (if 0 ≤ c3 then (if c3 < (c9.length : Int) then ((statistic_is.f ((rd_T75 c9 c3).f0) (b9.length : Int)).bind fun v3 => (if v3 = true then (if ((rd_T75 c9 c3).f1) = 0 then (if ((rd_T75 c9 c3).f2) = 0 then (if ((rd_T75 c9 c3).f3) < 1 then (statistic_Valid.j1 k c3 c9 n8 c3 true b9 c1 b3 b2 ((rd_T75 c9 c3).f0) ((rd_T75 c9 c3).f1) ((rd_T75 c9 c3).f2) ((rd_T75 c9 c3).f3)) else (statistic_Valid.j1 k c3 c9 n8 c3 (decide (((rd_T75 c9 c3).f3) > 40)) b9 c1 b3 b2 ((rd_T75 c9 c3).f0) ((rd_T75 c9 c3).f1) ((rd_T75 c9 c3).f2) ((rd_T75 c9 c3).f3))) else (statistic_Valid.j1 k c3 c9 n8 c3 true b9 c1 b3 b2 ((rd_T75 c9 c3).f0) ((rd_T75 c9 c3).f1) ((rd_T75 c9 c3).f2) ((rd_T75 c9 c3).f3))) else (statistic_Valid.j1 k c3 c9 n8 c3 true b9 c1 b3 b2 ((rd_T75 c9 c3).f0) ((rd_T75 c9 c3).f1) ((rd_T75 c9 c3).f2) ((rd_T75 c9 c3).f3))) else (statistic_Valid.j1 k c3 c9 n8 c3 true b9 c1 b3 b2 ((rd_T75 c9 c3).f0) ((rd_T75 c9 c3).f1) ((rd_T75 c9 c3).f2) ((rd_T75 c9 c3).f3)))) else (none)) else (none)) else ((statistic_total.f k b3).bind fun n1 => (if n1 > 40 then (some 3) else (statistic_Valid.l1 k b2 (b2.length : Int) 0 b9 c1 b3 b2)))
def statistic_Valid.j1 : Nat → Int → List (S75) → Int → Int → Bool → List (S96) → List (S101) → List (S75) → List (S75) → Int → Int → Int → Int → Option (Int)
 | 0, _, _, _, _, _, _, _, _, _, _, _, _, _ => none
 | k + 1, x7, c9, n8, c3, x53, b9, c1, b3, b2, C8, C7, C6, C5 => if x53 = true then (some 6) else (if x7 > 0 then (if 0 ≤ (wrap64 (x7 - 1)) then (if (wrap64 (x7 - 1)) < (b3.length : Int) then ((statistic_compare.f k ((rd_T75 b3 (wrap64 (x7 - 1))).f0) ((rd_T75 b3 (wrap64 (x7 - 1))).f1) ((rd_T75 b3 (wrap64 (x7 - 1))).f2) ((rd_T75 b3 (wrap64 (x7 - 1))).f3) C8 C7 C6 C5).bind fun m0 => (if m0 ≥ 0 then (some 12) else (statistic_Valid.l0 k c9 n8 (wrap64 (c3 + 1)) b9 c1 b3 b2))) else (none)) else (none)) else (statistic_Valid.l0 k c9 n8 (wrap64 (c3 + 1)) b9 c1 b3 b2))
def statistic_Valid.l1 : Nat → List (S75) → Int → Int → List (S96) → List (S101) → List (S75) → List (S75) → Option (Int)
 | 0, _, _, _, _, _, _, _ => none
 | k + 1, c6, m1, c2, b9, c1, b3, b2 => if c2 < m1 then (if 0 ≤ c2 then (if c2 < (c6.length : Int) then ((statistic_is.f ((rd_T75 c6 c2).f0) (c1.length : Int)).bind fun v2 => (if v2 = true then ((statistic_is.f ((rd_T75 c6 c2).f1) (b9.length : Int)).bind fun v1 => (if v1 = true then ((statistic_is.f ((rd_T75 c6 c2).f2) (b9.length : Int)).bind fun v0 => (if v0 = true then (if ((rd_T75 c6 c2).f3) < 1 then (statistic_Valid.j3 k c2 c6 m1 c2 true b9 c1 b3 b2 ((rd_T75 c6 c2).f0) ((rd_T75 c6 c2).f1) ((rd_T75 c6 c2).f2) ((rd_T75 c6 c2).f3)) else (statistic_Valid.j3 k c2 c6 m1 c2 (decide (((rd_T75 c6 c2).f3) > 80)) b9 c1 b3 b2 ((rd_T75 c6 c2).f0) ((rd_T75 c6 c2).f1) ((rd_T75 c6 c2).f2) ((rd_T75 c6 c2).f3))) else (statistic_Valid.j3 k c2 c6 m1 c2 true b9 c1 b3 b2 ((rd_T75 c6 c2).f0) ((rd_T75 c6 c2).f1) ((rd_T75 c6 c2).f2) ((rd_T75 c6 c2).f3)))) else (statistic_Valid.j3 k c2 c6 m1 c2 true b9 c1 b3 b2 ((rd_T75 c6 c2).f0) ((rd_T75 c6 c2).f1) ((rd_T75 c6 c2).f2) ((rd_T75 c6 c2).f3)))) else (statistic_Valid.j3 k c2 c6 m1 c2 true b9 c1 b3 b2 ((rd_T75 c6 c2).f0) ((rd_T75 c6 c2).f1) ((rd_T75 c6 c2).f2) ((rd_T75 c6 c2).f3)))) else (none)) else (none)) else ((statistic_total.f k b2).bind fun n0 => (if n0 > 80 then (some 3) else (some 0)))
def statistic_Valid.j3 : Nat → Int → List (S75) → Int → Int → Bool → List (S96) → List (S101) → List (S75) → List (S75) → Int → Int → Int → Int → Option (Int)
 | 0, _, _, _, _, _, _, _, _, _, _, _, _, _ => none
 | k + 1, x9, c6, m1, c2, x80, b9, c1, b3, b2, h5, h1, h0, m6 => if x80 = true then (some 6) else ((types_Fits.f k b9 c1 h5 h1 h0).bind fun t9 => (if t9 = true then ((statistic_has.f b3 b2 h1).bind fun t8 => (if t8 = true then ((statistic_has.f b3 b2 h0).bind fun r2 => (statistic_Valid.j4 k x9 c6 m1 c2 (!r2) b9 c1 b3 b2 h5 h1 h0 m6)) else (statistic_Valid.j4 k x9 c6 m1 c2 true b9 c1 b3 b2 h5 h1 h0 m6))) else (some 13)))
def statistic_Valid.j4 : Nat → Int → List (S75) → Int → Int → Bool → List (S96) → List (S101) → List (S75) → List (S75) → Int → Int → Int → Int → Option (Int)
 | 0, _, _, _, _, _, _, _, _, _, _, _, _, _ => none
 | k + 1, x9, c6, m1, c2, J4, b9, c1, b3, b2, h5, h1, h0, m6 => if J4 = true then (some 10) else (if x9 > 0 then (if 0 ≤ (wrap64 (x9 - 1)) then (if (wrap64 (x9 - 1)) < (b2.length : Int) then ((statistic_compare.f k ((rd_T75 b2 (wrap64 (x9 - 1))).f0) ((rd_T75 b2 (wrap64 (x9 - 1))).f1) ((rd_T75 b2 (wrap64 (x9 - 1))).f2) ((rd_T75 b2 (wrap64 (x9 - 1))).f3) h5 h1 h0 m6).bind fun j9 => (if j9 ≥ 0 then (some 12) else (statistic_Valid.l1 k c6 m1 (wrap64 (c2 + 1)) b9 c1 b3 b2))) else (none)) else (none)) else (statistic_Valid.l1 k c6 m1 (wrap64 (c2 + 1)) b9 c1 b3 b2))
end
def statistic_Valid.f (k : Nat) (b6 : List (S96)) (c0 : List (S101)) (a6 : List (S75)) (a4 : List (S75)) : Option (Int) := (types_Valid.f k b6 c0).bind fun o1 => (if o1.2 = 0 then (statistic_Valid.l0 k a6 (a6.length : Int) 0 b6 c0 a6 a4) else (some o1.2))
theorem statistic_Valid.mono_l : ∀ k, (∀ y0 y1 y2 y3 y4 y5 y6, LeO (statistic_Valid.l0 k y0 y1 y2 y3 y4 y5 y6) (statistic_Valid.l0 (k + 1) y0 y1 y2 y3 y4 y5 y6)) ∧ (∀ y0 y1 y2 y3 y4 y5 y6 y7 y8 y9 m4 m3 m2, LeO (statistic_Valid.j1 k y0 y1 y2 y3 y4 y5 y6 y7 y8 y9 m4 m3 m2) (statistic_Valid.j1 (k + 1) y0 y1 y2 y3 y4 y5 y6 y7 y8 y9 m4 m3 m2)) ∧ (∀ y0 y1 y2 y3 y4 y5 y6, LeO (statistic_Valid.l1 k y0 y1 y2 y3 y4 y5 y6) (statistic_Valid.l1 (k + 1) y0 y1 y2 y3 y4 y5 y6)) ∧ (∀ y0 y1 y2 y3 y4 y5 y6 y7 y8 y9 m4 m3 m2, LeO (statistic_Valid.j3 k y0 y1 y2 y3 y4 y5 y6 y7 y8 y9 m4 m3 m2) (statistic_Valid.j3 (k + 1) y0 y1 y2 y3 y4 y5 y6 y7 y8 y9 m4 m3 m2)) ∧ (∀ y0 y1 y2 y3 y4 y5 y6 y7 y8 y9 m4 m3 m2, LeO (statistic_Valid.j4 k y0 y1 y2 y3 y4 y5 y6 y7 y8 y9 m4 m3 m2) (statistic_Valid.j4 (k + 1) y0 y1 y2 y3 y4 y5 y6 y7 y8 y9 m4 m3 m2))
 | 0 => ⟨fun _ _ _ _ _ _ _ r h => by simp [statistic_Valid.l0] at h, fun _ _ _ _ _ _ _ _ _ _ _ _ _ r h => by simp [statistic_Valid.j1] at h, fun _ _ _ _ _ _ _ r h => by simp [statistic_Valid.l1] at h, fun _ _ _ _ _ _ _ _ _ _ _ _ _ r h => by simp [statistic_Valid.j3] at h, fun _ _ _ _ _ _ _ _ _ _ _ _ _ r h => by simp [statistic_Valid.j4] at h⟩
 | k + 1 => by
  obtain ⟨ih0, ih1, ih2, ih3, ih4⟩ := statistic_Valid.mono_l k
  refine ⟨?_, ?_, ?_, ?_, ?_⟩
  ·intro y0 y1 y2 y3 y4 y5 y6
   unfold statistic_Valid.l0
   repeat' first
   | (with_reducible exact ih0 _ _ _ _ _ _ _)
   | (with_reducible exact ih1 _ _ _ _ _ _ _ _ _ _ _ _ _)
   | (with_reducible exact ih2 _ _ _ _ _ _ _)
   | (with_reducible exact ih3 _ _ _ _ _ _ _ _ _ _ _ _ _)
   | (with_reducible exact ih4 _ _ _ _ _ _ _ _ _ _ _ _ _)
   | (with_reducible exact statistic_compare.mono _ _ _ _ _ _ _ _ _)
   | (with_reducible exact statistic_total.mono _ _)
   | (with_reducible exact types_Fits.mono _ _ _ _ _ _)
   | (with_reducible exact types_Valid.mono _ _ _)
   | (with_reducible exact LeO.refl _)
   | (with_reducible exact LeO.none _)
   | (with_reducible refine LeO.ite ?_ ?_)
   | (with_reducible refine LeO.bind ?_ (fun _ => ?_))
  ·intro y0 y1 y2 y3 y4 y5 y6 y7 y8 y9 m4 m3 m2
   unfold statistic_Valid.j1
   repeat' first
   | (with_reducible exact ih0 _ _ _ _ _ _ _)
   | (with_reducible exact ih1 _ _ _ _ _ _ _ _ _ _ _ _ _)
   | (with_reducible exact ih2 _ _ _ _ _ _ _)
   | (with_reducible exact ih3 _ _ _ _ _ _ _ _ _ _ _ _ _)
   | (with_reducible exact ih4 _ _ _ _ _ _ _ _ _ _ _ _ _)
   | (with_reducible exact statistic_compare.mono _ _ _ _ _ _ _ _ _)
   | (with_reducible exact statistic_total.mono _ _)
   | (with_reducible exact types_Fits.mono _ _ _ _ _ _)
   | (with_reducible exact types_Valid.mono _ _ _)
   | (with_reducible exact LeO.refl _)
   | (with_reducible exact LeO.none _)
   | (with_reducible refine LeO.ite ?_ ?_)
   | (with_reducible refine LeO.bind ?_ (fun _ => ?_))
  ·intro y0 y1 y2 y3 y4 y5 y6
   unfold statistic_Valid.l1
   repeat' first
   | (with_reducible exact ih0 _ _ _ _ _ _ _)
   | (with_reducible exact ih1 _ _ _ _ _ _ _ _ _ _ _ _ _)
   | (with_reducible exact ih2 _ _ _ _ _ _ _)
   | (with_reducible exact ih3 _ _ _ _ _ _ _ _ _ _ _ _ _)
   | (with_reducible exact ih4 _ _ _ _ _ _ _ _ _ _ _ _ _)
   | (with_reducible exact statistic_compare.mono _ _ _ _ _ _ _ _ _)
   | (with_reducible exact statistic_total.mono _ _)
   | (with_reducible exact types_Fits.mono _ _ _ _ _ _)
   | (with_reducible exact types_Valid.mono _ _ _)
   | (with_reducible exact LeO.refl _)
   | (with_reducible exact LeO.none _)
   | (with_reducible refine LeO.ite ?_ ?_)
   | (with_reducible refine LeO.bind ?_ (fun _ => ?_))
  ·intro y0 y1 y2 y3 y4 y5 y6 y7 y8 y9 m4 m3 m2
   unfold statistic_Valid.j3
   repeat' first
   | (with_reducible exact ih0 _ _ _ _ _ _ _)
   | (with_reducible exact ih1 _ _ _ _ _ _ _ _ _ _ _ _ _)
   | (with_reducible exact ih2 _ _ _ _ _ _ _)
   | (with_reducible exact ih3 _ _ _ _ _ _ _ _ _ _ _ _ _)
   | (with_reducible exact ih4 _ _ _ _ _ _ _ _ _ _ _ _ _)
   | (with_reducible exact statistic_compare.mono _ _ _ _ _ _ _ _ _)
   | (with_reducible exact statistic_total.mono _ _)
   | (with_reducible exact types_Fits.mono _ _ _ _ _ _)
   | (with_reducible exact types_Valid.mono _ _ _)
   | (with_reducible exact LeO.refl _)
   | (with_reducible exact LeO.none _)
   | (with_reducible refine LeO.ite ?_ ?_)
   | (with_reducible refine LeO.bind ?_ (fun _ => ?_))
  ·intro y0 y1 y2 y3 y4 y5 y6 y7 y8 y9 m4 m3 m2
   unfold statistic_Valid.j4
   repeat' first
   | (with_reducible exact ih0 _ _ _ _ _ _ _)
   | (with_reducible exact ih1 _ _ _ _ _ _ _ _ _ _ _ _ _)
   | (with_reducible exact ih2 _ _ _ _ _ _ _)
   | (with_reducible exact ih3 _ _ _ _ _ _ _ _ _ _ _ _ _)
   | (with_reducible exact ih4 _ _ _ _ _ _ _ _ _ _ _ _ _)
   | (with_reducible exact statistic_compare.mono _ _ _ _ _ _ _ _ _)
   | (with_reducible exact statistic_total.mono _ _)
   | (with_reducible exact types_Fits.mono _ _ _ _ _ _)
   | (with_reducible exact types_Valid.mono _ _ _)
   | (with_reducible exact LeO.refl _)
   | (with_reducible exact LeO.none _)
   | (with_reducible refine LeO.ite ?_ ?_)
   | (with_reducible refine LeO.bind ?_ (fun _ => ?_))
theorem statistic_Valid.mono : ∀ a0 a1 a2 a3 k, LeO (statistic_Valid.f k a0 a1 a2 a3) (statistic_Valid.f (k + 1) a0 a1 a2 a3) := by
 intro a0 a1 a2 a3 k
 obtain ⟨ih0, ih1, ih2, ih3, ih4⟩ := statistic_Valid.mono_l k
 unfold statistic_Valid.f
 repeat' first
   | (with_reducible exact ih0 _ _ _ _ _ _ _)
   | (with_reducible exact ih1 _ _ _ _ _ _ _ _ _ _ _ _ _)
   | (with_reducible exact ih2 _ _ _ _ _ _ _)
   | (with_reducible exact ih3 _ _ _ _ _ _ _ _ _ _ _ _ _)
   | (with_reducible exact ih4 _ _ _ _ _ _ _ _ _ _ _ _ _)
   | (with_reducible exact statistic_compare.mono _ _ _ _ _ _ _ _ _)
   | (with_reducible exact statistic_total.mono _ _)
   | (with_reducible exact types_Fits.mono _ _ _ _ _ _)
   | (with_reducible exact types_Valid.mono _ _ _)
   | (with_reducible exact LeO.refl _)
   | (with_reducible exact LeO.none _)
   | (with_reducible refine LeO.ite ?_ ?_)
   | (with_reducible refine LeO.bind ?_ (fun _ => ?_))
def statistic_Valid.T9 : Bool × List (List Nat × List Nat) := (true, [([], []), ([0], [0]), ([1], [1]), ([2], [2]), ([3, 2], [2, 3]), ([2], [2]), ([5, 2], [2, 5]), ([4, 6, 2], [2, 4, 6]), ([7, 2], [2, 7]), ([2], [2]), ([8, 9, 2, 2], [2, 8, 9]), ([10, 2], [2, 10]), ([2, 11], [2, 11])])
def statistic_Valid.B9 : List Nat := [0, 1, 3, 7, 15, 7, 39, 127, 255, 7, 1023, 2047, 4095]
theorem statistic_Valid.tab9 : rtab .any (opsOf Tryz.f23 9) = statistic_Valid.T9 := by kernel_rfl
theorem statistic_Valid.bits9 : waitsOk statistic_Valid.T9.2 statistic_Valid.B9 = true := by kernel_rfl
def statistic_Valid.T23 : Bool × List (List Nat × List Nat) := (true, [([], []), ([0], [0]), ([1], [1]), ([2], [2]), ([3, 2], [2, 3]), ([2], [2]), ([5, 2], [2, 5]), ([4, 6, 2], [2, 4, 6]), ([7, 2], [2, 7]), ([2], [2]), ([8, 9, 2, 2], [2, 8, 9]), ([10, 2], [2, 10]), ([2, 11], [2, 11]), ([12, 10], [12])])
def statistic_Valid.B23 : List Nat := [0, 1, 3, 7, 15, 7, 39, 127, 255, 7, 1023, 2047, 4095, 8191]
theorem statistic_Valid.tab23 : rtab .any (opsOf Tryz.f23 23) = statistic_Valid.T23 := by kernel_rfl
theorem statistic_Valid.bits23 : waitsOk statistic_Valid.T23.2 statistic_Valid.B23 = true := by kernel_rfl
theorem statistic_Valid.calls (k : Nat) (g7 : Option Addr) (g5 : Nat) (b6 : List (S96)) (g6 : Option Addr) (g4 : Nat) (c0 : List (S101)) (g3 : Option Addr) (d7 : Nat) (a6 : List (S75)) (h2 : Option Addr) (d6 : Nat) (a4 : List (S75)) (r : Int) (w : World) (A1 : Kd.C k96 w g7 b6.length b6) (A6 : b6.length ≤ g5) (A0 : Kd.C k101 w g6 c0.length c0) (A5 : c0.length ≤ g4) (x8 : Kd.C k75 w g3 a6.length a6) (A4 : a6.length ≤ d7) (x6 : Kd.C k75 w h2 a4.length a4) (A2 : a4.length ≤ d6) (h : statistic_Valid.f k b6 c0 a6 a4 = some r) :
  Calls Tryz.prog 23 #[.agg #[.slice g7 b6.length g5, .slice g6 c0.length g4], .agg #[.slice g3 a6.length d7, .slice h2 a4.length d6]] w fun e w' => e = .returned (.int .i64 r) ∧ Below w.heap.size w w' := by
 have hu31 := Tryz.underlying31
 have hu46 := Tryz.underlying46
 have hu75 := Tryz.underlying75
 have p8 := am A1
 have q1 := am A6
 clear A1 A6
 have p7 := am A0
 have q0 := am A5
 clear A0 A5
 have h4 := am x8
 have o3 := am A4
 clear x8 A4
 have h3 := am x6
 have o2 := am A2
 clear x6 A2
 have HB := am (Below.refl w.heap.size w)
 have H : ((types_Valid.f k b6 c0).bind fun o1 => (if o1.2 = 0 then (statistic_Valid.l0 k a6 (a6.length : Int) 0 b6 c0 a6 a4) else (some o1.2))) = some r := h
 clear h
 obtain ⟨⟨F7, q2⟩, A3, H⟩ := obA H
 replace H : (if q2 = 0 then (statistic_Valid.l0 k a6 (a6.length : Int) 0 b6 c0 a6 a4) else (some q2)) = some r := H
 by_cases c4 : q2 = 0
 rotate_left
 ·rw [if_neg c4] at H
  have G3 := beq_eq_false_iff_ne.mpr c4
  have G2 := bne_iff_ne.mpr c4
  obtain rfl := Option.some.inj H
  go_enter Tryz.func23, Tryz.ntmps23
  go_wp2_with (first | ((with_reducible refine gate_dst (N := 2) rfl ?_); (try (refine gate_guard (by rfl) ?_; dsimp only)); refine be 2 #[.slice g7 b6.length g5, .slice g6 c0.length g4] 31 ?_; intro m9 hg b6d hbox hb; have a8 := am (hbox); have I5 := bsz HB hg; replace HB := bstep HB hb; clear hb hbox hg) | ((with_reducible refine gate_dst (N := 3) rfl ?_); (try (refine gate_guard (by rfl) ?_; dsimp only)); refine be 3 #[.slice g3 a6.length d7, .slice h2 a4.length d6] 46 ?_; intro d5 hg b6c hbox hb; have a7 := am (hbox); have I4 := bsz HB hg; replace HB := bstep HB hb; have b8 := blt a8 hg; have b7 := bgt a8 hg; replace a8 := bkb a8 hb; clear hb hbox hg; have a7e := b8.out; have a5d := b7.out; obtain ⟨O9, O8, J7, J6⟩ := cz2 a8) | ((with_reducible refine gate_callee (f := 57) rfl ?_); refine gl 13 Tryz.func57 #[.agg #[.slice g7 b6.length g5, .slice g6 c0.length g4]] (h := ?_); (with_reducible refine (types_Valid.calls k _ _ b6 _ _ c0 F7 q2 _ ?c8 ?c7 ?d9 ?d8 A3.out).mono ?_); (case c8 => exact cb p8 HB); (case c7 => exact q1.out); (case d9 => exact cb p7 HB); (case d8 => exact q0.out); rintro e b6b ⟨rfl, hb⟩; refine ⟨_, rfl, ?_⟩; replace a8 := bkb a8 hb; replace a7 := bkb a7 hb; replace HB := bstep HB hb; (try clear hb); (try clear hb2); (try clear hk); (try clear hi)))
  go_ret
  exact ⟨erf, bb HB⟩
 rw [if_pos c4] at H
 have G3 := beq_iff_eq.mpr c4
 have G2 := bne_eq_false_iff_eq.mpr c4
 clear c4
 have H' := am H
 clear H
 go_enter Tryz.func23, Tryz.ntmps23
 go_wp2_with (first | ((with_reducible refine gate_dst (N := 2) rfl ?_); (try (refine gate_guard (by rfl) ?_; dsimp only)); refine be 2 #[.slice g7 b6.length g5, .slice g6 c0.length g4] 31 ?_; intro m9 hg w5 hbox hb; have a8 := am (hbox); have I5 := bsz HB hg; replace HB := bstep HB hb; clear hb hbox hg) | ((with_reducible refine gate_dst (N := 3) rfl ?_); (try (refine gate_guard (by rfl) ?_; dsimp only)); refine be 3 #[.slice g3 a6.length d7, .slice h2 a4.length d6] 46 ?_; intro d5 hg w6 hbox hb; have a7 := am (hbox); have I4 := bsz HB hg; replace HB := bstep HB hb; have b8 := blt a8 hg; have b7 := bgt a8 hg; replace a8 := bkb a8 hb; clear hb hbox hg; have b7h := b8.out; have b7g := b7.out; obtain ⟨G1, G0, F9, F8⟩ := cz2 a8) | ((with_reducible refine gate_callee (f := 57) rfl ?_); refine gl 13 Tryz.func57 #[.agg #[.slice g7 b6.length g5, .slice g6 c0.length g4]] (h := ?_); (with_reducible refine (types_Valid.calls k _ _ b6 _ _ c0 F7 q2 _ ?c8 ?c7 ?d9 ?d8 A3.out).mono ?_); (case c8 => exact cb p8 HB); (case c7 => exact q1.out); (case d9 => exact cb p7 HB); (case d8 => exact q0.out); rintro e w9 ⟨rfl, hb⟩; refine ⟨_, rfl, ?_⟩; replace a8 := bkb a8 hb; replace a7 := bkb a7 hb; replace HB := bstep HB hb; (try clear hb); (try clear hb2); (try clear hk); (try clear hi); obtain ⟨F6, F5, E2, E1⟩ := cz2 a7))
 go_loopg [22] k (fun kq v22 w' => ∃ (a9 : Int), v22 = .int .i64 a9 ∧ Aside0 (statistic_Valid.l0 kq a6 (a6.length : Int) a9 b6 c0 a6 a4 = some r) ∧ Aside0 (kq ≤ k) ∧ Aside0 (w'.heap[m9]? = some (.cells #[(.slice g7 b6.length g5), (.slice g6 c0.length g4)] 31 (0, 0))) ∧ Aside0 (w'.heap[d5]? = some (.cells #[(.slice g3 a6.length d7), (.slice h2 a4.length d6)] 46 (0, 0))) ∧ Aside0 (Below w.heap.size w w'))
 case atStart => exact ⟨(0), eqs, H', ⟨Nat.le_refl _⟩, ⟨bk a8⟩, ⟨bk a7⟩, ⟨bb HB⟩⟩
 case round =>
  clear H'
  clear G3
  clear G2
  clear F6
  clear F5
  clear G1
  clear G0
  clear E2
  clear E1
  clear F9
  clear F8
  obtain ⟨a9, rfl, HA, g2, a8, a7, HB⟩ := hrel
  cases gk with
  | zero => exact absurd HA.out (by simp [statistic_Valid.l0])
  | succ k1 =>
   have H := HA.out
   clear HA
   simp only [statistic_Valid.l0] at H
   by_cases r1 : a9 < (a6.length : Int)
   ·rw [if_pos r1] at H
    have r9 := decide_eq_true r1
    clear r1
    obtain ⟨J1, H⟩ := itn H
    have I3 := decide_eq_true J1
    clear J1
    obtain ⟨J0, H⟩ := itn H
    have I2 := decide_eq_true J0
    clear J0
    have x5 := am H
    clear H
    have r6 : 0 ≤ a9 := odt
    have r4 : a9 < (a6.length : Int) := odt
    obtain ⟨d0, V1, p2, p1, p0, o9⟩ := at_T75 h4.out a9 r6 r4
    cases V1
    replace p2 := hxc HB p2
    replace p1 := hxc HB p1
    replace p0 := hxc HB p0
    replace o9 := hxc HB o9
    replace r6 := eq_true r6
    replace r4 := eq_true r4
    go_upto_region 7 with ((with_reducible refine gate_dst (N := 8) rfl ?_); (try (refine gate_guard (by rfl) ?_; dsimp only)); refine be 8 #[.int .i64 0, .int .i64 0, .int .i64 0, .int .i64 0] 75 ?_; intro g9 hg w15 hbox hb; have b4 := am (hbox); have b6a := bsz HB hg; replace HB := bstep HB hb; have g1 := blt a8 hg; have e9 := bgt a8 hg; replace a8 := bkb a8 hb; have g0 := blt a7 hg; have e8 := bgt a7 hg; replace a7 := bkb a7 hb; clear hb hbox hg; have b5g := e9.out; have b2g := g1.out; have b5f := e8.out; have b2f := g0.out; obtain ⟨F4, F3, F2, F1, E0, D9, D8, D7⟩ := cz4 b4)
    (try simp only [Act.put, List.setIfInBounds_toArray, List.set_cons_zero, List.set_cons_succ])
    go_cut [53] (fun v53 wc => ∃ (kq : Nat) (n7 : Bool), v53 = .bool n7 ∧ Aside0 (statistic_Valid.j1 kq a9 a6 (a6.length : Int) a9 n7 b6 c0 a6 a4 ((rd_T75 a6 a9).f0) ((rd_T75 a6 a9).f1) ((rd_T75 a6 a9).f2) ((rd_T75 a6 a9).f3) = some r) ∧ Aside0 (kq ≤ k1) ∧ Aside0 (wc.heap[m9]? = some (.cells #[(.slice g7 b6.length g5), (.slice g6 c0.length g4)] 31 (0, 0))) ∧ Aside0 (wc.heap[d5]? = some (.cells #[(.slice (some d0) a6.length d7), (.slice h2 a4.length d6)] 46 (0, 0))) ∧ Aside0 (wc.heap[g9]? = some (.cells #[.int .i64 ((rd_T75 a6 a9).f0), .int .i64 ((rd_T75 a6 a9).f1), .int .i64 ((rd_T75 a6 a9).f2), .int .i64 ((rd_T75 a6 a9).f3)] 75 (0, 0))) ∧ Aside0 (Below w.heap.size w wc))
    case first =>
     have H := x5.out
     clear x5
     obtain ⟨v3, t7, H⟩ := obA H
     by_cases C3 : v3 = true
     rotate_left
     ·replace C3 := Bool.eq_false_iff.mpr C3
      subst C3
      replace H := iff_ H
      have H' := am H
      clear H
      have b4c := e9.out
      have b1c := g1.out
      have b4b := e8.out
      have b1b := g0.out
      obtain ⟨a2i, a2h, a2g, a2f, X8, X7, X6, X5⟩ := cz4 b4
      have b4a := b8.out
      have b1a := b7.out
      obtain ⟨a2e, a2d, X4, X3⟩ := cz2 a8
      go_wp2_with ((with_reducible refine gate_callee (f := 46) rfl ?_); refine gl 32 Tryz.func46 #[.int .i64 ((rd_T75 a6 a9).f0), .int .i64 (b6.length : Int)] (h := ?_); (with_reducible refine (statistic_is.calls ((rd_T75 a6 a9).f0) (b6.length : Int) false _ t7.out).mono ?_); rintro e w' ⟨rfl, ⟨nd, rfl⟩⟩; refine ⟨_, rfl, ?_⟩)
      go_meet
      case rel => exact ⟨_, (true), eqs, H', ⟨by have := g2.out; first | omega | exact Nat.le_refl _⟩, ⟨bkF a8⟩, ⟨bkF a7⟩, ⟨by (with_reducible repeat (first | refine dN ?_ _ | refine dR ?_ | refine dA ?_ _)); refine blk_put (cs := #[.int .i64 ((rd_T75 a6 a9).f0), .int .i64 ((rd_T75 a6 a9).f1), .int .i64 ((rd_T75 a6 a9).f2), .int .i64 0]) ?_ 3 _ rfl; refine blk_put (cs := #[.int .i64 ((rd_T75 a6 a9).f0), .int .i64 ((rd_T75 a6 a9).f1), .int .i64 0, .int .i64 0]) ?_ 2 _ rfl; refine blk_put (cs := #[.int .i64 ((rd_T75 a6 a9).f0), .int .i64 0, .int .i64 0, .int .i64 0]) ?_ 1 _ rfl; refine blk_put (cs := #[.int .i64 0, .int .i64 0, .int .i64 0, .int .i64 0]) ?_ 0 _ rfl; (with_reducible repeat (first | refine dN ?_ _ | refine dR ?_ | refine dA ?_ _)); exact b4.out⟩, ⟨bb HB⟩⟩
     subst C3
     replace H := ift H
     by_cases q4 : ((rd_T75 a6 a9).f1) = 0
     rotate_left
     ·rw [if_neg q4] at H
      have o0 := beq_eq_false_iff_ne.mpr q4
      have I1 := bne_iff_ne.mpr q4
      (first | rw [o0] | (simp only [i64_w, i32_w]; rw [o0]) | skip)
      have H' := am H
      clear H
      have b4f := e9.out
      have b1f := g1.out
      have b4e := e8.out
      have b1e := g0.out
      obtain ⟨a3e, a3d, a3c, a3b, Y4, Y3, Y2, Y1⟩ := cz4 b4
      have b4d := b8.out
      have b1d := b7.out
      obtain ⟨a3a, a2j, Y0, X9⟩ := cz2 a8
      go_wp2_with ((with_reducible refine gate_callee (f := 46) rfl ?_); refine gl 32 Tryz.func46 #[.int .i64 ((rd_T75 a6 a9).f0), .int .i64 (b6.length : Int)] (h := ?_); (with_reducible refine (statistic_is.calls ((rd_T75 a6 a9).f0) (b6.length : Int) true _ t7.out).mono ?_); rintro e w' ⟨rfl, ⟨nd, rfl⟩⟩; refine ⟨_, rfl, ?_⟩)
      go_meet
      case rel => exact ⟨_, (true), eqs, H', ⟨by have := g2.out; first | omega | exact Nat.le_refl _⟩, ⟨bkF a8⟩, ⟨bkF a7⟩, ⟨by (with_reducible repeat (first | refine dN ?_ _ | refine dR ?_ | refine dA ?_ _)); refine blk_put (cs := #[.int .i64 ((rd_T75 a6 a9).f0), .int .i64 ((rd_T75 a6 a9).f1), .int .i64 ((rd_T75 a6 a9).f2), .int .i64 0]) ?_ 3 _ rfl; refine blk_put (cs := #[.int .i64 ((rd_T75 a6 a9).f0), .int .i64 ((rd_T75 a6 a9).f1), .int .i64 0, .int .i64 0]) ?_ 2 _ rfl; refine blk_put (cs := #[.int .i64 ((rd_T75 a6 a9).f0), .int .i64 0, .int .i64 0, .int .i64 0]) ?_ 1 _ rfl; refine blk_put (cs := #[.int .i64 0, .int .i64 0, .int .i64 0, .int .i64 0]) ?_ 0 _ rfl; (with_reducible repeat (first | refine dN ?_ _ | refine dR ?_ | refine dA ?_ _)); exact b4.out⟩, ⟨bb HB⟩⟩
     rw [if_pos q4] at H
     have o0 := beq_iff_eq.mpr q4
     have I1 := bne_eq_false_iff_eq.mpr q4
     clear q4
     (first | rw [o0] | (simp only [i64_w, i32_w]; rw [o0]) | skip)
     by_cases q3 : ((rd_T75 a6 a9).f2) = 0
     rotate_left
     ·rw [if_neg q3] at H
      have I0 := beq_eq_false_iff_ne.mpr q3
      have H9 := bne_iff_ne.mpr q3
      have H' := am H
      clear H
      have b4i := e9.out
      have b1i := g1.out
      have b4h := e8.out
      have b1h := g0.out
      obtain ⟨a4a, a3j, a3i, a3h, Z0, Y9, Y8, Y7⟩ := cz4 b4
      have b4g := b8.out
      have b1g := b7.out
      obtain ⟨a3g, a3f, Y6, Y5⟩ := cz2 a8
      go_wp2_with ((with_reducible refine gate_callee (f := 46) rfl ?_); refine gl 32 Tryz.func46 #[.int .i64 ((rd_T75 a6 a9).f0), .int .i64 (b6.length : Int)] (h := ?_); (with_reducible refine (statistic_is.calls ((rd_T75 a6 a9).f0) (b6.length : Int) true _ t7.out).mono ?_); rintro e w' ⟨rfl, ⟨nd, rfl⟩⟩; refine ⟨_, rfl, ?_⟩)
      go_meet
      case rel => exact ⟨_, (true), eqs, H', ⟨by have := g2.out; first | omega | exact Nat.le_refl _⟩, ⟨bkF a8⟩, ⟨bkF a7⟩, ⟨by (with_reducible repeat (first | refine dN ?_ _ | refine dR ?_ | refine dA ?_ _)); refine blk_put (cs := #[.int .i64 ((rd_T75 a6 a9).f0), .int .i64 ((rd_T75 a6 a9).f1), .int .i64 ((rd_T75 a6 a9).f2), .int .i64 0]) ?_ 3 _ rfl; refine blk_put (cs := #[.int .i64 ((rd_T75 a6 a9).f0), .int .i64 ((rd_T75 a6 a9).f1), .int .i64 0, .int .i64 0]) ?_ 2 _ rfl; refine blk_put (cs := #[.int .i64 ((rd_T75 a6 a9).f0), .int .i64 0, .int .i64 0, .int .i64 0]) ?_ 1 _ rfl; refine blk_put (cs := #[.int .i64 0, .int .i64 0, .int .i64 0, .int .i64 0]) ?_ 0 _ rfl; (with_reducible repeat (first | refine dN ?_ _ | refine dR ?_ | refine dA ?_ _)); exact b4.out⟩, ⟨bb HB⟩⟩
     rw [if_pos q3] at H
     have I0 := beq_iff_eq.mpr q3
     have H9 := bne_eq_false_iff_eq.mpr q3
     clear q3
     by_cases r0 : ((rd_T75 a6 a9).f3) < 1
     rotate_left
     ·rw [if_neg r0] at H
      have H8 := decide_eq_false r0
      clear r0
      have H' := am H
      clear H
      have b5b := e9.out
      have b2b := g1.out
      have b5a := e8.out
      have b2a := g0.out
      obtain ⟨a4g, a4f, a4e, a4d, Z6, Z5, Z4, Z3⟩ := cz4 b4
      have b4j := b8.out
      have b1j := b7.out
      obtain ⟨a4c, a4b, Z2, Z1⟩ := cz2 a8
      go_wp2_with ((with_reducible refine gate_callee (f := 46) rfl ?_); refine gl 32 Tryz.func46 #[.int .i64 ((rd_T75 a6 a9).f0), .int .i64 (b6.length : Int)] (h := ?_); (with_reducible refine (statistic_is.calls ((rd_T75 a6 a9).f0) (b6.length : Int) true _ t7.out).mono ?_); rintro e w' ⟨rfl, ⟨nd, rfl⟩⟩; refine ⟨_, rfl, ?_⟩)
      go_meet
      case rel => exact ⟨_, (decide (((rd_T75 a6 a9).f3) > 40)), eqs, H', ⟨by have := g2.out; first | omega | exact Nat.le_refl _⟩, ⟨bkF a8⟩, ⟨bkF a7⟩, ⟨by (with_reducible repeat (first | refine dN ?_ _ | refine dR ?_ | refine dA ?_ _)); refine blk_put (cs := #[.int .i64 ((rd_T75 a6 a9).f0), .int .i64 ((rd_T75 a6 a9).f1), .int .i64 ((rd_T75 a6 a9).f2), .int .i64 0]) ?_ 3 _ rfl; refine blk_put (cs := #[.int .i64 ((rd_T75 a6 a9).f0), .int .i64 ((rd_T75 a6 a9).f1), .int .i64 0, .int .i64 0]) ?_ 2 _ rfl; refine blk_put (cs := #[.int .i64 ((rd_T75 a6 a9).f0), .int .i64 0, .int .i64 0, .int .i64 0]) ?_ 1 _ rfl; refine blk_put (cs := #[.int .i64 0, .int .i64 0, .int .i64 0, .int .i64 0]) ?_ 0 _ rfl; (with_reducible repeat (first | refine dN ?_ _ | refine dR ?_ | refine dA ?_ _)); exact b4.out⟩, ⟨bb HB⟩⟩
     rw [if_pos r0] at H
     have H8 := decide_eq_true r0
     clear r0
     have H' := am H
     clear H
     have b5e := e9.out
     have b2e := g1.out
     have b5d := e8.out
     have b2d := g0.out
     obtain ⟨a5c, a5b, a5a, a4j, a0c, a0b, a0a, Z9⟩ := cz4 b4
     have b5c := b8.out
     have b2c := b7.out
     obtain ⟨a4i, a4h, Z8, Z7⟩ := cz2 a8
     go_wp2_with ((with_reducible refine gate_callee (f := 46) rfl ?_); refine gl 32 Tryz.func46 #[.int .i64 ((rd_T75 a6 a9).f0), .int .i64 (b6.length : Int)] (h := ?_); (with_reducible refine (statistic_is.calls ((rd_T75 a6 a9).f0) (b6.length : Int) true _ t7.out).mono ?_); rintro e w' ⟨rfl, ⟨nd, rfl⟩⟩; refine ⟨_, rfl, ?_⟩)
     go_meet
     case rel => exact ⟨_, (true), eqs, H', ⟨by have := g2.out; first | omega | exact Nat.le_refl _⟩, ⟨bkF a8⟩, ⟨bkF a7⟩, ⟨by (with_reducible repeat (first | refine dN ?_ _ | refine dR ?_ | refine dA ?_ _)); refine blk_put (cs := #[.int .i64 ((rd_T75 a6 a9).f0), .int .i64 ((rd_T75 a6 a9).f1), .int .i64 ((rd_T75 a6 a9).f2), .int .i64 0]) ?_ 3 _ rfl; refine blk_put (cs := #[.int .i64 ((rd_T75 a6 a9).f0), .int .i64 ((rd_T75 a6 a9).f1), .int .i64 0, .int .i64 0]) ?_ 2 _ rfl; refine blk_put (cs := #[.int .i64 ((rd_T75 a6 a9).f0), .int .i64 0, .int .i64 0, .int .i64 0]) ?_ 1 _ rfl; refine blk_put (cs := #[.int .i64 0, .int .i64 0, .int .i64 0, .int .i64 0]) ?_ 0 _ rfl; (with_reducible repeat (first | refine dN ?_ _ | refine dR ?_ | refine dA ?_ _)); exact b4.out⟩, ⟨bb HB⟩⟩
    case rest =>
     clear x5
     clear r9
     clear I3
     clear I2
     clear F4
     clear F3
     clear F2
     clear F1
     clear E0
     clear D9
     clear D8
     clear D7
     clear p2
     clear p1
     clear p0
     clear o9
     clear r6
     clear r4
     obtain ⟨kq, n7, rfl, HA, t4, a8, a7, b4, HB⟩ := hcut
     cases kq with
     | zero => exact absurd HA.out (by simp [statistic_Valid.j1])
     | succ o4 =>
      have H := HA.out
      clear HA
      simp only [statistic_Valid.j1] at H
      by_cases C2 : n7 = true
      ·subst C2
       replace H := ift H
       obtain rfl := Option.some.inj H
       go_wp2
       go_ret
       exact ⟨erf, bb HB⟩
      replace C2 := Bool.eq_false_iff.mpr C2
      subst C2
      replace H := iff_ H
      by_cases q9 : a9 > 0
      rotate_left
      ·rw [if_neg q9] at H
       have H7 : decide (0 < a9) = false := decide_eq_false q9
       clear q9
       have H' := am H
       clear H
       try go_wp2
       replace a8 := am (blk_drew a8.out)
       replace a7 := am (blk_drew a7.out)
       replace b4 := am (blk_drew b4.out)
       replace HB := am (below_drew1 HB.out)
       refine start_ (n := 13) (S := fun w' => True) (ds := []) #[false, false, false, false, false, false, false, false, false, false, false, false, false] (by kernel_rfl) rfl rfl trivial (fun hHeld => ?_); refine with_tabW statistic_Valid.tab9 statistic_Valid.bits9 (fun HT_ HW_ => ?_)
       generalize wc.drew = w60 at a8 a7 b4 HB hHeld ⊢
       refine pu 0 54 (bits 13 0x1) HT_ (h := ?_)
       refine pu 1 55 (bits 13 0x3) HT_ (h := ?_)
       refine pu 2 56 (bits 13 0x7) HT_ (h := ?_)
       refine pn 3 57 (bits 13 0xf) HT_ (h := ?_)
       refine pn 4 58 (bits 13 0x1f) HT_ (h := ?_)
       refine pn 5 59 (bits 13 0x3f) HT_ (h := ?_)
       refine pn 6 60 (bits 13 0x7f) HT_ (h := ?_)
       refine pn 7 61 (bits 13 0xff) HT_ (h := ?_)
       refine pn 8 62 (bits 13 0x1ff) HT_ (h := ?_)
       refine pn 9 63 (bits 13 0x3ff) HT_ (h := ?_)
       refine pn 10 64 (bits 13 0x7ff) HT_ (h := ?_)
       refine pn 11 65 (bits 13 0xfff) HT_ (h := ?_)
       refine pu 12 66 (bits 13 0x1fff) HT_ (h := ?_)
       refine done_ (done_of HT_.out (by kernel_rfl)) ?_
       try go_wp2
       go_roundg o4
       case measure => have := g2.out; have := t4.out; omega
       case rel => exact ⟨(wrap64 (a9 + 1)), eqs, H', ⟨by have := g2.out; have := t4.out; omega⟩, ⟨bk a8⟩, ⟨bk a7⟩, ⟨bb HB⟩⟩
      rw [if_pos q9] at H
      have H7 : decide (0 < a9) = true := decide_eq_true q9
      clear q9
      obtain ⟨b5, m8⟩ : ∃ j_ : Int, (wrap64 (a9 - 1)) = j_ := ⟨_, rfl⟩
      replace H : (if 0 ≤ (b5) then (if (b5) < (a6.length : Int) then ((statistic_compare.f o4 ((rd_T75 a6 (b5)).f0) ((rd_T75 a6 (b5)).f1) ((rd_T75 a6 (b5)).f2) ((rd_T75 a6 (b5)).f3) ((rd_T75 a6 a9).f0) ((rd_T75 a6 a9).f1) ((rd_T75 a6 a9).f2) ((rd_T75 a6 a9).f3)).bind fun m0 => (if m0 ≥ 0 then (some 12) else (statistic_Valid.l0 o4 a6 (a6.length : Int) (wrap64 (a9 + 1)) b6 c0 a6 a4))) else (none)) else (none)) = some r := by first | (rw [m8] at H; exact H) | (simp only [m8] at H ⊢; exact H)
      have hji51w : (IntKind.i64.wrap (a9 - 1)) = b5 := (i64_w _).trans m8
      obtain ⟨I9, H⟩ := itn H
      have b5i := decide_eq_true I9
      clear I9
      obtain ⟨I8, H⟩ := itn H
      have b5h := decide_eq_true I8
      clear I8
      obtain ⟨m0, J3, H⟩ := obA H
      by_cases q8 : m0 ≥ 0
      ·rw [if_pos q8] at H
       have H6 : decide (0 ≤ m0) = true := decide_eq_true q8
       clear q8
       obtain rfl := Option.some.inj H
       try go_wp2
       replace a8 := am (blk_drew a8.out)
       replace a7 := am (blk_drew a7.out)
       replace b4 := am (blk_drew b4.out)
       replace HB := am (below_drew1 HB.out)
       have n5 : 0 ≤ ((b5) : Int) := odt
       have n3 : (b5) < (a6.length : Int) := odt
       obtain ⟨t3, x2, e7, e6, e5, e4⟩ := at_T75 h4.out (b5) n5 n3
       have j0 := e4
       have j2 := e5
       have j5 := e6
       have j6 := e7
       obtain rfl : d0 = t3 := (by injection x2)
       replace e7 := hxc HB e7
       replace e6 := hxc HB e6
       replace e5 := hxc HB e5
       replace e4 := hxc HB e4
       replace n5 := eq_true n5
       replace n3 := eq_true n3
       refine start_ (n := 13) (S := fun w' => w'.cell? ⟨d5, 0, none⟩ = some (.slice (some d0) a6.length d7) ∧ w'.cell? ⟨d5, 1, none⟩ = some (.slice h2 a4.length d6) ∧ w'.cell? ⟨g9, 0, none⟩ = some (.int .i64 ((rd_T75 a6 a9).f0)) ∧ w'.cell? ⟨g9, 1, none⟩ = some (.int .i64 ((rd_T75 a6 a9).f1)) ∧ w'.cell? ⟨g9, 2, none⟩ = some (.int .i64 ((rd_T75 a6 a9).f2)) ∧ w'.cell? ⟨g9, 3, none⟩ = some (.int .i64 ((rd_T75 a6 a9).f3)) ∧ w'.cell? (d0.add (((b5)).toNat * 4)) = some (.int .i64 ((rd_T75 a6 (b5)).f0)) ∧ w'.cell? ⟨(d0.add (((b5)).toNat * 4)).block, (d0.add (((b5)).toNat * 4)).off + 1, none⟩ = some (.int .i64 ((rd_T75 a6 (b5)).f1)) ∧ w'.cell? ⟨(d0.add (((b5)).toNat * 4)).block, (d0.add (((b5)).toNat * 4)).off + 2, none⟩ = some (.int .i64 ((rd_T75 a6 (b5)).f2)) ∧ w'.cell? ⟨(d0.add (((b5)).toNat * 4)).block, (d0.add (((b5)).toNat * 4)).off + 3, none⟩ = some (.int .i64 ((rd_T75 a6 (b5)).f3))) (ds := []) #[false, false, false, false, false, false, false, false, false, false, false, false, false] (by kernel_rfl) rfl rfl ⟨bc a7 0, bc a7 1, bc b4 0, bc b4 1, bc b4 2, bc b4 3, (hxc HB j6), (hxc HB j5), (hxc HB j2), (hxc HB j0)⟩ (fun hHeld => ?_); refine with_tabW statistic_Valid.tab9 statistic_Valid.bits9 (fun HT_ HW_ => ?_)
       generalize wc.drew = w56 at a8 a7 b4 HB e7 e6 e5 e4 hHeld ⊢
       refine pu 0 54 (bits 13 0x1) HT_ (h := ?_)
       refine pu 1 55 (bits 13 0x3) HT_ (h := ?_)
       refine pu 2 56 (bits 13 0x7) HT_ (h := ?_)
       refine pu 3 57 (bits 13 0xf) HT_ (h := ?_)
       refine pu 5 59 (bits 13 0x2f) HT_ (h := ?_)
       refine pu 6 60 (bits 13 0x6f) HT_ (h := ?_)
       refine tk 4 58 (bits 13 0x7f) HT_ HW_ hHeld (hy := by rintro w' ⟨s0, s1, s2, s3, s4, s5, s6, s7, s8, s9⟩; go_simp; with_reducible rfl) (h := ?_)
       refine pu 7 61 (bits 13 0xff) HT_ (h := ?_)
       refine tk 8 62 (bits 13 0x1ff) HT_ HW_ hHeld (hy := by rintro w' ⟨s0, s1, s2, s3, s4, s5, s6, s7, s8, s9⟩; go_simp; with_reducible rfl) (h := ?_)
       refine tk 9 63 (bits 13 0x3ff) HT_ HW_ hHeld (hy := by rintro w' ⟨s0, s1, s2, s3, s4, s5, s6, s7, s8, s9⟩; go_simp; with_reducible rfl) (h := ?_)
       refine one_ (i := 10) (N := some 64) #[true, true, true, true, true, true, true, true, true, true, true, false, false] rfl rfl (one_of HT_.out (by kernel_rfl)) (by decide) (fun K hK => ?_)
       refine goes_ Tryz.func58 (by kernel_rfl) rfl #[.agg #[.int .i64 ((rd_T75 a6 (b5)).f0), .int .i64 ((rd_T75 a6 (b5)).f1), .int .i64 ((rd_T75 a6 (b5)).f2), .int .i64 ((rd_T75 a6 (b5)).f3)], .agg #[.int .i64 ((rd_T75 a6 a9).f0), .int .i64 ((rd_T75 a6 a9).f1), .int .i64 ((rd_T75 a6 a9).f2), .int .i64 ((rd_T75 a6 a9).f3)]] (by rfl) rfl rfl (by (try simp only [List.map_toArray, List.map_cons, List.map_nil]); first | done | (simp only [m8]; rfl) | rfl | (simp only [List.length_drop, List.length_take]; rfl)) ?_
       with_reducible refine (statistic_compare.calls o4 ((rd_T75 a6 (b5)).f0) ((rd_T75 a6 (b5)).f1) ((rd_T75 a6 (b5)).f2) ((rd_T75 a6 (b5)).f3) ((rd_T75 a6 a9).f0) ((rd_T75 a6 a9).f1) ((rd_T75 a6 a9).f2) ((rd_T75 a6 a9).f3) m0 _ J3.out).mono ?_
       rintro e w57 ⟨rfl, hb⟩
       refine ⟨_, rfl, ?_⟩
       replace a8 := bkb a8 hb
       replace a7 := bkb a7 hb
       replace b4 := bkb b4 hb
       replace HB := bstep HB hb
       clear hb
       refine hK.out _ _ ⟨bc a7 0, bc a7 1, bc b4 0, bc b4 1, bc b4 2, bc b4 3, (hxc HB j6), (hxc HB j5), (hxc HB j2), (hxc HB j0)⟩ (fun hHeld => ?_)
       clear hK K
       refine norm_ (a' := ?_) ?_ ?_
       rotate_left
       ·show Act.put _ (some 64) _ = _
        simp only [Act.put, List.setIfInBounds_toArray, List.set_cons_zero, List.set_cons_succ, i64_w, i32_w]
        rfl
       refine pu 11 65 (bits 13 0xfff) HT_ (h := ?_)
       refine pu 12 66 (bits 13 0x1fff) HT_ (h := ?_)
       refine done_ (done_of HT_.out (by kernel_rfl)) ?_
       try go_wp2
       go_ret
       exact ⟨by first | rfl | (simp [errW_none, errW_some] <;> rfl) | (simp only [← m8]; first | rfl | (simp [errW_none, errW_some] <;> rfl)) | (simp [*, errW_none, errW_some] <;> rfl), bb HB⟩
      rw [if_neg q8] at H
      have H6 : decide (0 ≤ m0) = false := decide_eq_false q8
      clear q8
      have H' := am H
      clear H
      try go_wp2
      replace a8 := am (blk_drew a8.out)
      replace a7 := am (blk_drew a7.out)
      replace b4 := am (blk_drew b4.out)
      replace HB := am (below_drew1 HB.out)
      have n5 : 0 ≤ ((b5) : Int) := odt
      have n3 : (b5) < (a6.length : Int) := odt
      obtain ⟨t3, x2, e7, e6, e5, e4⟩ := at_T75 h4.out (b5) n5 n3
      have j0 := e4
      have j2 := e5
      have j5 := e6
      have j6 := e7
      obtain rfl : d0 = t3 := (by injection x2)
      replace e7 := hxc HB e7
      replace e6 := hxc HB e6
      replace e5 := hxc HB e5
      replace e4 := hxc HB e4
      replace n5 := eq_true n5
      replace n3 := eq_true n3
      refine start_ (n := 13) (S := fun w' => w'.cell? ⟨d5, 0, none⟩ = some (.slice (some d0) a6.length d7) ∧ w'.cell? ⟨d5, 1, none⟩ = some (.slice h2 a4.length d6) ∧ w'.cell? ⟨g9, 0, none⟩ = some (.int .i64 ((rd_T75 a6 a9).f0)) ∧ w'.cell? ⟨g9, 1, none⟩ = some (.int .i64 ((rd_T75 a6 a9).f1)) ∧ w'.cell? ⟨g9, 2, none⟩ = some (.int .i64 ((rd_T75 a6 a9).f2)) ∧ w'.cell? ⟨g9, 3, none⟩ = some (.int .i64 ((rd_T75 a6 a9).f3)) ∧ w'.cell? (d0.add (((b5)).toNat * 4)) = some (.int .i64 ((rd_T75 a6 (b5)).f0)) ∧ w'.cell? ⟨(d0.add (((b5)).toNat * 4)).block, (d0.add (((b5)).toNat * 4)).off + 1, none⟩ = some (.int .i64 ((rd_T75 a6 (b5)).f1)) ∧ w'.cell? ⟨(d0.add (((b5)).toNat * 4)).block, (d0.add (((b5)).toNat * 4)).off + 2, none⟩ = some (.int .i64 ((rd_T75 a6 (b5)).f2)) ∧ w'.cell? ⟨(d0.add (((b5)).toNat * 4)).block, (d0.add (((b5)).toNat * 4)).off + 3, none⟩ = some (.int .i64 ((rd_T75 a6 (b5)).f3))) (ds := []) #[false, false, false, false, false, false, false, false, false, false, false, false, false] (by kernel_rfl) rfl rfl ⟨bc a7 0, bc a7 1, bc b4 0, bc b4 1, bc b4 2, bc b4 3, (hxc HB j6), (hxc HB j5), (hxc HB j2), (hxc HB j0)⟩ (fun hHeld => ?_); refine with_tabW statistic_Valid.tab9 statistic_Valid.bits9 (fun HT_ HW_ => ?_)
      generalize wc.drew = w58 at a8 a7 b4 HB e7 e6 e5 e4 hHeld ⊢
      refine pu 0 54 (bits 13 0x1) HT_ (h := ?_)
      refine pu 1 55 (bits 13 0x3) HT_ (h := ?_)
      refine pu 2 56 (bits 13 0x7) HT_ (h := ?_)
      refine pu 3 57 (bits 13 0xf) HT_ (h := ?_)
      refine pu 5 59 (bits 13 0x2f) HT_ (h := ?_)
      refine pu 6 60 (bits 13 0x6f) HT_ (h := ?_)
      refine tk 4 58 (bits 13 0x7f) HT_ HW_ hHeld (hy := by rintro w' ⟨s0, s1, s2, s3, s4, s5, s6, s7, s8, s9⟩; go_simp; with_reducible rfl) (h := ?_)
      refine pu 7 61 (bits 13 0xff) HT_ (h := ?_)
      refine tk 8 62 (bits 13 0x1ff) HT_ HW_ hHeld (hy := by rintro w' ⟨s0, s1, s2, s3, s4, s5, s6, s7, s8, s9⟩; go_simp; with_reducible rfl) (h := ?_)
      refine tk 9 63 (bits 13 0x3ff) HT_ HW_ hHeld (hy := by rintro w' ⟨s0, s1, s2, s3, s4, s5, s6, s7, s8, s9⟩; go_simp; with_reducible rfl) (h := ?_)
      refine one_ (i := 10) (N := some 64) #[true, true, true, true, true, true, true, true, true, true, true, false, false] rfl rfl (one_of HT_.out (by kernel_rfl)) (by decide) (fun K hK => ?_)
      refine goes_ Tryz.func58 (by kernel_rfl) rfl #[.agg #[.int .i64 ((rd_T75 a6 (b5)).f0), .int .i64 ((rd_T75 a6 (b5)).f1), .int .i64 ((rd_T75 a6 (b5)).f2), .int .i64 ((rd_T75 a6 (b5)).f3)], .agg #[.int .i64 ((rd_T75 a6 a9).f0), .int .i64 ((rd_T75 a6 a9).f1), .int .i64 ((rd_T75 a6 a9).f2), .int .i64 ((rd_T75 a6 a9).f3)]] (by rfl) rfl rfl (by (try simp only [List.map_toArray, List.map_cons, List.map_nil]); first | done | (simp only [m8]; rfl) | rfl | (simp only [List.length_drop, List.length_take]; rfl)) ?_
      with_reducible refine (statistic_compare.calls o4 ((rd_T75 a6 (b5)).f0) ((rd_T75 a6 (b5)).f1) ((rd_T75 a6 (b5)).f2) ((rd_T75 a6 (b5)).f3) ((rd_T75 a6 a9).f0) ((rd_T75 a6 a9).f1) ((rd_T75 a6 a9).f2) ((rd_T75 a6 a9).f3) m0 _ J3.out).mono ?_
      rintro e w59 ⟨rfl, hb⟩
      refine ⟨_, rfl, ?_⟩
      replace a8 := bkb a8 hb
      replace a7 := bkb a7 hb
      replace b4 := bkb b4 hb
      replace HB := bstep HB hb
      clear hb
      refine hK.out _ _ ⟨bc a7 0, bc a7 1, bc b4 0, bc b4 1, bc b4 2, bc b4 3, (hxc HB j6), (hxc HB j5), (hxc HB j2), (hxc HB j0)⟩ (fun hHeld => ?_)
      clear hK K
      refine norm_ (a' := ?_) ?_ ?_
      rotate_left
      ·show Act.put _ (some 64) _ = _
       simp only [Act.put, List.setIfInBounds_toArray, List.set_cons_zero, List.set_cons_succ, i64_w, i32_w]
       rfl
      refine pu 11 65 (bits 13 0xfff) HT_ (h := ?_)
      refine pu 12 66 (bits 13 0x1fff) HT_ (h := ?_)
      refine done_ (done_of HT_.out (by kernel_rfl)) ?_
      try go_wp2
      go_roundg o4
      case measure => have := g2.out; have := t4.out; omega
      case rel => exact ⟨(wrap64 (a9 + 1)), eqs, H', ⟨by have := g2.out; have := t4.out; omega⟩, ⟨bk a8⟩, ⟨bk a7⟩, ⟨bb HB⟩⟩
   rw [if_neg r1] at H
   have r9 := decide_eq_false r1
   clear r1
   obtain ⟨n1, J2, H⟩ := obA H
   by_cases q7 : n1 > 40
   ·rw [if_pos q7] at H
    have C1 : decide (40 < n1) = true := decide_eq_true q7
    clear q7
    obtain rfl := Option.some.inj H
    have b3j := b7.out
    have b0j := b8.out
    obtain ⟨a2c, a2b, X2, X1⟩ := cz2 a7
    go_wp2_with ((with_reducible refine gate_callee (f := 47) rfl ?_); refine gl 70 Tryz.func47 #[.slice g3 a6.length d7] (h := ?_); (with_reducible refine (statistic_total.calls k1 _ _ a6 n1 _ ?c8 ?c7 J2.out).mono ?_); (case c8 => exact cb h4 HB); (case c7 => exact o3.out); rintro e w65 ⟨rfl, hb⟩; refine ⟨_, rfl, ?_⟩; replace a8 := bkb a8 hb; replace a7 := bkb a7 hb; replace HB := bstep HB hb; (try clear hb); (try clear hb2); (try clear hk); (try clear hi))
    go_ret
    exact ⟨erf, bb HB⟩
   rw [if_neg q7] at H
   have C1 : decide (40 < n1) = false := decide_eq_false q7
   clear q7
   have H' := am H
   clear H
   have b3i := b7.out
   have b0i := b8.out
   obtain ⟨F0, E9, D6, D5⟩ := cz2 a7
   go_wp2_with ((with_reducible refine gate_callee (f := 47) rfl ?_); refine gl 70 Tryz.func47 #[.slice g3 a6.length d7] (h := ?_); (with_reducible refine (statistic_total.calls k1 _ _ a6 n1 _ ?c8 ?c7 J2.out).mono ?_); (case c8 => exact cb h4 HB); (case c7 => exact o3.out); rintro e w68 ⟨rfl, hb⟩; refine ⟨_, rfl, ?_⟩; replace a8 := bkb a8 hb; replace a7 := bkb a7 hb; replace HB := bstep HB hb; (try clear hb); (try clear hb2); (try clear hk); (try clear hi); obtain ⟨E8, E7, D4, D3⟩ := cz2 a7)
   go_loopg [75] k1 (fun kq v75 w' => ∃ (a5 : Int), v75 = .int .i64 a5 ∧ Aside0 (statistic_Valid.l1 kq a4 (a4.length : Int) a5 b6 c0 a6 a4 = some r) ∧ Aside0 (kq ≤ k1) ∧ Aside0 (w'.heap[m9]? = some (.cells #[(.slice g7 b6.length g5), (.slice g6 c0.length g4)] 31 (0, 0))) ∧ Aside0 (w'.heap[d5]? = some (.cells #[(.slice g3 a6.length d7), (.slice h2 a4.length d6)] 46 (0, 0))) ∧ Aside0 (Below w.heap.size w w'))
   case atStart => exact ⟨(0), eqs, H', ⟨Nat.le_refl _⟩, ⟨bk a8⟩, ⟨bk a7⟩, ⟨bb HB⟩⟩
   case round =>
    clear H'
    clear r9
    clear C1
    clear F0
    clear E9
    clear E8
    clear E7
    clear D6
    clear D5
    clear D4
    clear D3
    obtain ⟨a5, rfl, HA, m5, a8, a7, HB⟩ := hrel
    cases gk with
    | zero => exact absurd HA.out (by simp [statistic_Valid.l1])
    | succ k2 =>
     have H := HA.out
     clear HA
     simp only [statistic_Valid.l1] at H
     by_cases q6 : a5 < (a4.length : Int)
     rotate_left
     ·rw [if_neg q6] at H
      have C0 := decide_eq_false q6
      clear q6
      obtain ⟨n0, H0, H⟩ := obA H
      by_cases p3 : n0 > 80
      rotate_left
      ·rw [if_neg p3] at H
       have G4 : decide (80 < n0) = false := decide_eq_false p3
       clear p3
       obtain rfl := Option.some.inj H
       have a7f := b7.out
       have a5e := b8.out
       obtain ⟨P1, P0, J9, J8⟩ := cz2 a7
       go_wp2_with ((with_reducible refine gate_callee (f := 47) rfl ?_); refine gl 156 Tryz.func47 #[.slice h2 a4.length d6] (h := ?_); (with_reducible refine (statistic_total.calls k2 _ _ a4 n0 _ ?c8 ?c7 H0.out).mono ?_); (case c8 => exact cb h3 HB); (case c7 => exact o2.out); rintro e b6e ⟨rfl, hb⟩; refine ⟨_, rfl, ?_⟩; replace a8 := bkb a8 hb; replace a7 := bkb a7 hb; replace HB := bstep HB hb; (try clear hb); (try clear hb2); (try clear hk); (try clear hi))
       go_ret
       exact ⟨erf, bb HB⟩
      rw [if_pos p3] at H
      have G4 : decide (80 < n0) = true := decide_eq_true p3
      clear p3
      obtain rfl := Option.some.inj H
      have a7g := b7.out
      have a5f := b8.out
      obtain ⟨P3, P2, L1, L0⟩ := cz2 a7
      go_wp2_with ((with_reducible refine gate_callee (f := 47) rfl ?_); refine gl 156 Tryz.func47 #[.slice h2 a4.length d6] (h := ?_); (with_reducible refine (statistic_total.calls k2 _ _ a4 n0 _ ?c8 ?c7 H0.out).mono ?_); (case c8 => exact cb h3 HB); (case c7 => exact o2.out); rintro e b6f ⟨rfl, hb⟩; refine ⟨_, rfl, ?_⟩; replace a8 := bkb a8 hb; replace a7 := bkb a7 hb; replace HB := bstep HB hb; (try clear hb); (try clear hb2); (try clear hk); (try clear hi))
      go_ret
      exact ⟨erf, bb HB⟩
     rw [if_pos q6] at H
     have C0 := decide_eq_true q6
     clear q6
     obtain ⟨I7, H⟩ := itn H
     have H5 := decide_eq_true I7
     clear I7
     obtain ⟨I6, H⟩ := itn H
     have H4 := decide_eq_true I6
     clear I6
     have x4 := am H
     clear H
     have r5 : 0 ≤ a5 := odt
     have r3 : a5 < (a4.length : Int) := odt
     obtain ⟨c5, V0, o8, o7, o6, o5⟩ := at_T75 h3.out a5 r5 r3
     cases V0
     replace o8 := hxc HB o8
     replace o7 := hxc HB o7
     replace o6 := hxc HB o6
     replace o5 := hxc HB o5
     replace r5 := eq_true r5
     replace r3 := eq_true r3
     go_upto_region 17 with ((with_reducible refine gate_dst (N := 10) rfl ?_); (try (refine gate_guard (by rfl) ?_; dsimp only)); refine be 10 #[.int .i64 0, .int .i64 0, .int .i64 0, .int .i64 0] 75 ?_; intro g8 hg w74 hbox hb; have b0 := am (hbox); have b5j := bsz HB hg; replace HB := bstep HB hb; have d4 := blt a8 hg; have d2 := bgt a8 hg; replace a8 := bkb a8 hb; have d3 := blt a7 hg; have d1 := bgt a7 hg; replace a7 := bkb a7 hb; clear hb hbox hg; have b3h := d2.out; have b0h := d4.out; have b3g := d1.out; have b0g := d3.out; obtain ⟨E6, E5, E4, E3, D2, D1, D0, C9⟩ := cz4 b0)
     (try simp only [Act.put, List.setIfInBounds_toArray, List.set_cons_zero, List.set_cons_succ])
     go_cut [80] (fun v80 wc => ∃ (kq : Nat) (n6 : Bool), v80 = .bool n6 ∧ Aside0 (statistic_Valid.j3 kq a5 a4 (a4.length : Int) a5 n6 b6 c0 a6 a4 ((rd_T75 a4 a5).f0) ((rd_T75 a4 a5).f1) ((rd_T75 a4 a5).f2) ((rd_T75 a4 a5).f3) = some r) ∧ Aside0 (kq ≤ k2) ∧ Aside0 (wc.heap[m9]? = some (.cells #[(.slice g7 b6.length g5), (.slice g6 c0.length g4)] 31 (0, 0))) ∧ Aside0 (wc.heap[d5]? = some (.cells #[(.slice g3 a6.length d7), (.slice (some c5) a4.length d6)] 46 (0, 0))) ∧ Aside0 (wc.heap[g8]? = some (.cells #[.int .i64 ((rd_T75 a4 a5).f0), .int .i64 ((rd_T75 a4 a5).f1), .int .i64 ((rd_T75 a4 a5).f2), .int .i64 ((rd_T75 a4 a5).f3)] 75 (0, 0))) ∧ Aside0 (Below w.heap.size w wc))
     case first =>
      have H := x4.out
      clear x4
      obtain ⟨v2, t6, H⟩ := obA H
      by_cases A9 : v2 = true
      rotate_left
      ·replace A9 := Bool.eq_false_iff.mpr A9
       subst A9
       replace H := iff_ H
       have H' := am H
       clear H
       have a9b := d2.out
       have a7a := d4.out
       have a9a := d1.out
       have a6j := d3.out
       obtain ⟨U3, U2, U1, U0, O1, O0, N9, N8⟩ := cz4 b0
       have a8j := b8.out
       have a6i := b7.out
       obtain ⟨R9, R8, N7, N6⟩ := cz2 a8
       go_wp2_with ((with_reducible refine gate_callee (f := 46) rfl ?_); refine gl 86 Tryz.func46 #[.int .i64 ((rd_T75 a4 a5).f0), .int .i64 (c0.length : Int)] (h := ?_); (with_reducible refine (statistic_is.calls ((rd_T75 a4 a5).f0) (c0.length : Int) false _ t6.out).mono ?_); rintro e w' ⟨rfl, ⟨nd, rfl⟩⟩; refine ⟨_, rfl, ?_⟩)
       go_meet
       case rel => exact ⟨_, (true), eqs, H', ⟨by have := g2.out; have := m5.out; first | omega | exact Nat.le_refl _⟩, ⟨bkF a8⟩, ⟨bkF a7⟩, ⟨by (with_reducible repeat (first | refine dN ?_ _ | refine dR ?_ | refine dA ?_ _)); refine blk_put (cs := #[.int .i64 ((rd_T75 a4 a5).f0), .int .i64 ((rd_T75 a4 a5).f1), .int .i64 ((rd_T75 a4 a5).f2), .int .i64 0]) ?_ 3 _ rfl; refine blk_put (cs := #[.int .i64 ((rd_T75 a4 a5).f0), .int .i64 ((rd_T75 a4 a5).f1), .int .i64 0, .int .i64 0]) ?_ 2 _ rfl; refine blk_put (cs := #[.int .i64 ((rd_T75 a4 a5).f0), .int .i64 0, .int .i64 0, .int .i64 0]) ?_ 1 _ rfl; refine blk_put (cs := #[.int .i64 0, .int .i64 0, .int .i64 0, .int .i64 0]) ?_ 0 _ rfl; (with_reducible repeat (first | refine dN ?_ _ | refine dR ?_ | refine dA ?_ _)); exact b0.out⟩, ⟨bb HB⟩⟩
      subst A9
      replace H := ift H
      obtain ⟨v1, C4, H⟩ := obA H
      by_cases A8 : v1 = true
      rotate_left
      ·replace A8 := Bool.eq_false_iff.mpr A8
       subst A8
       replace H := iff_ H
       have H' := am H
       clear H
       have a9e := d2.out
       have a7d := d4.out
       have a9d := d1.out
       have a7c := d3.out
       obtain ⟨U9, U8, U7, U6, O7, O6, O5, O4⟩ := cz4 b0
       have a9c := b8.out
       have a7b := b7.out
       obtain ⟨U5, U4, O3, O2⟩ := cz2 a8
       go_wp2_with (first | ((with_reducible refine gate_callee (f := 46) rfl ?_); refine gl 86 Tryz.func46 #[.int .i64 ((rd_T75 a4 a5).f0), .int .i64 (c0.length : Int)] (h := ?_); (with_reducible refine (statistic_is.calls ((rd_T75 a4 a5).f0) (c0.length : Int) true _ t6.out).mono ?_); rintro e w' ⟨rfl, ⟨nd, rfl⟩⟩; refine ⟨_, rfl, ?_⟩) | (go_at_call 46; (with_reducible refine (statistic_is.calls ((rd_T75 a4 a5).f1) (b6.length : Int) false _ C4.out).mono ?_); rintro e w' ⟨rfl, ⟨nd, rfl⟩⟩))
       go_meet
       case rel => exact ⟨_, (true), eqs, H', ⟨by have := g2.out; have := m5.out; first | omega | exact Nat.le_refl _⟩, ⟨bkF a8⟩, ⟨bkF a7⟩, ⟨by (with_reducible repeat (first | refine dN ?_ _ | refine dR ?_ | refine dA ?_ _)); refine blk_put (cs := #[.int .i64 ((rd_T75 a4 a5).f0), .int .i64 ((rd_T75 a4 a5).f1), .int .i64 ((rd_T75 a4 a5).f2), .int .i64 0]) ?_ 3 _ rfl; refine blk_put (cs := #[.int .i64 ((rd_T75 a4 a5).f0), .int .i64 ((rd_T75 a4 a5).f1), .int .i64 0, .int .i64 0]) ?_ 2 _ rfl; refine blk_put (cs := #[.int .i64 ((rd_T75 a4 a5).f0), .int .i64 0, .int .i64 0, .int .i64 0]) ?_ 1 _ rfl; refine blk_put (cs := #[.int .i64 0, .int .i64 0, .int .i64 0, .int .i64 0]) ?_ 0 _ rfl; (with_reducible repeat (first | refine dN ?_ _ | refine dR ?_ | refine dA ?_ _)); exact b0.out⟩, ⟨bb HB⟩⟩
      subst A8
      replace H := ift H
      obtain ⟨v0, G9, H⟩ := obA H
      by_cases A7 : v0 = true
      rotate_left
      ·replace A7 := Bool.eq_false_iff.mpr A7
       subst A7
       replace H := iff_ H
       have H' := am H
       clear H
       have b2j := d2.out
       have a9j := d4.out
       have b2i := d1.out
       have a9i := d3.out
       obtain ⟨a0i, a0h, a0g, a0f, V8, V7, V6, V5⟩ := cz4 b0
       have b2h := b8.out
       have a9h := b7.out
       obtain ⟨a0e, a0d, V4, V3⟩ := cz2 a8
       go_wp2_with (first | ((with_reducible refine gate_callee (f := 46) rfl ?_); refine gl 86 Tryz.func46 #[.int .i64 ((rd_T75 a4 a5).f0), .int .i64 (c0.length : Int)] (h := ?_); (with_reducible refine (statistic_is.calls ((rd_T75 a4 a5).f0) (c0.length : Int) true _ t6.out).mono ?_); rintro e w' ⟨rfl, ⟨nd, rfl⟩⟩; refine ⟨_, rfl, ?_⟩) | (go_at_call 46; (with_reducible refine (statistic_is.calls ((rd_T75 a4 a5).f1) (b6.length : Int) true _ C4.out).mono ?_); rintro e w' ⟨rfl, ⟨nd, rfl⟩⟩) | (go_at_call 46; (with_reducible refine (statistic_is.calls ((rd_T75 a4 a5).f2) (b6.length : Int) false _ G9.out).mono ?_); rintro e w' ⟨rfl, ⟨nd, rfl⟩⟩))
       go_meet
       case rel => exact ⟨_, (true), eqs, H', ⟨by have := g2.out; have := m5.out; first | omega | exact Nat.le_refl _⟩, ⟨bkF a8⟩, ⟨bkF a7⟩, ⟨by (with_reducible repeat (first | refine dN ?_ _ | refine dR ?_ | refine dA ?_ _)); refine blk_put (cs := #[.int .i64 ((rd_T75 a4 a5).f0), .int .i64 ((rd_T75 a4 a5).f1), .int .i64 ((rd_T75 a4 a5).f2), .int .i64 0]) ?_ 3 _ rfl; refine blk_put (cs := #[.int .i64 ((rd_T75 a4 a5).f0), .int .i64 ((rd_T75 a4 a5).f1), .int .i64 0, .int .i64 0]) ?_ 2 _ rfl; refine blk_put (cs := #[.int .i64 ((rd_T75 a4 a5).f0), .int .i64 0, .int .i64 0, .int .i64 0]) ?_ 1 _ rfl; refine blk_put (cs := #[.int .i64 0, .int .i64 0, .int .i64 0, .int .i64 0]) ?_ 0 _ rfl; (with_reducible repeat (first | refine dN ?_ _ | refine dR ?_ | refine dA ?_ _)); exact b0.out⟩, ⟨bb HB⟩⟩
      subst A7
      replace H := ift H
      by_cases q5 : ((rd_T75 a4 a5).f3) < 1
      rotate_left
      ·rw [if_neg q5] at H
       have n9 := decide_eq_false q5
       clear q5
       (first | rw [n9] | (simp only [i64_w, i32_w]; rw [n9]) | skip)
       have H' := am H
       clear H
       have b3c := d2.out
       have b0c := d4.out
       have b3b := d1.out
       have b0b := d3.out
       obtain ⟨a1e, a1d, a1c, a1b, W4, W3, W2, W1⟩ := cz4 b0
       have b3a := b8.out
       have b0a := b7.out
       obtain ⟨a1a, a0j, W0, V9⟩ := cz2 a8
       go_wp2_with (first | ((with_reducible refine gate_callee (f := 46) rfl ?_); refine gl 86 Tryz.func46 #[.int .i64 ((rd_T75 a4 a5).f0), .int .i64 (c0.length : Int)] (h := ?_); (with_reducible refine (statistic_is.calls ((rd_T75 a4 a5).f0) (c0.length : Int) true _ t6.out).mono ?_); rintro e w' ⟨rfl, ⟨nd, rfl⟩⟩; refine ⟨_, rfl, ?_⟩) | (go_at_call 46; (with_reducible refine (statistic_is.calls ((rd_T75 a4 a5).f1) (b6.length : Int) true _ C4.out).mono ?_); rintro e w' ⟨rfl, ⟨nd, rfl⟩⟩) | (go_at_call 46; (with_reducible refine (statistic_is.calls ((rd_T75 a4 a5).f2) (b6.length : Int) true _ G9.out).mono ?_); rintro e w' ⟨rfl, ⟨nd, rfl⟩⟩))
       go_meet
       case rel => exact ⟨_, (decide (((rd_T75 a4 a5).f3) > 80)), eqs, H', ⟨by have := g2.out; have := m5.out; first | omega | exact Nat.le_refl _⟩, ⟨bkF a8⟩, ⟨bkF a7⟩, ⟨by (with_reducible repeat (first | refine dN ?_ _ | refine dR ?_ | refine dA ?_ _)); refine blk_put (cs := #[.int .i64 ((rd_T75 a4 a5).f0), .int .i64 ((rd_T75 a4 a5).f1), .int .i64 ((rd_T75 a4 a5).f2), .int .i64 0]) ?_ 3 _ rfl; refine blk_put (cs := #[.int .i64 ((rd_T75 a4 a5).f0), .int .i64 ((rd_T75 a4 a5).f1), .int .i64 0, .int .i64 0]) ?_ 2 _ rfl; refine blk_put (cs := #[.int .i64 ((rd_T75 a4 a5).f0), .int .i64 0, .int .i64 0, .int .i64 0]) ?_ 1 _ rfl; refine blk_put (cs := #[.int .i64 0, .int .i64 0, .int .i64 0, .int .i64 0]) ?_ 0 _ rfl; (with_reducible repeat (first | refine dN ?_ _ | refine dR ?_ | refine dA ?_ _)); exact b0.out⟩, ⟨bb HB⟩⟩
      rw [if_pos q5] at H
      have n9 := decide_eq_true q5
      clear q5
      (first | rw [n9] | (simp only [i64_w, i32_w]; rw [n9]) | skip)
      have H' := am H
      clear H
      have b3f := d2.out
      have b0f := d4.out
      have b3e := d1.out
      have b0e := d3.out
      obtain ⟨a2a, a1j, a1i, a1h, X0, W9, W8, W7⟩ := cz4 b0
      have b3d := b8.out
      have b0d := b7.out
      obtain ⟨a1g, a1f, W6, W5⟩ := cz2 a8
      go_wp2_with (first | ((with_reducible refine gate_callee (f := 46) rfl ?_); refine gl 86 Tryz.func46 #[.int .i64 ((rd_T75 a4 a5).f0), .int .i64 (c0.length : Int)] (h := ?_); (with_reducible refine (statistic_is.calls ((rd_T75 a4 a5).f0) (c0.length : Int) true _ t6.out).mono ?_); rintro e w' ⟨rfl, ⟨nd, rfl⟩⟩; refine ⟨_, rfl, ?_⟩) | (go_at_call 46; (with_reducible refine (statistic_is.calls ((rd_T75 a4 a5).f1) (b6.length : Int) true _ C4.out).mono ?_); rintro e w' ⟨rfl, ⟨nd, rfl⟩⟩) | (go_at_call 46; (with_reducible refine (statistic_is.calls ((rd_T75 a4 a5).f2) (b6.length : Int) true _ G9.out).mono ?_); rintro e w' ⟨rfl, ⟨nd, rfl⟩⟩))
      go_meet
      case rel => exact ⟨_, (true), eqs, H', ⟨by have := g2.out; have := m5.out; first | omega | exact Nat.le_refl _⟩, ⟨bkF a8⟩, ⟨bkF a7⟩, ⟨by (with_reducible repeat (first | refine dN ?_ _ | refine dR ?_ | refine dA ?_ _)); refine blk_put (cs := #[.int .i64 ((rd_T75 a4 a5).f0), .int .i64 ((rd_T75 a4 a5).f1), .int .i64 ((rd_T75 a4 a5).f2), .int .i64 0]) ?_ 3 _ rfl; refine blk_put (cs := #[.int .i64 ((rd_T75 a4 a5).f0), .int .i64 ((rd_T75 a4 a5).f1), .int .i64 0, .int .i64 0]) ?_ 2 _ rfl; refine blk_put (cs := #[.int .i64 ((rd_T75 a4 a5).f0), .int .i64 0, .int .i64 0, .int .i64 0]) ?_ 1 _ rfl; refine blk_put (cs := #[.int .i64 0, .int .i64 0, .int .i64 0, .int .i64 0]) ?_ 0 _ rfl; (with_reducible repeat (first | refine dN ?_ _ | refine dR ?_ | refine dA ?_ _)); exact b0.out⟩, ⟨bb HB⟩⟩
     case rest =>
      clear x4
      clear C0
      clear H5
      clear H4
      clear E6
      clear E5
      clear E4
      clear E3
      clear D2
      clear D1
      clear D0
      clear C9
      clear o8
      clear o7
      clear o6
      clear o5
      clear r5
      clear r3
      obtain ⟨kq, n6, rfl, HA, p6, a8, a7, b0, HB⟩ := hcut
      cases kq with
      | zero => exact absurd HA.out (by simp [statistic_Valid.j3])
      | succ v4 =>
       have H := HA.out
       clear HA
       simp only [statistic_Valid.j3] at H
       by_cases t1 : n6 = true
       ·subst t1
        replace H := ift H
        obtain rfl := Option.some.inj H
        go_wp2
        go_ret
        exact ⟨erf, bb HB⟩
       replace t1 := Bool.eq_false_iff.mpr t1
       subst t1
       replace H := iff_ H
       obtain ⟨t9, H3, H⟩ := obA H
       by_cases t0 : t9 = true
       rotate_left
       ·replace t0 := Bool.eq_false_iff.mpr t0
        subst t0
        replace H := iff_ H
        obtain rfl := Option.some.inj H
        have a7j := b8.out
        have a5i := b7.out
        have a7i := d4.out
        have a5h := d2.out
        obtain ⟨P9, P8, L7, L6⟩ := cz2 a8
        have a7h := d1.out
        have a5g := d3.out
        obtain ⟨P7, P6, P5, P4, L5, L4, L3, L2⟩ := cz4 b0
        go_wp2_with ((with_reducible refine gate_callee (f := 53) rfl ?_); refine gl 124 Tryz.func53 #[.agg #[.slice g7 b6.length g5, .slice g6 c0.length g4], .int .i64 ((rd_T75 a4 a5).f0), .int .i64 ((rd_T75 a4 a5).f1), .int .i64 ((rd_T75 a4 a5).f2)] (h := ?_); (with_reducible refine (types_Fits.calls v4 _ _ b6 _ _ c0 ((rd_T75 a4 a5).f0) ((rd_T75 a4 a5).f1) ((rd_T75 a4 a5).f2) false _ ?c8 ?c7 ?d9 ?d8 H3.out).mono ?_); (case c8 => exact cb p8 HB); (case c7 => exact q1.out); (case d9 => exact cb p7 HB); (case d8 => exact q0.out); rintro e b6g ⟨rfl, hb⟩; refine ⟨_, rfl, ?_⟩; replace a8 := bkb a8 hb; replace a7 := bkb a7 hb; replace b0 := bkb b0 hb; replace HB := bstep HB hb; (try clear hb); (try clear hb2); (try clear hk); (try clear hi))
        go_ret
        exact ⟨erf, bb HB⟩
       subst t0
       replace H := ift H
       have t5 := am H
       clear H
       have a8i := b8.out
       have a6h := b7.out
       have a8h := d4.out
       have a6g := d2.out
       obtain ⟨w8, w7, w0, v9⟩ := cz2 a8
       have a8g := d1.out
       have a6f := d3.out
       obtain ⟨w4, w3, w2, w1, v8, v7, v6, v5⟩ := cz4 b0
       go_upto_region 21 with ((with_reducible refine gate_callee (f := 53) rfl ?_); refine gl 124 Tryz.func53 #[.agg #[.slice g7 b6.length g5, .slice g6 c0.length g4], .int .i64 ((rd_T75 a4 a5).f0), .int .i64 ((rd_T75 a4 a5).f1), .int .i64 ((rd_T75 a4 a5).f2)] (h := ?_); (with_reducible refine (types_Fits.calls v4 _ _ b6 _ _ c0 ((rd_T75 a4 a5).f0) ((rd_T75 a4 a5).f1) ((rd_T75 a4 a5).f2) true _ ?c8 ?c7 ?d9 ?d8 H3.out).mono ?_); (case c8 => exact cb p8 HB); (case c7 => exact q1.out); (case d9 => exact cb p7 HB); (case d8 => exact q0.out); rintro e b7f ⟨rfl, hb⟩; refine ⟨_, rfl, ?_⟩; replace a8 := bkb a8 hb; replace a7 := bkb a7 hb; replace b0 := bkb b0 hb; replace HB := bstep HB hb; (try clear hb); (try clear hb2); (try clear hk); (try clear hi))
       (try simp only [Act.put, List.setIfInBounds_toArray, List.set_cons_zero, List.set_cons_succ])
       go_cut [126] (fun J5 wc => ∃ (kq : Nat) (j8 : Bool), J5 = .bool j8 ∧ Aside0 (statistic_Valid.j4 kq a5 a4 (a4.length : Int) a5 j8 b6 c0 a6 a4 ((rd_T75 a4 a5).f0) ((rd_T75 a4 a5).f1) ((rd_T75 a4 a5).f2) ((rd_T75 a4 a5).f3) = some r) ∧ Aside0 (kq ≤ v4) ∧ Aside0 (wc.heap[m9]? = some (.cells #[(.slice g7 b6.length g5), (.slice g6 c0.length g4)] 31 (0, 0))) ∧ Aside0 (wc.heap[d5]? = some (.cells #[(.slice g3 a6.length d7), (.slice (some c5) a4.length d6)] 46 (0, 0))) ∧ Aside0 (wc.heap[g8]? = some (.cells #[.int .i64 ((rd_T75 a4 a5).f0), .int .i64 ((rd_T75 a4 a5).f1), .int .i64 ((rd_T75 a4 a5).f2), .int .i64 ((rd_T75 a4 a5).f3)] 75 (0, 0))) ∧ Aside0 (Below w.heap.size w wc))
       case first =>
        have H := t5.out
        clear t5
        obtain ⟨t8, H2, H⟩ := obA H
        by_cases r8 : t8 = true
        rotate_left
        ·replace r8 := Bool.eq_false_iff.mpr r8
         subst r8
         replace H := iff_ H
         have H' := am H
         clear H
         have a8c := b7.out
         have a6b := b8.out
         have a8b := d3.out
         have a6a := d1.out
         obtain ⟨Q5, Q4, M3, M2⟩ := cz2 a7
         have a8a := d2.out
         have a5j := d4.out
         obtain ⟨Q3, Q2, Q1, Q0, M1, M0, L9, L8⟩ := cz4 b0
         go_wp2_with ((with_reducible refine gate_callee (f := 54) rfl ?_); refine gl 130 Tryz.func54 #[.agg #[.slice g3 a6.length d7, .slice (some c5) a4.length d6], .int .i64 ((rd_T75 a4 a5).f1)] (h := ?_); (with_reducible refine (statistic_has.calls _ _ a6 _ _ a4 ((rd_T75 a4 a5).f1) false _ ?c8 ?c7 ?d9 ?d8 H2.out).mono ?_); (case c8 => exact cb h4 HB); (case c7 => exact o3.out); (case d9 => exact cb h3 HB); (case d8 => exact o2.out); rintro e b7c ⟨rfl, hb⟩; refine ⟨_, rfl, ?_⟩; replace a8 := bkb a8 hb; replace a7 := bkb a7 hb; replace b0 := bkb b0 hb; replace HB := bstep HB hb; (try clear hb); (try clear hb2); (try clear hk); (try clear hi))
         go_meet
         case rel => exact ⟨_, (true), eqs, H', ⟨by have := g2.out; have := m5.out; have := p6.out; first | omega | exact Nat.le_refl _⟩, ⟨bk a8⟩, ⟨bk a7⟩, ⟨bk b0⟩, ⟨bb HB⟩⟩
        subst r8
        replace H := ift H
        obtain ⟨r2, V2, H⟩ := obA H
        have H' := am H
        clear H
        have a8f := b7.out
        have a6e := b8.out
        have a8e := d3.out
        have a6d := d1.out
        obtain ⟨R7, R6, N5, N4⟩ := cz2 a7
        have a8d := d2.out
        have a6c := d4.out
        obtain ⟨R5, R4, R3, R2, N3, N2, N1, N0⟩ := cz4 b0
        go_wp2_with (first | ((with_reducible refine gate_callee (f := 54) rfl ?_); refine gl 130 Tryz.func54 #[.agg #[.slice g3 a6.length d7, .slice (some c5) a4.length d6], .int .i64 ((rd_T75 a4 a5).f1)] (h := ?_); (with_reducible refine (statistic_has.calls _ _ a6 _ _ a4 ((rd_T75 a4 a5).f1) true _ ?c8 ?c7 ?d9 ?d8 H2.out).mono ?_); (case c8 => exact cb h4 HB); (case c7 => exact o3.out); (case d9 => exact cb h3 HB); (case d8 => exact o2.out); rintro e b7e ⟨rfl, hb⟩; refine ⟨_, rfl, ?_⟩; replace a8 := bkb a8 hb; replace a7 := bkb a7 hb; replace b0 := bkb b0 hb; replace HB := bstep HB hb; (try clear hb); (try clear hb2); (try clear hk); (try clear hi); obtain ⟨R1, R0, M9, M8⟩ := cz2 a7; obtain ⟨Q9, Q8, Q7, Q6, M7, M6, M5, M4⟩ := cz4 b0) | (go_at_call 54; (with_reducible refine (statistic_has.calls _ _ a6 _ _ a4 ((rd_T75 a4 a5).f2) r2 _ ?c8 ?c7 ?d9 ?d8 V2.out).mono ?_); (case c8 => exact cb h4 HB); (case c7 => exact o3.out); (case d9 => exact cb h3 HB); (case d8 => exact o2.out); rintro e b7d ⟨rfl, hb⟩; replace a8 := bkb a8 hb; replace a7 := bkb a7 hb; replace b0 := bkb b0 hb; replace HB := bstep HB hb; (try clear hb); (try clear hb2); (try clear hk); (try clear hi)))
        go_meet
        case rel => exact ⟨_, (!r2), eqs, H', ⟨by have := g2.out; have := m5.out; have := p6.out; first | omega | exact Nat.le_refl _⟩, ⟨bk a8⟩, ⟨bk a7⟩, ⟨bk b0⟩, ⟨bb HB⟩⟩
       case rest =>
        clear t5
        clear w8
        clear w7
        clear w4
        clear w3
        clear w2
        clear w1
        clear w0
        clear v9
        clear v8
        clear v7
        clear v6
        clear v5
        obtain ⟨kq, j8, rfl, HA, p9, a8, a7, b0, HB⟩ := hcut
        cases kq with
        | zero => exact absurd HA.out (by simp [statistic_Valid.j4])
        | succ m7 =>
         have H := HA.out
         clear HA
         simp only [statistic_Valid.j4] at H
         by_cases r7 : j8 = true
         ·subst r7
          replace H := ift H
          obtain rfl := Option.some.inj H
          go_wp2
          go_ret
          exact ⟨erf, bb HB⟩
         replace r7 := Bool.eq_false_iff.mpr r7
         subst r7
         replace H := iff_ H
         by_cases p5 : a5 > 0
         rotate_left
         ·rw [if_neg p5] at H
          have G8 : decide (0 < a5) = false := decide_eq_false p5
          clear p5
          have H' := am H
          clear H
          try go_wp2
          replace a8 := am (blk_drew a8.out)
          replace a7 := am (blk_drew a7.out)
          replace b0 := am (blk_drew b0.out)
          replace HB := am (below_drew1 HB.out)
          refine start_ (n := 14) (S := fun w' => True) (ds := []) #[false, false, false, false, false, false, false, false, false, false, false, false, false, false] (by kernel_rfl) rfl rfl trivial (fun hHeld => ?_); refine with_tabW statistic_Valid.tab23 statistic_Valid.bits23 (fun HT_ HW_ => ?_)
          generalize wc.drew = b6h at a8 a7 b0 HB hHeld ⊢
          refine pu 0 140 (bits 14 0x1) HT_ (h := ?_)
          refine pu 1 141 (bits 14 0x3) HT_ (h := ?_)
          refine pu 2 142 (bits 14 0x7) HT_ (h := ?_)
          refine pn 3 143 (bits 14 0xf) HT_ (h := ?_)
          refine pn 4 144 (bits 14 0x1f) HT_ (h := ?_)
          refine pn 5 145 (bits 14 0x3f) HT_ (h := ?_)
          refine pn 6 146 (bits 14 0x7f) HT_ (h := ?_)
          refine pn 7 147 (bits 14 0xff) HT_ (h := ?_)
          refine pn 8 148 (bits 14 0x1ff) HT_ (h := ?_)
          refine pn 9 149 (bits 14 0x3ff) HT_ (h := ?_)
          refine pn 10 150 (bits 14 0x7ff) HT_ (h := ?_)
          refine pn 11 151 (bits 14 0xfff) HT_ (h := ?_)
          refine pu 12 152 (bits 14 0x1fff) HT_ (h := ?_)
          refine pu 13 139 (bits 14 0x3fff) HT_ (h := ?_)
          refine done_ (done_of HT_.out (by kernel_rfl)) ?_
          try go_wp2
          go_roundg m7
          case measure => have := g2.out; have := m5.out; have := p6.out; have := p9.out; omega
          case rel => exact ⟨(wrap64 (a5 + 1)), eqs, H', ⟨by have := g2.out; have := m5.out; have := p6.out; have := p9.out; omega⟩, ⟨bk a8⟩, ⟨bk a7⟩, ⟨bb HB⟩⟩
         rw [if_pos p5] at H
         have G8 : decide (0 < a5) = true := decide_eq_true p5
         clear p5
         obtain ⟨b1, j7⟩ : ∃ j_ : Int, (wrap64 (a5 - 1)) = j_ := ⟨_, rfl⟩
         replace H : (if 0 ≤ (b1) then (if (b1) < (a4.length : Int) then ((statistic_compare.f m7 ((rd_T75 a4 (b1)).f0) ((rd_T75 a4 (b1)).f1) ((rd_T75 a4 (b1)).f2) ((rd_T75 a4 (b1)).f3) ((rd_T75 a4 a5).f0) ((rd_T75 a4 a5).f1) ((rd_T75 a4 a5).f2) ((rd_T75 a4 a5).f3)).bind fun j9 => (if j9 ≥ 0 then (some 12) else (statistic_Valid.l1 m7 a4 (a4.length : Int) (wrap64 (a5 + 1)) b6 c0 a6 a4))) else (none)) else (none)) = some r := by first | (rw [j7] at H; exact H) | (simp only [j7] at H ⊢; exact H)
         have hji140w : (IntKind.i64.wrap (a5 - 1)) = b1 := (i64_w _).trans j7
         obtain ⟨G7, H⟩ := itn H
         have a9g := decide_eq_true G7
         clear G7
         obtain ⟨G6, H⟩ := itn H
         have a9f := decide_eq_true G6
         clear G6
         obtain ⟨j9, H1, H⟩ := obA H
         by_cases p4 : j9 ≥ 0
         ·rw [if_pos p4] at H
          have G5 : decide (0 ≤ j9) = true := decide_eq_true p4
          clear p4
          obtain rfl := Option.some.inj H
          try go_wp2
          replace a8 := am (blk_drew a8.out)
          replace a7 := am (blk_drew a7.out)
          replace b0 := am (blk_drew b0.out)
          replace HB := am (below_drew1 HB.out)
          have n4 : 0 ≤ ((b1) : Int) := odt
          have n2 : (b1) < (a4.length : Int) := odt
          obtain ⟨t2, x0, e3, e2, e1, e0⟩ := at_T75 h3.out (b1) n4 n2
          have h6 := e0
          have h7 := e1
          have h8 := e2
          have h9 := e3
          obtain rfl : c5 = t2 := (by injection x0)
          replace e3 := hxc HB e3
          replace e2 := hxc HB e2
          replace e1 := hxc HB e1
          replace e0 := hxc HB e0
          replace n4 := eq_true n4
          replace n2 := eq_true n2
          refine start_ (n := 14) (S := fun w' => w'.cell? ⟨d5, 0, none⟩ = some (.slice g3 a6.length d7) ∧ w'.cell? ⟨d5, 1, none⟩ = some (.slice (some c5) a4.length d6) ∧ w'.cell? ⟨g8, 0, none⟩ = some (.int .i64 ((rd_T75 a4 a5).f0)) ∧ w'.cell? ⟨g8, 1, none⟩ = some (.int .i64 ((rd_T75 a4 a5).f1)) ∧ w'.cell? ⟨g8, 2, none⟩ = some (.int .i64 ((rd_T75 a4 a5).f2)) ∧ w'.cell? ⟨g8, 3, none⟩ = some (.int .i64 ((rd_T75 a4 a5).f3)) ∧ w'.cell? (c5.add (((b1)).toNat * 4)) = some (.int .i64 ((rd_T75 a4 (b1)).f0)) ∧ w'.cell? ⟨(c5.add (((b1)).toNat * 4)).block, (c5.add (((b1)).toNat * 4)).off + 1, none⟩ = some (.int .i64 ((rd_T75 a4 (b1)).f1)) ∧ w'.cell? ⟨(c5.add (((b1)).toNat * 4)).block, (c5.add (((b1)).toNat * 4)).off + 2, none⟩ = some (.int .i64 ((rd_T75 a4 (b1)).f2)) ∧ w'.cell? ⟨(c5.add (((b1)).toNat * 4)).block, (c5.add (((b1)).toNat * 4)).off + 3, none⟩ = some (.int .i64 ((rd_T75 a4 (b1)).f3))) (ds := []) #[false, false, false, false, false, false, false, false, false, false, false, false, false, false] (by kernel_rfl) rfl rfl ⟨bc a7 0, bc a7 1, bc b0 0, bc b0 1, bc b0 2, bc b0 3, (hxc HB h9), (hxc HB h8), (hxc HB h7), (hxc HB h6)⟩ (fun hHeld => ?_); refine with_tabW statistic_Valid.tab23 statistic_Valid.bits23 (fun HT_ HW_ => ?_)
          generalize wc.drew = b7b at a8 a7 b0 HB e3 e2 e1 e0 hHeld ⊢
          refine pu 0 140 (bits 14 0x1) HT_ (h := ?_)
          refine pu 1 141 (bits 14 0x3) HT_ (h := ?_)
          refine pu 2 142 (bits 14 0x7) HT_ (h := ?_)
          refine pu 3 143 (bits 14 0xf) HT_ (h := ?_)
          refine pu 5 145 (bits 14 0x2f) HT_ (h := ?_)
          refine pu 6 146 (bits 14 0x6f) HT_ (h := ?_)
          refine tk 4 144 (bits 14 0x7f) HT_ HW_ hHeld (hy := by rintro w' ⟨s0, s1, s2, s3, s4, s5, s6, s7, s8, s9⟩; go_simp; with_reducible rfl) (h := ?_)
          refine pu 7 147 (bits 14 0xff) HT_ (h := ?_)
          refine tk 8 148 (bits 14 0x1ff) HT_ HW_ hHeld (hy := by rintro w' ⟨s0, s1, s2, s3, s4, s5, s6, s7, s8, s9⟩; go_simp; with_reducible rfl) (h := ?_)
          refine tk 9 149 (bits 14 0x3ff) HT_ HW_ hHeld (hy := by rintro w' ⟨s0, s1, s2, s3, s4, s5, s6, s7, s8, s9⟩; go_simp; with_reducible rfl) (h := ?_)
          refine one_ (i := 10) (N := some 150) #[true, true, true, true, true, true, true, true, true, true, true, false, false, false] rfl rfl (one_of HT_.out (by kernel_rfl)) (by decide) (fun K hK => ?_)
          refine goes_ Tryz.func58 (by kernel_rfl) rfl #[.agg #[.int .i64 ((rd_T75 a4 (b1)).f0), .int .i64 ((rd_T75 a4 (b1)).f1), .int .i64 ((rd_T75 a4 (b1)).f2), .int .i64 ((rd_T75 a4 (b1)).f3)], .agg #[.int .i64 ((rd_T75 a4 a5).f0), .int .i64 ((rd_T75 a4 a5).f1), .int .i64 ((rd_T75 a4 a5).f2), .int .i64 ((rd_T75 a4 a5).f3)]] (by rfl) rfl rfl (by (try simp only [List.map_toArray, List.map_cons, List.map_nil]); first | done | (simp only [j7]; rfl) | rfl | (simp only [List.length_drop, List.length_take]; rfl)) ?_
          with_reducible refine (statistic_compare.calls m7 ((rd_T75 a4 (b1)).f0) ((rd_T75 a4 (b1)).f1) ((rd_T75 a4 (b1)).f2) ((rd_T75 a4 (b1)).f3) ((rd_T75 a4 a5).f0) ((rd_T75 a4 a5).f1) ((rd_T75 a4 a5).f2) ((rd_T75 a4 a5).f3) j9 _ H1.out).mono ?_
          rintro e b7a ⟨rfl, hb⟩
          refine ⟨_, rfl, ?_⟩
          replace a8 := bkb a8 hb
          replace a7 := bkb a7 hb
          replace b0 := bkb b0 hb
          replace HB := bstep HB hb
          clear hb
          refine hK.out _ _ ⟨bc a7 0, bc a7 1, bc b0 0, bc b0 1, bc b0 2, bc b0 3, (hxc HB h9), (hxc HB h8), (hxc HB h7), (hxc HB h6)⟩ (fun hHeld => ?_)
          clear hK K
          refine norm_ (a' := ?_) ?_ ?_
          rotate_left
          ·show Act.put _ (some 150) _ = _
           simp only [Act.put, List.setIfInBounds_toArray, List.set_cons_zero, List.set_cons_succ, i64_w, i32_w]
           rfl
          refine pu 11 151 (bits 14 0xfff) HT_ (h := ?_)
          refine pu 12 152 (bits 14 0x1fff) HT_ (h := ?_)
          refine pu 13 139 (bits 14 0x3fff) HT_ (h := ?_)
          refine done_ (done_of HT_.out (by kernel_rfl)) ?_
          try go_wp2
          go_ret
          exact ⟨by first | rfl | (simp [errW_none, errW_some] <;> rfl) | (simp only [← j7]; first | rfl | (simp [errW_none, errW_some] <;> rfl)) | (simp [*, errW_none, errW_some] <;> rfl), bb HB⟩
         rw [if_neg p4] at H
         have G5 : decide (0 ≤ j9) = false := decide_eq_false p4
         clear p4
         have H' := am H
         clear H
         try go_wp2
         replace a8 := am (blk_drew a8.out)
         replace a7 := am (blk_drew a7.out)
         replace b0 := am (blk_drew b0.out)
         replace HB := am (below_drew1 HB.out)
         have n4 : 0 ≤ ((b1) : Int) := odt
         have n2 : (b1) < (a4.length : Int) := odt
         obtain ⟨t2, x0, e3, e2, e1, e0⟩ := at_T75 h3.out (b1) n4 n2
         have h6 := e0
         have h7 := e1
         have h8 := e2
         have h9 := e3
         obtain rfl : c5 = t2 := (by injection x0)
         replace e3 := hxc HB e3
         replace e2 := hxc HB e2
         replace e1 := hxc HB e1
         replace e0 := hxc HB e0
         replace n4 := eq_true n4
         replace n2 := eq_true n2
         refine start_ (n := 14) (S := fun w' => w'.cell? ⟨d5, 0, none⟩ = some (.slice g3 a6.length d7) ∧ w'.cell? ⟨d5, 1, none⟩ = some (.slice (some c5) a4.length d6) ∧ w'.cell? ⟨g8, 0, none⟩ = some (.int .i64 ((rd_T75 a4 a5).f0)) ∧ w'.cell? ⟨g8, 1, none⟩ = some (.int .i64 ((rd_T75 a4 a5).f1)) ∧ w'.cell? ⟨g8, 2, none⟩ = some (.int .i64 ((rd_T75 a4 a5).f2)) ∧ w'.cell? ⟨g8, 3, none⟩ = some (.int .i64 ((rd_T75 a4 a5).f3)) ∧ w'.cell? (c5.add (((b1)).toNat * 4)) = some (.int .i64 ((rd_T75 a4 (b1)).f0)) ∧ w'.cell? ⟨(c5.add (((b1)).toNat * 4)).block, (c5.add (((b1)).toNat * 4)).off + 1, none⟩ = some (.int .i64 ((rd_T75 a4 (b1)).f1)) ∧ w'.cell? ⟨(c5.add (((b1)).toNat * 4)).block, (c5.add (((b1)).toNat * 4)).off + 2, none⟩ = some (.int .i64 ((rd_T75 a4 (b1)).f2)) ∧ w'.cell? ⟨(c5.add (((b1)).toNat * 4)).block, (c5.add (((b1)).toNat * 4)).off + 3, none⟩ = some (.int .i64 ((rd_T75 a4 (b1)).f3))) (ds := []) #[false, false, false, false, false, false, false, false, false, false, false, false, false, false] (by kernel_rfl) rfl rfl ⟨bc a7 0, bc a7 1, bc b0 0, bc b0 1, bc b0 2, bc b0 3, (hxc HB h9), (hxc HB h8), (hxc HB h7), (hxc HB h6)⟩ (fun hHeld => ?_); refine with_tabW statistic_Valid.tab23 statistic_Valid.bits23 (fun HT_ HW_ => ?_)
         generalize wc.drew = b6j at a8 a7 b0 HB e3 e2 e1 e0 hHeld ⊢
         refine pu 0 140 (bits 14 0x1) HT_ (h := ?_)
         refine pu 1 141 (bits 14 0x3) HT_ (h := ?_)
         refine pu 2 142 (bits 14 0x7) HT_ (h := ?_)
         refine pu 3 143 (bits 14 0xf) HT_ (h := ?_)
         refine pu 5 145 (bits 14 0x2f) HT_ (h := ?_)
         refine pu 6 146 (bits 14 0x6f) HT_ (h := ?_)
         refine tk 4 144 (bits 14 0x7f) HT_ HW_ hHeld (hy := by rintro w' ⟨s0, s1, s2, s3, s4, s5, s6, s7, s8, s9⟩; go_simp; with_reducible rfl) (h := ?_)
         refine pu 7 147 (bits 14 0xff) HT_ (h := ?_)
         refine tk 8 148 (bits 14 0x1ff) HT_ HW_ hHeld (hy := by rintro w' ⟨s0, s1, s2, s3, s4, s5, s6, s7, s8, s9⟩; go_simp; with_reducible rfl) (h := ?_)
         refine tk 9 149 (bits 14 0x3ff) HT_ HW_ hHeld (hy := by rintro w' ⟨s0, s1, s2, s3, s4, s5, s6, s7, s8, s9⟩; go_simp; with_reducible rfl) (h := ?_)
         refine one_ (i := 10) (N := some 150) #[true, true, true, true, true, true, true, true, true, true, true, false, false, false] rfl rfl (one_of HT_.out (by kernel_rfl)) (by decide) (fun K hK => ?_)
         refine goes_ Tryz.func58 (by kernel_rfl) rfl #[.agg #[.int .i64 ((rd_T75 a4 (b1)).f0), .int .i64 ((rd_T75 a4 (b1)).f1), .int .i64 ((rd_T75 a4 (b1)).f2), .int .i64 ((rd_T75 a4 (b1)).f3)], .agg #[.int .i64 ((rd_T75 a4 a5).f0), .int .i64 ((rd_T75 a4 a5).f1), .int .i64 ((rd_T75 a4 a5).f2), .int .i64 ((rd_T75 a4 a5).f3)]] (by rfl) rfl rfl (by (try simp only [List.map_toArray, List.map_cons, List.map_nil]); first | done | (simp only [j7]; rfl) | rfl | (simp only [List.length_drop, List.length_take]; rfl)) ?_
         with_reducible refine (statistic_compare.calls m7 ((rd_T75 a4 (b1)).f0) ((rd_T75 a4 (b1)).f1) ((rd_T75 a4 (b1)).f2) ((rd_T75 a4 (b1)).f3) ((rd_T75 a4 a5).f0) ((rd_T75 a4 a5).f1) ((rd_T75 a4 a5).f2) ((rd_T75 a4 a5).f3) j9 _ H1.out).mono ?_
         rintro e b6i ⟨rfl, hb⟩
         refine ⟨_, rfl, ?_⟩
         replace a8 := bkb a8 hb
         replace a7 := bkb a7 hb
         replace b0 := bkb b0 hb
         replace HB := bstep HB hb
         clear hb
         refine hK.out _ _ ⟨bc a7 0, bc a7 1, bc b0 0, bc b0 1, bc b0 2, bc b0 3, (hxc HB h9), (hxc HB h8), (hxc HB h7), (hxc HB h6)⟩ (fun hHeld => ?_)
         clear hK K
         refine norm_ (a' := ?_) ?_ ?_
         rotate_left
         ·show Act.put _ (some 150) _ = _
          simp only [Act.put, List.setIfInBounds_toArray, List.set_cons_zero, List.set_cons_succ, i64_w, i32_w]
          rfl
         refine pu 11 151 (bits 14 0xfff) HT_ (h := ?_)
         refine pu 12 152 (bits 14 0x1fff) HT_ (h := ?_)
         refine pu 13 139 (bits 14 0x3fff) HT_ (h := ?_)
         refine done_ (done_of HT_.out (by kernel_rfl)) ?_
         try go_wp2
         go_roundg m7
         case measure => have := g2.out; have := m5.out; have := p6.out; have := p9.out; omega
         case rel => exact ⟨(wrap64 (a5 + 1)), eqs, H', ⟨by have := g2.out; have := m5.out; have := p6.out; have := p9.out; omega⟩, ⟨bk a8⟩, ⟨bk a7⟩, ⟨bb HB⟩⟩
end Go.Proofs.YtfpianecohobjaaGreat.P
