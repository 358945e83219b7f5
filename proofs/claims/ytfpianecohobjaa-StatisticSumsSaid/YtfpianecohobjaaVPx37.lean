/- StatisticOf: a part of its proof. No condition. -/
import Derived.Test.YtfpianecohobjaaVPx0
namespace Go.Proofs.Ytfpianecohobjaa.P
open Go.RowKit Go.Proofs.YtfpianecohobjaaW.PrintWords Go.Proofs.YtfpianecohobjaaW.PrintLast Go.Proofs.YtfpianecohobjaaW.PrintMore
set_option maxHeartbeats 8000000
set_option maxRecDepth 100000
set_option linter.unusedVariables false
set_option linter.unusedSimpArgs false
def cmp_Or_int.l0 : Nat → Int → List Int → Int → Int → Option (Int)
 | 0, _, _, _, _ => none
 | k + 1, x3, x6, x7, x8 => if x8 < x7 then (if 0 ≤ x8 then (if x8 < (x6.length : Int) then (if (rd x6 x8) = x3 then (cmp_Or_int.l0 k x3 x6 x7 (wrap64 (x8 + 1))) else (some (rd x6 x8))) else (none)) else (none)) else (some x3)
def cmp_Or_int.f (k : Nat) (l0 : List Int) : Option (Int) := cmp_Or_int.l0 k 0 l0 (l0.length : Int) 0
theorem cmp_Or_int.mono_l : ∀ k, (∀ y0 y1 y2 y3, LeO (cmp_Or_int.l0 k y0 y1 y2 y3) (cmp_Or_int.l0 (k + 1) y0 y1 y2 y3))
 | 0 => by (intros; intro r h; simp [cmp_Or_int.l0] at h)
 | k + 1 => by
  have ih0 := cmp_Or_int.mono_l k
  (intros; first | unfold cmp_Or_int.l0)
  all_goals with_reducible repeat' first | exact ih0 .. | exact LeO.refl _ | exact LeO.none _ | refine LeO.ite ?_ ?_ | refine LeO.bind ?_ fun _ => ?_
theorem cmp_Or_int.mono : ∀ a0 k, LeO (cmp_Or_int.f k a0) (cmp_Or_int.f (k + 1) a0) := by
 intro a0 k
 have ih0 := cmp_Or_int.mono_l k
 unfold cmp_Or_int.f
 with_reducible repeat' first | exact ih0 .. | exact LeO.refl _ | exact LeO.none _ | refine LeO.ite ?_ ?_ | refine LeO.bind ?_ fun _ => ?_
theorem cmp_Or_int.calls (k : Nat) (A0 : Option Addr) (c0 : Nat) (l0 : List Int) (r : Int) (w : World) (d6 : Kd.C (Kd.int .i64) w A0 l0.length l0) (d7 : l0.length ≤ c0) (h : cmp_Or_int.f k l0 = some r) :
  Calls Try.prog 98 #[.slice A0 l0.length c0] w fun e w' => e = .returned (.int .i64 r) ∧ Drawn0 w w' := by
 have h2 := Aside0.mk d6
 have j3 := Aside0.mk d7
 clear d6 d7
 have H : (cmp_Or_int.l0 k 0 l0 (l0.length : Int) 0) = some r := h
 clear h
 have H' := Aside0.mk H
 clear H
 go_enter Try.func98, Try.ntmps98
 go_wp2
 go_loopg [8] k (fun kq v8 w' => ∃ (b4 : Int), v8 = .int .i64 b4 ∧ Aside0 (cmp_Or_int.l0 kq 0 l0 (l0.length : Int) b4 = some r) ∧ Aside0 (kq ≤ k) ∧ Drawn0 w w')
 case atStart => exact ⟨(0), eqs, H', ⟨Nat.le_refl _⟩, drw⟩
 case round =>
  clear H'
  obtain ⟨b4, rfl, HA, d8, ⟨m1, rfl⟩⟩ := hrel
  cases gk with
  | zero => exact absurd HA.out (by simp [cmp_Or_int.l0])
  | succ k1 =>
   have H := HA.out
   clear HA
   simp only [cmp_Or_int.l0] at H
   by_cases c2 : b4 < (l0.length : Int)
   rotate_left
   ·rw [if_neg c2] at H
    have e3 := decide_eq_false c2
    clear c2
    obtain rfl := Option.some.inj H
    go_wp2
    go_ret
    exact ⟨by first | rfl | (simp; done) | (simp [*]; done), drw⟩
   rw [if_pos c2] at H
   have e3 := decide_eq_true c2
   clear c2
   obtain ⟨c3, H⟩ := itn H
   have j2 := decide_eq_true c3
   clear c3
   obtain ⟨c4, H⟩ := itn H
   have j1 := decide_eq_true c4
   clear c4
   by_cases c5 : (rd l0 b4) = 0
   rw [if_pos c5] at H
   have e2 := beq_iff_eq.mpr c5
   have e1 := bne_eq_false_iff_eq.mpr c5
   clear c5
   have H' := Aside0.mk H
   clear H
   rotate_left
   rw [if_neg c5] at H
   have e2 := beq_eq_false_iff_ne.mpr c5
   have e1 := bne_iff_ne.mpr c5
   obtain rfl := Option.some.inj H
   all_goals
    have d1 : 0 ≤ b4 := odt
    have d0 : b4 < (l0.length : Int) := odt
    obtain ⟨h5, d9, e5⟩ := Kd.at_int h2.out b4 d1 d0
    cases d9
    replace d1 := eq_true d1
    replace d0 := eq_true d0
    go_wp2
   ·go_ret
    exact ⟨by first | rfl | (simp; done) | (simp [*]; done), drw⟩
   ·go_roundg k1
    case measure => have := d8.out; omega
    case rel => exact ⟨(wrap64 (b4 + 1)), eqs, H', ⟨by have := d8.out; omega⟩, drw⟩
def statistic_compare.f (k : Nat) (b3 : Int) (b2 : Int) (b1 : Int) (c1 : Int) (b0 : Int) (a9 : Int) (a8 : Int) (b9 : Int) : Option (Int) := (cmp_Or_int.f k (([wrap64 (b3 - b0), wrap64 (b2 - a9), wrap64 (b1 - a8)] : List Int))).bind fun b5 => (some b5)
theorem statistic_compare.mono : ∀ a0 a1 a2 a3 a4 a5 a6 a7 k, LeO (statistic_compare.f k a0 a1 a2 a3 a4 a5 a6 a7) (statistic_compare.f (k + 1) a0 a1 a2 a3 a4 a5 a6 a7) := by
 intro a0 a1 a2 a3 a4 a5 a6 a7 k
 unfold statistic_compare.f
 with_reducible repeat' first | exact cmp_Or_int.mono .. | exact LeO.refl _ | exact LeO.none _ | refine LeO.ite ?_ ?_ | refine LeO.bind ?_ fun _ => ?_
theorem statistic_compare.calls (k : Nat) (b3 : Int) (b2 : Int) (b1 : Int) (c1 : Int) (b0 : Int) (a9 : Int) (a8 : Int) (b9 : Int) (r : Int) (w : World) (h : statistic_compare.f k b3 b2 b1 c1 b0 a9 a8 b9 = some r) :
  Calls Try.prog 78 #[.agg #[.int .i64 b3, .int .i64 b2, .int .i64 b1, .int .i64 c1], .agg #[.int .i64 b0, .int .i64 a9, .int .i64 a8, .int .i64 b9]] w fun e w' => e = .returned (.int .i64 r) ∧ Below w.heap.size w w' := by
 have hu88 := Try.underlying88
 have HB := Aside0.mk (Below.refl w.heap.size w)
 have H : ((cmp_Or_int.f k (([wrap64 (b3 - b0), wrap64 (b2 - a9), wrap64 (b1 - a8)] : List Int))).bind fun b5 => (some b5)) = some r := h
 clear h
 obtain ⟨c9, b6⟩ : ∃ y_ : List Int, y_ = (([wrap64 (b3 - b0), wrap64 (b2 - a9), wrap64 (b1 - a8)] : List Int)) := ⟨_, rfl⟩
 replace H : ((cmp_Or_int.f k c9).bind fun b5 => (some b5)) = some r := by first | (rw [b6]; with_reducible exact H) | (have H2_ := (Option.bind_some _ _).symm.trans H; rw [b6]; with_reducible exact H2_) | (have H2_ := (Option.bind_some _ _).symm.trans H; with_reducible exact H2_) | with_reducible exact H | (rw [b6]; exact H) | exact H
 have d2 := Aside0.mk b6
 clear b6
 obtain ⟨b5, A3, H⟩ := obA H
 obtain rfl := Option.some.inj H
 go_enter Try.func78, Try.ntmps78
 go_wp2_with (first | ((with_reducible refine gate_dst (N := 2) rfl ?_); refine be 2 #[.int .i64 b3, .int .i64 b2, .int .i64 b1, .int .i64 c1] 88 ?_; intro h4 hg w4 hbox hb; have b7 := Aside0.mk (hbox); have h7 := bsz HB hg; replace HB := bstep HB hb; clear hb hbox hg) | ((with_reducible refine gate_dst (N := 3) rfl ?_); refine be 3 #[.int .i64 b0, .int .i64 a9, .int .i64 a8, .int .i64 b9] 88 ?_; intro h3 hg w5 hbox hb; have d5 := Aside0.mk (hbox); have h6 := bsz HB hg; replace HB := bstep HB hb; have c8 := blt b7 hg; have c7 := bgt b7 hg; replace b7 := bkb b7 hb; clear hb hbox hg; have j0 := c8.out; have h9 := c7.out; obtain ⟨h1, h0, g9, g8, g3, g2, g1, g0⟩ := cz4 b7; obtain ⟨g7, g6, g5, g4, e9, e8, e7, e6⟩ := cz4 d5) | ((with_reducible refine gate_dst (N := 20) rfl ?_); refine Kd.R_lit (Kd.int .i64) _ 3 ?hg (N := 20) ?hd (xs := ([wrap64 (b3 - b0), wrap64 (b2 - a9), wrap64 (b1 - a8)] : List Int)) (inner := [.int .i64 (wrap64 (b3 - b0)), .int .i64 (wrap64 (b2 - a9)), .int .i64 (wrap64 (b1 - a8))]) (ok := fun _ => True) (okp := fun _ => True) ?hr ?hp (fun _ hk => hk) trivial (Below.refl _ _) (Nat.le_refl _) (by simp) ?_; (case hd => rfl); (case hg => rfl); (case hr => first | (go_simp; done) | (go_simp; rfl)); (case hp => exact (Reps.one (show Kd.M (Kd.int .i64) _ _ _ (wrap64 (b3 - b0)) [.int .i64 (wrap64 (b3 - b0))] from rfl) (Reps.one (show Kd.M (Kd.int .i64) _ _ _ (wrap64 (b2 - a9)) [.int .i64 (wrap64 (b2 - a9))] from rfl) (Reps.one (show Kd.M (Kd.int .i64) _ _ _ (wrap64 (b1 - a8)) [.int .i64 (wrap64 (b1 - a8))] from rfl) (Reps.none _ _))))); intro h8 w9 b8 hb hg_ hnew_; clear hg_ hnew_; (first | rw [← d2.out] at b8 | (simp only [Int.reduceToNat] at b8; rw [← d2.out] at b8)); have c6 := Aside0.mk (Kd.R_lower b8 (below_size (bb HB))); replace HB := bstep HB hb; clear hb b8; obtain ⟨e4, e0, eo11⟩ := Kd.R_slice c6.out; subst eo11) | ((with_reducible refine gate_callee (f := 98) rfl ?_); refine gl 21 Try.func98 #[.slice e4 c9.length e0] (h := ?_); (with_reducible refine (cmp_Or_int.calls k _ _ c9 b5 _ ?d4 ?d3 A3.out).mono ?_); (case d4 => repeat (first | exact (Kd.R_reads' c6.out).2.2 | (with_reducible refine Kd.C_alloc ?_ _) | (with_reducible refine Kd.C_drewN ?_ _) | (with_reducible refine Kd.C_drew ?_))); (case d3 => exact (Kd.R_reads' c6.out).2.1); rintro e w' ⟨rfl, ⟨nd, rfl⟩⟩; refine ⟨_, rfl, ?_⟩))
 go_ret
 exact ⟨erf, bb HB⟩
end Go.Proofs.Ytfpianecohobjaa.P
