/- StatisticOf: a part of its proof. No condition. -/
import Derived.Test.YtfpianecohobjaaVPx0
import Derived.Test.YtfpianecohobjaaVH1
namespace Go.Proofs.Ytfpianecohobjaa.P
open Go.RowKit Go.Proofs.YtfpianecohobjaaW.PrintWords Go.Proofs.YtfpianecohobjaaW.PrintLast Go.Proofs.YtfpianecohobjaaW.PrintMore
set_option maxHeartbeats 8000000
set_option maxRecDepth 100000
set_option linter.unusedVariables false
set_option linter.unusedSimpArgs false
def statistic_is.f (a0 : Int) (a1 : Int) : Option (Bool) := if a0 ≥ 0 then (some (decide (a0 < a1))) else (some false)
theorem statistic_is.calls (a0 : Int) (a1 : Int) (r : Bool) (w : World) (h : statistic_is.f a0 a1 = some r) :
  Calls Try.prog 58 #[.int .i64 a0, .int .i64 a1] w fun e w' => e = .returned (.bool r) ∧ Drawn0 w w' := by
 have H : (if a0 ≥ 0 then (some (decide (a0 < a1))) else (some false)) = some r := h
 clear h
 by_cases c3 : a0 ≥ 0
 ·rw [if_pos c3] at H
  have c9 : decide (0 ≤ a0) = true := decide_eq_true c3
  clear c3
  obtain rfl := Option.some.inj H
  go_enter Try.func58, Try.ntmps58
  go_wp2
  go_ret
  exact ⟨by first | rfl | (simp; done) | (simp [*]; done), drw⟩
 rw [if_neg c3] at H
 have c9 : decide (0 ≤ a0) = false := decide_eq_false c3
 clear c3
 obtain rfl := Option.some.inj H
 go_enter Try.func58, Try.ntmps58
 go_wp2
 go_ret
 exact ⟨by first | rfl | (simp; done) | (simp [*]; done), drw⟩
def statistic_total.l0 : Nat → Int → List (S88) → Int → Int → Option (Int)
 | 0, _, _, _, _ => none
 | k + 1, x3, x6, x7, x8 => if x8 < x7 then (if 0 ≤ x8 then (if x8 < (x6.length : Int) then (statistic_total.l0 k (wrap64 (x3 + ((rd_T88 x6 x8).f3))) x6 x7 (wrap64 (x8 + 1))) else (none)) else (none)) else (some x3)
def statistic_total.f (k : Nat) (l0 : List (S88)) : Option (Int) := statistic_total.l0 k 0 l0 (l0.length : Int) 0
theorem statistic_total.mono_l : ∀ k, (∀ y0 y1 y2 y3, LeO (statistic_total.l0 k y0 y1 y2 y3) (statistic_total.l0 (k + 1) y0 y1 y2 y3))
 | 0 => by (intros; intro r h; simp [statistic_total.l0] at h)
 | k + 1 => by
  have ih0 := statistic_total.mono_l k
  (intros; first | unfold statistic_total.l0)
  all_goals with_reducible repeat' first | exact ih0 .. | exact LeO.refl _ | exact LeO.none _ | refine LeO.ite ?_ ?_ | refine LeO.bind ?_ fun _ => ?_
theorem statistic_total.mono : ∀ a0 k, LeO (statistic_total.f k a0) (statistic_total.f (k + 1) a0) := by
 intro a0 k
 have ih0 := statistic_total.mono_l k
 unfold statistic_total.f
 with_reducible repeat' first | exact ih0 .. | exact LeO.refl _ | exact LeO.none _ | refine LeO.ite ?_ ?_ | refine LeO.bind ?_ fun _ => ?_
theorem statistic_total.calls (k : Nat) (A0 : Option Addr) (c0 : Nat) (l0 : List (S88)) (r : Int) (w : World) (d4 : Kd.C k88 w A0 l0.length l0) (d5 : l0.length ≤ c0) (h : statistic_total.f k l0 = some r) :
  Calls Try.prog 81 #[.slice A0 l0.length c0] w fun e w' => e = .returned (.int .i64 r) ∧ Below w.heap.size w w' := by
 have hu88 := Try.underlying88
 have g1 := Aside0.mk d4
 have h3 := Aside0.mk d5
 clear d4 d5
 have HB := Aside0.mk (Below.refl w.heap.size w)
 have H : (statistic_total.l0 k 0 l0 (l0.length : Int) 0) = some r := h
 clear h
 have H' := Aside0.mk H
 clear H
 go_enter Try.func81, Try.ntmps81
 go_wp2
 go_loopg [3, 8] k (fun kq v3 v8 w' => ∃ (b1 : Int) (a3 : Int), v3 = .int .i64 b1 ∧ v8 = .int .i64 a3 ∧ Aside0 (statistic_total.l0 kq b1 l0 (l0.length : Int) a3 = some r) ∧ Aside0 (kq ≤ k) ∧ Aside0 (Below w.heap.size w w'))
 case atStart => exact ⟨(0), (0), eqs, eqs, H', ⟨Nat.le_refl _⟩, ⟨bb HB⟩⟩
 case round =>
  clear H'
  obtain ⟨b1, a3, rfl, rfl, HA, d6, HB⟩ := hrel
  cases gk with
  | zero => exact absurd HA.out (by simp [statistic_total.l0])
  | succ k1 =>
   have H := HA.out
   clear HA
   simp only [statistic_total.l0] at H
   by_cases c2 : a3 < (l0.length : Int)
   rotate_left
   ·rw [if_neg c2] at H
    have d8 := decide_eq_false c2
    clear c2
    obtain rfl := Option.some.inj H
    go_wp2
    go_ret
    exact ⟨erf, bb HB⟩
   rw [if_pos c2] at H
   have d8 := decide_eq_true c2
   clear c2
   obtain ⟨c3, H⟩ := itn H
   have c9 := decide_eq_true c3
   clear c3
   obtain ⟨c4, H⟩ := itn H
   have h2 := decide_eq_true c4
   clear c4
   have H' := Aside0.mk H
   clear H
   have b7 : 0 ≤ a3 := odt
   have b6 : a3 < (l0.length : Int) := odt
   obtain ⟨g4, d7, b0, a9, a8, a7⟩ := at_T88 g1.out a3 b7 b6
   cases d7
   replace b0 := hxc HB b0
   replace a9 := hxc HB a9
   replace a8 := hxc HB a8
   replace a7 := hxc HB a7
   replace b7 := eq_true b7
   replace b6 := eq_true b6
   go_wp2_with (first | ((with_reducible refine gate_dst (N := 5) rfl ?_); refine be 5 #[.int .i64 0, .int .i64 0, .int .i64 0, .int .i64 0] 88 ?_; intro g3 hg w5 hbox hb; have d3 := Aside0.mk (hbox); have g9 := bsz HB hg; replace HB := bstep HB hb; clear hb hbox hg; obtain ⟨g0, e9, e8, e7, e4, e3, e2, e1⟩ := cz4 d3))
   go_roundg k1
   case measure => have := d6.out; omega
   case rel => exact ⟨(wrap64 (b1 + ((rd_T88 l0 a3).f3))), (wrap64 (a3 + 1)), eqs, eqs, H', ⟨by have := d6.out; omega⟩, ⟨bb HB⟩⟩
def statistic_has.f (a2 : List (S88)) (a4 : List (S88)) (a1 : Int) : Option (Bool) := (any_has.f a2 a1).bind fun a6 => (some a6)
theorem statistic_has.calls (b3 : Option Addr) (b2 : Nat) (a2 : List (S88)) (b9 : Option Addr) (b8 : Nat) (a4 : List (S88)) (a1 : Int) (r : Bool) (w : World) (c5 : Kd.C k88 w b3 a2.length a2) (c7 : a2.length ≤ b2) (c1 : Kd.C k88 w b9 a4.length a4) (c6 : a4.length ≤ b8) (h : statistic_has.f a2 a4 a1 = some r) :
  Calls Try.prog 82 #[.agg #[.slice b3 a2.length b2, .slice b9 a4.length b8], .int .i64 a1] w fun e w' => e = .returned (.bool r) ∧ Below w.heap.size w w' := by
 have hu64 := Try.underlying64
 have d0 := Aside0.mk c5
 have d1 := Aside0.mk c7
 clear c5 c7
 have g5 := Aside0.mk c1
 have g6 := Aside0.mk c6
 clear c1 c6
 have HB := Aside0.mk (Below.refl w.heap.size w)
 have H : ((any_has.f a2 a1).bind fun a6 => (some a6)) = some r := h
 clear h
 obtain ⟨a6, A3, H⟩ := obA H
 obtain rfl := Option.some.inj H
 go_enter Try.func82, Try.ntmps82
 go_wp2_with (first | ((with_reducible refine gate_dst (N := 2) rfl ?_); refine be 2 #[.slice b3 a2.length b2, .slice b9 a4.length b8] 64 ?_; intro g2 hg w4 hbox hb; have a5 := Aside0.mk (hbox); have g8 := bsz HB hg; replace HB := bstep HB hb; clear hb hbox hg) | ((with_reducible refine gate_dst (N := 3) rfl ?_); refine be 3 #[.int .i64 a1] 3 ?_; intro c8 hg w5 hbox hb; have d2 := Aside0.mk (hbox); have g7 := bsz HB hg; replace HB := bstep HB hb; have b5 := blt a5 hg; have b4 := bgt a5 hg; replace a5 := bkb a5 hb; clear hb hbox hg; have h1 := b5.out; have h0 := b4.out; obtain ⟨e6, e5, e0, d9⟩ := cz2 a5) | ((with_reducible refine gate_callee (f := 101) rfl ?_); refine gl 8 Try.func101 #[.slice b3 a2.length b2, .func (.func 102) #[] #[.pointer (some ⟨c8, 0, none⟩)]] (h := ?_); (with_reducible refine (any_has.calls _ _ a2 c8 a1 a6 _ (cb d0 HB) d1.out (bk d2) A3.out).mono ?_); rintro e w8 ⟨rfl, hb⟩; refine ⟨_, rfl, ?_⟩; replace HB := bstep HB hb; clear hb))
 go_ret
 exact ⟨erf, bb HB⟩
end Go.Proofs.Ytfpianecohobjaa.P
