/- StatisticOf: a part of its proof. No condition. -/
import Derived.Test.YtfpianecohobjaaVPx0
import Derived.Test.YtfpianecohobjaaVH1
namespace Go.Proofs.Ytfpianecohobjaa.P
open Go.RowKit Go.Proofs.YtfpianecohobjaaW.PrintWords Go.Proofs.YtfpianecohobjaaW.PrintLast Go.Proofs.YtfpianecohobjaaW.PrintMore
set_option maxHeartbeats 8000000
set_option maxRecDepth 100000
set_option linter.unusedVariables false
set_option linter.unusedSimpArgs false
def graph_Valid.j0 : Nat → Bool → List Int → List (S39) → Option (Int)
 | 0, _, _, _ => none
 | k + 1, g1, b2, c5 => if g1 = true then (some 3) else ((any_graph1.f b2).bind fun b6 => (if b6 = true then (some 6) else ((any_graph2.f c5 b2).bind fun b5 => (if b5 = true then (some 6) else (some 0)))))
def graph_Valid.f (k : Nat) (a2 : List Int) (a4 : List (S39)) : Option (Int) := if (a2.length : Int) > 40 then (graph_Valid.j0 k true a2 a4) else (graph_Valid.j0 k (decide ((a4.length : Int) > 80)) a2 a4)
theorem graph_Valid.mono_l : ∀ k, (∀ y0 y1 y2, LeO (graph_Valid.j0 k y0 y1 y2) (graph_Valid.j0 (k + 1) y0 y1 y2))
 | 0 => by (intros; intro r h; simp [graph_Valid.j0] at h)
 | k + 1 => by
  have ih0 := graph_Valid.mono_l k
  (intros; first | unfold graph_Valid.j0)
  all_goals with_reducible repeat' first | exact ih0 .. | exact LeO.refl _ | exact LeO.none _ | refine LeO.ite ?_ ?_ | refine LeO.bind ?_ fun _ => ?_
theorem graph_Valid.mono : ∀ a0 a1 k, LeO (graph_Valid.f k a0 a1) (graph_Valid.f (k + 1) a0 a1) := by
 intro a0 a1 k
 have ih0 := graph_Valid.mono_l k
 unfold graph_Valid.f
 with_reducible repeat' first | exact ih0 .. | exact LeO.refl _ | exact LeO.none _ | refine LeO.ite ?_ ?_ | refine LeO.bind ?_ fun _ => ?_
theorem graph_Valid.calls (k : Nat) (a6 : Option Addr) (a5 : Nat) (a2 : List Int) (a8 : Option Addr) (a7 : Nat) (a4 : List (S39)) (r : Int) (w : World) (b8 : Kd.C (Kd.int .i64) w a6 a2.length a2) (c0 : a2.length ≤ a5) (b7 : Kd.C k39 w a8 a4.length a4) (b9 : a4.length ≤ a7) (h : graph_Valid.f k a2 a4 = some r) :
  Calls Try.prog 75 #[.agg #[.slice a6 a2.length a5, .slice a8 a4.length a7]] w fun e w' => e = .returned (.int .i64 r) ∧ Below w.heap.size w w' := by
 have hu59 := Try.underlying59
 have b3 := Aside0.mk b8
 have b4 := Aside0.mk c0
 clear b8 c0
 have c2 := Aside0.mk b7
 have c3 := Aside0.mk b9
 clear b7 b9
 have HB := Aside0.mk (Below.refl w.heap.size w)
 have H : (if (a2.length : Int) > 40 then (graph_Valid.j0 k true a2 a4) else (graph_Valid.j0 k (decide ((a4.length : Int) > 80)) a2 a4)) = some r := h
 clear h
 have c6 := Aside0.mk H
 clear H
 go_enter Try.func75, Try.ntmps75
 go_upto_region 1 with (first | ((with_reducible refine gate_dst (N := 1) rfl ?_); (try (refine gate_guard (by rfl) ?_; dsimp only)); refine be 1 #[.slice a6 a2.length a5, .slice a8 a4.length a7] 59 ?_; intro a9 hg w3 hbox hb; have a3 := Aside0.mk (hbox); have g7 := bsz HB hg; replace HB := bstep HB hb; clear hb hbox hg))
 (try simp only [Act.put, List.setIfInBounds_toArray, List.set_cons_zero, List.set_cons_succ])
 go_cut [12] (fun g2 wc => ∃ (kq : Nat) (b0 : Bool), g2 = .bool b0 ∧ Aside0 (graph_Valid.j0 kq b0 a2 a4 = some r) ∧ Aside0 (kq ≤ k) ∧ Aside0 (wc.heap[a9]? = some (.cells #[(.slice a6 a2.length a5), (.slice a8 a4.length a7)] 59 (0, 0))) ∧ Aside0 (Below w.heap.size w wc))
 case first =>
  have H := c6.out
  clear c6
  by_cases c4 : (a2.length : Int) > 40
  rw [if_pos c4] at H
  have b1 : decide (40 < (a2.length : Int)) = true := decide_eq_true c4
  have d0 : decide (40 < a2.length) = true := decide_eq_true (by omega)
  clear c4
  (first | rw [b1] | (simp only [i64_w, i32_w]; rw [b1]) | skip)
  have H' := Aside0.mk H
  clear H
  rotate_left
  rw [if_neg c4] at H
  have b1 : decide (40 < (a2.length : Int)) = false := decide_eq_false c4
  have d0 : decide (40 < a2.length) = false := decide_eq_false (by omega)
  clear c4
  (first | rw [b1] | (simp only [i64_w, i32_w]; rw [b1]) | skip)
  have H' := Aside0.mk H
  clear H
  all_goals
   obtain ⟨g6, g5, g4, g3⟩ := cz2 a3
   go_wp2
   go_meet
   case rel => exact ⟨_, _, eqs, H', ⟨by first | omega | exact Nat.le_refl _⟩, ⟨bk a3⟩, ⟨bb HB⟩⟩
 case rest =>
  clear c6
  obtain ⟨kq, b0, rfl, HA, h4, a3, HB⟩ := hcut
  cases kq with
  | zero => exact absurd HA.out (by simp [graph_Valid.j0])
  | succ h3 =>
   have H := HA.out
   clear HA
   simp only [graph_Valid.j0] at H
   by_cases c7 : b0 = true
   ·subst c7
    replace H := ift H
    obtain rfl := Option.some.inj H
    go_wp2
    go_ret
    exact ⟨erf, bb HB⟩
   replace c7 := Bool.eq_false_iff.mpr c7
   subst c7
   replace H := iff_ H
   obtain ⟨b6, A8, H⟩ := obA H
   by_cases c9 : b6 = true
   ·subst c9
    replace H := ift H
    obtain rfl := Option.some.inj H
    obtain ⟨g0, e9, e0, d9⟩ := cz2 a3
    go_wp2_with (first | ((with_reducible refine gate_callee (f := 70) rfl ?_); refine gl 15 Try.func70 #[.slice a6 a2.length a5, .func (.func 93) #[] #[]] (h := ?_); (with_reducible refine (any_graph1.calls _ _ a2  true _ (cb b3 HB) b4.out A8.out).mono ?_); rintro e h2 ⟨rfl, hb⟩; refine ⟨_, rfl, ?_⟩; replace a3 := bkb a3 hb; replace HB := bstep HB hb; clear hb))
    go_ret
    exact ⟨erf, bb HB⟩
   replace c9 := Bool.eq_false_iff.mpr c9
   subst c9
   replace H := iff_ H
   obtain ⟨b5, c8, H⟩ := obA H
   by_cases c1 : b5 = true
   ·subst c1
    replace H := ift H
    obtain rfl := Option.some.inj H
    obtain ⟨e8, e7, d8, d7⟩ := cz2 a3
    go_wp2_with (first | ((with_reducible refine gate_callee (f := 70) rfl ?_); refine gl 15 Try.func70 #[.slice a6 a2.length a5, .func (.func 93) #[] #[]] (h := ?_); (with_reducible refine (any_graph1.calls _ _ a2  false _ (cb b3 HB) b4.out A8.out).mono ?_); rintro e h1 ⟨rfl, hb⟩; refine ⟨_, rfl, ?_⟩; replace a3 := bkb a3 hb; replace HB := bstep HB hb; clear hb; obtain ⟨e6, e5, d6, d5⟩ := cz2 a3) | ((with_reducible refine gate_callee (f := 95) rfl ?_); refine gl 19 Try.func95 #[.slice a8 a4.length a7, .func (.func 96) #[] #[.pointer (some ⟨a9, 0, none⟩)]] (h := ?_); (with_reducible refine (any_graph2.calls _ _ a4 a9 a6 a5 a2 (.slice a8 a4.length a7) true _ (cb c2 HB) c3.out (bk a3) c8.out).mono ?_); rintro e h0 ⟨rfl, hb⟩; refine ⟨_, rfl, ?_⟩; replace a3 := bkb a3 hb; replace HB := bstep HB hb; clear hb))
    go_ret
    exact ⟨erf, bb HB⟩
   replace c1 := Bool.eq_false_iff.mpr c1
   subst c1
   replace H := iff_ H
   obtain rfl := Option.some.inj H
   obtain ⟨e4, e3, d4, d3⟩ := cz2 a3
   go_wp2_with (first | ((with_reducible refine gate_callee (f := 70) rfl ?_); refine gl 15 Try.func70 #[.slice a6 a2.length a5, .func (.func 93) #[] #[]] (h := ?_); (with_reducible refine (any_graph1.calls _ _ a2  false _ (cb b3 HB) b4.out A8.out).mono ?_); rintro e g9 ⟨rfl, hb⟩; refine ⟨_, rfl, ?_⟩; replace a3 := bkb a3 hb; replace HB := bstep HB hb; clear hb; obtain ⟨e2, e1, d2, d1⟩ := cz2 a3) | ((with_reducible refine gate_callee (f := 95) rfl ?_); refine gl 19 Try.func95 #[.slice a8 a4.length a7, .func (.func 96) #[] #[.pointer (some ⟨a9, 0, none⟩)]] (h := ?_); (with_reducible refine (any_graph2.calls _ _ a4 a9 a6 a5 a2 (.slice a8 a4.length a7) false _ (cb c2 HB) c3.out (bk a3) c8.out).mono ?_); rintro e g8 ⟨rfl, hb⟩; refine ⟨_, rfl, ?_⟩; replace HB := bstep HB hb; clear hb))
   go_ret
   exact ⟨erf, bb HB⟩
end Go.Proofs.Ytfpianecohobjaa.P
