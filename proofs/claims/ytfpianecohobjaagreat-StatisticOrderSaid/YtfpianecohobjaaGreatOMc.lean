/- StatisticOf: a part of its proof. No condition. -/
import Derived.Test.YtfpianecohobjaaGreatOPx0
import Derived.Test.YtfpianecohobjaaGreatOH0
import Derived.Test.YtfpianecohobjaaGreatOH1
namespace Go.Proofs.YtfpianecohobjaaGreat.P
open Go.RowKit Go.Proofs.YtfpianecohobjaaGreatW.PrintWords Go.Proofs.YtfpianecohobjaaGreatW.PrintLast Go.Proofs.YtfpianecohobjaaGreatW.PrintMore
set_option maxHeartbeats 8000000
set_option maxRecDepth 100000
set_option linter.unusedVariables false
set_option linter.unusedSimpArgs false
def graph_Valid.j0 : Nat → Bool → List Int → List (S56) → Option (Int)
 | 0, _, _, _ => none
 | k + 1, h9, b8, d9 => if h9 = true then (some 3) else ((any_graph1.f b8).bind fun d0 => (if d0 = true then (some 6) else ((any_graph2.f d9 b8).bind fun c6 => (if c6 = true then (some 6) else (some 0)))))
def graph_Valid.f (k : Nat) (a2 : List Int) (a5 : List (S56)) : Option (Int) := if (a2.length : Int) > 40 then (graph_Valid.j0 k true a2 a5) else (graph_Valid.j0 k (decide ((a5.length : Int) > 80)) a2 a5)
theorem graph_Valid.mono_l : ∀ k, (∀ y0 y1 y2, LeO (graph_Valid.j0 k y0 y1 y2) (graph_Valid.j0 (k + 1) y0 y1 y2))
 | 0 => by (intros; intro r h; simp [graph_Valid.j0] at h)
 | k + 1 => by
  have ih0 := graph_Valid.mono_l k
  (intros; first | unfold graph_Valid.j0)
  all_goals with_reducible repeat' first | exact ih0 .. | exact LeO.refl _ | exact LeO.none _ | refine LeO.ite ?_ ?_ | refine LeO.bind ?_ fun _ => ?_
theorem graph_Valid.mono : ∀ a0 a1 k, LeO (graph_Valid.f k a0 a1) (graph_Valid.f (k + 1) a0 a1) := by
 intro a0 a1 k
 have ih0 := graph_Valid.mono_l k
 unfold graph_Valid.f
 with_reducible repeat' first | exact ih0 .. | exact LeO.refl _ | exact LeO.none _ | refine LeO.ite ?_ ?_ | refine LeO.bind ?_ fun _ => ?_
theorem graph_Valid.calls (k : Nat) (a7 : Option Addr) (a6 : Nat) (a2 : List Int) (b0 : Option Addr) (a9 : Nat) (a5 : List (S56)) (r : Int) (w : World) (d2 : Kd.C (Kd.int .i64) w a7 a2.length a2) (d4 : a2.length ≤ a6) (d1 : Kd.C k56 w b0 a5.length a5) (d3 : a5.length ≤ a9) (h : graph_Valid.f k a2 a5 = some r) :
  Calls Tryz.prog 37 #[.agg #[.slice a7 a2.length a6, .slice b0 a5.length a9]] w fun e w' => e = .returned (.int .i64 r) ∧ Below w.heap.size w w' := by
 have hu35 := Tryz.underlying35
 have c0 := Aside0.mk d2
 have c1 := Aside0.mk d4
 clear d2 d4
 have d7 := Aside0.mk d1
 have d8 := Aside0.mk d3
 clear d1 d3
 have HB := Aside0.mk (Below.refl w.heap.size w)
 have H : (if (a2.length : Int) > 40 then (graph_Valid.j0 k true a2 a5) else (graph_Valid.j0 k (decide ((a5.length : Int) > 80)) a2 a5)) = some r := h
 clear h
 have e2 := Aside0.mk H
 clear H
 go_enter Tryz.func37, Tryz.ntmps37
 go_upto_region 1 with (first | ((with_reducible refine gate_dst (N := 1) rfl ?_); (try (refine gate_guard (by rfl) ?_; dsimp only)); refine be 1 #[.slice a7 a2.length a6, .slice b0 a5.length a9] 35 ?_; intro b2 hg w3 hbox hb; have a3 := Aside0.mk (hbox); have j7 := bsz HB hg; replace HB := bstep HB hb; clear hb hbox hg))
 (try simp only [Act.put, List.setIfInBounds_toArray, List.set_cons_zero, List.set_cons_succ])
 go_cut [12] (fun j2 wc => ∃ (kq : Nat) (b6 : Bool), j2 = .bool b6 ∧ Aside0 (graph_Valid.j0 kq b6 a2 a5 = some r) ∧ Aside0 (kq ≤ k) ∧ Aside0 (wc.heap[b2]? = some (.cells #[(.slice a7 a2.length a6), (.slice b0 a5.length a9)] 35 (0, 0))) ∧ Aside0 (Below w.heap.size w wc))
 case first =>
  have H := e2.out
  clear e2
  by_cases c4 : (a2.length : Int) > 40
  rw [if_pos c4] at H
  have b1 : decide (40 < (a2.length : Int)) = true := decide_eq_true c4
  have e5 : decide (40 < a2.length) = true := decide_eq_true (by omega)
  clear c4
  (first | rw [b1] | (simp only [i64_w, i32_w]; rw [b1]) | skip)
  have H' := Aside0.mk H
  clear H
  rotate_left
  rw [if_neg c4] at H
  have b1 : decide (40 < (a2.length : Int)) = false := decide_eq_false c4
  have e5 : decide (40 < a2.length) = false := decide_eq_false (by omega)
  clear c4
  (first | rw [b1] | (simp only [i64_w, i32_w]; rw [b1]) | skip)
  have H' := Aside0.mk H
  clear H
  all_goals
   obtain ⟨j6, j5, j4, j3⟩ := cz2 a3
   go_wp2
   go_meet
   case rel => exact ⟨_, _, eqs, H', ⟨by first | omega | exact Nat.le_refl _⟩, ⟨bk a3⟩, ⟨bb HB⟩⟩
 case rest =>
  clear e2
  obtain ⟨kq, b6, rfl, HA, m9, a3, HB⟩ := hcut
  cases kq with
  | zero => exact absurd HA.out (by simp [graph_Valid.j0])
  | succ m6 =>
   have H := HA.out
   clear HA
   simp only [graph_Valid.j0] at H
   by_cases c7 : b6 = true
   ·subst c7
    replace H := ift H
    obtain rfl := Option.some.inj H
    go_wp2
    go_ret
    exact ⟨erf, bb HB⟩
   replace c7 := Bool.eq_false_iff.mpr c7
   subst c7
   replace H := iff_ H
   obtain ⟨d0, A8, H⟩ := obA H
   by_cases c9 : d0 = true
   ·subst c9
    replace H := ift H
    obtain rfl := Option.some.inj H
    obtain ⟨h7, h6, g7, g6⟩ := cz2 a3
    go_wp2_with (first | ((with_reducible refine gate_callee (f := 68) rfl ?_); refine gl 15 Tryz.func68 #[.slice a7 a2.length a6, .func (.func 69) #[] #[]] (h := ?_); (with_reducible refine (any_graph1.calls _ _ a2  true _ (cb c0 HB) c1.out A8.out).mono ?_); rintro e m4 ⟨rfl, hb⟩; refine ⟨_, rfl, ?_⟩; replace a3 := bkb a3 hb; replace HB := bstep HB hb; clear hb))
    go_ret
    exact ⟨erf, bb HB⟩
   replace c9 := Bool.eq_false_iff.mpr c9
   subst c9
   replace H := iff_ H
   obtain ⟨c6, e4, H⟩ := obA H
   by_cases d5 : c6 = true
   ·subst d5
    replace H := ift H
    obtain rfl := Option.some.inj H
    obtain ⟨h5, h4, g5, g4⟩ := cz2 a3
    go_wp2_with (first | ((with_reducible refine gate_callee (f := 68) rfl ?_); refine gl 15 Tryz.func68 #[.slice a7 a2.length a6, .func (.func 69) #[] #[]] (h := ?_); (with_reducible refine (any_graph1.calls _ _ a2  false _ (cb c0 HB) c1.out A8.out).mono ?_); rintro e m3 ⟨rfl, hb⟩; refine ⟨_, rfl, ?_⟩; replace a3 := bkb a3 hb; replace HB := bstep HB hb; clear hb; obtain ⟨h3, h2, g3, g2⟩ := cz2 a3) | ((with_reducible refine gate_callee (f := 70) rfl ?_); refine gl 19 Tryz.func70 #[.slice b0 a5.length a9, .func (.func 71) #[] #[.pointer (some ⟨b2, 0, none⟩)]] (h := ?_); (with_reducible refine (any_graph2.calls _ _ a5 b2 a7 a6 a2 (.slice b0 a5.length a9) true _ (cb d7 HB) d8.out (bk a3) e4.out).mono ?_); rintro e m2 ⟨rfl, hb⟩; refine ⟨_, rfl, ?_⟩; replace a3 := bkb a3 hb; replace HB := bstep HB hb; clear hb))
    go_ret
    exact ⟨erf, bb HB⟩
   replace d5 := Bool.eq_false_iff.mpr d5
   subst d5
   replace H := iff_ H
   obtain rfl := Option.some.inj H
   obtain ⟨h1, h0, g1, g0⟩ := cz2 a3
   go_wp2_with (first | ((with_reducible refine gate_callee (f := 68) rfl ?_); refine gl 15 Tryz.func68 #[.slice a7 a2.length a6, .func (.func 69) #[] #[]] (h := ?_); (with_reducible refine (any_graph1.calls _ _ a2  false _ (cb c0 HB) c1.out A8.out).mono ?_); rintro e m1 ⟨rfl, hb⟩; refine ⟨_, rfl, ?_⟩; replace a3 := bkb a3 hb; replace HB := bstep HB hb; clear hb; obtain ⟨g9, g8, e9, e8⟩ := cz2 a3) | ((with_reducible refine gate_callee (f := 70) rfl ?_); refine gl 19 Tryz.func70 #[.slice b0 a5.length a9, .func (.func 71) #[] #[.pointer (some ⟨b2, 0, none⟩)]] (h := ?_); (with_reducible refine (any_graph2.calls _ _ a5 b2 a7 a6 a2 (.slice b0 a5.length a9) false _ (cb d7 HB) d8.out (bk a3) e4.out).mono ?_); rintro e m0 ⟨rfl, hb⟩; refine ⟨_, rfl, ?_⟩; replace a3 := bkb a3 hb; replace HB := bstep HB hb; clear hb))
   go_ret
   exact ⟨erf, bb HB⟩
def token_letter.f (a0 : Int) : Option (Bool) := if a0 ≥ 97 then (if a0 ≤ 122 then (some true) else (if a0 ≥ 65 then (some (decide (a0 ≤ 90))) else (some false))) else (if a0 ≥ 65 then (some (decide (a0 ≤ 90))) else (some false))
theorem token_letter.calls (a0 : Int) (r : Bool) (w : World) (h : token_letter.f a0 = some r) :
  Calls Tryz.prog 129 #[.int .u8 a0] w fun e w' => e = .returned (.bool r) ∧ Drawn0 w w' := by
 have H : (if a0 ≥ 97 then (if a0 ≤ 122 then (some true) else (if a0 ≥ 65 then (some (decide (a0 ≤ 90))) else (some false))) else (if a0 ≥ 65 then (some (decide (a0 ≤ 90))) else (some false))) = some r := h
 clear h
 by_cases c2 : a0 ≥ 97
 rotate_left
 ·rw [if_neg c2] at H
  have b7 : decide (97 ≤ a0) = false := decide_eq_false c2
  clear c2
  by_cases c5 : a0 ≥ 65
  ·rw [if_pos c5] at H
   have a8 : decide (65 ≤ a0) = true := decide_eq_true c5
   clear c5
   obtain rfl := Option.some.inj H
   go_enter Tryz.func129, Tryz.ntmps129
   go_wp2
   go_ret
   exact ⟨by first | rfl | (simp; done) | (simp [*]; done), drw⟩
  rw [if_neg c5] at H
  have a8 : decide (65 ≤ a0) = false := decide_eq_false c5
  clear c5
  obtain rfl := Option.some.inj H
  go_enter Tryz.func129, Tryz.ntmps129
  go_wp2
  go_ret
  exact ⟨by first | rfl | (simp; done) | (simp [*]; done), drw⟩
 rw [if_pos c2] at H
 have b7 : decide (97 ≤ a0) = true := decide_eq_true c2
 clear c2
 by_cases c3 : a0 ≤ 122
 ·rw [if_pos c3] at H
  have e6 := decide_eq_true c3
  clear c3
  obtain rfl := Option.some.inj H
  go_enter Tryz.func129, Tryz.ntmps129
  go_wp2
  go_ret
  exact ⟨by first | rfl | (simp; done) | (simp [*]; done), drw⟩
 rw [if_neg c3] at H
 have e6 := decide_eq_false c3
 clear c3
 by_cases c4 : a0 ≥ 65
 ·rw [if_pos c4] at H
  have b1 : decide (65 ≤ a0) = true := decide_eq_true c4
  clear c4
  obtain rfl := Option.some.inj H
  go_enter Tryz.func129, Tryz.ntmps129
  go_wp2
  go_ret
  exact ⟨by first | rfl | (simp; done) | (simp [*]; done), drw⟩
 rw [if_neg c4] at H
 have b1 : decide (65 ≤ a0) = false := decide_eq_false c4
 clear c4
 obtain rfl := Option.some.inj H
 go_enter Tryz.func129, Tryz.ntmps129
 go_wp2
 go_ret
 exact ⟨by first | rfl | (simp; done) | (simp [*]; done), drw⟩
def token_digit.f (a0 : Int) : Option (Bool) := if a0 ≥ 48 then (some (decide (a0 ≤ 57))) else (some false)
theorem token_digit.calls (a0 : Int) (r : Bool) (w : World) (h : token_digit.f a0 = some r) :
  Calls Tryz.prog 132 #[.int .u8 a0] w fun e w' => e = .returned (.bool r) ∧ Drawn0 w w' := by
 have H : (if a0 ≥ 48 then (some (decide (a0 ≤ 57))) else (some false)) = some r := h
 clear h
 by_cases c2 : a0 ≥ 48
 ·rw [if_pos c2] at H
  have b7 : decide (48 ≤ a0) = true := decide_eq_true c2
  clear c2
  obtain rfl := Option.some.inj H
  go_enter Tryz.func132, Tryz.ntmps132
  go_wp2
  go_ret
  exact ⟨by first | rfl | (simp; done) | (simp [*]; done), drw⟩
 rw [if_neg c2] at H
 have b7 : decide (48 ≤ a0) = false := decide_eq_false c2
 clear c2
 obtain rfl := Option.some.inj H
 go_enter Tryz.func132, Tryz.ntmps132
 go_wp2
 go_ret
 exact ⟨by first | rfl | (simp; done) | (simp [*]; done), drw⟩
def token_quoted.j0 : Nat → Int → Bool → Option (Int × Int)
 | 0, _, _ => none
 | k + 1, x4, h8 => if h8 = true then (some (0, 2)) else (if x4 > 60 then (some (0, 3)) else (some (wrap64 (x4 + 2), 0)))
def token_quoted.f (k : Nat) (a0 : ByteArray) : Option (Int × Int) := if 1 ≤ (a0.size : Int) then ((token_run_quoted.f (a0.extract 1 a0.size)).bind fun a4 => (if (wrap64 (1 + a4)) = (a0.size : Int) then (token_quoted.j0 k a4 true) else (if 0 ≤ (wrap64 (1 + a4)) then (if (wrap64 (1 + a4)) < (a0.size : Int) then (token_quoted.j0 k a4 ((bt a0 (wrap64 (1 + a4))) != 34)) else (none)) else (none)))) else (none)
theorem token_quoted.mono_l : ∀ k, (∀ y0 y1, LeO (token_quoted.j0 k y0 y1) (token_quoted.j0 (k + 1) y0 y1))
 | 0 => by (intros; intro r h; simp [token_quoted.j0] at h)
 | k + 1 => by
  have ih0 := token_quoted.mono_l k
  (intros; first | unfold token_quoted.j0)
  all_goals with_reducible repeat' first | exact ih0 .. | exact LeO.refl _ | exact LeO.none _ | refine LeO.ite ?_ ?_ | refine LeO.bind ?_ fun _ => ?_
theorem token_quoted.mono : ∀ a0 k, LeO (token_quoted.f k a0) (token_quoted.f (k + 1) a0) := by
 intro a0 k
 have ih0 := token_quoted.mono_l k
 unfold token_quoted.f
 with_reducible repeat' first | exact ih0 .. | exact LeO.refl _ | exact LeO.none _ | refine LeO.ite ?_ ?_ | refine LeO.bind ?_ fun _ => ?_
theorem token_quoted.calls (k : Nat) (a0 : ByteArray) (r1 : Int) (r2 : Int) (w : World) (h : token_quoted.f k a0 = some (r1, r2)) :
  Calls Tryz.prog 133 #[.string a0] w fun e w' => e = .returned (.tuple #[.int .i64 r1, .int .i64 r2]) ∧ Drawn0 w w' := by
 have H : (if 1 ≤ (a0.size : Int) then ((token_run_quoted.f (a0.extract 1 a0.size)).bind fun a4 => (if (wrap64 (1 + a4)) = (a0.size : Int) then (token_quoted.j0 k a4 true) else (if 0 ≤ (wrap64 (1 + a4)) then (if (wrap64 (1 + a4)) < (a0.size : Int) then (token_quoted.j0 k a4 ((bt a0 (wrap64 (1 + a4))) != 34)) else (none)) else (none)))) else (none)) = some (r1, r2) := h
 clear h
 obtain ⟨c2, H⟩ := itn H
 have b7 := eq_true c2
 have e7 := decide_eq_true c2
 clear c2
 obtain ⟨a4, A3, H⟩ := obA H
 have e1 := Aside0.mk H
 clear H
 go_enter Tryz.func133, Tryz.ntmps133
 go_upto_region 2 with (first | ((with_reducible refine gate_callee (f := 130) rfl ?_); refine gl 7 Tryz.func130 #[.string (a0.extract 1 a0.size), .func (.func 142) #[] #[]] (h := ?_); (with_reducible refine (token_run_quoted.calls (a0.extract 1 a0.size)  a4 _ A3.out).mono ?_); rintro e w' ⟨rfl, ⟨nd, rfl⟩⟩; refine ⟨_, rfl, ?_⟩))
 (try simp only [Act.put, List.setIfInBounds_toArray, List.set_cons_zero, List.set_cons_succ])
 go_cut [19] (fun j1 wc => ∃ (kq : Nat) (b5 : Bool), j1 = .bool b5 ∧ Aside0 (token_quoted.j0 kq a4 b5 = some (r1, r2)) ∧ Aside0 (kq ≤ k) ∧ Drawn0 w wc)
 case first =>
  have H := e1.out
  clear e1
  by_cases c5 : (wrap64 (1 + a4)) = (a0.size : Int)
  ·rw [if_pos c5] at H
   have a8 := beq_iff_eq.mpr c5
   have e0 := bne_eq_false_iff_eq.mpr c5
   clear c5
   (first | rw [a8] | (simp only [i64_w, i32_w]; rw [a8]) | skip)
   have H' := Aside0.mk H
   clear H
   go_wp2
   go_meet
   case rel => exact ⟨_, (true), eqs, H', ⟨by first | omega | exact Nat.le_refl _⟩, drw⟩
  rw [if_neg c5] at H
  have a8 := beq_eq_false_iff_ne.mpr c5
  have e0 := bne_iff_ne.mpr c5
  (first | rw [a8] | (simp only [i64_w, i32_w]; rw [a8]) | skip)
  obtain ⟨b4, b3⟩ : ∃ j_ : Int, (wrap64 (1 + a4)) = j_ := ⟨_, rfl⟩
  replace H : (if 0 ≤ (b4) then (if (b4) < (a0.size : Int) then (token_quoted.j0 k a4 ((bt a0 (b4)) != 34)) else (none)) else (none)) = some (r1, r2) := by first | (rw [b3] at H; exact H) | (simp only [b3] at H ⊢; exact H)
  (try rw [b3] at a8)
  (try rw [b3] at e0)
  have hji6w : (IntKind.i64.wrap (1 + a4)) = b4 := (i64_w _).trans b3
  obtain ⟨c7, H⟩ := itn H
  have j9 := decide_eq_true c7
  clear c7
  obtain ⟨c8, H⟩ := itn H
  have j8 := decide_eq_true c8
  clear c8
  have H' := Aside0.mk H
  clear H
  have p9 : 0 ≤ ((b4) : Int) := odt
  have q9 : (b4) < (a0.size : Int) := odt
  have m7 := bt_at a0 (b4)
  replace p9 := eq_true p9
  replace q9 := eq_true q9
  go_wp2
  go_meet
  case rel => exact ⟨_, (((bt a0 (b4)) != 34)), (by first | rfl | (simp; done) | (simp only [← b3] <;> (first | rfl | simp)) | (simp [*]; done)), H', ⟨by first | omega | exact Nat.le_refl _⟩, drw⟩
 case rest =>
  clear e1
  try clear b7 e7
  obtain ⟨kq, b5, rfl, HA, m8, ⟨mc3, rfl⟩⟩ := hcut
  cases kq with
  | zero => exact absurd HA.out (by simp [token_quoted.j0])
  | succ m5 =>
   have H := HA.out
   clear HA
   simp only [token_quoted.j0] at H
   by_cases d6 : b5 = true
   ·subst d6
    replace H := ift H
    simp only [Option.some.injEq, Prod.mk.injEq] at H
    obtain ⟨rfl, rfl⟩ := H
    go_wp2
    go_ret2
    exact ⟨by first | rfl | (simp; done) | (simp [*]; done), drw⟩
   replace d6 := Bool.eq_false_iff.mpr d6
   subst d6
   replace H := iff_ H
   by_cases b9 : a4 > 60
   ·rw [if_pos b9] at H
    have e3 : decide (60 < a4) = true := decide_eq_true b9
    clear b9
    simp only [Option.some.injEq, Prod.mk.injEq] at H
    obtain ⟨rfl, rfl⟩ := H
    go_wp2
    go_ret2
    exact ⟨by first | rfl | (simp; done) | (simp [*]; done), drw⟩
   rw [if_neg b9] at H
   have e3 : decide (60 < a4) = false := decide_eq_false b9
   clear b9
   simp only [Option.some.injEq, Prod.mk.injEq] at H
   obtain ⟨rfl, rfl⟩ := H
   go_wp2
   go_ret2
   exact ⟨by first | rfl | (simp; done) | (simp [*]; done), drw⟩
def slices_Index_string_string.l0 : Nat → List ByteArray → ByteArray → Int → Int → Option (Int)
 | 0, _, _, _, _ => none
 | k + 1, x0, x1, x7, x8 => if x8 < x7 then (if 0 ≤ x8 then (if x8 < (x0.length : Int) then (if x1.toList = (rdOf ByteArray.empty x0 x8).toList then (some x8) else (slices_Index_string_string.l0 k x0 x1 x7 (wrap64 (x8 + 1)))) else (none)) else (none)) else (some (-1))
def slices_Index_string_string.f (k : Nat) (l0 : List ByteArray) (a1 : ByteArray) : Option (Int) := slices_Index_string_string.l0 k l0 a1 (l0.length : Int) 0
theorem slices_Index_string_string.mono_l : ∀ k, (∀ y0 y1 y2 y3, LeO (slices_Index_string_string.l0 k y0 y1 y2 y3) (slices_Index_string_string.l0 (k + 1) y0 y1 y2 y3))
 | 0 => by (intros; intro r h; simp [slices_Index_string_string.l0] at h)
 | k + 1 => by
  have ih0 := slices_Index_string_string.mono_l k
  (intros; first | unfold slices_Index_string_string.l0)
  all_goals with_reducible repeat' first | exact ih0 .. | exact LeO.refl _ | exact LeO.none _ | refine LeO.ite ?_ ?_ | refine LeO.bind ?_ fun _ => ?_
theorem slices_Index_string_string.mono : ∀ a0 a1 k, LeO (slices_Index_string_string.f k a0 a1) (slices_Index_string_string.f (k + 1) a0 a1) := by
 intro a0 a1 k
 have ih0 := slices_Index_string_string.mono_l k
 unfold slices_Index_string_string.f
 with_reducible repeat' first | exact ih0 .. | exact LeO.refl _ | exact LeO.none _ | refine LeO.ite ?_ ?_ | refine LeO.bind ?_ fun _ => ?_
theorem slices_Index_string_string.calls (k : Nat) (A0 : Option Addr) (c0 : Nat) (l0 : List ByteArray) (a1 : ByteArray) (r : Int) (w : World) (d6 : Kd.C Kd.string w A0 l0.length l0) (d8 : l0.length ≤ c0) (h : slices_Index_string_string.f k l0 a1 = some r) :
  Calls Tryz.prog 136 #[.slice A0 l0.length c0, .string a1] w fun e w' => e = .returned (.int .i64 r) ∧ Drawn0 w w' := by
 have e7 := Aside0.mk d6
 have g3 := Aside0.mk d8
 clear d6 d8
 have H : (slices_Index_string_string.l0 k l0 a1 (l0.length : Int) 0) = some r := h
 clear h
 have H' := Aside0.mk H
 clear H
 go_enter Tryz.func136, Tryz.ntmps136
 go_wp2
 go_loopg [8] k (fun kq v8 w' => ∃ (a7 : Int), v8 = .int .i64 a7 ∧ Aside0 (slices_Index_string_string.l0 kq l0 a1 (l0.length : Int) a7 = some r) ∧ Aside0 (kq ≤ k) ∧ Drawn0 w w')
 case atStart => exact ⟨(0), eqs, H', ⟨Nat.le_refl _⟩, drw⟩
 case round =>
  clear H'
  obtain ⟨a7, rfl, HA, g2, ⟨m1, rfl⟩⟩ := hrel
  cases gk with
  | zero => exact absurd HA.out (by simp [slices_Index_string_string.l0])
  | succ k1 =>
   have H := HA.out
   clear HA
   simp only [slices_Index_string_string.l0] at H
   by_cases c3 : a7 < (l0.length : Int)
   rotate_left
   ·rw [if_neg c3] at H
    have d2 := decide_eq_false c3
    clear c3
    obtain rfl := Option.some.inj H
    go_wp2
    go_ret
    exact ⟨by first | rfl | (simp; done) | (simp [*]; done), drw⟩
   rw [if_pos c3] at H
   have d2 := decide_eq_true c3
   clear c3
   obtain ⟨c4, H⟩ := itn H
   have h3 := decide_eq_true c4
   clear c4
   obtain ⟨c5, H⟩ := itn H
   have n1 := decide_eq_true c5
   clear c5
   by_cases c6 : a1.toList = (rdOf ByteArray.empty l0 a7).toList
   rw [if_pos c6] at H
   have h2 := beq_iff_eq.mpr c6
   have h1 := bne_eq_false_iff_eq.mpr c6
   clear c6
   obtain rfl := Option.some.inj H
   rotate_left
   rw [if_neg c6] at H
   have h2 := beq_eq_false_iff_ne.mpr c6
   have h1 := bne_iff_ne.mpr c6
   have H' := Aside0.mk H
   clear H
   all_goals
    have e0 : 0 ≤ a7 := odt
    have d9 : a7 < (l0.length : Int) := odt
    obtain ⟨m3, g7, h4⟩ := Kd.at_string e7.out a7 e0 d9
    cases g7
    replace e0 := eq_true e0
    replace d9 := eq_true d9
    go_wp2
   ·go_roundg k1
    case measure => have := g2.out; omega
    case rel => exact ⟨(wrap64 (a7 + 1)), eqs, H', ⟨by have := g2.out; omega⟩, drw⟩
   ·go_ret
    exact ⟨by first | rfl | (simp; done) | (simp [*]; done), drw⟩
def slices_Contains_string_string.f (k : Nat) (l0 : List ByteArray) (a1 : ByteArray) : Option (Bool) := (slices_Index_string_string.f k l0 a1).bind fun c1 => (some (decide (c1 ≥ 0)))
theorem slices_Contains_string_string.mono : ∀ a0 a1 k, LeO (slices_Contains_string_string.f k a0 a1) (slices_Contains_string_string.f (k + 1) a0 a1) := by
 intro a0 a1 k
 unfold slices_Contains_string_string.f
 with_reducible repeat' first | exact slices_Index_string_string.mono .. | exact LeO.refl _ | exact LeO.none _ | refine LeO.ite ?_ ?_ | refine LeO.bind ?_ fun _ => ?_
theorem slices_Contains_string_string.calls (k : Nat) (A0 : Option Addr) (c0 : Nat) (l0 : List ByteArray) (a1 : ByteArray) (r : Bool) (w : World) (d6 : Kd.C Kd.string w A0 l0.length l0) (d8 : l0.length ≤ c0) (h : slices_Contains_string_string.f k l0 a1 = some r) :
  Calls Tryz.prog 126 #[.slice A0 l0.length c0, .string a1] w fun e w' => e = .returned (.bool r) ∧ Drawn0 w w' := by
 have e7 := Aside0.mk d6
 have g3 := Aside0.mk d8
 clear d6 d8
 have H : ((slices_Index_string_string.f k l0 a1).bind fun c1 => (some (decide (c1 ≥ 0)))) = some r := h
 clear h
 obtain ⟨c1, A3, H⟩ := obA H
 obtain rfl := Option.some.inj H
 go_enter Tryz.func126, Tryz.ntmps126
 go_wp2_with ((with_reducible refine gate_callee (f := 136) rfl ?_); refine gl 7 Tryz.func136 #[.slice A0 l0.length c0, .string a1] (h := ?_); (with_reducible refine (slices_Index_string_string.calls _ _ _ _ _ _ _ ?d1 ?d0 A3.out).mono ?_); (case d1 => repeat (first | exact e7.out | (with_reducible refine Kd.C_alloc ?_ _) | (with_reducible refine Kd.C_drewN ?_ _) | (with_reducible refine Kd.C_drew ?_))); (case d0 => exact g3.out); rintro e w' ⟨rfl, ⟨nd, rfl⟩⟩; refine ⟨_, rfl, ?_⟩)
 go_ret
 exact ⟨by first | rfl | (simp; done) | (simp [*]; done), drw⟩
def token_pair.f (k : Nat) (a0 : ByteArray) : Option (Bool) := if (a0.size : Int) ≥ 2 then (if 0 ≤ 2 then (if 2 ≤ (a0.size : Int) then ((slices_Contains_string_string.f k (([(⟨#[45, 62]⟩ : ByteArray), (⟨#[60, 61]⟩ : ByteArray), (⟨#[62, 61]⟩ : ByteArray), (⟨#[61, 61]⟩ : ByteArray), (⟨#[33, 61]⟩ : ByteArray)] : List ByteArray)) (a0.extract 0 2)).bind fun b2 => (some b2)) else (none)) else (none)) else (some false)
theorem token_pair.mono : ∀ a0 k, LeO (token_pair.f k a0) (token_pair.f (k + 1) a0) := by
 intro a0 k
 unfold token_pair.f
 with_reducible repeat' first | exact slices_Contains_string_string.mono .. | exact LeO.refl _ | exact LeO.none _ | refine LeO.ite ?_ ?_ | refine LeO.bind ?_ fun _ => ?_
theorem token_pair.calls (k : Nat) (a0 : ByteArray) (r : Bool) (w : World) (h : token_pair.f k a0 = some r) :
  Calls Tryz.prog 134 #[.string a0] w fun e w' => e = .returned (.bool r) ∧ Below w.heap.size w w' := by
 have HB := Aside0.mk (Below.refl w.heap.size w)
 have H : (if (a0.size : Int) ≥ 2 then (if 0 ≤ 2 then (if 2 ≤ (a0.size : Int) then ((slices_Contains_string_string.f k (([(⟨#[45, 62]⟩ : ByteArray), (⟨#[60, 61]⟩ : ByteArray), (⟨#[62, 61]⟩ : ByteArray), (⟨#[61, 61]⟩ : ByteArray), (⟨#[33, 61]⟩ : ByteArray)] : List ByteArray)) (a0.extract 0 2)).bind fun b2 => (some b2)) else (none)) else (none)) else (some false)) = some r := h
 clear h
 by_cases c2 : (a0.size : Int) ≥ 2
 rotate_left
 ·rw [if_neg c2] at H
  have e3 : decide (2 ≤ (a0.size : Int)) = false := decide_eq_false c2
  have e2 : decide (2 ≤ a0.size) = false := decide_eq_false (by omega)
  clear c2
  obtain rfl := Option.some.inj H
  go_enter Tryz.func134, Tryz.ntmps134
  go_wp2
  go_ret
  exact ⟨erf, bb HB⟩
 rw [if_pos c2] at H
 have e3 : decide (2 ≤ (a0.size : Int)) = true := decide_eq_true c2
 have e2 : decide (2 ≤ a0.size) = true := decide_eq_true (by omega)
 clear c2
 obtain ⟨g4, b0⟩ : ∃ y_ : List ByteArray, y_ = (([(⟨#[45, 62]⟩ : ByteArray), (⟨#[60, 61]⟩ : ByteArray), (⟨#[62, 61]⟩ : ByteArray), (⟨#[61, 61]⟩ : ByteArray), (⟨#[33, 61]⟩ : ByteArray)] : List ByteArray)) := ⟨_, rfl⟩
 replace H : (if 0 ≤ 2 then (if 2 ≤ (a0.size : Int) then ((slices_Contains_string_string.f k g4 (a0.extract 0 2)).bind fun b2 => (some b2)) else (none)) else (none)) = some r := by first | (rw [b0]; with_reducible exact H) | (have H2_ := (Option.bind_some _ _).symm.trans H; rw [b0]; with_reducible exact H2_) | (have H2_ := (Option.bind_some _ _).symm.trans H; with_reducible exact H2_) | with_reducible exact H | (rw [b0]; exact H) | exact H
 have e5 := Aside0.mk b0
 clear b0
 obtain ⟨c3, H⟩ := itn H
 have d2 := eq_true c3
 have e6 := decide_eq_true c3
 clear c3
 obtain ⟨c4, H⟩ := itn H
 have h3 := eq_true c4
 have n2 := decide_eq_true c4
 clear c4
 obtain ⟨b2, A5, H⟩ := obA H
 obtain rfl := Option.some.inj H
 go_enter Tryz.func134, Tryz.ntmps134
 go_wp2_with (first | ((with_reducible refine gate_dst (N := 7) rfl ?_); (try (refine gate_guard (by rfl) ?_; dsimp only)); refine Kd.R_lit Kd.string _ 9 ?hg (N := 7) ?hd (xs := ([(⟨#[45, 62]⟩ : ByteArray), (⟨#[60, 61]⟩ : ByteArray), (⟨#[62, 61]⟩ : ByteArray), (⟨#[61, 61]⟩ : ByteArray), (⟨#[33, 61]⟩ : ByteArray)] : List ByteArray)) (inner := [.string (⟨#[45, 62]⟩ : ByteArray), .string (⟨#[60, 61]⟩ : ByteArray), .string (⟨#[62, 61]⟩ : ByteArray), .string (⟨#[61, 61]⟩ : ByteArray), .string (⟨#[33, 61]⟩ : ByteArray)]) (ok := fun _ => True) (okp := fun _ => True) ?hr ?hp (fun _ hk => hk) trivial (Below.refl _ _) (Nat.le_refl _) (by simp) ?_; (case hd => rfl); (case hg => rfl); (case hr => first | (go_simp; done) | (go_simp; rfl)); (case hp => exact (Reps.one (show Kd.M Kd.string _ _ _ (⟨#[45, 62]⟩ : ByteArray) [.string (⟨#[45, 62]⟩ : ByteArray)] from rfl) (Reps.one (show Kd.M Kd.string _ _ _ (⟨#[60, 61]⟩ : ByteArray) [.string (⟨#[60, 61]⟩ : ByteArray)] from rfl) (Reps.one (show Kd.M Kd.string _ _ _ (⟨#[62, 61]⟩ : ByteArray) [.string (⟨#[62, 61]⟩ : ByteArray)] from rfl) (Reps.one (show Kd.M Kd.string _ _ _ (⟨#[61, 61]⟩ : ByteArray) [.string (⟨#[61, 61]⟩ : ByteArray)] from rfl) (Reps.one (show Kd.M Kd.string _ _ _ (⟨#[33, 61]⟩ : ByteArray) [.string (⟨#[33, 61]⟩ : ByteArray)] from rfl) (Reps.none _ _))))))); intro m5 w6 d7 hb hg_ hnew_; clear hg_ hnew_; (first | rw [← e5.out] at d7 | (simp only [Int.reduceToNat] at d7; rw [← e5.out] at d7)); have d5 := Aside0.mk (Kd.R_lower d7 (below_size (bb HB))); replace HB := bstep HB hb; clear hb d7; obtain ⟨n8, n7, eo8⟩ := Kd.R_slice d5.out; subst eo8) | (go_at_call 126; (with_reducible refine (slices_Contains_string_string.calls _ _ _ _ _ _ _ ?d1 ?d0 A5.out).mono ?_); (case d1 => repeat (first | exact (Kd.R_reads' d5.out).2.2 | (with_reducible refine Kd.C_alloc ?_ _) | (with_reducible refine Kd.C_drewN ?_ _) | (with_reducible refine Kd.C_drew ?_))); (case d0 => exact (Kd.R_reads' d5.out).2.1); rintro e w' ⟨rfl, ⟨nd, rfl⟩⟩))
 go_ret
 exact ⟨erf, bb HB⟩
def token_next.f (k : Nat) (a0 : ByteArray) : Option (Int × Int × Int) := if 0 < (a0.size : Int) then ((token_letter.f (bt a0 0)).bind fun b6 => (if b6 = true then ((token_run_part.f a0).bind fun a5 => (if a5 > 20 then (some (0, 0, 3)) else (some (1, a5, 0)))) else ((token_digit.f (bt a0 0)).bind fun b5 => (if b5 = true then ((token_run_digit.f a0).bind fun a4 => (if a4 > 9 then (some (0, 0, 3)) else (some (2, a4, 0)))) else (if (bt a0 0) = 34 then ((token_quoted.f k a0).bind fun b1 => (some (3, b1.1, b1.2))) else ((token_pair.f k a0).bind fun b4 => (if b4 = true then (some (4, 2, 0)) else ((strings_IndexByte.f (⟨#[123, 125, 40, 41, 91, 93, 44, 59, 58, 61, 43, 45, 42, 60, 62, 33, 38, 124, 46, 63]⟩ : ByteArray) (bt a0 0)).bind fun a9 => (if a9 ≥ 0 then (some (4, 1, 0)) else (some (0, 0, 2))))))))))) else (none)
theorem token_next.mono : ∀ a0 k, LeO (token_next.f k a0) (token_next.f (k + 1) a0) := by
 intro a0 k
 unfold token_next.f
 with_reducible repeat' first | exact token_pair.mono .. | exact token_quoted.mono .. | exact LeO.refl _ | exact LeO.none _ | refine LeO.ite ?_ ?_ | refine LeO.bind ?_ fun _ => ?_
theorem token_next.calls (k : Nat) (a0 : ByteArray) (r1 : Int) (r2 : Int) (r3 : Int) (w : World) (h : token_next.f k a0 = some (r1, r2, r3)) :
  Calls Tryz.prog 124 #[.string a0] w fun e w' => e = .returned (.tuple #[.int .i64 r1, .int .i64 r2, .int .i64 r3]) ∧ Below w.heap.size w w' := by
 have HB := Aside0.mk (Below.refl w.heap.size w)
 have H : (if 0 < (a0.size : Int) then ((token_letter.f (bt a0 0)).bind fun b6 => (if b6 = true then ((token_run_part.f a0).bind fun a5 => (if a5 > 20 then (some (0, 0, 3)) else (some (1, a5, 0)))) else ((token_digit.f (bt a0 0)).bind fun b5 => (if b5 = true then ((token_run_digit.f a0).bind fun a4 => (if a4 > 9 then (some (0, 0, 3)) else (some (2, a4, 0)))) else (if (bt a0 0) = 34 then ((token_quoted.f k a0).bind fun b1 => (some (3, b1.1, b1.2))) else ((token_pair.f k a0).bind fun b4 => (if b4 = true then (some (4, 2, 0)) else ((strings_IndexByte.f (⟨#[123, 125, 40, 41, 91, 93, 44, 59, 58, 61, 43, 45, 42, 60, 62, 33, 38, 124, 46, 63]⟩ : ByteArray) (bt a0 0)).bind fun a9 => (if a9 ≥ 0 then (some (4, 1, 0)) else (some (0, 0, 2))))))))))) else (none)) = some (r1, r2, r3) := h
 clear h
 obtain ⟨c2, H⟩ := itn H
 have e3 := decide_eq_true c2
 have e2 : decide (0 < a0.size) = true := decide_eq_true (by omega)
 clear c2
 obtain ⟨b6, A4, H⟩ := obA H
 by_cases c5 : b6 = true
 subst c5
 replace H := ift H
 obtain ⟨a5, A6, H⟩ := obA H
 by_cases c7 : a5 > 20
 rw [if_pos c7] at H
 have e1 : decide (20 < a5) = true := decide_eq_true c7
 clear c7
 simp only [Option.some.injEq, Prod.mk.injEq] at H
 obtain ⟨rfl, rfl, rfl⟩ := H
 rotate_left
 rw [if_neg c7] at H
 have e1 : decide (20 < a5) = false := decide_eq_false c7
 clear c7
 simp only [Option.some.injEq, Prod.mk.injEq] at H
 obtain ⟨rfl, rfl, rfl⟩ := H
 rotate_left
 replace c5 := Bool.eq_false_iff.mpr c5
 subst c5
 replace H := iff_ H
 obtain ⟨b5, A8, H⟩ := obA H
 by_cases c9 : b5 = true
 subst c9
 replace H := ift H
 obtain ⟨a4, m0, H⟩ := obA H
 by_cases b9 : a4 > 9
 rw [if_pos b9] at H
 have g1 : decide (9 < a4) = true := decide_eq_true b9
 clear b9
 simp only [Option.some.injEq, Prod.mk.injEq] at H
 obtain ⟨rfl, rfl, rfl⟩ := H
 rotate_left
 rw [if_neg b9] at H
 have g1 : decide (9 < a4) = false := decide_eq_false b9
 clear b9
 simp only [Option.some.injEq, Prod.mk.injEq] at H
 obtain ⟨rfl, rfl, rfl⟩ := H
 rotate_left
 replace c9 := Bool.eq_false_iff.mpr c9
 subst c9
 replace H := iff_ H
 by_cases b7 : (bt a0 0) = 34
 rw [if_pos b7] at H
 have g0 := beq_iff_eq.mpr b7
 have e9 := bne_eq_false_iff_eq.mpr b7
 clear b7
 obtain ⟨⟨n0, m9⟩, j9, H⟩ := obA H
 try dsimp only at H
 simp only [Option.some.injEq, Prod.mk.injEq] at H
 obtain ⟨rfl, rfl, rfl⟩ := H
 rotate_left
 rw [if_neg b7] at H
 have g0 := beq_eq_false_iff_ne.mpr b7
 have e9 := bne_iff_ne.mpr b7
 obtain ⟨b4, j8, H⟩ := obA H
 by_cases e4 : b4 = true
 subst e4
 replace H := ift H
 simp only [Option.some.injEq, Prod.mk.injEq] at H
 obtain ⟨rfl, rfl, rfl⟩ := H
 rotate_left
 replace e4 := Bool.eq_false_iff.mpr e4
 subst e4
 replace H := iff_ H
 obtain ⟨a9, j7, H⟩ := obA H
 by_cases b8 : a9 ≥ 0
 rw [if_pos b8] at H
 have e8 : decide (0 ≤ a9) = true := decide_eq_true b8
 clear b8
 simp only [Option.some.injEq, Prod.mk.injEq] at H
 obtain ⟨rfl, rfl, rfl⟩ := H
 rotate_left
 rw [if_neg b8] at H
 have e8 : decide (0 ≤ a9) = false := decide_eq_false b8
 clear b8
 simp only [Option.some.injEq, Prod.mk.injEq] at H
 obtain ⟨rfl, rfl, rfl⟩ := H
 all_goals
  have p3 : 0 ≤ 0 := (by omega)
  have q3 : 0 < a0.size := (by have : (0 : Int) < (a0.size : Int) := odt; omega)
  have n6 : ∀ h : 0 < a0.size, ((a0[0]'h).toNat : Int) = bt a0 0 := bt_at a0 0
  clear p3
  have qi3 : (0 < (a0.size : Int)) = True := eq_true (odt)
  replace q3 := eq_true q3
  go_enter Tryz.func124, Tryz.ntmps124
  go_wp2_with (first | ((with_reducible refine gate_callee (f := 129) rfl ?_); refine gl 14 Tryz.func129 #[.int .u8 (bt a0 0)] (h := ?_); (with_reducible refine (token_letter.calls _ _ _ A4.out).mono ?_); rintro e w' ⟨rfl, ⟨nd, rfl⟩⟩; refine ⟨_, rfl, ?_⟩) | ((with_reducible refine gate_callee (f := 132) rfl ?_); refine gl 22 Tryz.func132 #[.int .u8 (bt a0 0)] (h := ?_); (with_reducible refine (token_digit.calls _ _ _ A8.out).mono ?_); rintro e w' ⟨rfl, ⟨nd, rfl⟩⟩; refine ⟨_, rfl, ?_⟩) | ((with_reducible refine gate_callee (f := 134) rfl ?_); refine gl 40 Tryz.func134 #[.string a0] (h := ?_); (with_reducible refine (token_pair.calls _ _ _ _ j8.out).mono ?_); rintro e n3 ⟨rfl, hb⟩; refine ⟨_, rfl, ?_⟩; replace HB := bstep HB hb; clear hb) | ((with_reducible refine gate_callee (f := 135) rfl ?_); refine gl 43 Tryz.func135 #[.string (⟨#[123, 125, 40, 41, 91, 93, 44, 59, 58, 61, 43, 45, 42, 60, 62, 33, 38, 124, 46, 63]⟩ : ByteArray), .int .u8 (bt a0 0)] (h := ?_); (with_reducible refine (strings_IndexByte.calls (⟨#[123, 125, 40, 41, 91, 93, 44, 59, 58, 61, 43, 45, 42, 60, 62, 33, 38, 124, 46, 63]⟩ : ByteArray) (bt a0 0) a9 _ j7.out).mono ?_); rintro e w' ⟨rfl, ⟨nd, rfl⟩⟩; refine ⟨_, rfl, ?_⟩) | ((with_reducible refine gate_callee (f := 133) rfl ?_); refine gl 33 Tryz.func133 #[.string a0] (h := ?_); (with_reducible refine (token_quoted.calls _ _ _ _ _ j9.out).mono ?_); rintro e w' ⟨rfl, ⟨nd, rfl⟩⟩; refine ⟨_, rfl, ?_⟩) | ((with_reducible refine gate_callee (f := 130) rfl ?_); refine gl 24 Tryz.func130 #[.string a0, .func (.func 132) #[] #[]] (h := ?_); (with_reducible refine (token_run_digit.calls a0  a4 _ m0.out).mono ?_); rintro e w' ⟨rfl, ⟨nd, rfl⟩⟩; refine ⟨_, rfl, ?_⟩) | ((with_reducible refine gate_callee (f := 130) rfl ?_); refine gl 16 Tryz.func130 #[.string a0, .func (.func 131) #[] #[]] (h := ?_); (with_reducible refine (token_run_part.calls a0  a5 _ A6.out).mono ?_); rintro e w' ⟨rfl, ⟨nd, rfl⟩⟩; refine ⟨_, rfl, ?_⟩))
  go_ret3
  exact ⟨erf, bb HB⟩
def token_whole.f (k : Nat) (a6 : Int) (a3 : ByteArray) (d4 : Int) : Option (ByteArray × Bool) := if a6 = 3 then (none) else (if a3.toList = ([] : List UInt8) then (some ((⟨#[]⟩ : ByteArray), false)) else ((token_next.f k a3).bind fun a8 => (if a8.2.2 = 0 then (if a8.1 = a6 then (some (a3, (a8.2.1 == (a3.size : Int)))) else (some (a3, false))) else (some (a3, false)))))
theorem token_whole.mono : ∀ a0 a1 a2 k, LeO (token_whole.f k a0 a1 a2) (token_whole.f (k + 1) a0 a1 a2) := by
 intro a0 a1 a2 k
 unfold token_whole.f
 with_reducible repeat' first | exact token_next.mono .. | exact LeO.refl _ | exact LeO.none _ | refine LeO.ite ?_ ?_ | refine LeO.bind ?_ fun _ => ?_
theorem token_whole.calls (k : Nat) (a6 : Int) (a3 : ByteArray) (d4 : Int) (r1 : ByteArray) (r2 : Bool) (w : World) (h : token_whole.f k a6 a3 d4 = some (r1, r2)) :
  Calls Tryz.prog 115 #[.agg #[.int .i64 a6, .string a3, .int .i64 d4]] w fun e w' => e = .returned (.tuple #[.string r1, .bool r2]) ∧ Below w.heap.size w w' := by
 have hu142 := Tryz.underlying142
 have HB := Aside0.mk (Below.refl w.heap.size w)
 have H : (if a6 = 3 then (none) else (if a3.toList = ([] : List UInt8) then (some ((⟨#[]⟩ : ByteArray), false)) else ((token_next.f k a3).bind fun a8 => (if a8.2.2 = 0 then (if a8.1 = a6 then (some (a3, (a8.2.1 == (a3.size : Int)))) else (some (a3, false))) else (some (a3, false)))))) = some (r1, r2) := h
 clear h
 by_cases c2 : a6 = 3
 ·rw [if_pos c2] at H
  exact absurd H (by simp)
 rw [if_neg c2] at H
 have e3 := beq_eq_false_iff_ne.mpr c2
 have e2 := bne_iff_ne.mpr c2
 by_cases c3 : a3.toList = ([] : List UInt8)
 rw [if_pos c3] at H
 have d2 := beq_iff_eq.mpr c3
 have e6 := bne_eq_false_iff_eq.mpr c3
 clear c3
 simp only [Option.some.injEq, Prod.mk.injEq] at H
 obtain ⟨rfl, rfl⟩ := H
 rotate_left
 rw [if_neg c3] at H
 have d2 := beq_eq_false_iff_ne.mpr c3
 have e6 := bne_iff_ne.mpr c3
 obtain ⟨⟨g6, m8, g5⟩, A6, H⟩ := obA H
 try dsimp only at H
 by_cases c7 : g5 = 0
 rw [if_pos c7] at H
 have e1 := beq_iff_eq.mpr c7
 have h0 := bne_eq_false_iff_eq.mpr c7
 clear c7
 by_cases c8 : g6 = a6
 rw [if_pos c8] at H
 have g9 := beq_iff_eq.mpr c8
 have g8 := bne_eq_false_iff_eq.mpr c8
 clear c8
 simp only [Option.some.injEq, Prod.mk.injEq] at H
 obtain ⟨rfl, rfl⟩ := H
 rotate_left
 rw [if_neg c8] at H
 have g9 := beq_eq_false_iff_ne.mpr c8
 have g8 := bne_iff_ne.mpr c8
 simp only [Option.some.injEq, Prod.mk.injEq] at H
 obtain ⟨rfl, rfl⟩ := H
 rotate_left
 rw [if_neg c7] at H
 have e1 := beq_eq_false_iff_ne.mpr c7
 have h0 := bne_iff_ne.mpr c7
 simp only [Option.some.injEq, Prod.mk.injEq] at H
 obtain ⟨rfl, rfl⟩ := H
 all_goals
  go_enter Tryz.func115, Tryz.ntmps115
  go_wp2_with (first | ((with_reducible refine gate_dst (N := 1) rfl ?_); (try (refine gate_guard (by rfl) ?_; dsimp only)); refine be 1 #[.int .i64 a6, .string a3, .int .i64 d4] 142 ?_; intro m2 hg n5 hbox hb; have b3 := Aside0.mk (hbox); have m4 := bsz HB hg; replace HB := bstep HB hb; clear hb hbox hg; obtain ⟨j6, j5, j4, j0, h9, h8⟩ := cz3 b3) | ((with_reducible refine gate_callee (f := 124) rfl ?_); refine gl 20 Tryz.func124 #[.string a3] (h := ?_); (with_reducible refine (token_next.calls _ _ _ _ _ _ A6.out).mono ?_); rintro e n4 ⟨rfl, hb⟩; refine ⟨_, rfl, ?_⟩; replace b3 := bkb b3 hb; replace HB := bstep HB hb; clear hb; obtain ⟨j3, j2, j1, h7, h6, h5⟩ := cz3 b3))
  go_ret2
  exact ⟨erf, bb HB⟩
def token_IsName.f (k : Nat) (a0 : ByteArray) : Option (Bool) := (token_whole.f k 1 a0 0).bind fun d3 => (some d3.2)
theorem token_IsName.mono : ∀ a0 k, LeO (token_IsName.f k a0) (token_IsName.f (k + 1) a0) := by
 intro a0 k
 unfold token_IsName.f
 with_reducible repeat' first | exact token_whole.mono .. | exact LeO.refl _ | exact LeO.none _ | refine LeO.ite ?_ ?_ | refine LeO.bind ?_ fun _ => ?_
theorem token_IsName.calls (k : Nat) (a0 : ByteArray) (r : Bool) (w : World) (h : token_IsName.f k a0 = some r) :
  Calls Tryz.prog 100 #[.string a0] w fun e w' => e = .returned (.bool r) ∧ Below w.heap.size w w' := by
 have hu142 := Tryz.underlying142
 have HB := Aside0.mk (Below.refl w.heap.size w)
 have H : ((token_whole.f k 1 a0 0).bind fun d3 => (some d3.2)) = some r := h
 clear h
 obtain ⟨⟨m7, m6⟩, A2, H⟩ := obA H
 try dsimp only at H
 obtain rfl := Option.some.inj H
 go_enter Tryz.func100, Tryz.ntmps100
 go_wp2_with ((with_reducible refine gate_callee (f := 115) rfl ?_); refine gl 8 Tryz.func115 #[.agg #[.int .i64 1, .string a0, .int .i64 0]] (h := ?_); (with_reducible refine (token_whole.calls _ _ _ _ _ _ _ A2.out).mono ?_); rintro e w3 ⟨rfl, hb⟩; refine ⟨_, rfl, ?_⟩; replace HB := bstep HB hb; clear hb)
 go_ret
 exact ⟨erf, bb HB⟩
def types_attrs.f : Nat → List (S96) → List (S101) → Int → Option ((List (S99)))
 | 0, _, _, _ => none
 | k + 1, a3, a7, a1 => if 0 ≤ a1 then (if a1 < (a3.length : Int) then (if ((rd_T96 a3 a1).f1) ≥ 0 then ((types_attrs.f k a3 a7 ((rd_T96 a3 a1).f1)).bind fun b5 => (if b5.length + ((rd_T96 a3 a1).f3).length < 2513169434916 then (some (b5 ++ ((rd_T96 a3 a1).f3))) else (none))) else (if ([] : List (S99)).length + ((rd_T96 a3 a1).f3).length < 2513169434916 then (some (([] : List (S99)) ++ ((rd_T96 a3 a1).f3))) else (none))) else (none)) else (none)
theorem types_attrs.mono_l : ∀ k, (∀ y0 y1 y2, LeO (types_attrs.f k y0 y1 y2) (types_attrs.f (k + 1) y0 y1 y2))
 | 0 => by (intros; intro r h; simp [types_attrs.f] at h)
 | k + 1 => by
  have ih0 := types_attrs.mono_l k
  (intros; first | unfold types_attrs.f)
  all_goals with_reducible repeat' first | exact ih0 .. | exact LeO.refl _ | exact LeO.none _ | refine LeO.ite ?_ ?_ | refine LeO.bind ?_ fun _ => ?_
theorem types_attrs.mono : ∀ a0 a1 a2 k, LeO (types_attrs.f k a0 a1 a2) (types_attrs.f (k + 1) a0 a1 a2) := by
 intro a0 a1 a2 k
 have ih0 := types_attrs.mono_l k
 exact ih0 a0 a1 a2
theorem types_attrs.calls (k : Nat) : ∀ (P0_0_ : Nat → Prop) (d1 : Option Addr) (a9 : Nat) (a3 : List (S96)) (b2 : Option Addr) (b1 : Nat) (a7 : List (S101)) (a1 : Int) (r : List (S99)) (w : World) (g5 : Kd.V k96 96 w w.heap.size (fun k_ => P0_0_ k_) (.slice d1 a3.length a9) a3) (e4 : Kd.C k101 w b2 a7.length a7) (e5 : a7.length ≤ b1) (h : types_attrs.f k a3 a7 a1 = some r),
  Calls Tryz.prog 103 #[.agg #[.slice d1 a3.length a9, .slice b2 a7.length b1], .int .i64 a1] w fun e w' => ∃ m4 : Value, e = .returned (m4) ∧ Kd.N k99 99 w' w.heap.size (fun k_ => (P0_0_ k_ ∨ w.heap.size ≤ k_)) m4 r ∧ Below w.heap.size w w' := by
 induction k using Nat.strongRecOn with
 | _ k ih =>
 intro P0_0_ d1 a9 a3 b2 b1 a7 a1 r w g5 e4 e5 h
 cases k with
 | zero => exact absurd h (by simp [types_attrs.f])
 | succ k =>
 simp only [types_attrs.f] at h
 have hu31 := Tryz.underlying31
 have a5 := Aside0.mk (show Kd.V k96 96 w w.heap.size (fun k_ => (P0_0_ k_ ∨ w.heap.size ≤ k_)) (.slice d1 a3.length a9) a3 from Kd.V_mono g5 (fun k_ hk => .inl hk))
 have j9 := Aside0.mk e4
 have m2 := Aside0.mk e5
 clear e4 e5
 have HB := Aside0.mk (Below.refl w.heap.size w)
 have H : (if 0 ≤ a1 then (if a1 < (a3.length : Int) then (if ((rd_T96 a3 a1).f1) ≥ 0 then ((types_attrs.f k a3 a7 ((rd_T96 a3 a1).f1)).bind fun b5 => (if b5.length + ((rd_T96 a3 a1).f3).length < 2513169434916 then (some (b5 ++ ((rd_T96 a3 a1).f3))) else (none))) else (if ([] : List (S99)).length + ((rd_T96 a3 a1).f3).length < 2513169434916 then (some (([] : List (S99)) ++ ((rd_T96 a3 a1).f3))) else (none))) else (none)) else (none)) = some r := h
 clear h
 obtain ⟨c3, H⟩ := itn H
 have h7 := decide_eq_true c3
 clear c3
 obtain ⟨c4, H⟩ := itn H
 have n6 := decide_eq_true c4
 clear c4
 by_cases c5 : ((rd_T96 a3 a1).f1) ≥ 0
 rotate_left
 ·rw [if_neg c5] at H
  have h6 : decide (0 ≤ ((rd_T96 a3 a1).f1)) = false := decide_eq_false c5
  clear c5
  obtain ⟨m7, H⟩ := itn H
  have j8 := Aside0.mk m7
  clear m7
  obtain ⟨n1, c6⟩ : ∃ y_ : List (S99), y_ = (([] : List (S99)) ++ ((rd_T96 a3 a1).f3)) := ⟨_, rfl⟩
  replace H : (some n1) = some r := by first | (rw [c6]; with_reducible exact H) | (have H2_ := (Option.bind_some _ _).symm.trans H; rw [c6]; with_reducible exact H2_) | (have H2_ := (Option.bind_some _ _).symm.trans H; with_reducible exact H2_) | with_reducible exact H | (rw [c6]; exact H) | exact H
  have j6 := Aside0.mk c6
  clear c6
  obtain rfl := Option.some.inj H
  go_enter Tryz.func103, Tryz.ntmps103
  go_wp2_with (first | ((with_reducible refine gate_dst (N := 2) rfl ?_); refine be 2 #[.slice d1 a3.length a9, .slice b2 a7.length b1] 31 ?_; intro a6 hg p7 hbox hb; replace a5 := Aside0.mk (Kd.V_below (Kd.V_elderB (kV a5) a6 (Nat.le_of_eq hg.symm)) hb); have a8 := Aside0.mk (hbox); have m3 := bsz HB hg; replace HB := bstep HB hb; clear hb hbox hg; obtain ⟨o9, o8, o5, o4⟩ := cz2 a8; have b7 : 0 ≤ a1 := odt; have b6 : a1 < (a3.length : Int) := odt; obtain ⟨b0, j2, j0, g4, h4, h3, h2, b8, b3, b4⟩ := at_T96 (Kd.V_reads' a5.out).2.2 a1 b7 b6; cases g4; obtain ⟨ce128, hce128, hMe128, hcc128⟩ := Kd.V_get a5.out z96 a1 b7 (by first | exact b6 | exact odt | (have e_ := (Kd.V_reads' a5.out).1; omega)); obtain ⟨ua128_3, uc128_3, rfl, ul128_3, ge128_3⟩ := k96_openF hMe128; have hv128_3 := hcc128 3 _ rfl; rw [add_field _ _ 3 (by omega)] at hv128_3; replace hv128_3 := Option.some.inj (hv128_3.symm.trans b8); injection hv128_3 with hva_ hvn_ hvc_; rw [hva_] at ge128_3; rw [hvc_] at ul128_3; have HL128_3 := Aside0.mk (show Kd.V k99 99 _ w.heap.size _ _ ((rd_T96 a3 a1).f3) from Kd.V_mk ul128_3 ge128_3); clear hva_ hvn_ hvc_ ge128_3 ul128_3; clear hcc128 hce128; have d0 := Aside0.mk b4; have h5 := Aside0.mk b3; clear b4 b3; replace b7 := eq_true b7; replace b6 := eq_true b6; have e2 : 0 ≤ a1 := odt; have e0 : a1 < (a3.length : Int) := odt; obtain ⟨j4, q6, q4, n4, o0, n9, n8, d5, d6, d8⟩ := at_T96 (Kd.V_reads' a5.out).2.2 a1 e2 e0; obtain rfl : b0 = j4 := (by injection n4); obtain ⟨ce136, hce136, hMe136, hcc136⟩ := Kd.V_get a5.out z96 a1 e2 (by first | exact e0 | exact odt | (have e_ := (Kd.V_reads' a5.out).1; omega)); obtain ⟨ua136_3, uc136_3, rfl, ul136_3, ge136_3⟩ := k96_openF hMe136; have hv136_3 := hcc136 3 _ rfl; rw [add_field _ _ 3 (by omega)] at hv136_3; replace hv136_3 := Option.some.inj (hv136_3.symm.trans d5); injection hv136_3 with hva_ hvn_ hvc_; rw [hva_] at ge136_3; rw [hvc_] at ul136_3; have HL136_3 := Aside0.mk (show Kd.V k99 99 _ w.heap.size _ _ ((rd_T96 a3 a1).f3) from Kd.V_mk ul136_3 ge136_3); clear hva_ hvn_ hvc_ ge136_3 ul136_3; clear hcc136 hce136; have p2 := Aside0.mk d8; have p4 := Aside0.mk d6; clear d8 d6; replace e2 := eq_true e2; replace e0 := eq_true e0; have ea_ := Option.some.inj (b8.symm.trans d5); injection ea_ with ea_ en_ ec_; subst ea_; subst ec_; clear en_) | ((with_reducible refine gate_builtin (b := .append) (xs := #[.tmp 18, .tmp 24]) rfl ?_); at_builtin; refine Kd.N_append_rows k99 (w0 := w) w.heap.size rfl (.tmp 18) (.tmp 24) 94 99 (.agg #[(.string ⟨#[]⟩), (.int .i64 0), (.int .i64 0), (.slice none 0 0)]) 56 rfl Tryz.underlying94 info99 rfl (by decide) (by omega) (.slice none 0 0) ([] : List (S99)) ((rd_T96 a3 a1).f3) _ _ _ (fun k_ => (P0_0_ k_ ∨ w.heap.size ≤ k_) ∧ k_ ≠ a6) (fun k_ => ((fun k_ => (P0_0_ k_ ∨ w.heap.size ≤ k_) ∧ k_ ≠ a6)) k_ ∧ some k_ ≠ (.slice none 0 0 : Value).ownBlock) rfl rfl ?aO ?aR (fun _ hk => hk) ?aF ?aB ?aS ?aL ?_; (case aR => exact (by skip; exact Kd.V_F (Kd.V_mono (ok' := (fun k_ => ((fun k_ => (P0_0_ k_ ∨ w.heap.size ≤ k_) ∧ k_ ≠ a6)) k_ ∧ some k_ ≠ (.slice none 0 0 : Value).ownBlock)) (HL136_3.out) (fun k_ hk => ⟨⟨hk.1, hk.2⟩, (by simp [Value.ownBlock])⟩)))); (case aB => exact (bb HB)); (case aF => exact (fun k_ hk => ⟨(.inr (Nat.le_trans (below_size (bb HB)) hk)), Kd.freshB (g := a6) (o := .cells #[.slice (some b0) a3.length a9, .slice b2 a7.length b1] 31 (0, 0)) (bk a8) k_ hk⟩)); (case aO => exact ((Kd.N_nil _ _ _ _ (fun k_ => (P0_0_ k_ ∨ w.heap.size ≤ k_) ∧ k_ ≠ a6)))); (case aS => exact (below_size (bb HB))); (case aL => have := j8.out; omega); intro q8 p6 ho hb hg hat; rw [← j6.out] at ho; replace a5 := Aside0.mk (Kd.V_afterv (Kd.V_apart_nil (kV a5)) hg hat); replace a8 := Aside0.mk (blk_grown (g := a6) (o := .cells #[.slice (some b0) a3.length a9, .slice b2 a7.length b1] 31 (0, 0)) (bk a8) hg (by simp [Value.ownBlock])); replace HL128_3 := Aside0.mk (Kd.V_afterv (Kd.V_apart_nil (kV HL128_3)) hg hat); replace HL136_3 := Aside0.mk (Kd.V_afterv (Kd.V_apart_nil (kV HL136_3)) hg hat); replace HB := Aside0.mk (hb); have m0 := Aside0.mk (ho); clear ho hb hg hat))
  go_ret
  exact ⟨_, erf, by (with_reducible repeat (first | apply Kd.N_alloc | apply Kd.N_drewN | apply Kd.N_drew)); exact Kd.N_mono m0.out (fun _ hk => hk.1), bb HB⟩
 rw [if_pos c5] at H
 have h6 : decide (0 ≤ ((rd_T96 a3 a1).f1)) = true := decide_eq_true c5
 clear c5
 obtain ⟨b5, A6, H⟩ := obA H
 obtain ⟨c7, H⟩ := itn H
 have n7 := Aside0.mk c7
 clear c7
 obtain ⟨n2, c8⟩ : ∃ y_ : List (S99), y_ = (b5 ++ ((rd_T96 a3 a1).f3)) := ⟨_, rfl⟩
 replace H : (some n2) = some r := by first | (rw [c8]; with_reducible exact H) | (have H2_ := (Option.bind_some _ _).symm.trans H; rw [c8]; with_reducible exact H2_) | (have H2_ := (Option.bind_some _ _).symm.trans H; with_reducible exact H2_) | with_reducible exact H | (rw [c8]; exact H) | exact H
 have j7 := Aside0.mk c8
 clear c8
 obtain rfl := Option.some.inj H
 go_enter Tryz.func103, Tryz.ntmps103
 go_wp2_with (first | ((with_reducible refine gate_dst (N := 2) rfl ?_); refine be 2 #[.slice d1 a3.length a9, .slice b2 a7.length b1] 31 ?_; intro a6 hg w8 hbox hb; replace a5 := Aside0.mk (Kd.V_below (Kd.V_elderB (kV a5) a6 (Nat.le_of_eq hg.symm)) hb); have a8 := Aside0.mk (hbox); have m3 := bsz HB hg; replace HB := bstep HB hb; clear hb hbox hg; obtain ⟨q3, q2, q1, q0⟩ := cz2 a8; have b7 : 0 ≤ a1 := odt; have b6 : a1 < (a3.length : Int) := odt; obtain ⟨b0, j2, j0, g4, h4, h3, h2, b8, b3, b4⟩ := at_T96 (Kd.V_reads' a5.out).2.2 a1 b7 b6; cases g4; obtain ⟨ce128, hce128, hMe128, hcc128⟩ := Kd.V_get a5.out z96 a1 b7 (by first | exact b6 | exact odt | (have e_ := (Kd.V_reads' a5.out).1; omega)); obtain ⟨ua128_3, uc128_3, rfl, ul128_3, ge128_3⟩ := k96_openF hMe128; have hv128_3 := hcc128 3 _ rfl; rw [add_field _ _ 3 (by omega)] at hv128_3; replace hv128_3 := Option.some.inj (hv128_3.symm.trans b8); injection hv128_3 with hva_ hvn_ hvc_; rw [hva_] at ge128_3; rw [hvc_] at ul128_3; have HL128_3 := Aside0.mk (show Kd.V k99 99 _ w.heap.size _ _ ((rd_T96 a3 a1).f3) from Kd.V_mk ul128_3 ge128_3); clear hva_ hvn_ hvc_ ge128_3 ul128_3; clear hcc128 hce128; have d0 := Aside0.mk b4; have h5 := Aside0.mk b3; clear b4 b3; replace b7 := eq_true b7; replace b6 := eq_true b6) | ((with_reducible refine gate_callee (f := 103) rfl ?_); refine gl 17 Tryz.func103 #[.agg #[.slice (some b0) a3.length a9, .slice b2 a7.length b1], .int .i64 ((rd_T96 a3 a1).f1)] (h := ?_); (with_reducible refine (ih k (by omega) (fun k_ => ((P0_0_ k_ ∨ w.heap.size ≤ k_) ∧ k_ ≠ a6)) _ _ a3 _ _ a7 ((rd_T96 a3 a1).f1) b5 _ ?c1 ?b9 ?j3 A6.out).mono ?_); (case c1 => exact a5.out); (case b9 => exact cb j9 HB); (case j3 => exact m2.out); rintro e r3 ⟨e9, rfl, g6, hb⟩; refine ⟨_, rfl, ?_⟩; replace a5 := Aside0.mk (Kd.V_elder' (kV a5) (Kd.N_base g6) hb); replace HL128_3 := Aside0.mk (Kd.V_elder' (kV HL128_3) (Kd.N_base g6) hb); have e7 := Aside0.mk (Kd.N_lower (Kd.N_mono (ok' := fun k_ => (P0_0_ k_ ∨ w.heap.size ≤ k_) ∧ k_ ≠ a6) g6 (fun k_ hk_ => ⟨Or.elim hk_ (fun hs_ => hs_.1) (fun hn_ => (.inr (Nat.le_trans (below_size (bb HB)) hn_))), Or.elim hk_ (fun hs_ => hs_.2) (fun hn_ => (Kd.freshB (g := a6) (o := .cells #[.slice (some b0) a3.length a9, .slice b2 a7.length b1] 31 (0, 0)) (bk a8) k_ hn_))⟩)) (below_size (bb HB))); replace a8 := bkb a8 hb; replace d0 := kCb d0 hb; replace HB := bstep HB hb; clear hb g6; obtain ⟨p1, p0, o7, o6⟩ := cz2 a8; have e3 : 0 ≤ a1 := odt; have e1 : a1 < (a3.length : Int) := odt; obtain ⟨j5, q7, q5, n5, o3, o2, o1, h0, d7, d9⟩ := at_T96 (Kd.V_reads' a5.out).2.2 a1 e3 e1; obtain rfl : b0 = j5 := (by injection n5); obtain ⟨ce132, hce132, hMe132, hcc132⟩ := Kd.V_get a5.out z96 a1 e3 (by first | exact e1 | exact odt | (have e_ := (Kd.V_reads' a5.out).1; omega)); obtain ⟨ua132_3, uc132_3, rfl, ul132_3, ge132_3⟩ := k96_openF hMe132; have hv132_3 := hcc132 3 _ rfl; rw [add_field _ _ 3 (by omega)] at hv132_3; replace hv132_3 := Option.some.inj (hv132_3.symm.trans h0); injection hv132_3 with hva_ hvn_ hvc_; rw [hva_] at ge132_3; rw [hvc_] at ul132_3; have HL132_3 := Aside0.mk (show Kd.V k99 99 _ w.heap.size _ _ ((rd_T96 a3 a1).f3) from Kd.V_mk ul132_3 ge132_3); clear hva_ hvn_ hvc_ ge132_3 ul132_3; clear hcc132 hce132; have p3 := Aside0.mk d9; have p5 := Aside0.mk d7; clear d9 d7; replace e3 := eq_true e3; replace e1 := eq_true e1) | ((with_reducible refine gate_builtin (b := .append) (xs := #[.tmp 18, .tmp 24]) rfl ?_); at_builtin; refine Kd.N_append_rows k99 (w0 := w) w.heap.size rfl (.tmp 18) (.tmp 24) 94 99 (.agg #[(.string ⟨#[]⟩), (.int .i64 0), (.int .i64 0), (.slice none 0 0)]) 56 rfl Tryz.underlying94 info99 rfl (by decide) (by omega) e9 b5 ((rd_T96 a3 a1).f3) _ _ _ (fun k_ => (P0_0_ k_ ∨ w.heap.size ≤ k_) ∧ k_ ≠ a6) (fun k_ => ((fun k_ => (P0_0_ k_ ∨ w.heap.size ≤ k_) ∧ k_ ≠ a6)) k_ ∧ some k_ ≠ (e9 : Value).ownBlock) rfl rfl ?aO ?aR (fun _ hk => hk) ?aF ?aB ?aS ?aL ?_; (case aR => exact (by skip; exact Kd.V_F (Kd.V_mono (ok' := (fun k_ => ((fun k_ => (P0_0_ k_ ∨ w.heap.size ≤ k_) ∧ k_ ≠ a6)) k_ ∧ some k_ ≠ (e9 : Value).ownBlock)) (HL132_3.out) (fun k_ hk => ⟨⟨hk.1.1, hk.1.2⟩, hk.2⟩)))); (case aB => exact (bb HB)); (case aF => exact (fun k_ hk => ⟨(.inr (Nat.le_trans (below_size (bb HB)) hk)), Kd.freshB (g := a6) (o := .cells #[.slice (some b0) a3.length a9, .slice b2 a7.length b1] 31 (0, 0)) (bk a8) k_ hk⟩)); (case aO => exact (kN e7)); (case aS => exact (below_size (bb HB))); (case aL => have := n7.out; omega); intro q9 p8 ho hb hg hat; rw [← j7.out] at ho; replace a5 := Aside0.mk (Kd.V_afterv (ok := (fun k_ => (P0_0_ k_ ∨ w.heap.size ≤ k_) ∧ k_ ≠ a6)) (kV a5) hg hat); replace a8 := Aside0.mk (blk_grown (g := a6) (o := .cells #[.slice (some b0) a3.length a9, .slice b2 a7.length b1] 31 (0, 0)) (bk a8) hg (Kd.N_ne e7.out a8.out (by decide))); replace HL128_3 := Aside0.mk (Kd.V_afterv (ok := (fun k_ => (P0_0_ k_ ∨ w.heap.size ≤ k_) ∧ k_ ≠ a6)) (kV HL128_3) hg hat); replace HL132_3 := Aside0.mk (Kd.V_afterv (ok := (fun k_ => (P0_0_ k_ ∨ w.heap.size ≤ k_) ∧ k_ ≠ a6)) (kV HL132_3) hg hat); replace HB := Aside0.mk (hb); have m1 := Aside0.mk (ho); clear e7 ho hb hg hat))
 go_ret
 exact ⟨_, erf, by (with_reducible repeat (first | apply Kd.N_alloc | apply Kd.N_drewN | apply Kd.N_drew)); exact Kd.N_mono m1.out (fun _ hk => hk.1), bb HB⟩
def types_names.l0 : Nat → List ByteArray → List ByteArray → Int → Int → Option (Int)
 | 0, _, _, _, _ => none
 | k + 1, x0, x8, x9, d2 => if d2 < x9 then (if 0 ≤ d2 then (if d2 < (x8.length : Int) then ((token_IsName.f k (rdOf ByteArray.empty x8 d2)).bind fun g1 => (if g1 = true then (if d2 ≤ (x0.length : Int) then ((slices_Contains_string_string.f k (x0.take (d2 : Int).toNat) (rdOf ByteArray.empty x8 d2)).bind fun g0 => (if g0 = true then (some 5) else (types_names.l0 k x0 x8 x9 (wrap64 (d2 + 1))))) else (none)) else (some 2))) else (none)) else (none)) else (some 0)
def types_names.f (k : Nat) (l0 : List ByteArray) : Option (Int) := if (l0.length : Int) > 20 then (some 3) else (types_names.l0 k l0 l0 (l0.length : Int) 0)
theorem types_names.mono_l : ∀ k, (∀ y0 y1 y2 y3, LeO (types_names.l0 k y0 y1 y2 y3) (types_names.l0 (k + 1) y0 y1 y2 y3))
 | 0 => by (intros; intro r h; simp [types_names.l0] at h)
 | k + 1 => by
  have ih0 := types_names.mono_l k
  (intros; first | unfold types_names.l0)
  all_goals with_reducible repeat' first | exact ih0 .. | exact slices_Contains_string_string.mono .. | exact token_IsName.mono .. | exact LeO.refl _ | exact LeO.none _ | refine LeO.ite ?_ ?_ | refine LeO.bind ?_ fun _ => ?_
theorem types_names.mono : ∀ a0 k, LeO (types_names.f k a0) (types_names.f (k + 1) a0) := by
 intro a0 k
 have ih0 := types_names.mono_l k
 unfold types_names.f
 with_reducible repeat' first | exact ih0 .. | exact slices_Contains_string_string.mono .. | exact token_IsName.mono .. | exact LeO.refl _ | exact LeO.none _ | refine LeO.ite ?_ ?_ | refine LeO.bind ?_ fun _ => ?_
theorem types_names.calls (k : Nat) (A0 : Option Addr) (c0 : Nat) (l0 : List ByteArray) (r : Int) (w : World) (m5 : Kd.C Kd.string w A0 l0.length l0) (m6 : l0.length ≤ c0) (h : types_names.f k l0 = some r) :
  Calls Tryz.prog 119 #[.slice A0 l0.length c0] w fun e w' => e = .returned (.int .i64 r) ∧ Below w.heap.size w w' := by
 have j1 := Aside0.mk m5
 have m9 := Aside0.mk m6
 clear m5 m6
 have HB := Aside0.mk (Below.refl w.heap.size w)
 have H : (if (l0.length : Int) > 20 then (some 3) else (types_names.l0 k l0 l0 (l0.length : Int) 0)) = some r := h
 clear h
 by_cases c2 : (l0.length : Int) > 20
 ·rw [if_pos c2] at H
  have h9 : decide (20 < (l0.length : Int)) = true := decide_eq_true c2
  have h8 : decide (20 < l0.length) = true := decide_eq_true (by omega)
  clear c2
  obtain rfl := Option.some.inj H
  go_enter Tryz.func119, Tryz.ntmps119
  go_wp2
  go_ret
  exact ⟨erf, bb HB⟩
 rw [if_neg c2] at H
 have h9 : decide (20 < (l0.length : Int)) = false := decide_eq_false c2
 have h8 : decide (20 < l0.length) = false := decide_eq_false (by omega)
 clear c2
 have H' := Aside0.mk H
 clear H
 go_enter Tryz.func119, Tryz.ntmps119
 go_wp2
 go_loopg [10] k (fun kq p9 w' => ∃ (a4 : Int), p9 = .int .i64 a4 ∧ Aside0 (types_names.l0 kq l0 l0 (l0.length : Int) a4 = some r) ∧ Aside0 (kq ≤ k) ∧ Aside0 (Below w.heap.size w w'))
 case atStart => exact ⟨(0), eqs, H', ⟨Nat.le_refl _⟩, ⟨bb HB⟩⟩
 case round =>
  clear H' h9 h8
  obtain ⟨a4, rfl, HA, m8, HB⟩ := hrel
  cases gk with
  | zero => exact absurd HA.out (by simp [types_names.l0])
  | succ k1 =>
   have H := HA.out
   clear HA
   simp only [types_names.l0] at H
   by_cases c3 : a4 < (l0.length : Int)
   rotate_left
   ·rw [if_neg c3] at H
    have h7 := decide_eq_false c3
    clear c3
    obtain rfl := Option.some.inj H
    go_wp2
    go_ret
    exact ⟨erf, bb HB⟩
   rw [if_pos c3] at H
   have h7 := decide_eq_true c3
   clear c3
   obtain ⟨c4, H⟩ := itn H
   have n6 := decide_eq_true c4
   clear c4
   obtain ⟨c5, H⟩ := itn H
   have h6 := decide_eq_true c5
   clear c5
   obtain ⟨g1, A6, H⟩ := obA H
   by_cases c7 : g1 = true
   subst c7
   replace H := ift H
   have r2 := eq_true (odt : 0 ≤ a4)
   obtain ⟨c9, H⟩ := itn H
   have r1 := eq_true c9
   have r0 := decide_eq_true c9
   clear c9
   obtain ⟨g0, n0, H⟩ := obA H
   by_cases g9 : g0 = true
   subst g9
   replace H := ift H
   obtain rfl := Option.some.inj H
   rotate_left
   replace g9 := Bool.eq_false_iff.mpr g9
   subst g9
   replace H := iff_ H
   have H' := Aside0.mk H
   clear H
   rotate_left
   replace c7 := Bool.eq_false_iff.mpr c7
   subst c7
   replace H := iff_ H
   obtain rfl := Option.some.inj H
   all_goals
    have g3 : 0 ≤ a4 := odt
    have g2 : a4 < (l0.length : Int) := odt
    obtain ⟨d3, n3, d4⟩ := Kd.at_string j1.out a4 g3 g2
    cases n3
    replace d4 := hxc HB d4
    replace g3 := eq_true g3
    replace g2 := eq_true g2
   ·go_wp2_with ((with_reducible refine gate_callee (f := 100) rfl ?_); refine gl 17 Tryz.func100 #[.string (rdOf ByteArray.empty l0 a4)] (h := ?_); (with_reducible refine (token_IsName.calls _ _ _ _ A6.out).mono ?_); rintro e p6 ⟨rfl, hb⟩; refine ⟨_, rfl, ?_⟩; replace HB := bstep HB hb; clear hb)
    go_ret
    exact ⟨erf, bb HB⟩
   ·go_wp2_with (first | ((with_reducible refine gate_callee (f := 100) rfl ?_); refine gl 17 Tryz.func100 #[.string (rdOf ByteArray.empty l0 a4)] (h := ?_); (with_reducible refine (token_IsName.calls _ _ _ _ A6.out).mono ?_); rintro e p8 ⟨rfl, hb⟩; refine ⟨_, rfl, ?_⟩; replace HB := bstep HB hb; clear hb; obtain ⟨i013, g8, _, hsz13, _⟩ := info_parts info9; obtain ⟨hcut13, hA13, hC13⟩ := print_take_of (P := Tryz.prog) Value.string (⟨#[]⟩ : ByteArray) 97 9 .i64 Tryz.underlying97 g8 hsz13 (some d3) c0 l0 a4 (odt) (odt) m9.out; have e6 := Aside0.mk (Kd.C_of_reads (h1 := fun _ => rfl) (hA13 _ (Kd.reads_of_C j1.out))); have e8 := Aside0.mk hC13; clear hA13 hC13 g8 hsz13) | ((with_reducible refine gate_callee (f := 126) rfl ?_); refine goesL_ (some 24) rfl rfl Tryz.func126 (by kernel_rfl) rfl #[.slice (some d3) (l0.take (a4 : Int).toNat).length c0, .string (rdOf ByteArray.empty l0 a4)] rfl (by (try simp only [List.map_toArray, List.map_cons, List.map_nil]); first | done | (rw [show (l0.take (a4 : Int).toNat).length = a4.toNat from (by rw [List.length_take]; have h_ : (a4 : Int) ≤ (l0.length : Int) := odt; omega)] <;> rfl) | rfl | (simp only [List.length_drop, List.length_take]; rfl)) ?_; (with_reducible refine (slices_Contains_string_string.calls _ _ _ _ _ _ _ ?c1 ?b9 n0.out).mono ?_); (case c1 => exact cb e6 HB); (case b9 => exact e8.out); rintro e w' ⟨rfl, ⟨nd, rfl⟩⟩; refine ⟨_, rfl, ?_⟩))
    go_ret
    exact ⟨erf, bb HB⟩
   ·go_wp2_with (first | ((with_reducible refine gate_callee (f := 100) rfl ?_); refine gl 17 Tryz.func100 #[.string (rdOf ByteArray.empty l0 a4)] (h := ?_); (with_reducible refine (token_IsName.calls _ _ _ _ A6.out).mono ?_); rintro e p7 ⟨rfl, hb⟩; refine ⟨_, rfl, ?_⟩; replace HB := bstep HB hb; clear hb; obtain ⟨i015, g7, _, hsz15, _⟩ := info_parts info9; obtain ⟨hcut15, hA15, hC15⟩ := print_take_of (P := Tryz.prog) Value.string (⟨#[]⟩ : ByteArray) 97 9 .i64 Tryz.underlying97 g7 hsz15 (some d3) c0 l0 a4 (odt) (odt) m9.out; have e6 := Aside0.mk (Kd.C_of_reads (h1 := fun _ => rfl) (hA15 _ (Kd.reads_of_C j1.out))); have e8 := Aside0.mk hC15; clear hA15 hC15 g7 hsz15) | ((with_reducible refine gate_callee (f := 126) rfl ?_); refine goesL_ (some 24) rfl rfl Tryz.func126 (by kernel_rfl) rfl #[.slice (some d3) (l0.take (a4 : Int).toNat).length c0, .string (rdOf ByteArray.empty l0 a4)] rfl (by (try simp only [List.map_toArray, List.map_cons, List.map_nil]); first | done | (rw [show (l0.take (a4 : Int).toNat).length = a4.toNat from (by rw [List.length_take]; have h_ : (a4 : Int) ≤ (l0.length : Int) := odt; omega)] <;> rfl) | rfl | (simp only [List.length_drop, List.length_take]; rfl)) ?_; (with_reducible refine (slices_Contains_string_string.calls _ _ _ _ _ _ _ ?c1 ?b9 n0.out).mono ?_); (case c1 => exact cb e6 HB); (case b9 => exact e8.out); rintro e w' ⟨rfl, ⟨nd, rfl⟩⟩; refine ⟨_, rfl, ?_⟩))
    go_roundg k1
    case measure => have := m8.out; omega
    case rel => exact ⟨(wrap64 (a4 + 1)), eqs, H', ⟨by have := m8.out; omega⟩, ⟨bb HB⟩⟩
def types_attribute.j0 : Nat → Bool → ByteArray → Int → Int → List ByteArray → Option (Int)
 | 0, _, _, _, _, _ => none
 | k + 1, x6, h7, d8, d7, c2 => if (c2.length : Int) > 0 then (if d8 = 0 then (if (d7 = (wrap64 ((c2.length : Int) - 1))) then (some 0) else (some 6)) else (some 6)) else (if x6 = true then (some 0) else (some 6))
def types_attribute.f (k : Nat) (a9 : ByteArray) (a8 : Int) (a7 : Int) (a6 : List ByteArray) (l1 : List (S99)) : Option (Int) := (token_IsName.f k a9).bind fun b7 => (if b7 = true then ((any_attr.f l1 a9).bind fun b6 => (if b6 = true then (some 5) else ((types_names.f k a6).bind fun b3 => (if b3 = 0 then (if (-1000000) ≤ a8 then (if a8 ≤ a7 then (types_attribute.j0 k (decide (a7 ≤ 1000000)) a9 a8 a7 a6) else (types_attribute.j0 k false a9 a8 a7 a6)) else (types_attribute.j0 k false a9 a8 a7 a6)) else (some b3))))) else (some 2))
theorem types_attribute.mono_l : ∀ k, (∀ y0 y1 y2 y3 y4, LeO (types_attribute.j0 k y0 y1 y2 y3 y4) (types_attribute.j0 (k + 1) y0 y1 y2 y3 y4))
 | 0 => by (intros; intro r h; simp [types_attribute.j0] at h)
 | k + 1 => by
  have ih0 := types_attribute.mono_l k
  (intros; first | unfold types_attribute.j0)
  all_goals with_reducible repeat' first | exact ih0 .. | exact token_IsName.mono .. | exact types_names.mono .. | exact LeO.refl _ | exact LeO.none _ | refine LeO.ite ?_ ?_ | refine LeO.bind ?_ fun _ => ?_
theorem types_attribute.mono : ∀ a0 a1 a2 a3 a4 k, LeO (types_attribute.f k a0 a1 a2 a3 a4) (types_attribute.f (k + 1) a0 a1 a2 a3 a4) := by
 intro a0 a1 a2 a3 a4 k
 have ih0 := types_attribute.mono_l k
 unfold types_attribute.f
 with_reducible repeat' first | exact ih0 .. | exact token_IsName.mono .. | exact types_names.mono .. | exact LeO.refl _ | exact LeO.none _ | refine LeO.ite ?_ ?_ | refine LeO.bind ?_ fun _ => ?_
theorem types_attribute.calls (k : Nat) (a9 : ByteArray) (a8 : Int) (a7 : Int) (b2 : Option Addr) (b1 : Nat) (a6 : List ByteArray) (A1 : Option Addr) (c1 : Nat) (l1 : List (S99)) (r : Int) (w : World) (c9 : Kd.C Kd.string w b2 a6.length a6) (d0 : a6.length ≤ b1) (h4 : Kd.C k99 w A1 l1.length l1) (h5 : l1.length ≤ c1) (h : types_attribute.f k a9 a8 a7 a6 l1 = some r) :
  Calls Tryz.prog 104 #[.agg #[.string a9, .int .i64 a8, .int .i64 a7, .slice b2 a6.length b1], .slice A1 l1.length c1] w fun e w' => e = .returned (.int .i64 r) ∧ Below w.heap.size w w' := by
 have hu99 := Tryz.underlying99
 have d4 := Aside0.mk c9
 have d5 := Aside0.mk d0
 clear c9 d0
 have g5 := Aside0.mk h4
 have g6 := Aside0.mk h5
 clear h4 h5
 have HB := Aside0.mk (Below.refl w.heap.size w)
 have H : ((token_IsName.f k a9).bind fun b7 => (if b7 = true then ((any_attr.f l1 a9).bind fun b6 => (if b6 = true then (some 5) else ((types_names.f k a6).bind fun b3 => (if b3 = 0 then (if (-1000000) ≤ a8 then (if a8 ≤ a7 then (types_attribute.j0 k (decide (a7 ≤ 1000000)) a9 a8 a7 a6) else (types_attribute.j0 k false a9 a8 a7 a6)) else (types_attribute.j0 k false a9 a8 a7 a6)) else (some b3))))) else (some 2))) = some r := h
 clear h
 obtain ⟨b7, A3, H⟩ := obA H
 by_cases c4 : b7 = true
 subst c4
 replace H := ift H
 obtain ⟨b6, A5, H⟩ := obA H
 by_cases c6 : b6 = true
 ·subst c6
  replace H := ift H
  obtain rfl := Option.some.inj H
  go_enter Tryz.func104, Tryz.ntmps104
  go_wp2_with (first | ((with_reducible refine gate_dst (N := 2) rfl ?_); (try (refine gate_guard (by rfl) ?_; dsimp only)); refine be 2 #[.string a9, .int .i64 a8, .int .i64 a7, .slice b2 a6.length b1] 99 ?_; intro b0 hg w7 hbox hb; have a5 := Aside0.mk (hbox); have d6 := bsz HB hg; replace HB := bstep HB hb; clear hb hbox hg; obtain ⟨s0, r9, r8, r7, r6, r5, r4, r3⟩ := cz4 a5) | ((with_reducible refine gate_callee (f := 100) rfl ?_); refine gl 10 Tryz.func100 #[.string a9] (h := ?_); (with_reducible refine (token_IsName.calls _ _ _ _ A3.out).mono ?_); rintro e w9 ⟨rfl, hb⟩; refine ⟨_, rfl, ?_⟩; replace a5 := bkb a5 hb; replace HB := bstep HB hb; clear hb) | ((with_reducible refine gate_callee (f := 117) rfl ?_); refine gl 15 Tryz.func117 #[.slice A1 l1.length c1, .func (.func 118) #[] #[.pointer (some ⟨b0, 0, none⟩)]] (h := ?_); (with_reducible refine (any_attr.calls _ _ l1 b0 a9 (.int .i64 a8) (.int .i64 a7) (.slice b2 a6.length b1) true _ (cb g5 HB) g6.out (bk a5) A5.out).mono ?_); rintro e t1 ⟨rfl, hb⟩; refine ⟨_, rfl, ?_⟩; replace a5 := bkb a5 hb; replace HB := bstep HB hb; clear hb))
  go_ret
  exact ⟨erf, bb HB⟩
 replace c6 := Bool.eq_false_iff.mpr c6
 subst c6
 replace H := iff_ H
 obtain ⟨b3, h6, H⟩ := obA H
 by_cases c0 : b3 = 0
 ·rw [if_pos c0] at H
  have d3 := beq_iff_eq.mpr c0
  have d2 := bne_eq_false_iff_eq.mpr c0
  clear c0
  have c8 := Aside0.mk H
  clear H
  go_enter Tryz.func104, Tryz.ntmps104
  go_upto_region 8 with (first | ((with_reducible refine gate_dst (N := 2) rfl ?_); (try (refine gate_guard (by rfl) ?_; dsimp only)); refine be 2 #[.string a9, .int .i64 a8, .int .i64 a7, .slice b2 a6.length b1] 99 ?_; intro b0 hg t0 hbox hb; have a5 := Aside0.mk (hbox); have d6 := bsz HB hg; replace HB := bstep HB hb; clear hb hbox hg; obtain ⟨g4, g3, g2, g1, e6, e5, e4, e3⟩ := cz4 a5) | ((with_reducible refine gate_callee (f := 100) rfl ?_); refine gl 10 Tryz.func100 #[.string a9] (h := ?_); (with_reducible refine (token_IsName.calls _ _ _ _ A3.out).mono ?_); rintro e s9 ⟨rfl, hb⟩; refine ⟨_, rfl, ?_⟩; replace a5 := bkb a5 hb; replace HB := bstep HB hb; clear hb) | ((with_reducible refine gate_callee (f := 117) rfl ?_); refine gl 15 Tryz.func117 #[.slice A1 l1.length c1, .func (.func 118) #[] #[.pointer (some ⟨b0, 0, none⟩)]] (h := ?_); (with_reducible refine (any_attr.calls _ _ l1 b0 a9 (.int .i64 a8) (.int .i64 a7) (.slice b2 a6.length b1) false _ (cb g5 HB) g6.out (bk a5) A5.out).mono ?_); rintro e s8 ⟨rfl, hb⟩; refine ⟨_, rfl, ?_⟩; replace a5 := bkb a5 hb; replace HB := bstep HB hb; clear hb; obtain ⟨g0, e9, e8, e7, e2, e1, e0, d9⟩ := cz4 a5) | ((with_reducible refine gate_callee (f := 119) rfl ?_); refine gl 18 Tryz.func119 #[.slice b2 a6.length b1] (h := ?_); (with_reducible refine (types_names.calls _ _ _ _ _ _ (cb d4 HB) d5.out h6.out).mono ?_); rintro e s7 ⟨rfl, hb⟩; refine ⟨_, rfl, ?_⟩; replace a5 := bkb a5 hb; replace HB := bstep HB hb; clear hb))
  (try simp only [Act.put, List.setIfInBounds_toArray, List.set_cons_zero, List.set_cons_succ])
  go_cut [6] (fun v6 wc => ∃ (kq : Nat) (b5 : Bool), v6 = .bool b5 ∧ Aside0 (types_attribute.j0 kq b5 a9 a8 a7 a6 = some r) ∧ Aside0 (kq ≤ k) ∧ Aside0 (wc.heap[b0]? = some (.cells #[.string a9, .int .i64 a8, .int .i64 a7, (.slice b2 a6.length b1)] 99 (0, 0))) ∧ Aside0 (Below w.heap.size w wc))
  case first =>
   have H := c8.out
   clear c8
   by_cases c7 : (-1000000) ≤ a8
   rw [if_pos c7] at H
   have b4 := decide_eq_true c7
   clear c7
   (first | rw [b4] | (simp only [i64_w, i32_w]; rw [b4]) | skip)
   by_cases c5 : a8 ≤ a7
   rw [if_pos c5] at H
   have h3 := decide_eq_true c5
   clear c5
   have H' := Aside0.mk H
   clear H
   rotate_left
   rw [if_neg c5] at H
   have h3 := decide_eq_false c5
   clear c5
   have H' := Aside0.mk H
   clear H
   rotate_left
   rw [if_neg c7] at H
   have b4 := decide_eq_false c7
   clear c7
   (first | rw [b4] | (simp only [i64_w, i32_w]; rw [b4]) | skip)
   have H' := Aside0.mk H
   clear H
   all_goals
    obtain ⟨r2, r1, r0, q9, o0, n9, n8, n7⟩ := cz4 a5
    go_wp2
    go_meet
    case rel => exact ⟨_, _, eqs, H', ⟨by first | omega | exact Nat.le_refl _⟩, ⟨bk a5⟩, ⟨bb HB⟩⟩
  case rest =>
   clear c8
   try clear c6 d3 d2 g4 g3 g2 g1 g0 e9 e8 e7 e6 e5 e4 e3 e2 e1 e0 d9
   obtain ⟨kq, b5, rfl, HA, s2, a5, HB⟩ := hcut
   cases kq with
   | zero => exact absurd HA.out (by simp [types_attribute.j0])
   | succ s1 =>
    have H := HA.out
    clear HA
    simp only [types_attribute.j0] at H
    by_cases c3 : (a6.length : Int) > 0
    rotate_left
    ·rw [if_neg c3] at H
     have h2 : decide (0 < (a6.length : Int)) = false := decide_eq_false c3
     have h1 : decide (0 < a6.length) = false := decide_eq_false (by omega)
     clear c3
     by_cases d1 : b5 = true
     ·subst d1
      replace H := ift H
      obtain rfl := Option.some.inj H
      obtain ⟨p6, p5, p4, p3, m4, m3, m2, m1⟩ := cz4 a5
      go_wp2
      go_ret
      exact ⟨erf, bb HB⟩
     replace d1 := Bool.eq_false_iff.mpr d1
     subst d1
     replace H := iff_ H
     obtain rfl := Option.some.inj H
     obtain ⟨p2, p1, p0, o9, m0, j9, j8, j7⟩ := cz4 a5
     go_wp2
     go_ret
     exact ⟨erf, bb HB⟩
    rw [if_pos c3] at H
    have h2 : decide (0 < (a6.length : Int)) = true := decide_eq_true c3
    have h1 : decide (0 < a6.length) = true := decide_eq_true (by omega)
    clear c3
    by_cases b9 : a8 = 0
    rotate_left
    ·rw [if_neg b9] at H
     have h0 := beq_eq_false_iff_ne.mpr b9
     have g9 := bne_iff_ne.mpr b9
     obtain rfl := Option.some.inj H
     obtain ⟨q0, p9, p8, p7, m8, m7, m6, m5⟩ := cz4 a5
     go_wp2
     go_ret
     exact ⟨erf, bb HB⟩
    rw [if_pos b9] at H
    have h0 := beq_iff_eq.mpr b9
    have g9 := bne_eq_false_iff_eq.mpr b9
    clear b9
    by_cases b8 : (a7 = (wrap64 ((a6.length : Int) - 1)))
    rotate_left
    ·rw [if_neg b8] at H
     have g8 : (a7 == (wrap64 ((a6.length : Int) - 1))) = false := beq_eq_false_iff_ne.mpr b8
     have g7 : (a7 != (wrap64 ((a6.length : Int) - 1))) = true := bne_iff_ne.mpr b8
     obtain rfl := Option.some.inj H
     obtain ⟨q4, q3, q2, q1, n2, n1, n0, m9⟩ := cz4 a5
     go_wp2
     go_ret
     exact ⟨erf, bb HB⟩
    rw [if_pos b8] at H
    have g8 : (a7 == (wrap64 ((a6.length : Int) - 1))) = true := beq_iff_eq.mpr b8
    have g7 : (a7 != (wrap64 ((a6.length : Int) - 1))) = false := bne_eq_false_iff_eq.mpr b8
    clear b8
    obtain rfl := Option.some.inj H
    obtain ⟨q8, q7, q6, q5, n6, n5, n4, n3⟩ := cz4 a5
    go_wp2
    go_ret
    exact ⟨erf, bb HB⟩
 rw [if_neg c0] at H
 have d3 := beq_eq_false_iff_ne.mpr c0
 have d2 := bne_iff_ne.mpr c0
 obtain rfl := Option.some.inj H
 rotate_left
 replace c4 := Bool.eq_false_iff.mpr c4
 subst c4
 replace H := iff_ H
 obtain rfl := Option.some.inj H
 all_goals
  go_enter Tryz.func104, Tryz.ntmps104
  go_wp2_with (first | ((with_reducible refine gate_dst (N := 2) rfl ?_); (try (refine gate_guard (by rfl) ?_; dsimp only)); refine be 2 #[.string a9, .int .i64 a8, .int .i64 a7, .slice b2 a6.length b1] 99 ?_; intro b0 hg s6 hbox hb; have a5 := Aside0.mk (hbox); have d6 := bsz HB hg; replace HB := bstep HB hb; clear hb hbox hg; obtain ⟨o8, o7, o6, o5, j6, j5, j4, j3⟩ := cz4 a5) | ((with_reducible refine gate_callee (f := 100) rfl ?_); refine gl 10 Tryz.func100 #[.string a9] (h := ?_); (with_reducible refine (token_IsName.calls _ _ _ _ A3.out).mono ?_); rintro e s5 ⟨rfl, hb⟩; refine ⟨_, rfl, ?_⟩; replace a5 := bkb a5 hb; replace HB := bstep HB hb; clear hb) | ((with_reducible refine gate_callee (f := 117) rfl ?_); refine gl 15 Tryz.func117 #[.slice A1 l1.length c1, .func (.func 118) #[] #[.pointer (some ⟨b0, 0, none⟩)]] (h := ?_); (with_reducible refine (any_attr.calls _ _ l1 b0 a9 (.int .i64 a8) (.int .i64 a7) (.slice b2 a6.length b1) false _ (cb g5 HB) g6.out (bk a5) A5.out).mono ?_); rintro e s4 ⟨rfl, hb⟩; refine ⟨_, rfl, ?_⟩; replace a5 := bkb a5 hb; replace HB := bstep HB hb; clear hb; obtain ⟨o4, o3, o2, o1, j2, j1, h9, h8⟩ := cz4 a5) | ((with_reducible refine gate_callee (f := 119) rfl ?_); refine gl 18 Tryz.func119 #[.slice b2 a6.length b1] (h := ?_); (with_reducible refine (types_names.calls _ _ _ _ _ _ (cb d4 HB) d5.out h6.out).mono ?_); rintro e s3 ⟨rfl, hb⟩; refine ⟨_, rfl, ?_⟩; replace a5 := bkb a5 hb; replace HB := bstep HB hb; clear hb))
  go_ret
  exact ⟨erf, bb HB⟩
end Go.Proofs.YtfpianecohobjaaGreat.P
