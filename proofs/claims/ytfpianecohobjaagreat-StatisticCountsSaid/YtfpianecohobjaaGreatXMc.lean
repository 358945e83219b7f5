/- StatisticOf: a part of its proof. No condition. -/
import Derived.Test.YtfpianecohobjaaGreatXPx0
import Derived.Test.YtfpianecohobjaaGreatXH0
import Derived.Test.YtfpianecohobjaaGreatXH1
namespace Go.Proofs.YtfpianecohobjaaGreat.P
open Go.RowKit Go.Proofs.YtfpianecohobjaaGreatW.PrintWords Go.Proofs.YtfpianecohobjaaGreatW.PrintLast Go.Proofs.YtfpianecohobjaaGreatW.PrintMore
set_option maxHeartbeats 8000000
set_option maxRecDepth 100000
set_option linter.unusedVariables false
set_option linter.unusedSimpArgs false
def graph_Valid.j0 : Nat → Bool → List Int → List (S56) → Option (Int)
 | 0, _, _, _ => none
 | k + 1, m4, c0, e4 => if m4 = true then (some 3) else ((any_graph1.f c0).bind fun d4 => (if d4 = true then (some 6) else ((any_graph2.f e4 c0).bind fun d3 => (if d3 = true then (some 6) else (some 0)))))
def graph_Valid.f (k : Nat) (a2 : List Int) (a5 : List (S56)) : Option (Int) := if (a2.length : Int) > 40 then (graph_Valid.j0 k true a2 a5) else (graph_Valid.j0 k (decide ((a5.length : Int) > 80)) a2 a5)
theorem graph_Valid.mono_l : ∀ k, (∀ y0 y1 y2, LeO (graph_Valid.j0 k y0 y1 y2) (graph_Valid.j0 (k + 1) y0 y1 y2))
 | 0 => fun _ _ _ r h => by simp [graph_Valid.j0] at h
 | k + 1 => by
  have ih0 := graph_Valid.mono_l k
  ·intro y0 y1 y2
   unfold graph_Valid.j0
   repeat' first
   | (with_reducible exact ih0 _ _ _)
   | (with_reducible exact LeO.refl _)
   | (with_reducible exact LeO.none _)
   | (with_reducible refine LeO.ite ?_ ?_)
   | (with_reducible refine LeO.bind ?_ (fun _ => ?_))
theorem graph_Valid.mono : ∀ a0 a1 k, LeO (graph_Valid.f k a0 a1) (graph_Valid.f (k + 1) a0 a1) := by
 intro a0 a1 k
 have ih0 := graph_Valid.mono_l k
 unfold graph_Valid.f
 repeat' first
   | (with_reducible exact ih0 _ _ _)
   | (with_reducible exact LeO.refl _)
   | (with_reducible exact LeO.none _)
   | (with_reducible refine LeO.ite ?_ ?_)
   | (with_reducible refine LeO.bind ?_ (fun _ => ?_))
theorem graph_Valid.calls (k : Nat) (b0 : Option Addr) (a9 : Nat) (a2 : List Int) (b3 : Option Addr) (b2 : Nat) (a5 : List (S56)) (r : Int) (w : World) (d7 : Kd.C (Kd.int .i64) w b0 a2.length a2) (d9 : a2.length ≤ a9) (d6 : Kd.C k56 w b3 a5.length a5) (d8 : a5.length ≤ b2) (h : graph_Valid.f k a2 a5 = some r) :
  Calls Tryz.prog 37 #[.agg #[.slice b0 a2.length a9, .slice b3 a5.length b2]] w fun e w' => e = .returned (.int .i64 r) ∧ Below w.heap.size w w' := by
 have hu35 := Tryz.underlying35
 have d1 := am d7
 have d2 := am d9
 clear d7 d9
 have e2 := am d6
 have e3 := am d8
 clear d6 d8
 have HB := am (Below.refl w.heap.size w)
 have H : (if (a2.length : Int) > 40 then (graph_Valid.j0 k true a2 a5) else (graph_Valid.j0 k (decide ((a5.length : Int) > 80)) a2 a5)) = some r := h
 clear h
 have g5 := am H
 clear H
 go_enter Tryz.func37, Tryz.ntmps37
 go_upto_region 1 with (first | ((with_reducible refine gate_dst (N := 1) rfl ?_); (try (refine gate_guard (by rfl) ?_; dsimp only)); refine be 1 #[.slice b0 a2.length a9, .slice b3 a5.length b2] 35 ?_; intro b4 hg w3 hbox hb; have a3 := am (hbox); have m8 := bsz HB hg; replace HB := bstep HB hb; clear hb hbox hg))
 (try simp only [Act.put, List.setIfInBounds_toArray, List.set_cons_zero, List.set_cons_succ])
 go_cut [12] (fun m6 wc => ∃ (kq : Nat) (b8 : Bool), m6 = .bool b8 ∧ Aside0 (graph_Valid.j0 kq b8 a2 a5 = some r) ∧ Aside0 (kq ≤ k) ∧ Aside0 (wc.heap[b4]? = some (.cells #[(.slice b0 a2.length a9), (.slice b3 a5.length b2)] 35 (0, 0))) ∧ Aside0 (Below w.heap.size w wc))
 case first =>
  have H := g5.out
  clear g5
  by_cases c4 : (a2.length : Int) > 40
  rotate_left
  ·rw [if_neg c4] at H
   have b1 : decide (40 < (a2.length : Int)) = false := decide_eq_false c4
   have g3 : decide (40 < a2.length) = false := decide_eq_false (by omega)
   clear c4
   (first | rw [b1] | (simp only [i64_w, i32_w]; rw [b1]) | skip)
   have H' := am H
   clear H
   obtain ⟨g0, e9, e6, e5⟩ := cz2 a3
   go_wp2
   go_meet
   case rel => exact ⟨_, (decide ((a5.length : Int) > 80)), eqs, H', ⟨by first | omega | exact Nat.le_refl _⟩, ⟨bk a3⟩, ⟨bb HB⟩⟩
  rw [if_pos c4] at H
  have b1 : decide (40 < (a2.length : Int)) = true := decide_eq_true c4
  have g3 : decide (40 < a2.length) = true := decide_eq_true (by omega)
  clear c4
  (first | rw [b1] | (simp only [i64_w, i32_w]; rw [b1]) | skip)
  have H' := am H
  clear H
  obtain ⟨g2, g1, e8, e7⟩ := cz2 a3
  go_wp2
  go_meet
  case rel => exact ⟨_, (true), eqs, H', ⟨by first | omega | exact Nat.le_refl _⟩, ⟨bk a3⟩, ⟨bb HB⟩⟩
 case rest =>
  clear g5
  try clear p2
  try clear c3
  try clear c4
  try clear b1
  try clear g3
  try clear g2
  try clear g1
  try clear g0
  try clear e9
  try clear e8
  try clear e7
  try clear e6
  try clear e5
  obtain ⟨kq, b8, rfl, HA, n7, a3, HB⟩ := hcut
  cases kq with
  | zero => exact absurd HA.out (by simp [graph_Valid.j0])
  | succ n5 =>
   have H := HA.out
   clear HA
   simp only [graph_Valid.j0] at H
   by_cases c7 : b8 = true
   ·subst c7
    replace H := ift H
    obtain rfl := Option.some.inj H
    go_wp2
    go_ret
    exact ⟨erf, bb HB⟩
   replace c7 := Bool.eq_false_iff.mpr c7
   subst c7
   replace H := iff_ H
   obtain ⟨d4, A8, H⟩ := obA H
   by_cases c9 : d4 = true
   ·subst c9
    replace H := ift H
    obtain rfl := Option.some.inj H
    obtain ⟨m2, m1, j2, j1⟩ := cz2 a3
    go_wp2_with (first | ((with_reducible refine gate_callee (f := 68) rfl ?_); refine gl 15 Tryz.func68 #[.slice b0 a2.length a9, .func (.func 69) #[] #[]] (h := ?_); (with_reducible refine (any_graph1.calls _ _ a2  true _ ?a7 ?a6 A8.out).mono ?_); (case a7 => exact cb d1 HB); (case a6 => exact d2.out); rintro e n3 ⟨rfl, hb⟩; refine ⟨_, rfl, ?_⟩; replace a3 := bkb a3 hb; replace HB := bstep HB hb; (try clear hb); (try clear hb2); (try clear hk); (try clear hi)))
    go_ret
    exact ⟨erf, bb HB⟩
   replace c9 := Bool.eq_false_iff.mpr c9
   subst c9
   replace H := iff_ H
   obtain ⟨d3, g7, H⟩ := obA H
   by_cases e0 : d3 = true
   ·subst e0
    replace H := ift H
    obtain rfl := Option.some.inj H
    obtain ⟨m0, j9, h9, h8⟩ := cz2 a3
    go_wp2_with (first | ((with_reducible refine gate_callee (f := 68) rfl ?_); refine gl 15 Tryz.func68 #[.slice b0 a2.length a9, .func (.func 69) #[] #[]] (h := ?_); (with_reducible refine (any_graph1.calls _ _ a2  false _ ?a7 ?a6 A8.out).mono ?_); (case a7 => exact cb d1 HB); (case a6 => exact d2.out); rintro e n2 ⟨rfl, hb⟩; refine ⟨_, rfl, ?_⟩; replace a3 := bkb a3 hb; replace HB := bstep HB hb; (try clear hb); (try clear hb2); (try clear hk); (try clear hi); obtain ⟨j8, j7, h7, h6⟩ := cz2 a3) | ((with_reducible refine gate_callee (f := 70) rfl ?_); refine gl 19 Tryz.func70 #[.slice b3 a5.length b2, .func (.func 71) #[] #[.pointer (some ⟨b4, 0, none⟩)]] (h := ?_); (with_reducible refine (any_graph2.calls _ _ a5 b4 b0 a9 a2 (.slice b3 a5.length b2) true _ ?a7 ?a6 ?d0 g7.out).mono ?_); (case a7 => exact cb e2 HB); (case a6 => exact e3.out); (case d0 => exact (bk a3)); rintro e n1 ⟨rfl, hb⟩; refine ⟨_, rfl, ?_⟩; replace a3 := bkb a3 hb; replace HB := bstep HB hb; (try clear hb); (try clear hb2); (try clear hk); (try clear hi)))
    go_ret
    exact ⟨erf, bb HB⟩
   replace e0 := Bool.eq_false_iff.mpr e0
   subst e0
   replace H := iff_ H
   obtain rfl := Option.some.inj H
   obtain ⟨j6, j5, h5, h4⟩ := cz2 a3
   go_wp2_with (first | ((with_reducible refine gate_callee (f := 68) rfl ?_); refine gl 15 Tryz.func68 #[.slice b0 a2.length a9, .func (.func 69) #[] #[]] (h := ?_); (with_reducible refine (any_graph1.calls _ _ a2  false _ ?a7 ?a6 A8.out).mono ?_); (case a7 => exact cb d1 HB); (case a6 => exact d2.out); rintro e n0 ⟨rfl, hb⟩; refine ⟨_, rfl, ?_⟩; replace a3 := bkb a3 hb; replace HB := bstep HB hb; (try clear hb); (try clear hb2); (try clear hk); (try clear hi); obtain ⟨j4, j3, h3, h2⟩ := cz2 a3) | ((with_reducible refine gate_callee (f := 70) rfl ?_); refine gl 19 Tryz.func70 #[.slice b3 a5.length b2, .func (.func 71) #[] #[.pointer (some ⟨b4, 0, none⟩)]] (h := ?_); (with_reducible refine (any_graph2.calls _ _ a5 b4 b0 a9 a2 (.slice b3 a5.length b2) false _ ?a7 ?a6 ?d0 g7.out).mono ?_); (case a7 => exact cb e2 HB); (case a6 => exact e3.out); (case d0 => exact (bk a3)); rintro e m9 ⟨rfl, hb⟩; refine ⟨_, rfl, ?_⟩; replace a3 := bkb a3 hb; replace HB := bstep HB hb; (try clear hb); (try clear hb2); (try clear hk); (try clear hi)))
   go_ret
   exact ⟨erf, bb HB⟩
def token_letter.f (a0 : Int) : Option (Bool) := if a0 ≥ 97 then (if a0 ≤ 122 then (some true) else (if a0 ≥ 65 then (some (decide (a0 ≤ 90))) else (some false))) else (if a0 ≥ 65 then (some (decide (a0 ≤ 90))) else (some false))
theorem token_letter.calls (a0 : Int) (r : Bool) (w : World) (h : token_letter.f a0 = some r) :
  Calls Tryz.prog 129 #[.int .u8 a0] w fun e w' => e = .returned (.bool r) ∧ Drawn0 w w' := by
 have H : (if a0 ≥ 97 then (if a0 ≤ 122 then (some true) else (if a0 ≥ 65 then (some (decide (a0 ≤ 90))) else (some false))) else (if a0 ≥ 65 then (some (decide (a0 ≤ 90))) else (some false))) = some r := h
 clear h
 by_cases c2 : a0 ≥ 97
 rotate_left
 ·rw [if_neg c2] at H
  have b9 : decide (97 ≤ a0) = false := decide_eq_false c2
  clear c2
  by_cases c5 : a0 ≥ 65
  ·rw [if_pos c5] at H
   have a8 : decide (65 ≤ a0) = true := decide_eq_true c5
   clear c5
   obtain rfl := Option.some.inj H
   go_enter Tryz.func129, Tryz.ntmps129
   go_wp2
   go_ret
   exact ⟨by first | rfl | (simp; done) | (simp [*]; done), drw⟩
  rw [if_neg c5] at H
  have a8 : decide (65 ≤ a0) = false := decide_eq_false c5
  clear c5
  obtain rfl := Option.some.inj H
  go_enter Tryz.func129, Tryz.ntmps129
  go_wp2
  go_ret
  exact ⟨by first | rfl | (simp; done) | (simp [*]; done), drw⟩
 rw [if_pos c2] at H
 have b9 : decide (97 ≤ a0) = true := decide_eq_true c2
 clear c2
 by_cases c3 : a0 ≤ 122
 ·rw [if_pos c3] at H
  have h0 := decide_eq_true c3
  clear c3
  obtain rfl := Option.some.inj H
  go_enter Tryz.func129, Tryz.ntmps129
  go_wp2
  go_ret
  exact ⟨by first | rfl | (simp; done) | (simp [*]; done), drw⟩
 rw [if_neg c3] at H
 have h0 := decide_eq_false c3
 clear c3
 by_cases c4 : a0 ≥ 65
 ·rw [if_pos c4] at H
  have b1 : decide (65 ≤ a0) = true := decide_eq_true c4
  clear c4
  obtain rfl := Option.some.inj H
  go_enter Tryz.func129, Tryz.ntmps129
  go_wp2
  go_ret
  exact ⟨by first | rfl | (simp; done) | (simp [*]; done), drw⟩
 ·rw [if_neg c4] at H
  have b1 : decide (65 ≤ a0) = false := decide_eq_false c4
  clear c4
  obtain rfl := Option.some.inj H
  go_enter Tryz.func129, Tryz.ntmps129
  go_wp2
  go_ret
  exact ⟨by first | rfl | (simp; done) | (simp [*]; done), drw⟩
def token_digit.f (a0 : Int) : Option (Bool) := if a0 ≥ 48 then (some (decide (a0 ≤ 57))) else (some false)
theorem token_digit.calls (a0 : Int) (r : Bool) (w : World) (h : token_digit.f a0 = some r) :
  Calls Tryz.prog 132 #[.int .u8 a0] w fun e w' => e = .returned (.bool r) ∧ Drawn0 w w' := by
 have H : (if a0 ≥ 48 then (some (decide (a0 ≤ 57))) else (some false)) = some r := h
 clear h
 by_cases c2 : a0 ≥ 48
 ·rw [if_pos c2] at H
  have b9 : decide (48 ≤ a0) = true := decide_eq_true c2
  clear c2
  obtain rfl := Option.some.inj H
  go_enter Tryz.func132, Tryz.ntmps132
  go_wp2
  go_ret
  exact ⟨by first | rfl | (simp; done) | (simp [*]; done), drw⟩
 rw [if_neg c2] at H
 have b9 : decide (48 ≤ a0) = false := decide_eq_false c2
 clear c2
 obtain rfl := Option.some.inj H
 go_enter Tryz.func132, Tryz.ntmps132
 go_wp2
 go_ret
 exact ⟨by first | rfl | (simp; done) | (simp [*]; done), drw⟩
def token_quoted.j0 : Nat → Int → Bool → Option (Int × Int)
 | 0, _, _ => none
 | k + 1, x4, m3 => if m3 = true then (some (0, 2)) else (if x4 > 60 then (some (0, 3)) else (some (wrap64 (x4 + 2), 0)))
def token_quoted.f (k : Nat) (a0 : ByteArray) : Option (Int × Int) := if 1 ≤ (a0.size : Int) then ((token_run_quoted.f (a0.extract 1 a0.size)).bind fun a4 => (if (wrap64 (1 + a4)) = (a0.size : Int) then (token_quoted.j0 k a4 true) else (if 0 ≤ (wrap64 (1 + a4)) then (if (wrap64 (1 + a4)) < (a0.size : Int) then (token_quoted.j0 k a4 ((bt a0 (wrap64 (1 + a4))) != 34)) else (none)) else (none)))) else (none)
theorem token_quoted.mono_l : ∀ k, (∀ y0 y1, LeO (token_quoted.j0 k y0 y1) (token_quoted.j0 (k + 1) y0 y1))
 | 0 => fun _ _ r h => by simp [token_quoted.j0] at h
 | k + 1 => by
  have ih0 := token_quoted.mono_l k
  ·intro y0 y1
   unfold token_quoted.j0
   repeat' first
   | (with_reducible exact ih0 _ _)
   | (with_reducible exact LeO.refl _)
   | (with_reducible exact LeO.none _)
   | (with_reducible refine LeO.ite ?_ ?_)
   | (with_reducible refine LeO.bind ?_ (fun _ => ?_))
theorem token_quoted.mono : ∀ a0 k, LeO (token_quoted.f k a0) (token_quoted.f (k + 1) a0) := by
 intro a0 k
 have ih0 := token_quoted.mono_l k
 unfold token_quoted.f
 repeat' first
   | (with_reducible exact ih0 _ _)
   | (with_reducible exact LeO.refl _)
   | (with_reducible exact LeO.none _)
   | (with_reducible refine LeO.ite ?_ ?_)
   | (with_reducible refine LeO.bind ?_ (fun _ => ?_))
theorem token_quoted.calls (k : Nat) (a0 : ByteArray) (r1 : Int) (r2 : Int) (w : World) (h : token_quoted.f k a0 = some (r1, r2)) :
  Calls Tryz.prog 133 #[.string a0] w fun e w' => e = .returned (.tuple #[.int .i64 r1, .int .i64 r2]) ∧ Drawn0 w w' := by
 have H : (if 1 ≤ (a0.size : Int) then ((token_run_quoted.f (a0.extract 1 a0.size)).bind fun a4 => (if (wrap64 (1 + a4)) = (a0.size : Int) then (token_quoted.j0 k a4 true) else (if 0 ≤ (wrap64 (1 + a4)) then (if (wrap64 (1 + a4)) < (a0.size : Int) then (token_quoted.j0 k a4 ((bt a0 (wrap64 (1 + a4))) != 34)) else (none)) else (none)))) else (none)) = some (r1, r2) := h
 clear h
 obtain ⟨c2, H⟩ := itn H
 have b9 := eq_true c2
 have h1 := decide_eq_true c2
 clear c2
 obtain ⟨a4, A3, H⟩ := obA H
 have g4 := am H
 clear H
 go_enter Tryz.func133, Tryz.ntmps133
 go_upto_region 2 with (first | ((with_reducible refine gate_callee (f := 130) rfl ?_); refine gl 7 Tryz.func130 #[.string (a0.extract 1 a0.size), .func (.func 142) #[] #[]] (h := ?_); (with_reducible refine (token_run_quoted.calls (a0.extract 1 a0.size)  a4 _ A3.out).mono ?_); rintro e w' ⟨rfl, ⟨nd, rfl⟩⟩; refine ⟨_, rfl, ?_⟩))
 (try simp only [Act.put, List.setIfInBounds_toArray, List.set_cons_zero, List.set_cons_succ])
 go_cut [19] (fun m5 wc => ∃ (kq : Nat) (b7 : Bool), m5 = .bool b7 ∧ Aside0 (token_quoted.j0 kq a4 b7 = some (r1, r2)) ∧ Aside0 (kq ≤ k) ∧ Drawn0 w wc)
 case first =>
  have H := g4.out
  clear g4
  by_cases c5 : (wrap64 (1 + a4)) = (a0.size : Int)
  ·rw [if_pos c5] at H
   have a8 := beq_iff_eq.mpr c5
   have d5 := bne_eq_false_iff_eq.mpr c5
   clear c5
   (first | rw [a8] | (simp only [i64_w, i32_w]; rw [a8]) | skip)
   have H' := am H
   clear H
   go_wp2
   go_meet
   case rel => exact ⟨_, (true), eqs, H', ⟨by first | omega | exact Nat.le_refl _⟩, drw⟩
  rw [if_neg c5] at H
  have a8 := beq_eq_false_iff_ne.mpr c5
  have d5 := bne_iff_ne.mpr c5
  (first | rw [a8] | (simp only [i64_w, i32_w]; rw [a8]) | skip)
  obtain ⟨b6, b5⟩ : ∃ j_ : Int, (wrap64 (1 + a4)) = j_ := ⟨_, rfl⟩
  replace H : (if 0 ≤ (b6) then (if (b6) < (a0.size : Int) then (token_quoted.j0 k a4 ((bt a0 (b6)) != 34)) else (none)) else (none)) = some (r1, r2) := by first | (rw [b5] at H; exact H) | (simp only [b5] at H ⊢; exact H)
  (try rw [b5] at a8)
  (try rw [b5] at d5)
  have hji6w : (IntKind.i64.wrap (1 + a4)) = b6 := (i64_w _).trans b5
  obtain ⟨c7, H⟩ := itn H
  have g9 := decide_eq_true c7
  clear c7
  obtain ⟨c8, H⟩ := itn H
  have g8 := decide_eq_true c8
  clear c8
  have H' := am H
  clear H
  have p9 : 0 ≤ ((b6) : Int) := odt
  have q9 : (b6) < (a0.size : Int) := odt
  have m7 := bt_at a0 (b6)
  replace p9 := eq_true p9
  replace q9 := eq_true q9
  go_wp2
  go_meet
  case rel => exact ⟨_, (((bt a0 (b6)) != 34)), (by first | rfl | (simp; done) | (simp only [← b5] <;> (first | rfl | simp)) | (simp [*]; done)), H', ⟨by first | omega | exact Nat.le_refl _⟩, drw⟩
 case rest =>
  clear g4
  try clear c1
  try clear c2
  try clear b9
  try clear h1
  try clear p2
  try clear c5
  try clear a8
  try clear d5
  try clear p6
  try clear c7
  try clear g9
  try clear c8
  try clear g8
  try clear p9
  try clear q9
  try clear m7
  try clear p9
  try clear q9
  obtain ⟨kq, b7, rfl, HA, n6, ⟨mc3, rfl⟩⟩ := hcut
  cases kq with
  | zero => exact absurd HA.out (by simp [token_quoted.j0])
  | succ n4 =>
   have H := HA.out
   clear HA
   simp only [token_quoted.j0] at H
   by_cases e1 : b7 = true
   ·subst e1
    replace H := ift H
    simp only [Option.some.injEq, Prod.mk.injEq] at H
    obtain ⟨rfl, rfl⟩ := H
    go_wp2
    go_ret2
    exact ⟨by first | rfl | (simp; done) | (simp [*]; done), drw⟩
   replace e1 := Bool.eq_false_iff.mpr e1
   subst e1
   replace H := iff_ H
   by_cases c6 : a4 > 60
   ·rw [if_pos c6] at H
    have g6 : decide (60 < a4) = true := decide_eq_true c6
    clear c6
    simp only [Option.some.injEq, Prod.mk.injEq] at H
    obtain ⟨rfl, rfl⟩ := H
    go_wp2
    go_ret2
    exact ⟨by first | rfl | (simp; done) | (simp [*]; done), drw⟩
   ·rw [if_neg c6] at H
    have g6 : decide (60 < a4) = false := decide_eq_false c6
    clear c6
    simp only [Option.some.injEq, Prod.mk.injEq] at H
    obtain ⟨rfl, rfl⟩ := H
    go_wp2
    go_ret2
    exact ⟨by first | rfl | (simp; done) | (simp [*]; done), drw⟩
def slices_Index_string_string.l0 : Nat → List ByteArray → ByteArray → Int → Int → Option (Int)
 | 0, _, _, _, _ => none
 | k + 1, x0, x1, x7, x8 => if x8 < x7 then (if 0 ≤ x8 then (if x8 < (x0.length : Int) then (if x1.toList = (rdOf ByteArray.empty x0 x8).toList then (some x8) else (slices_Index_string_string.l0 k x0 x1 x7 (wrap64 (x8 + 1)))) else (none)) else (none)) else (some (-1))
def slices_Index_string_string.f (k : Nat) (l0 : List ByteArray) (a1 : ByteArray) : Option (Int) := slices_Index_string_string.l0 k l0 a1 (l0.length : Int) 0
theorem slices_Index_string_string.mono_l : ∀ k, (∀ y0 y1 y2 y3, LeO (slices_Index_string_string.l0 k y0 y1 y2 y3) (slices_Index_string_string.l0 (k + 1) y0 y1 y2 y3))
 | 0 => fun _ _ _ _ r h => by simp [slices_Index_string_string.l0] at h
 | k + 1 => by
  have ih0 := slices_Index_string_string.mono_l k
  ·intro y0 y1 y2 y3
   unfold slices_Index_string_string.l0
   repeat' first
   | (with_reducible exact ih0 _ _ _ _)
   | (with_reducible exact LeO.refl _)
   | (with_reducible exact LeO.none _)
   | (with_reducible refine LeO.ite ?_ ?_)
   | (with_reducible refine LeO.bind ?_ (fun _ => ?_))
theorem slices_Index_string_string.mono : ∀ a0 a1 k, LeO (slices_Index_string_string.f k a0 a1) (slices_Index_string_string.f (k + 1) a0 a1) := by
 intro a0 a1 k
 have ih0 := slices_Index_string_string.mono_l k
 unfold slices_Index_string_string.f
 repeat' first
   | (with_reducible exact ih0 _ _ _ _)
   | (with_reducible exact LeO.refl _)
   | (with_reducible exact LeO.none _)
   | (with_reducible refine LeO.ite ?_ ?_)
   | (with_reducible refine LeO.bind ?_ (fun _ => ?_))
theorem slices_Index_string_string.calls (k : Nat) (A0 : Option Addr) (c0 : Nat) (l0 : List ByteArray) (a1 : ByteArray) (r : Int) (w : World) (e4 : Kd.C Kd.string w A0 l0.length l0) (e6 : l0.length ≤ c0) (h : slices_Index_string_string.f k l0 a1 = some r) :
  Calls Tryz.prog 136 #[.slice A0 l0.length c0, .string a1] w fun e w' => e = .returned (.int .i64 r) ∧ Drawn0 w w' := by
 have g3 := am e4
 have h7 := am e6
 clear e4 e6
 have H : (slices_Index_string_string.l0 k l0 a1 (l0.length : Int) 0) = some r := h
 clear h
 have H' := am H
 clear H
 go_enter Tryz.func136, Tryz.ntmps136
 go_wp2
 go_loopg [8] k (fun kq v8 w' => ∃ (a6 : Int), v8 = .int .i64 a6 ∧ Aside0 (slices_Index_string_string.l0 kq l0 a1 (l0.length : Int) a6 = some r) ∧ Aside0 (kq ≤ k) ∧ Drawn0 w w')
 case atStart => exact ⟨(0), eqs, H', ⟨Nat.le_refl _⟩, drw⟩
 case round =>
  clear H'
  obtain ⟨a6, rfl, HA, h6, ⟨m1, rfl⟩⟩ := hrel
  cases gk with
  | zero => exact absurd HA.out (by simp [slices_Index_string_string.l0])
  | succ k1 =>
   have H := HA.out
   clear HA
   simp only [slices_Index_string_string.l0] at H
   by_cases c3 : a6 < (l0.length : Int)
   rotate_left
   ·rw [if_neg c3] at H
    have e0 := decide_eq_false c3
    clear c3
    obtain rfl := Option.some.inj H
    go_wp2
    go_ret
    exact ⟨by first | rfl | (simp; done) | (simp [*]; done), drw⟩
   rw [if_pos c3] at H
   have e0 := decide_eq_true c3
   clear c3
   obtain ⟨c4, H⟩ := itn H
   have j6 := decide_eq_true c4
   clear c4
   obtain ⟨c5, H⟩ := itn H
   have p8 := decide_eq_true c5
   clear c5
   by_cases c6 : a1.toList = (rdOf ByteArray.empty l0 a6).toList
   ·rw [if_pos c6] at H
    have j5 := beq_iff_eq.mpr c6
    have j4 := bne_eq_false_iff_eq.mpr c6
    clear c6
    obtain rfl := Option.some.inj H
    have b3 : 0 ≤ a6 := odt
    have b2 : a6 < (l0.length : Int) := odt
    obtain ⟨h5, e7, g4⟩ := Kd.at_string g3.out a6 b3 b2
    cases e7
    replace b3 := eq_true b3
    replace b2 := eq_true b2
    go_wp2
    go_ret
    exact ⟨by first | rfl | (simp; done) | (simp [*]; done), drw⟩
   rw [if_neg c6] at H
   have j5 := beq_eq_false_iff_ne.mpr c6
   have j4 := bne_iff_ne.mpr c6
   have H' := am H
   clear H
   have b3 : 0 ≤ a6 := odt
   have b2 : a6 < (l0.length : Int) := odt
   obtain ⟨h5, e7, g4⟩ := Kd.at_string g3.out a6 b3 b2
   cases e7
   replace b3 := eq_true b3
   replace b2 := eq_true b2
   go_wp2
   go_roundg k1
   case measure => have := h6.out; omega
   case rel => exact ⟨(wrap64 (a6 + 1)), eqs, H', ⟨by have := h6.out; omega⟩, drw⟩
def slices_Contains_string_string.f (k : Nat) (l0 : List ByteArray) (a1 : ByteArray) : Option (Bool) := (slices_Index_string_string.f k l0 a1).bind fun d1 => (some (decide (d1 ≥ 0)))
theorem slices_Contains_string_string.mono : ∀ a0 a1 k, LeO (slices_Contains_string_string.f k a0 a1) (slices_Contains_string_string.f (k + 1) a0 a1) := by
 intro a0 a1 k
 unfold slices_Contains_string_string.f
 repeat' first
   | (with_reducible exact slices_Index_string_string.mono _ _ _)
   | (with_reducible exact LeO.refl _)
   | (with_reducible exact LeO.none _)
   | (with_reducible refine LeO.ite ?_ ?_)
   | (with_reducible refine LeO.bind ?_ (fun _ => ?_))
theorem slices_Contains_string_string.calls (k : Nat) (A0 : Option Addr) (c0 : Nat) (l0 : List ByteArray) (a1 : ByteArray) (r : Bool) (w : World) (e4 : Kd.C Kd.string w A0 l0.length l0) (e6 : l0.length ≤ c0) (h : slices_Contains_string_string.f k l0 a1 = some r) :
  Calls Tryz.prog 126 #[.slice A0 l0.length c0, .string a1] w fun e w' => e = .returned (.bool r) ∧ Drawn0 w w' := by
 have g3 := am e4
 have h7 := am e6
 clear e4 e6
 have H : ((slices_Index_string_string.f k l0 a1).bind fun d1 => (some (decide (d1 ≥ 0)))) = some r := h
 clear h
 obtain ⟨d1, A3, H⟩ := obA H
 obtain rfl := Option.some.inj H
 go_enter Tryz.func126, Tryz.ntmps126
 go_wp2_with ((with_reducible refine gate_callee (f := 136) rfl ?_); refine gl 7 Tryz.func136 #[.slice A0 l0.length c0, .string a1] (h := ?_); (with_reducible refine (slices_Index_string_string.calls k _ _ l0 a1 d1 _ ?d8 ?d7 A3.out).mono ?_); (case d8 => repeat (first | exact g3.out | (with_reducible refine Kd.C_alloc ?_ _) | (with_reducible refine Kd.C_drewN ?_ _) | (with_reducible refine Kd.C_drew ?_))); (case d7 => exact h7.out); rintro e w' ⟨rfl, ⟨nd, rfl⟩⟩; refine ⟨_, rfl, ?_⟩)
 go_ret
 exact ⟨by first | rfl | (simp; done) | (simp [*]; done), drw⟩
def token_pair.f (k : Nat) (a0 : ByteArray) : Option (Bool) := if (a0.size : Int) ≥ 2 then (if 0 ≤ 2 then (if 2 ≤ (a0.size : Int) then ((slices_Contains_string_string.f k (([(⟨#[45, 62]⟩ : ByteArray), (⟨#[60, 61]⟩ : ByteArray), (⟨#[62, 61]⟩ : ByteArray), (⟨#[61, 61]⟩ : ByteArray), (⟨#[33, 61]⟩ : ByteArray)] : List ByteArray)) (a0.extract 0 2)).bind fun b1 => (some b1)) else (none)) else (none)) else (some false)
theorem token_pair.mono : ∀ a0 k, LeO (token_pair.f k a0) (token_pair.f (k + 1) a0) := by
 intro a0 k
 unfold token_pair.f
 repeat' first
   | (with_reducible exact slices_Contains_string_string.mono _ _ _)
   | (with_reducible exact LeO.refl _)
   | (with_reducible exact LeO.none _)
   | (with_reducible refine LeO.ite ?_ ?_)
   | (with_reducible refine LeO.bind ?_ (fun _ => ?_))
theorem token_pair.calls (k : Nat) (a0 : ByteArray) (r : Bool) (w : World) (h : token_pair.f k a0 = some r) :
  Calls Tryz.prog 134 #[.string a0] w fun e w' => e = .returned (.bool r) ∧ Below w.heap.size w w' := by
 have HB := am (Below.refl w.heap.size w)
 have H : (if (a0.size : Int) ≥ 2 then (if 0 ≤ 2 then (if 2 ≤ (a0.size : Int) then ((slices_Contains_string_string.f k (([(⟨#[45, 62]⟩ : ByteArray), (⟨#[60, 61]⟩ : ByteArray), (⟨#[62, 61]⟩ : ByteArray), (⟨#[61, 61]⟩ : ByteArray), (⟨#[33, 61]⟩ : ByteArray)] : List ByteArray)) (a0.extract 0 2)).bind fun b1 => (some b1)) else (none)) else (none)) else (some false)) = some r := h
 clear h
 by_cases c2 : (a0.size : Int) ≥ 2
 rotate_left
 ·rw [if_neg c2] at H
  have g0 : decide (2 ≤ (a0.size : Int)) = false := decide_eq_false c2
  have e9 : decide (2 ≤ a0.size) = false := decide_eq_false (by omega)
  clear c2
  obtain rfl := Option.some.inj H
  go_enter Tryz.func134, Tryz.ntmps134
  go_wp2
  go_ret
  exact ⟨erf, bb HB⟩
 rw [if_pos c2] at H
 have g0 : decide (2 ≤ (a0.size : Int)) = true := decide_eq_true c2
 have e9 : decide (2 ≤ a0.size) = true := decide_eq_true (by omega)
 clear c2
 obtain ⟨g5, g2⟩ := leq (α := List ByteArray) (([(⟨#[45, 62]⟩ : ByteArray), (⟨#[60, 61]⟩ : ByteArray), (⟨#[62, 61]⟩ : ByteArray), (⟨#[61, 61]⟩ : ByteArray), (⟨#[33, 61]⟩ : ByteArray)] : List ByteArray))
 rw [← g2.out] at H
 obtain ⟨c3, H⟩ := itn H
 have e0 := eq_true c3
 have g9 := decide_eq_true c3
 clear c3
 obtain ⟨c4, H⟩ := itn H
 have j6 := eq_true c4
 have p9 := decide_eq_true c4
 clear c4
 obtain ⟨b1, A5, H⟩ := obA H
 obtain rfl := Option.some.inj H
 go_enter Tryz.func134, Tryz.ntmps134
 go_wp2_with (first | ((with_reducible refine gate_dst (N := 7) rfl ?_); (try (refine gate_guard (by rfl) ?_; dsimp only)); refine Kd.R_lit Kd.string _ 9 ?hg (N := 7) ?hd (xs := ([(⟨#[45, 62]⟩ : ByteArray), (⟨#[60, 61]⟩ : ByteArray), (⟨#[62, 61]⟩ : ByteArray), (⟨#[61, 61]⟩ : ByteArray), (⟨#[33, 61]⟩ : ByteArray)] : List ByteArray)) (inner := [.string (⟨#[45, 62]⟩ : ByteArray), .string (⟨#[60, 61]⟩ : ByteArray), .string (⟨#[62, 61]⟩ : ByteArray), .string (⟨#[61, 61]⟩ : ByteArray), .string (⟨#[33, 61]⟩ : ByteArray)]) (ok := fun _ => True) (okp := fun _ => True) ?hr ?hp (fun _ hk => hk) trivial (Below.refl _ _) (Nat.le_refl _) (by simp) ?_; (case hd => rfl); (case hg => rfl); (case hr => first | (go_simp; done) | (go_simp; rfl)); (case hp => exact (Reps.one (show Kd.M Kd.string _ _ _ (⟨#[45, 62]⟩ : ByteArray) [.string (⟨#[45, 62]⟩ : ByteArray)] from rfl) (Reps.one (show Kd.M Kd.string _ _ _ (⟨#[60, 61]⟩ : ByteArray) [.string (⟨#[60, 61]⟩ : ByteArray)] from rfl) (Reps.one (show Kd.M Kd.string _ _ _ (⟨#[62, 61]⟩ : ByteArray) [.string (⟨#[62, 61]⟩ : ByteArray)] from rfl) (Reps.one (show Kd.M Kd.string _ _ _ (⟨#[61, 61]⟩ : ByteArray) [.string (⟨#[61, 61]⟩ : ByteArray)] from rfl) (Reps.one (show Kd.M Kd.string _ _ _ (⟨#[33, 61]⟩ : ByteArray) [.string (⟨#[33, 61]⟩ : ByteArray)] from rfl) (Reps.none _ _))))))); intro p7 w6 e5 hb hg_ hnew_; clear hg_ hnew_; (first | rw [← g2.out] at e5 | (simp only [Int.reduceToNat] at e5; rw [← g2.out] at e5)); have e2 := am (Kd.R_lower e5 (below_size (bb HB))); replace HB := bstep HB hb; clear hb e5; obtain ⟨q8, q7, eo8⟩ := Kd.R_slice e2.out; subst eo8) | (go_at_call 126; (with_reducible refine (slices_Contains_string_string.calls k _ _ g5 (a0.extract 0 2) b1 _ ?d8 ?d7 A5.out).mono ?_); (case d8 => repeat (first | exact (Kd.R_reads' e2.out).2.2 | (with_reducible refine Kd.C_alloc ?_ _) | (with_reducible refine Kd.C_drewN ?_ _) | (with_reducible refine Kd.C_drew ?_))); (case d7 => exact (Kd.R_reads' e2.out).2.1); rintro e w' ⟨rfl, ⟨nd, rfl⟩⟩))
 go_ret
 exact ⟨erf, bb HB⟩
def token_next.f (k : Nat) (a0 : ByteArray) : Option (Int × Int × Int) := if 0 < (a0.size : Int) then ((token_letter.f (bt a0 0)).bind fun d0 => (if d0 = true then ((token_run_part.f a0).bind fun a8 => (if a8 > 20 then (some (0, 0, 3)) else (some (1, a8, 0)))) else ((token_digit.f (bt a0 0)).bind fun c1 => (if c1 = true then ((token_run_digit.f a0).bind fun a7 => (if a7 > 9 then (some (0, 0, 3)) else (some (2, a7, 0)))) else (if (bt a0 0) = 34 then ((token_quoted.f k a0).bind fun b6 => (some (3, b6.1, b6.2))) else ((token_pair.f k a0).bind fun b9 => (if b9 = true then (some (4, 2, 0)) else ((strings_IndexByte.f (⟨#[123, 125, 40, 41, 91, 93, 44, 59, 58, 61, 43, 45, 42, 60, 62, 33, 38, 124, 46, 63]⟩ : ByteArray) (bt a0 0)).bind fun a9 => (if a9 ≥ 0 then (some (4, 1, 0)) else (some (0, 0, 2))))))))))) else (none)
theorem token_next.mono : ∀ a0 k, LeO (token_next.f k a0) (token_next.f (k + 1) a0) := by
 intro a0 k
 unfold token_next.f
 repeat' first
   | (with_reducible exact token_pair.mono _ _)
   | (with_reducible exact token_quoted.mono _ _)
   | (with_reducible exact LeO.refl _)
   | (with_reducible exact LeO.none _)
   | (with_reducible refine LeO.ite ?_ ?_)
   | (with_reducible refine LeO.bind ?_ (fun _ => ?_))
theorem token_next.calls (k : Nat) (a0 : ByteArray) (r1 : Int) (r2 : Int) (r3 : Int) (w : World) (h : token_next.f k a0 = some (r1, r2, r3)) :
  Calls Tryz.prog 124 #[.string a0] w fun e w' => e = .returned (.tuple #[.int .i64 r1, .int .i64 r2, .int .i64 r3]) ∧ Below w.heap.size w w' := by
 have HB := am (Below.refl w.heap.size w)
 have H : (if 0 < (a0.size : Int) then ((token_letter.f (bt a0 0)).bind fun d0 => (if d0 = true then ((token_run_part.f a0).bind fun a8 => (if a8 > 20 then (some (0, 0, 3)) else (some (1, a8, 0)))) else ((token_digit.f (bt a0 0)).bind fun c1 => (if c1 = true then ((token_run_digit.f a0).bind fun a7 => (if a7 > 9 then (some (0, 0, 3)) else (some (2, a7, 0)))) else (if (bt a0 0) = 34 then ((token_quoted.f k a0).bind fun b6 => (some (3, b6.1, b6.2))) else ((token_pair.f k a0).bind fun b9 => (if b9 = true then (some (4, 2, 0)) else ((strings_IndexByte.f (⟨#[123, 125, 40, 41, 91, 93, 44, 59, 58, 61, 43, 45, 42, 60, 62, 33, 38, 124, 46, 63]⟩ : ByteArray) (bt a0 0)).bind fun a9 => (if a9 ≥ 0 then (some (4, 1, 0)) else (some (0, 0, 2))))))))))) else (none)) = some (r1, r2, r3) := h
 clear h
 obtain ⟨c2, H⟩ := itn H
 have g0 := decide_eq_true c2
 have e9 : decide (0 < a0.size) = true := decide_eq_true (by omega)
 clear c2
 obtain ⟨d0, A4, H⟩ := obA H
 by_cases c5 : d0 = true
 ·subst c5
  replace H := ift H
  obtain ⟨a8, A6, H⟩ := obA H
  by_cases c7 : a8 > 20
  rotate_left
  ·rw [if_neg c7] at H
   have e8 : decide (20 < a8) = false := decide_eq_false c7
   clear c7
   simp only [Option.some.injEq, Prod.mk.injEq] at H
   obtain ⟨rfl, rfl, rfl⟩ := H
   have p3 : 0 ≤ 0 := (by omega)
   have q3 : 0 < a0.size := (by have : (0 : Int) < (a0.size : Int) := odt; omega)
   have d2 : ∀ h : 0 < a0.size, ((a0[0]'h).toNat : Int) = bt a0 0 := bt_at a0 0
   clear p3
   have qi3 : (0 < (a0.size : Int)) = True := eq_true (odt)
   replace q3 := eq_true q3
   go_enter Tryz.func124, Tryz.ntmps124
   go_wp2_with (first | ((with_reducible refine gate_callee (f := 129) rfl ?_); refine gl 14 Tryz.func129 #[.int .u8 (bt a0 0)] (h := ?_); (with_reducible refine (token_letter.calls (bt a0 0) true _ A4.out).mono ?_); rintro e w' ⟨rfl, ⟨nd, rfl⟩⟩; refine ⟨_, rfl, ?_⟩) | ((with_reducible refine gate_callee (f := 130) rfl ?_); refine gl 16 Tryz.func130 #[.string a0, .func (.func 131) #[] #[]] (h := ?_); (with_reducible refine (token_run_part.calls a0  a8 _ A6.out).mono ?_); rintro e w' ⟨rfl, ⟨nd, rfl⟩⟩; refine ⟨_, rfl, ?_⟩))
   go_ret3
   exact ⟨erf, bb HB⟩
  rw [if_pos c7] at H
  have e8 : decide (20 < a8) = true := decide_eq_true c7
  clear c7
  simp only [Option.some.injEq, Prod.mk.injEq] at H
  obtain ⟨rfl, rfl, rfl⟩ := H
  have p3 : 0 ≤ 0 := (by omega)
  have q3 : 0 < a0.size := (by have : (0 : Int) < (a0.size : Int) := odt; omega)
  have d2 : ∀ h : 0 < a0.size, ((a0[0]'h).toNat : Int) = bt a0 0 := bt_at a0 0
  clear p3
  have qi3 : (0 < (a0.size : Int)) = True := eq_true (odt)
  replace q3 := eq_true q3
  go_enter Tryz.func124, Tryz.ntmps124
  go_wp2_with (first | ((with_reducible refine gate_callee (f := 129) rfl ?_); refine gl 14 Tryz.func129 #[.int .u8 (bt a0 0)] (h := ?_); (with_reducible refine (token_letter.calls (bt a0 0) true _ A4.out).mono ?_); rintro e w' ⟨rfl, ⟨nd, rfl⟩⟩; refine ⟨_, rfl, ?_⟩) | ((with_reducible refine gate_callee (f := 130) rfl ?_); refine gl 16 Tryz.func130 #[.string a0, .func (.func 131) #[] #[]] (h := ?_); (with_reducible refine (token_run_part.calls a0  a8 _ A6.out).mono ?_); rintro e w' ⟨rfl, ⟨nd, rfl⟩⟩; refine ⟨_, rfl, ?_⟩))
  go_ret3
  exact ⟨erf, bb HB⟩
 replace c5 := Bool.eq_false_iff.mpr c5
 subst c5
 replace H := iff_ H
 obtain ⟨c1, A8, H⟩ := obA H
 by_cases c9 : c1 = true
 ·subst c9
  replace H := ift H
  obtain ⟨a7, h9, H⟩ := obA H
  by_cases d5 : a7 > 9
  rotate_left
  ·rw [if_neg d5] at H
   have h4 : decide (9 < a7) = false := decide_eq_false d5
   clear d5
   simp only [Option.some.injEq, Prod.mk.injEq] at H
   obtain ⟨rfl, rfl, rfl⟩ := H
   have p3 : 0 ≤ 0 := (by omega)
   have q3 : 0 < a0.size := (by have : (0 : Int) < (a0.size : Int) := odt; omega)
   have d2 : ∀ h : 0 < a0.size, ((a0[0]'h).toNat : Int) = bt a0 0 := bt_at a0 0
   clear p3
   have qi3 : (0 < (a0.size : Int)) = True := eq_true (odt)
   replace q3 := eq_true q3
   go_enter Tryz.func124, Tryz.ntmps124
   go_wp2_with (first | ((with_reducible refine gate_callee (f := 129) rfl ?_); refine gl 14 Tryz.func129 #[.int .u8 (bt a0 0)] (h := ?_); (with_reducible refine (token_letter.calls (bt a0 0) false _ A4.out).mono ?_); rintro e w' ⟨rfl, ⟨nd, rfl⟩⟩; refine ⟨_, rfl, ?_⟩) | ((with_reducible refine gate_callee (f := 132) rfl ?_); refine gl 22 Tryz.func132 #[.int .u8 (bt a0 0)] (h := ?_); (with_reducible refine (token_digit.calls (bt a0 0) true _ A8.out).mono ?_); rintro e w' ⟨rfl, ⟨nd, rfl⟩⟩; refine ⟨_, rfl, ?_⟩) | ((with_reducible refine gate_callee (f := 130) rfl ?_); refine gl 24 Tryz.func130 #[.string a0, .func (.func 132) #[] #[]] (h := ?_); (with_reducible refine (token_run_digit.calls a0  a7 _ h9.out).mono ?_); rintro e w' ⟨rfl, ⟨nd, rfl⟩⟩; refine ⟨_, rfl, ?_⟩))
   go_ret3
   exact ⟨erf, bb HB⟩
  rw [if_pos d5] at H
  have h4 : decide (9 < a7) = true := decide_eq_true d5
  clear d5
  simp only [Option.some.injEq, Prod.mk.injEq] at H
  obtain ⟨rfl, rfl, rfl⟩ := H
  have p3 : 0 ≤ 0 := (by omega)
  have q3 : 0 < a0.size := (by have : (0 : Int) < (a0.size : Int) := odt; omega)
  have d2 : ∀ h : 0 < a0.size, ((a0[0]'h).toNat : Int) = bt a0 0 := bt_at a0 0
  clear p3
  have qi3 : (0 < (a0.size : Int)) = True := eq_true (odt)
  replace q3 := eq_true q3
  go_enter Tryz.func124, Tryz.ntmps124
  go_wp2_with (first | ((with_reducible refine gate_callee (f := 129) rfl ?_); refine gl 14 Tryz.func129 #[.int .u8 (bt a0 0)] (h := ?_); (with_reducible refine (token_letter.calls (bt a0 0) false _ A4.out).mono ?_); rintro e w' ⟨rfl, ⟨nd, rfl⟩⟩; refine ⟨_, rfl, ?_⟩) | ((with_reducible refine gate_callee (f := 132) rfl ?_); refine gl 22 Tryz.func132 #[.int .u8 (bt a0 0)] (h := ?_); (with_reducible refine (token_digit.calls (bt a0 0) true _ A8.out).mono ?_); rintro e w' ⟨rfl, ⟨nd, rfl⟩⟩; refine ⟨_, rfl, ?_⟩) | ((with_reducible refine gate_callee (f := 130) rfl ?_); refine gl 24 Tryz.func130 #[.string a0, .func (.func 132) #[] #[]] (h := ?_); (with_reducible refine (token_run_digit.calls a0  a7 _ h9.out).mono ?_); rintro e w' ⟨rfl, ⟨nd, rfl⟩⟩; refine ⟨_, rfl, ?_⟩))
  go_ret3
  exact ⟨erf, bb HB⟩
 replace c9 := Bool.eq_false_iff.mpr c9
 subst c9
 replace H := iff_ H
 by_cases d3 : (bt a0 0) = 34
 ·rw [if_pos d3] at H
  have h3 := beq_iff_eq.mpr d3
  have h2 := bne_eq_false_iff_eq.mpr d3
  clear d3
  obtain ⟨⟨g8, g7⟩, p6, H⟩ := obA H
  replace H : (some (3, g8, g7)) = some (r1, r2, r3) := H
  simp only [Option.some.injEq, Prod.mk.injEq] at H
  obtain ⟨rfl, rfl, rfl⟩ := H
  have p3 : 0 ≤ 0 := (by omega)
  have q3 : 0 < a0.size := (by have : (0 : Int) < (a0.size : Int) := odt; omega)
  have d2 : ∀ h : 0 < a0.size, ((a0[0]'h).toNat : Int) = bt a0 0 := bt_at a0 0
  clear p3
  have qi3 : (0 < (a0.size : Int)) = True := eq_true (odt)
  replace q3 := eq_true q3
  go_enter Tryz.func124, Tryz.ntmps124
  go_wp2_with (first | ((with_reducible refine gate_callee (f := 129) rfl ?_); refine gl 14 Tryz.func129 #[.int .u8 (bt a0 0)] (h := ?_); (with_reducible refine (token_letter.calls (bt a0 0) false _ A4.out).mono ?_); rintro e w' ⟨rfl, ⟨nd, rfl⟩⟩; refine ⟨_, rfl, ?_⟩) | ((with_reducible refine gate_callee (f := 132) rfl ?_); refine gl 22 Tryz.func132 #[.int .u8 (bt a0 0)] (h := ?_); (with_reducible refine (token_digit.calls (bt a0 0) false _ A8.out).mono ?_); rintro e w' ⟨rfl, ⟨nd, rfl⟩⟩; refine ⟨_, rfl, ?_⟩) | ((with_reducible refine gate_callee (f := 133) rfl ?_); refine gl 33 Tryz.func133 #[.string a0] (h := ?_); (with_reducible refine (token_quoted.calls k a0 g8 g7 _ p6.out).mono ?_); rintro e w' ⟨rfl, ⟨nd, rfl⟩⟩; refine ⟨_, rfl, ?_⟩))
  go_ret3
  exact ⟨erf, bb HB⟩
 rw [if_neg d3] at H
 have h3 := beq_eq_false_iff_ne.mpr d3
 have h2 := bne_iff_ne.mpr d3
 obtain ⟨b9, h0, H⟩ := obA H
 by_cases g1 : b9 = true
 ·subst g1
  replace H := ift H
  simp only [Option.some.injEq, Prod.mk.injEq] at H
  obtain ⟨rfl, rfl, rfl⟩ := H
  have p3 : 0 ≤ 0 := (by omega)
  have q3 : 0 < a0.size := (by have : (0 : Int) < (a0.size : Int) := odt; omega)
  have d2 : ∀ h : 0 < a0.size, ((a0[0]'h).toNat : Int) = bt a0 0 := bt_at a0 0
  clear p3
  have qi3 : (0 < (a0.size : Int)) = True := eq_true (odt)
  replace q3 := eq_true q3
  go_enter Tryz.func124, Tryz.ntmps124
  go_wp2_with (first | ((with_reducible refine gate_callee (f := 129) rfl ?_); refine gl 14 Tryz.func129 #[.int .u8 (bt a0 0)] (h := ?_); (with_reducible refine (token_letter.calls (bt a0 0) false _ A4.out).mono ?_); rintro e w' ⟨rfl, ⟨nd, rfl⟩⟩; refine ⟨_, rfl, ?_⟩) | ((with_reducible refine gate_callee (f := 132) rfl ?_); refine gl 22 Tryz.func132 #[.int .u8 (bt a0 0)] (h := ?_); (with_reducible refine (token_digit.calls (bt a0 0) false _ A8.out).mono ?_); rintro e w' ⟨rfl, ⟨nd, rfl⟩⟩; refine ⟨_, rfl, ?_⟩) | ((with_reducible refine gate_callee (f := 134) rfl ?_); refine gl 40 Tryz.func134 #[.string a0] (h := ?_); (with_reducible refine (token_pair.calls k a0 true _ h0.out).mono ?_); rintro e q2 ⟨rfl, hb⟩; refine ⟨_, rfl, ?_⟩; replace HB := bstep HB hb; (try clear hb); (try clear hb2); (try clear hk); (try clear hi)))
  go_ret3
  exact ⟨erf, bb HB⟩
 replace g1 := Bool.eq_false_iff.mpr g1
 subst g1
 replace H := iff_ H
 obtain ⟨a9, h8, H⟩ := obA H
 by_cases d4 : a9 ≥ 0
 rotate_left
 ·rw [if_neg d4] at H
  have h1 : decide (0 ≤ a9) = false := decide_eq_false d4
  clear d4
  simp only [Option.some.injEq, Prod.mk.injEq] at H
  obtain ⟨rfl, rfl, rfl⟩ := H
  have p3 : 0 ≤ 0 := (by omega)
  have q3 : 0 < a0.size := (by have : (0 : Int) < (a0.size : Int) := odt; omega)
  have d2 : ∀ h : 0 < a0.size, ((a0[0]'h).toNat : Int) = bt a0 0 := bt_at a0 0
  clear p3
  have qi3 : (0 < (a0.size : Int)) = True := eq_true (odt)
  replace q3 := eq_true q3
  go_enter Tryz.func124, Tryz.ntmps124
  go_wp2_with (first | ((with_reducible refine gate_callee (f := 129) rfl ?_); refine gl 14 Tryz.func129 #[.int .u8 (bt a0 0)] (h := ?_); (with_reducible refine (token_letter.calls (bt a0 0) false _ A4.out).mono ?_); rintro e w' ⟨rfl, ⟨nd, rfl⟩⟩; refine ⟨_, rfl, ?_⟩) | ((with_reducible refine gate_callee (f := 132) rfl ?_); refine gl 22 Tryz.func132 #[.int .u8 (bt a0 0)] (h := ?_); (with_reducible refine (token_digit.calls (bt a0 0) false _ A8.out).mono ?_); rintro e w' ⟨rfl, ⟨nd, rfl⟩⟩; refine ⟨_, rfl, ?_⟩) | ((with_reducible refine gate_callee (f := 134) rfl ?_); refine gl 40 Tryz.func134 #[.string a0] (h := ?_); (with_reducible refine (token_pair.calls k a0 false _ h0.out).mono ?_); rintro e q0 ⟨rfl, hb⟩; refine ⟨_, rfl, ?_⟩; replace HB := bstep HB hb; (try clear hb); (try clear hb2); (try clear hk); (try clear hi)) | ((with_reducible refine gate_callee (f := 135) rfl ?_); refine gl 43 Tryz.func135 #[.string (⟨#[123, 125, 40, 41, 91, 93, 44, 59, 58, 61, 43, 45, 42, 60, 62, 33, 38, 124, 46, 63]⟩ : ByteArray), .int .u8 (bt a0 0)] (h := ?_); (with_reducible refine (strings_IndexByte.calls (⟨#[123, 125, 40, 41, 91, 93, 44, 59, 58, 61, 43, 45, 42, 60, 62, 33, 38, 124, 46, 63]⟩ : ByteArray) (bt a0 0) a9 _ h8.out).mono ?_); rintro e w' ⟨rfl, ⟨nd, rfl⟩⟩; refine ⟨_, rfl, ?_⟩))
  go_ret3
  exact ⟨erf, bb HB⟩
 rw [if_pos d4] at H
 have h1 : decide (0 ≤ a9) = true := decide_eq_true d4
 clear d4
 simp only [Option.some.injEq, Prod.mk.injEq] at H
 obtain ⟨rfl, rfl, rfl⟩ := H
 have p3 : 0 ≤ 0 := (by omega)
 have q3 : 0 < a0.size := (by have : (0 : Int) < (a0.size : Int) := odt; omega)
 have d2 : ∀ h : 0 < a0.size, ((a0[0]'h).toNat : Int) = bt a0 0 := bt_at a0 0
 clear p3
 have qi3 : (0 < (a0.size : Int)) = True := eq_true (odt)
 replace q3 := eq_true q3
 go_enter Tryz.func124, Tryz.ntmps124
 go_wp2_with (first | ((with_reducible refine gate_callee (f := 129) rfl ?_); refine gl 14 Tryz.func129 #[.int .u8 (bt a0 0)] (h := ?_); (with_reducible refine (token_letter.calls (bt a0 0) false _ A4.out).mono ?_); rintro e w' ⟨rfl, ⟨nd, rfl⟩⟩; refine ⟨_, rfl, ?_⟩) | ((with_reducible refine gate_callee (f := 132) rfl ?_); refine gl 22 Tryz.func132 #[.int .u8 (bt a0 0)] (h := ?_); (with_reducible refine (token_digit.calls (bt a0 0) false _ A8.out).mono ?_); rintro e w' ⟨rfl, ⟨nd, rfl⟩⟩; refine ⟨_, rfl, ?_⟩) | ((with_reducible refine gate_callee (f := 134) rfl ?_); refine gl 40 Tryz.func134 #[.string a0] (h := ?_); (with_reducible refine (token_pair.calls k a0 false _ h0.out).mono ?_); rintro e o8 ⟨rfl, hb⟩; refine ⟨_, rfl, ?_⟩; replace HB := bstep HB hb; (try clear hb); (try clear hb2); (try clear hk); (try clear hi)) | ((with_reducible refine gate_callee (f := 135) rfl ?_); refine gl 43 Tryz.func135 #[.string (⟨#[123, 125, 40, 41, 91, 93, 44, 59, 58, 61, 43, 45, 42, 60, 62, 33, 38, 124, 46, 63]⟩ : ByteArray), .int .u8 (bt a0 0)] (h := ?_); (with_reducible refine (strings_IndexByte.calls (⟨#[123, 125, 40, 41, 91, 93, 44, 59, 58, 61, 43, 45, 42, 60, 62, 33, 38, 124, 46, 63]⟩ : ByteArray) (bt a0 0) a9 _ h8.out).mono ?_); rintro e w' ⟨rfl, ⟨nd, rfl⟩⟩; refine ⟨_, rfl, ?_⟩))
 go_ret3
 exact ⟨erf, bb HB⟩
def token_whole.f (k : Nat) (a5 : Int) (a3 : ByteArray) (b4 : Int) : Option (ByteArray × Bool) := if a5 = 3 then (none) else (if a3.toList = ([] : List UInt8) then (some ((⟨#[]⟩ : ByteArray), false)) else ((token_next.f k a3).bind fun b0 => (if b0.2.2 = 0 then (if b0.1 = a5 then (some (a3, (b0.2.1 == (a3.size : Int)))) else (some (a3, false))) else (some (a3, false)))))
theorem token_whole.mono : ∀ a0 a1 a2 k, LeO (token_whole.f k a0 a1 a2) (token_whole.f (k + 1) a0 a1 a2) := by
 intro a0 a1 a2 k
 unfold token_whole.f
 repeat' first
   | (with_reducible exact token_next.mono _ _)
   | (with_reducible exact LeO.refl _)
   | (with_reducible exact LeO.none _)
   | (with_reducible refine LeO.ite ?_ ?_)
   | (with_reducible refine LeO.bind ?_ (fun _ => ?_))
theorem token_whole.calls (k : Nat) (a5 : Int) (a3 : ByteArray) (b4 : Int) (r1 : ByteArray) (r2 : Bool) (w : World) (h : token_whole.f k a5 a3 b4 = some (r1, r2)) :
  Calls Tryz.prog 115 #[.agg #[.int .i64 a5, .string a3, .int .i64 b4]] w fun e w' => e = .returned (.tuple #[.string r1, .bool r2]) ∧ Below w.heap.size w w' := by
 have hu142 := Tryz.underlying142
 have HB := am (Below.refl w.heap.size w)
 have H : (if a5 = 3 then (none) else (if a3.toList = ([] : List UInt8) then (some ((⟨#[]⟩ : ByteArray), false)) else ((token_next.f k a3).bind fun b0 => (if b0.2.2 = 0 then (if b0.1 = a5 then (some (a3, (b0.2.1 == (a3.size : Int)))) else (some (a3, false))) else (some (a3, false)))))) = some (r1, r2) := h
 clear h
 by_cases c2 : a5 = 3
 ·rw [if_pos c2] at H
  exact absurd H (by simp)
 rw [if_neg c2] at H
 have g0 := beq_eq_false_iff_ne.mpr c2
 have e9 := bne_iff_ne.mpr c2
 by_cases c3 : a3.toList = ([] : List UInt8)
 ·rw [if_pos c3] at H
  have e0 := beq_iff_eq.mpr c3
  have g9 := bne_eq_false_iff_eq.mpr c3
  clear c3
  simp only [Option.some.injEq, Prod.mk.injEq] at H
  obtain ⟨rfl, rfl⟩ := H
  go_enter Tryz.func115, Tryz.ntmps115
  go_wp2_with ((with_reducible refine gate_dst (N := 1) rfl ?_); (try (refine gate_guard (by rfl) ?_; dsimp only)); refine be 1 #[.int .i64 a5, .string a3, .int .i64 b4] 142 ?_; intro d9 hg w4 hbox hb; have a4 := am (hbox); have e3 := bsz HB hg; replace HB := bstep HB hb; clear hb hbox hg; obtain ⟨p5, p4, p2, p1, p0, o9⟩ := cz3 a4)
  go_ret2
  exact ⟨erf, bb HB⟩
 rw [if_neg c3] at H
 have e0 := beq_eq_false_iff_ne.mpr c3
 have g9 := bne_iff_ne.mpr c3
 obtain ⟨⟨b8, d6, b7⟩, A6, H⟩ := obA H
 replace H : (if b7 = 0 then (if b8 = a5 then (some (a3, (d6 == (a3.size : Int)))) else (some (a3, false))) else (some (a3, false))) = some (r1, r2) := H
 by_cases c7 : b7 = 0
 rotate_left
 ·rw [if_neg c7] at H
  have e8 := beq_eq_false_iff_ne.mpr c7
  have j3 := bne_iff_ne.mpr c7
  simp only [Option.some.injEq, Prod.mk.injEq] at H
  obtain ⟨rfl, rfl⟩ := H
  go_enter Tryz.func115, Tryz.ntmps115
  go_wp2_with (first | ((with_reducible refine gate_dst (N := 1) rfl ?_); (try (refine gate_guard (by rfl) ?_; dsimp only)); refine be 1 #[.int .i64 a5, .string a3, .int .i64 b4] 142 ?_; intro d9 hg q1 hbox hb; have a4 := am (hbox); have e3 := bsz HB hg; replace HB := bstep HB hb; clear hb hbox hg; obtain ⟨n5, n4, n3, j9, j8, j7⟩ := cz3 a4) | ((with_reducible refine gate_callee (f := 124) rfl ?_); refine gl 20 Tryz.func124 #[.string a3] (h := ?_); (with_reducible refine (token_next.calls k a3 b8 d6 b7 _ A6.out).mono ?_); rintro e o8 ⟨rfl, hb⟩; refine ⟨_, rfl, ?_⟩; replace a4 := bkb a4 hb; replace HB := bstep HB hb; (try clear hb); (try clear hb2); (try clear hk); (try clear hi)))
  go_ret2
  exact ⟨erf, bb HB⟩
 rw [if_pos c7] at H
 have e8 := beq_iff_eq.mpr c7
 have j3 := bne_eq_false_iff_eq.mpr c7
 clear c7
 by_cases c8 : b8 = a5
 rotate_left
 ·rw [if_neg c8] at H
  have j2 := beq_eq_false_iff_ne.mpr c8
  have j1 := bne_iff_ne.mpr c8
  simp only [Option.some.injEq, Prod.mk.injEq] at H
  obtain ⟨rfl, rfl⟩ := H
  go_enter Tryz.func115, Tryz.ntmps115
  go_wp2_with (first | ((with_reducible refine gate_dst (N := 1) rfl ?_); (try (refine gate_guard (by rfl) ?_; dsimp only)); refine be 1 #[.int .i64 a5, .string a3, .int .i64 b4] 142 ?_; intro d9 hg q5 hbox hb; have a4 := am (hbox); have e3 := bsz HB hg; replace HB := bstep HB hb; clear hb hbox hg; obtain ⟨o1, o0, n9, m6, m5, m4⟩ := cz3 a4) | ((with_reducible refine gate_callee (f := 124) rfl ?_); refine gl 20 Tryz.func124 #[.string a3] (h := ?_); (with_reducible refine (token_next.calls k a3 b8 d6 b7 _ A6.out).mono ?_); rintro e q4 ⟨rfl, hb⟩; refine ⟨_, rfl, ?_⟩; replace a4 := bkb a4 hb; replace HB := bstep HB hb; (try clear hb); (try clear hb2); (try clear hk); (try clear hi); obtain ⟨n8, n7, n6, m3, m2, m0⟩ := cz3 a4))
  go_ret2
  exact ⟨erf, bb HB⟩
 rw [if_pos c8] at H
 have j2 := beq_iff_eq.mpr c8
 have j1 := bne_eq_false_iff_eq.mpr c8
 clear c8
 simp only [Option.some.injEq, Prod.mk.injEq] at H
 obtain ⟨rfl, rfl⟩ := H
 go_enter Tryz.func115, Tryz.ntmps115
 go_wp2_with (first | ((with_reducible refine gate_dst (N := 1) rfl ?_); (try (refine gate_guard (by rfl) ?_; dsimp only)); refine be 1 #[.int .i64 a5, .string a3, .int .i64 b4] 142 ?_; intro d9 hg w9 hbox hb; have a4 := am (hbox); have e3 := bsz HB hg; replace HB := bstep HB hb; clear hb hbox hg; obtain ⟨o7, o6, o5, n2, n1, n0⟩ := cz3 a4) | ((with_reducible refine gate_callee (f := 124) rfl ?_); refine gl 20 Tryz.func124 #[.string a3] (h := ?_); (with_reducible refine (token_next.calls k a3 b8 d6 b7 _ A6.out).mono ?_); rintro e q6 ⟨rfl, hb⟩; refine ⟨_, rfl, ?_⟩; replace a4 := bkb a4 hb; replace HB := bstep HB hb; (try clear hb); (try clear hb2); (try clear hk); (try clear hi); obtain ⟨o4, o3, o2, m9, m8, m7⟩ := cz3 a4))
 go_ret2
 exact ⟨erf, bb HB⟩
def token_IsName.f (k : Nat) (a0 : ByteArray) : Option (Bool) := (token_whole.f k 1 a0 0).bind fun e1 => (some e1.2)
theorem token_IsName.mono : ∀ a0 k, LeO (token_IsName.f k a0) (token_IsName.f (k + 1) a0) := by
 intro a0 k
 unfold token_IsName.f
 repeat' first
   | (with_reducible exact token_whole.mono _ _ _ _)
   | (with_reducible exact LeO.refl _)
   | (with_reducible exact LeO.none _)
   | (with_reducible refine LeO.ite ?_ ?_)
   | (with_reducible refine LeO.bind ?_ (fun _ => ?_))
theorem token_IsName.calls (k : Nat) (a0 : ByteArray) (r : Bool) (w : World) (h : token_IsName.f k a0 = some r) :
  Calls Tryz.prog 100 #[.string a0] w fun e w' => e = .returned (.bool r) ∧ Below w.heap.size w w' := by
 have hu142 := Tryz.underlying142
 have HB := am (Below.refl w.heap.size w)
 have H : ((token_whole.f k 1 a0 0).bind fun e1 => (some e1.2)) = some r := h
 clear h
 obtain ⟨⟨j0, g6⟩, A2, H⟩ := obA H
 replace H : (some g6) = some r := H
 obtain rfl := Option.some.inj H
 go_enter Tryz.func100, Tryz.ntmps100
 go_wp2_with ((with_reducible refine gate_callee (f := 115) rfl ?_); refine gl 8 Tryz.func115 #[.agg #[.int .i64 1, .string a0, .int .i64 0]] (h := ?_); (with_reducible refine (token_whole.calls k 1 a0 0 j0 g6 _ A2.out).mono ?_); rintro e w3 ⟨rfl, hb⟩; refine ⟨_, rfl, ?_⟩; replace HB := bstep HB hb; (try clear hb); (try clear hb2); (try clear hk); (try clear hi))
 go_ret
 exact ⟨erf, bb HB⟩
def types_attrs.f : Nat → List (S96) → List (S101) → Int → Option ((List (S99)))
 | 0, _, _, _ => none
 | k + 1, a3, a7, a1 => if 0 ≤ a1 then (if a1 < (a3.length : Int) then (if ((rd_T96 a3 a1).f1) ≥ 0 then ((types_attrs.f k a3 a7 ((rd_T96 a3 a1).f1)).bind fun b8 => (if b8.length + ((rd_T96 a3 a1).f3).length < 2513169434916 then (some (b8 ++ ((rd_T96 a3 a1).f3))) else (none))) else (if ([] : List (S99)).length + ((rd_T96 a3 a1).f3).length < 2513169434916 then (some (([] : List (S99)) ++ ((rd_T96 a3 a1).f3))) else (none))) else (none)) else (none)
theorem types_attrs.mono_l : ∀ k, (∀ y0 y1 y2, LeO (types_attrs.f k y0 y1 y2) (types_attrs.f (k + 1) y0 y1 y2))
 | 0 => fun _ _ _ r h => by simp [types_attrs.f] at h
 | k + 1 => by
  have ih0 := types_attrs.mono_l k
  ·intro y0 y1 y2
   unfold types_attrs.f
   repeat' first
   | (with_reducible exact ih0 _ _ _)
   | (with_reducible exact LeO.refl _)
   | (with_reducible exact LeO.none _)
   | (with_reducible refine LeO.ite ?_ ?_)
   | (with_reducible refine LeO.bind ?_ (fun _ => ?_))
theorem types_attrs.mono : ∀ a0 a1 a2 k, LeO (types_attrs.f k a0 a1 a2) (types_attrs.f (k + 1) a0 a1 a2) := by
 intro a0 a1 a2 k
 have ih0 := types_attrs.mono_l k
 exact ih0 a0 a1 a2
theorem types_attrs.calls (k : Nat) : ∀ (P0_0_ : Nat → Prop) (d5 : Option Addr) (b0 : Nat) (a3 : List (S96)) (b5 : Option Addr) (b4 : Nat) (a7 : List (S101)) (a1 : Int) (r : List (S99)) (w : World) (g7 : Kd.V k96 96 w w.heap.size (fun k_ => P0_0_ k_) (.slice d5 a3.length b0) a3) (e7 : Kd.C k101 w b5 a7.length a7) (e8 : a7.length ≤ b4) (h : types_attrs.f k a3 a7 a1 = some r),
  Calls Tryz.prog 103 #[.agg #[.slice d5 a3.length b0, .slice b5 a7.length b4], .int .i64 a1] w fun e w' => ∃ m5 : Value, e = .returned (m5) ∧ Kd.N k99 99 w' w.heap.size (fun k_ => (P0_0_ k_ ∨ w.heap.size ≤ k_)) m5 r ∧ Below w.heap.size w w' := by
 induction k using Nat.strongRecOn with
 | _ k ih =>
 intro P0_0_ d5 b0 a3 b5 b4 a7 a1 r w g7 e7 e8 h
 cases k with
 | zero => exact absurd h (by simp [types_attrs.f])
 | succ k =>
 simp only [types_attrs.f] at h
 have hu31 := Tryz.underlying31
 have a5 := am (show Kd.V k96 96 w w.heap.size (fun k_ => (P0_0_ k_ ∨ w.heap.size ≤ k_)) (.slice d5 a3.length b0) a3 from Kd.V_mono g7 (fun k_ hk => .inl hk))
 have m0 := am e7
 have m3 := am e8
 clear e7 e8
 have HB := am (Below.refl w.heap.size w)
 have H : (if 0 ≤ a1 then (if a1 < (a3.length : Int) then (if ((rd_T96 a3 a1).f1) ≥ 0 then ((types_attrs.f k a3 a7 ((rd_T96 a3 a1).f1)).bind fun b8 => (if b8.length + ((rd_T96 a3 a1).f3).length < 2513169434916 then (some (b8 ++ ((rd_T96 a3 a1).f3))) else (none))) else (if ([] : List (S99)).length + ((rd_T96 a3 a1).f3).length < 2513169434916 then (some (([] : List (S99)) ++ ((rd_T96 a3 a1).f3))) else (none))) else (none)) else (none)) = some r := h
 clear h
 obtain ⟨c3, H⟩ := itn H
 have h9 := decide_eq_true c3
 clear c3
 obtain ⟨c4, H⟩ := itn H
 have n6 := decide_eq_true c4
 clear c4
 by_cases c5 : ((rd_T96 a3 a1).f1) ≥ 0
 rotate_left
 ·rw [if_neg c5] at H
  have h8 : decide (0 ≤ ((rd_T96 a3 a1).f1)) = false := decide_eq_false c5
  clear c5
  obtain ⟨j9, H⟩ := ita H
  obtain ⟨n2, j7⟩ := leq (α := List (S99)) (([] : List (S99)) ++ ((rd_T96 a3 a1).f3))
  rw [← j7.out] at H
  obtain rfl := Option.some.inj H
  go_enter Tryz.func103, Tryz.ntmps103
  go_wp2_with (first | ((with_reducible refine gate_dst (N := 2) rfl ?_); refine be 2 #[.slice d5 a3.length b0, .slice b5 a7.length b4] 31 ?_; intro a6 hg p7 hbox hb; replace a5 := am (Kd.V_below (Kd.V_elderB (kV a5) a6 (Nat.le_of_eq hg.symm)) hb); have a8 := am (hbox); have m4 := bsz HB hg; replace HB := bstep HB hb; clear hb hbox hg; obtain ⟨o9, o8, o5, o4⟩ := cz2 a8; have c1 : 0 ≤ a1 := odt; have b9 : a1 < (a3.length : Int) := odt; obtain ⟨b1, j3, j2, g6, h6, h5, h4, c6, b6, b7⟩ := at_T96 (Kd.V_reads' a5.out).2.2 a1 c1 b9; cases g6; obtain ⟨ce128, hce128, hMe128, hcc128⟩ := Kd.V_get a5.out z96 a1 c1 (by first | exact b9 | exact odt | (have e_ := (Kd.V_reads' a5.out).1; omega)); obtain ⟨ua128_3, uc128_3, rfl, ul128_3, ge128_3⟩ := k96_openF hMe128; have hv128_3 := hcc128 3 _ rfl; rw [add_field _ _ 3 (by omega)] at hv128_3; replace hv128_3 := Option.some.inj (hv128_3.symm.trans c6); injection hv128_3 with hva_ hvn_ hvc_; rw [hva_] at ge128_3; rw [hvc_] at ul128_3; have HL128_3 := am (show Kd.V k99 99 _ w.heap.size _ _ ((rd_T96 a3 a1).f3) from Kd.V_mk ul128_3 ge128_3); clear hva_ hvn_ hvc_ ge128_3 ul128_3; clear hcc128 hce128; have d4 := am b7; have h7 := am b6; clear b7 b6; replace c1 := eq_true c1; replace b9 := eq_true b9; have e5 : 0 ≤ a1 := odt; have e3 : a1 < (a3.length : Int) := odt; obtain ⟨j5, q6, q4, n4, o0, n9, n8, d8, d9, e1⟩ := at_T96 (Kd.V_reads' a5.out).2.2 a1 e5 e3; obtain rfl : b1 = j5 := (by injection n4); obtain ⟨ce136, hce136, hMe136, hcc136⟩ := Kd.V_get a5.out z96 a1 e5 (by first | exact e3 | exact odt | (have e_ := (Kd.V_reads' a5.out).1; omega)); obtain ⟨ua136_3, uc136_3, rfl, ul136_3, ge136_3⟩ := k96_openF hMe136; have hv136_3 := hcc136 3 _ rfl; rw [add_field _ _ 3 (by omega)] at hv136_3; replace hv136_3 := Option.some.inj (hv136_3.symm.trans d8); injection hv136_3 with hva_ hvn_ hvc_; rw [hva_] at ge136_3; rw [hvc_] at ul136_3; have HL136_3 := am (show Kd.V k99 99 _ w.heap.size _ _ ((rd_T96 a3 a1).f3) from Kd.V_mk ul136_3 ge136_3); clear hva_ hvn_ hvc_ ge136_3 ul136_3; clear hcc136 hce136; have p2 := am e1; have p4 := am d9; clear e1 d9; replace e5 := eq_true e5; replace e3 := eq_true e3; have ea_ := Option.some.inj (c6.symm.trans d8); injection ea_ with ea_ en_ ec_; subst ea_; subst ec_; clear en_) | ((with_reducible refine gate_builtin (b := .append) (xs := #[.tmp 18, .tmp 24]) rfl ?_); at_builtin; refine Kd.N_append_rows k99 (w0 := w) w.heap.size rfl (.tmp 18) (.tmp 24) 94 99 (.agg #[(.string ⟨#[]⟩), (.int .i64 0), (.int .i64 0), (.slice none 0 0)]) 56 rfl Tryz.underlying94 info99 rfl (by decide) (by omega) (.slice none 0 0) ([] : List (S99)) ((rd_T96 a3 a1).f3) _ _ _ (fun k_ => (P0_0_ k_ ∨ w.heap.size ≤ k_) ∧ k_ ≠ a6) (fun k_ => ((fun k_ => (P0_0_ k_ ∨ w.heap.size ≤ k_) ∧ k_ ≠ a6)) k_ ∧ some k_ ≠ (.slice none 0 0 : Value).ownBlock) rfl rfl ?aO ?aR (fun _ hk => hk) ?aF ?aB ?aS ?aL ?_; (case aR => exact (by skip; exact Kd.V_F (Kd.V_mono (ok' := (fun k_ => ((fun k_ => (P0_0_ k_ ∨ w.heap.size ≤ k_) ∧ k_ ≠ a6)) k_ ∧ some k_ ≠ (.slice none 0 0 : Value).ownBlock)) (HL136_3.out) (fun k_ hk => ⟨⟨hk.1, hk.2⟩, (by simp [Value.ownBlock])⟩)))); (case aB => exact (bb HB)); (case aF => exact (fun k_ hk => ⟨(.inr (Nat.le_trans (below_size (bb HB)) hk)), Kd.freshB (g := a6) (o := .cells #[.slice (some b1) a3.length b0, .slice b5 a7.length b4] 31 (0, 0)) (bk a8) k_ hk⟩)); (case aO => exact ((Kd.N_nil _ _ _ _ (fun k_ => (P0_0_ k_ ∨ w.heap.size ≤ k_) ∧ k_ ≠ a6)))); (case aS => exact (below_size (bb HB))); (case aL => have := j9.out; omega); intro q8 p6 ho hb hg hat; rw [← j7.out] at ho; replace a5 := am (Kd.V_afterv (Kd.V_apart_nil (kV a5)) hg hat); replace a8 := am (blk_grown (g := a6) (o := .cells #[.slice (some b1) a3.length b0, .slice b5 a7.length b4] 31 (0, 0)) (bk a8) hg (by simp [Value.ownBlock])); replace HL128_3 := am (Kd.V_afterv (Kd.V_apart_nil (kV HL128_3)) hg hat); replace HL136_3 := am (Kd.V_afterv (Kd.V_apart_nil (kV HL136_3)) hg hat); replace HB := am (hb); have m1 := am (ho); clear ho hb hg hat))
  go_ret
  exact ⟨_, erf, by (with_reducible repeat (first | apply Kd.N_alloc | apply Kd.N_drewN | apply Kd.N_drew)); exact Kd.N_mono m1.out (fun _ hk => hk.1), bb HB⟩
 rw [if_pos c5] at H
 have h8 : decide (0 ≤ ((rd_T96 a3 a1).f1)) = true := decide_eq_true c5
 clear c5
 obtain ⟨b8, A6, H⟩ := obA H
 obtain ⟨n7, H⟩ := ita H
 obtain ⟨n3, j8⟩ := leq (α := List (S99)) (b8 ++ ((rd_T96 a3 a1).f3))
 rw [← j8.out] at H
 obtain rfl := Option.some.inj H
 go_enter Tryz.func103, Tryz.ntmps103
 go_wp2_with (first | ((with_reducible refine gate_dst (N := 2) rfl ?_); refine be 2 #[.slice d5 a3.length b0, .slice b5 a7.length b4] 31 ?_; intro a6 hg w8 hbox hb; replace a5 := am (Kd.V_below (Kd.V_elderB (kV a5) a6 (Nat.le_of_eq hg.symm)) hb); have a8 := am (hbox); have m4 := bsz HB hg; replace HB := bstep HB hb; clear hb hbox hg; obtain ⟨q3, q2, q1, q0⟩ := cz2 a8; have c1 : 0 ≤ a1 := odt; have b9 : a1 < (a3.length : Int) := odt; obtain ⟨b1, j3, j2, g6, h6, h5, h4, c6, b6, b7⟩ := at_T96 (Kd.V_reads' a5.out).2.2 a1 c1 b9; cases g6; obtain ⟨ce128, hce128, hMe128, hcc128⟩ := Kd.V_get a5.out z96 a1 c1 (by first | exact b9 | exact odt | (have e_ := (Kd.V_reads' a5.out).1; omega)); obtain ⟨ua128_3, uc128_3, rfl, ul128_3, ge128_3⟩ := k96_openF hMe128; have hv128_3 := hcc128 3 _ rfl; rw [add_field _ _ 3 (by omega)] at hv128_3; replace hv128_3 := Option.some.inj (hv128_3.symm.trans c6); injection hv128_3 with hva_ hvn_ hvc_; rw [hva_] at ge128_3; rw [hvc_] at ul128_3; have HL128_3 := am (show Kd.V k99 99 _ w.heap.size _ _ ((rd_T96 a3 a1).f3) from Kd.V_mk ul128_3 ge128_3); clear hva_ hvn_ hvc_ ge128_3 ul128_3; clear hcc128 hce128; have d4 := am b7; have h7 := am b6; clear b7 b6; replace c1 := eq_true c1; replace b9 := eq_true b9) | ((with_reducible refine gate_callee (f := 103) rfl ?_); refine gl 17 Tryz.func103 #[.agg #[.slice (some b1) a3.length b0, .slice b5 a7.length b4], .int .i64 ((rd_T96 a3 a1).f1)] (h := ?_); (with_reducible refine (ih k (by omega) (fun k_ => ((P0_0_ k_ ∨ w.heap.size ≤ k_) ∧ k_ ≠ a6)) _ _ a3 _ _ a7 ((rd_T96 a3 a1).f1) b8 _ ?d1 ?d0 ?j4 A6.out).mono ?_); (case d1 => exact a5.out); (case d0 => exact cb m0 HB); (case j4 => exact m3.out); rintro e r3 ⟨g3, rfl, g8, hb⟩; refine ⟨_, rfl, ?_⟩; replace a5 := am (Kd.V_elder' (kV a5) (Kd.N_base g8) hb); replace HL128_3 := am (Kd.V_elder' (kV HL128_3) (Kd.N_base g8) hb); have g0 := am (Kd.N_lower (Kd.N_mono (ok' := fun k_ => (P0_0_ k_ ∨ w.heap.size ≤ k_) ∧ k_ ≠ a6) g8 (fun k_ hk_ => ⟨Or.elim hk_ (fun hs_ => hs_.1) (fun hn_ => (.inr (Nat.le_trans (below_size (bb HB)) hn_))), Or.elim hk_ (fun hs_ => hs_.2) (fun hn_ => (Kd.freshB (g := a6) (o := .cells #[.slice (some b1) a3.length b0, .slice b5 a7.length b4] 31 (0, 0)) (bk a8) k_ hn_))⟩)) (below_size (bb HB))); replace a8 := bkb a8 hb; replace d4 := kCb d4 hb; replace HB := bstep HB hb; (try clear hb); (try clear hb2); (try clear hk); (try clear hi); (try clear g8); obtain ⟨p1, p0, o7, o6⟩ := cz2 a8; have e6 : 0 ≤ a1 := odt; have e4 : a1 < (a3.length : Int) := odt; obtain ⟨j6, q7, q5, n5, o3, o2, o1, h3, e0, e2⟩ := at_T96 (Kd.V_reads' a5.out).2.2 a1 e6 e4; obtain rfl : b1 = j6 := (by injection n5); obtain ⟨ce132, hce132, hMe132, hcc132⟩ := Kd.V_get a5.out z96 a1 e6 (by first | exact e4 | exact odt | (have e_ := (Kd.V_reads' a5.out).1; omega)); obtain ⟨ua132_3, uc132_3, rfl, ul132_3, ge132_3⟩ := k96_openF hMe132; have hv132_3 := hcc132 3 _ rfl; rw [add_field _ _ 3 (by omega)] at hv132_3; replace hv132_3 := Option.some.inj (hv132_3.symm.trans h3); injection hv132_3 with hva_ hvn_ hvc_; rw [hva_] at ge132_3; rw [hvc_] at ul132_3; have HL132_3 := am (show Kd.V k99 99 _ w.heap.size _ _ ((rd_T96 a3 a1).f3) from Kd.V_mk ul132_3 ge132_3); clear hva_ hvn_ hvc_ ge132_3 ul132_3; clear hcc132 hce132; have p3 := am e2; have p5 := am e0; clear e2 e0; replace e6 := eq_true e6; replace e4 := eq_true e4) | ((with_reducible refine gate_builtin (b := .append) (xs := #[.tmp 18, .tmp 24]) rfl ?_); at_builtin; refine Kd.N_append_rows k99 (w0 := w) w.heap.size rfl (.tmp 18) (.tmp 24) 94 99 (.agg #[(.string ⟨#[]⟩), (.int .i64 0), (.int .i64 0), (.slice none 0 0)]) 56 rfl Tryz.underlying94 info99 rfl (by decide) (by omega) g3 b8 ((rd_T96 a3 a1).f3) _ _ _ (fun k_ => (P0_0_ k_ ∨ w.heap.size ≤ k_) ∧ k_ ≠ a6) (fun k_ => ((fun k_ => (P0_0_ k_ ∨ w.heap.size ≤ k_) ∧ k_ ≠ a6)) k_ ∧ some k_ ≠ (g3 : Value).ownBlock) rfl rfl ?aO ?aR (fun _ hk => hk) ?aF ?aB ?aS ?aL ?_; (case aR => exact (by skip; exact Kd.V_F (Kd.V_mono (ok' := (fun k_ => ((fun k_ => (P0_0_ k_ ∨ w.heap.size ≤ k_) ∧ k_ ≠ a6)) k_ ∧ some k_ ≠ (g3 : Value).ownBlock)) (HL132_3.out) (fun k_ hk => ⟨⟨hk.1.1, hk.1.2⟩, hk.2⟩)))); (case aB => exact (bb HB)); (case aF => exact (fun k_ hk => ⟨(.inr (Nat.le_trans (below_size (bb HB)) hk)), Kd.freshB (g := a6) (o := .cells #[.slice (some b1) a3.length b0, .slice b5 a7.length b4] 31 (0, 0)) (bk a8) k_ hk⟩)); (case aO => exact (kN g0)); (case aS => exact (below_size (bb HB))); (case aL => have := n7.out; omega); intro q9 p8 ho hb hg hat; rw [← j8.out] at ho; replace a5 := am (Kd.V_afterv (ok := (fun k_ => (P0_0_ k_ ∨ w.heap.size ≤ k_) ∧ k_ ≠ a6)) (kV a5) hg hat); replace a8 := am (blk_grown (g := a6) (o := .cells #[.slice (some b1) a3.length b0, .slice b5 a7.length b4] 31 (0, 0)) (bk a8) hg (Kd.N_ne g0.out a8.out (by decide))); replace HL128_3 := am (Kd.V_afterv (ok := (fun k_ => (P0_0_ k_ ∨ w.heap.size ≤ k_) ∧ k_ ≠ a6)) (kV HL128_3) hg hat); replace HL132_3 := am (Kd.V_afterv (ok := (fun k_ => (P0_0_ k_ ∨ w.heap.size ≤ k_) ∧ k_ ≠ a6)) (kV HL132_3) hg hat); replace HB := am (hb); have m2 := am (ho); clear g0 ho hb hg hat))
 go_ret
 exact ⟨_, erf, by (with_reducible repeat (first | apply Kd.N_alloc | apply Kd.N_drewN | apply Kd.N_drew)); exact Kd.N_mono m2.out (fun _ hk => hk.1), bb HB⟩
def types_names.l0 : Nat → List ByteArray → List ByteArray → Int → Int → Option (Int)
 | 0, _, _, _, _ => none
 | k + 1, x0, x8, x9, d6 => if d6 < x9 then (if 0 ≤ d6 then (if d6 < (x8.length : Int) then ((token_IsName.f k (rdOf ByteArray.empty x8 d6)).bind fun g5 => (if g5 = true then (if d6 ≤ (x0.length : Int) then ((slices_Contains_string_string.f k (x0.take (d6 : Int).toNat) (rdOf ByteArray.empty x8 d6)).bind fun g4 => (if g4 = true then (some 5) else (types_names.l0 k x0 x8 x9 (wrap64 (d6 + 1))))) else (none)) else (some 2))) else (none)) else (none)) else (some 0)
def types_names.f (k : Nat) (l0 : List ByteArray) : Option (Int) := if (l0.length : Int) > 20 then (some 3) else (types_names.l0 k l0 l0 (l0.length : Int) 0)
theorem types_names.mono_l : ∀ k, (∀ y0 y1 y2 y3, LeO (types_names.l0 k y0 y1 y2 y3) (types_names.l0 (k + 1) y0 y1 y2 y3))
 | 0 => fun _ _ _ _ r h => by simp [types_names.l0] at h
 | k + 1 => by
  have ih0 := types_names.mono_l k
  ·intro y0 y1 y2 y3
   unfold types_names.l0
   repeat' first
   | (with_reducible exact ih0 _ _ _ _)
   | (with_reducible exact slices_Contains_string_string.mono _ _ _)
   | (with_reducible exact token_IsName.mono _ _)
   | (with_reducible exact LeO.refl _)
   | (with_reducible exact LeO.none _)
   | (with_reducible refine LeO.ite ?_ ?_)
   | (with_reducible refine LeO.bind ?_ (fun _ => ?_))
theorem types_names.mono : ∀ a0 k, LeO (types_names.f k a0) (types_names.f (k + 1) a0) := by
 intro a0 k
 have ih0 := types_names.mono_l k
 unfold types_names.f
 repeat' first
   | (with_reducible exact ih0 _ _ _ _)
   | (with_reducible exact slices_Contains_string_string.mono _ _ _)
   | (with_reducible exact token_IsName.mono _ _)
   | (with_reducible exact LeO.refl _)
   | (with_reducible exact LeO.none _)
   | (with_reducible refine LeO.ite ?_ ?_)
   | (with_reducible refine LeO.bind ?_ (fun _ => ?_))
theorem types_names.calls (k : Nat) (A0 : Option Addr) (c0 : Nat) (l0 : List ByteArray) (r : Int) (w : World) (m6 : Kd.C Kd.string w A0 l0.length l0) (m7 : l0.length ≤ c0) (h : types_names.f k l0 = some r) :
  Calls Tryz.prog 119 #[.slice A0 l0.length c0] w fun e w' => e = .returned (.int .i64 r) ∧ Below w.heap.size w w' := by
 have g2 := am m6
 have n0 := am m7
 clear m6 m7
 have HB := am (Below.refl w.heap.size w)
 have H : (if (l0.length : Int) > 20 then (some 3) else (types_names.l0 k l0 l0 (l0.length : Int) 0)) = some r := h
 clear h
 by_cases c2 : (l0.length : Int) > 20
 ·rw [if_pos c2] at H
  have j1 : decide (20 < (l0.length : Int)) = true := decide_eq_true c2
  have j0 : decide (20 < l0.length) = true := decide_eq_true (by omega)
  clear c2
  obtain rfl := Option.some.inj H
  go_enter Tryz.func119, Tryz.ntmps119
  go_wp2
  go_ret
  exact ⟨erf, bb HB⟩
 rw [if_neg c2] at H
 have j1 : decide (20 < (l0.length : Int)) = false := decide_eq_false c2
 have j0 : decide (20 < l0.length) = false := decide_eq_false (by omega)
 clear c2
 have H' := am H
 clear H
 go_enter Tryz.func119, Tryz.ntmps119
 go_wp2
 go_loopg [10] k (fun kq p9 w' => ∃ (a4 : Int), p9 = .int .i64 a4 ∧ Aside0 (types_names.l0 kq l0 l0 (l0.length : Int) a4 = some r) ∧ Aside0 (kq ≤ k) ∧ Aside0 (Below w.heap.size w w'))
 case atStart => exact ⟨(0), eqs, H', ⟨Nat.le_refl _⟩, ⟨bb HB⟩⟩
 case round =>
  clear H'
  clear j1
  clear j0
  obtain ⟨a4, rfl, HA, m9, HB⟩ := hrel
  cases gk with
  | zero => exact absurd HA.out (by simp [types_names.l0])
  | succ k1 =>
   have H := HA.out
   clear HA
   simp only [types_names.l0] at H
   by_cases c3 : a4 < (l0.length : Int)
   rotate_left
   ·rw [if_neg c3] at H
    have h9 := decide_eq_false c3
    clear c3
    obtain rfl := Option.some.inj H
    go_wp2
    go_ret
    exact ⟨erf, bb HB⟩
   rw [if_pos c3] at H
   have h9 := decide_eq_true c3
   clear c3
   obtain ⟨c4, H⟩ := itn H
   have n6 := decide_eq_true c4
   clear c4
   obtain ⟨c5, H⟩ := itn H
   have h8 := decide_eq_true c5
   clear c5
   obtain ⟨g5, A6, H⟩ := obA H
   by_cases c7 : g5 = true
   rotate_left
   ·replace c7 := Bool.eq_false_iff.mpr c7
    subst c7
    replace H := iff_ H
    obtain rfl := Option.some.inj H
    have b3 : 0 ≤ a4 := odt
    have b2 : a4 < (l0.length : Int) := odt
    obtain ⟨c8, d7, a9⟩ := Kd.at_string g2.out a4 b3 b2
    cases d7
    replace a9 := hxc HB a9
    replace b3 := eq_true b3
    replace b2 := eq_true b2
    go_wp2_with ((with_reducible refine gate_callee (f := 100) rfl ?_); refine gl 17 Tryz.func100 #[.string (rdOf ByteArray.empty l0 a4)] (h := ?_); (with_reducible refine (token_IsName.calls k1 (rdOf ByteArray.empty l0 a4) false _ A6.out).mono ?_); rintro e p6 ⟨rfl, hb⟩; refine ⟨_, rfl, ?_⟩; replace HB := bstep HB hb; (try clear hb); (try clear hb2); (try clear hk); (try clear hi))
    go_ret
    exact ⟨erf, bb HB⟩
   subst c7
   replace H := ift H
   have r2 := eq_true (odt : 0 ≤ a4)
   obtain ⟨c9, H⟩ := itn H
   have r1 := eq_true c9
   have r0 := decide_eq_true c9
   clear c9
   obtain ⟨g4, n1, H⟩ := obA H
   by_cases h2 : g4 = true
   ·subst h2
    replace H := ift H
    obtain rfl := Option.some.inj H
    have b3 : 0 ≤ a4 := odt
    have b2 : a4 < (l0.length : Int) := odt
    obtain ⟨c8, d7, a9⟩ := Kd.at_string g2.out a4 b3 b2
    cases d7
    replace a9 := hxc HB a9
    replace b3 := eq_true b3
    replace b2 := eq_true b2
    go_wp2_with (first | ((with_reducible refine gate_callee (f := 100) rfl ?_); refine gl 17 Tryz.func100 #[.string (rdOf ByteArray.empty l0 a4)] (h := ?_); (with_reducible refine (token_IsName.calls k1 (rdOf ByteArray.empty l0 a4) true _ A6.out).mono ?_); rintro e p8 ⟨rfl, hb⟩; refine ⟨_, rfl, ?_⟩; replace HB := bstep HB hb; (try clear hb); (try clear hb2); (try clear hk); (try clear hi); obtain ⟨i013, h0, _, hsz13, _⟩ := info_parts info9; obtain ⟨hcut13, hA13, hC13⟩ := print_take_of (P := Tryz.prog) Value.string (⟨#[]⟩ : ByteArray) 97 9 .i64 Tryz.underlying97 h0 hsz13 (some c8) c0 l0 a4 (odt) (odt) n0.out; have e9 := am (Kd.C_of_reads (h1 := fun _ => rfl) (hA13 _ (Kd.reads_of_C g2.out))); have g1 := am hC13; clear hA13 hC13 h0 hsz13) | ((with_reducible refine gate_callee (f := 126) rfl ?_); refine goesL_ (some 24) rfl rfl Tryz.func126 (by kernel_rfl) rfl #[.slice (some c8) (l0.take (a4 : Int).toNat).length c0, .string (rdOf ByteArray.empty l0 a4)] rfl (by (try simp only [List.map_toArray, List.map_cons, List.map_nil]); first | done | (rw [show (l0.take (a4 : Int).toNat).length = a4.toNat from (by rw [List.length_take]; have h_ : (a4 : Int) ≤ (l0.length : Int) := odt; omega)] <;> rfl) | rfl | (simp only [List.length_drop, List.length_take]; rfl)) ?_; (with_reducible refine (slices_Contains_string_string.calls k1 _ _ (l0.take (a4 : Int).toNat) (rdOf ByteArray.empty l0 a4) true _ ?d1 ?d0 n1.out).mono ?_); (case d1 => exact cb e9 HB); (case d0 => exact g1.out); rintro e w' ⟨rfl, ⟨nd, rfl⟩⟩; refine ⟨_, rfl, ?_⟩))
    go_ret
    exact ⟨erf, bb HB⟩
   replace h2 := Bool.eq_false_iff.mpr h2
   subst h2
   replace H := iff_ H
   have H' := am H
   clear H
   have b3 : 0 ≤ a4 := odt
   have b2 : a4 < (l0.length : Int) := odt
   obtain ⟨c8, d7, a9⟩ := Kd.at_string g2.out a4 b3 b2
   cases d7
   replace a9 := hxc HB a9
   replace b3 := eq_true b3
   replace b2 := eq_true b2
   go_wp2_with (first | ((with_reducible refine gate_callee (f := 100) rfl ?_); refine gl 17 Tryz.func100 #[.string (rdOf ByteArray.empty l0 a4)] (h := ?_); (with_reducible refine (token_IsName.calls k1 (rdOf ByteArray.empty l0 a4) true _ A6.out).mono ?_); rintro e p7 ⟨rfl, hb⟩; refine ⟨_, rfl, ?_⟩; replace HB := bstep HB hb; (try clear hb); (try clear hb2); (try clear hk); (try clear hi); obtain ⟨i015, g9, _, hsz15, _⟩ := info_parts info9; obtain ⟨hcut15, hA15, hC15⟩ := print_take_of (P := Tryz.prog) Value.string (⟨#[]⟩ : ByteArray) 97 9 .i64 Tryz.underlying97 g9 hsz15 (some c8) c0 l0 a4 (odt) (odt) n0.out; have e9 := am (Kd.C_of_reads (h1 := fun _ => rfl) (hA15 _ (Kd.reads_of_C g2.out))); have g1 := am hC15; clear hA15 hC15 g9 hsz15) | ((with_reducible refine gate_callee (f := 126) rfl ?_); refine goesL_ (some 24) rfl rfl Tryz.func126 (by kernel_rfl) rfl #[.slice (some c8) (l0.take (a4 : Int).toNat).length c0, .string (rdOf ByteArray.empty l0 a4)] rfl (by (try simp only [List.map_toArray, List.map_cons, List.map_nil]); first | done | (rw [show (l0.take (a4 : Int).toNat).length = a4.toNat from (by rw [List.length_take]; have h_ : (a4 : Int) ≤ (l0.length : Int) := odt; omega)] <;> rfl) | rfl | (simp only [List.length_drop, List.length_take]; rfl)) ?_; (with_reducible refine (slices_Contains_string_string.calls k1 _ _ (l0.take (a4 : Int).toNat) (rdOf ByteArray.empty l0 a4) false _ ?d1 ?d0 n1.out).mono ?_); (case d1 => exact cb e9 HB); (case d0 => exact g1.out); rintro e w' ⟨rfl, ⟨nd, rfl⟩⟩; refine ⟨_, rfl, ?_⟩))
   go_roundg k1
   case measure => have := m9.out; omega
   case rel => exact ⟨(wrap64 (a4 + 1)), eqs, H', ⟨by have := m9.out; omega⟩, ⟨bb HB⟩⟩
def types_attribute.j0 : Nat → Bool → ByteArray → Int → Int → List ByteArray → Option (Int)
 | 0, _, _, _, _, _ => none
 | k + 1, x6, o4, e3, e2, d0 => if (d0.length : Int) > 0 then (if e3 = 0 then (if (e2 = (wrap64 ((d0.length : Int) - 1))) then (some 0) else (some 6)) else (some 6)) else (if x6 = true then (some 0) else (some 6))
def types_attribute.f (k : Nat) (a7 : ByteArray) (a9 : Int) (a8 : Int) (a6 : List ByteArray) (l1 : List (S99)) : Option (Int) := (token_IsName.f k a7).bind fun c3 => (if c3 = true then ((any_attr.f l1 a7).bind fun c0 => (if c0 = true then (some 5) else ((types_names.f k a6).bind fun b5 => (if b5 = 0 then (if (-1000000) ≤ a9 then (if a9 ≤ a8 then (types_attribute.j0 k (decide (a8 ≤ 1000000)) a7 a9 a8 a6) else (types_attribute.j0 k false a7 a9 a8 a6)) else (types_attribute.j0 k false a7 a9 a8 a6)) else (some b5))))) else (some 2))
theorem types_attribute.mono_l : ∀ k, (∀ y0 y1 y2 y3 y4, LeO (types_attribute.j0 k y0 y1 y2 y3 y4) (types_attribute.j0 (k + 1) y0 y1 y2 y3 y4))
 | 0 => fun _ _ _ _ _ r h => by simp [types_attribute.j0] at h
 | k + 1 => by
  have ih0 := types_attribute.mono_l k
  ·intro y0 y1 y2 y3 y4
   unfold types_attribute.j0
   repeat' first
   | (with_reducible exact ih0 _ _ _ _ _)
   | (with_reducible exact token_IsName.mono _ _)
   | (with_reducible exact types_names.mono _ _)
   | (with_reducible exact LeO.refl _)
   | (with_reducible exact LeO.none _)
   | (with_reducible refine LeO.ite ?_ ?_)
   | (with_reducible refine LeO.bind ?_ (fun _ => ?_))
theorem types_attribute.mono : ∀ a0 a1 a2 a3 a4 k, LeO (types_attribute.f k a0 a1 a2 a3 a4) (types_attribute.f (k + 1) a0 a1 a2 a3 a4) := by
 intro a0 a1 a2 a3 a4 k
 have ih0 := types_attribute.mono_l k
 unfold types_attribute.f
 repeat' first
   | (with_reducible exact ih0 _ _ _ _ _)
   | (with_reducible exact token_IsName.mono _ _)
   | (with_reducible exact types_names.mono _ _)
   | (with_reducible exact LeO.refl _)
   | (with_reducible exact LeO.none _)
   | (with_reducible refine LeO.ite ?_ ?_)
   | (with_reducible refine LeO.bind ?_ (fun _ => ?_))
theorem types_attribute.calls (k : Nat) (a7 : ByteArray) (a9 : Int) (a8 : Int) (b2 : Option Addr) (b1 : Nat) (a6 : List ByteArray) (A1 : Option Addr) (c1 : Nat) (l1 : List (S99)) (r : Int) (w : World) (d4 : Kd.C Kd.string w b2 a6.length a6) (d5 : a6.length ≤ b1) (o1 : Kd.C k99 w A1 l1.length l1) (o2 : l1.length ≤ c1) (h : types_attribute.f k a7 a9 a8 a6 l1 = some r) :
  Calls Tryz.prog 104 #[.agg #[.string a7, .int .i64 a9, .int .i64 a8, .slice b2 a6.length b1], .slice A1 l1.length c1] w fun e w' => e = .returned (.int .i64 r) ∧ Below w.heap.size w w' := by
 have hu99 := Tryz.underlying99
 have e0 := am d4
 have e1 := am d5
 clear d4 d5
 have n3 := am o1
 have n4 := am o2
 clear o1 o2
 have HB := am (Below.refl w.heap.size w)
 have H : ((token_IsName.f k a7).bind fun c3 => (if c3 = true then ((any_attr.f l1 a7).bind fun c0 => (if c0 = true then (some 5) else ((types_names.f k a6).bind fun b5 => (if b5 = 0 then (if (-1000000) ≤ a9 then (if a9 ≤ a8 then (types_attribute.j0 k (decide (a8 ≤ 1000000)) a7 a9 a8 a6) else (types_attribute.j0 k false a7 a9 a8 a6)) else (types_attribute.j0 k false a7 a9 a8 a6)) else (some b5))))) else (some 2))) = some r := h
 clear h
 obtain ⟨c3, A3, H⟩ := obA H
 by_cases c4 : c3 = true
 rotate_left
 ·replace c4 := Bool.eq_false_iff.mpr c4
  subst c4
  replace H := iff_ H
  obtain rfl := Option.some.inj H
  go_enter Tryz.func104, Tryz.ntmps104
  go_wp2_with (first | ((with_reducible refine gate_dst (N := 2) rfl ?_); (try (refine gate_guard (by rfl) ?_; dsimp only)); refine be 2 #[.string a7, .int .i64 a9, .int .i64 a8, .slice b2 a6.length b1] 99 ?_; intro b0 hg w4 hbox hb; have a5 := am (hbox); have d2 := bsz HB hg; replace HB := bstep HB hb; clear hb hbox hg; obtain ⟨s1, s0, r9, r8, o8, o7, o6, o5⟩ := cz4 a5) | ((with_reducible refine gate_callee (f := 100) rfl ?_); refine gl 10 Tryz.func100 #[.string a7] (h := ?_); (with_reducible refine (token_IsName.calls k a7 false _ A3.out).mono ?_); rintro e w3 ⟨rfl, hb⟩; refine ⟨_, rfl, ?_⟩; replace a5 := bkb a5 hb; replace HB := bstep HB hb; (try clear hb); (try clear hb2); (try clear hk); (try clear hi)))
  go_ret
  exact ⟨erf, bb HB⟩
 subst c4
 replace H := ift H
 obtain ⟨c0, A5, H⟩ := obA H
 by_cases c6 : c0 = true
 ·subst c6
  replace H := ift H
  obtain rfl := Option.some.inj H
  go_enter Tryz.func104, Tryz.ntmps104
  go_wp2_with (first | ((with_reducible refine gate_dst (N := 2) rfl ?_); (try (refine gate_guard (by rfl) ?_; dsimp only)); refine be 2 #[.string a7, .int .i64 a9, .int .i64 a8, .slice b2 a6.length b1] 99 ?_; intro b0 hg w7 hbox hb; have a5 := am (hbox); have d2 := bsz HB hg; replace HB := bstep HB hb; clear hb hbox hg; obtain ⟨n2, n1, n0, m9, m8, m7, m6, m5⟩ := cz4 a5) | ((with_reducible refine gate_callee (f := 100) rfl ?_); refine gl 10 Tryz.func100 #[.string a7] (h := ?_); (with_reducible refine (token_IsName.calls k a7 true _ A3.out).mono ?_); rintro e w9 ⟨rfl, hb⟩; refine ⟨_, rfl, ?_⟩; replace a5 := bkb a5 hb; replace HB := bstep HB hb; (try clear hb); (try clear hb2); (try clear hk); (try clear hi)) | ((with_reducible refine gate_callee (f := 117) rfl ?_); refine gl 15 Tryz.func117 #[.slice A1 l1.length c1, .func (.func 118) #[] #[.pointer (some ⟨b0, 0, none⟩)]] (h := ?_); (with_reducible refine (any_attr.calls _ _ l1 b0 a7 (.int .i64 a9) (.int .i64 a8) (.slice b2 a6.length b1) true _ ?b4 ?b3 ?b7 A5.out).mono ?_); (case b4 => exact cb n3 HB); (case b3 => exact n4.out); (case b7 => exact (bk a5)); rintro e x5 ⟨rfl, hb⟩; refine ⟨_, rfl, ?_⟩; replace a5 := bkb a5 hb; replace HB := bstep HB hb; (try clear hb); (try clear hb2); (try clear hk); (try clear hi)))
  go_ret
  exact ⟨erf, bb HB⟩
 replace c6 := Bool.eq_false_iff.mpr c6
 subst c6
 replace H := iff_ H
 obtain ⟨b5, o3, H⟩ := obA H
 by_cases b8 : b5 = 0
 rotate_left
 ·rw [if_neg b8] at H
  have d9 := beq_eq_false_iff_ne.mpr b8
  have d8 := bne_iff_ne.mpr b8
  obtain rfl := Option.some.inj H
  go_enter Tryz.func104, Tryz.ntmps104
  go_wp2_with (first | ((with_reducible refine gate_dst (N := 2) rfl ?_); (try (refine gate_guard (by rfl) ?_; dsimp only)); refine be 2 #[.string a7, .int .i64 a9, .int .i64 a8, .slice b2 a6.length b1] 99 ?_; intro b0 hg x0 hbox hb; have a5 := am (hbox); have d2 := bsz HB hg; replace HB := bstep HB hb; clear hb hbox hg; obtain ⟨s9, s8, s7, s6, p7, p6, p5, p4⟩ := cz4 a5) | ((with_reducible refine gate_callee (f := 100) rfl ?_); refine gl 10 Tryz.func100 #[.string a7] (h := ?_); (with_reducible refine (token_IsName.calls k a7 true _ A3.out).mono ?_); rintro e w8 ⟨rfl, hb⟩; refine ⟨_, rfl, ?_⟩; replace a5 := bkb a5 hb; replace HB := bstep HB hb; (try clear hb); (try clear hb2); (try clear hk); (try clear hi)) | ((with_reducible refine gate_callee (f := 117) rfl ?_); refine gl 15 Tryz.func117 #[.slice A1 l1.length c1, .func (.func 118) #[] #[.pointer (some ⟨b0, 0, none⟩)]] (h := ?_); (with_reducible refine (any_attr.calls _ _ l1 b0 a7 (.int .i64 a9) (.int .i64 a8) (.slice b2 a6.length b1) false _ ?b4 ?b3 ?b7 A5.out).mono ?_); (case b4 => exact cb n3 HB); (case b3 => exact n4.out); (case b7 => exact (bk a5)); rintro e w6 ⟨rfl, hb⟩; refine ⟨_, rfl, ?_⟩; replace a5 := bkb a5 hb; replace HB := bstep HB hb; (try clear hb); (try clear hb2); (try clear hk); (try clear hi); obtain ⟨s5, s4, s3, s2, p3, p1, p0, o9⟩ := cz4 a5) | ((with_reducible refine gate_callee (f := 119) rfl ?_); refine gl 18 Tryz.func119 #[.slice b2 a6.length b1] (h := ?_); (with_reducible refine (types_names.calls k _ _ a6 b5 _ ?b4 ?b3 o3.out).mono ?_); (case b4 => exact cb e0 HB); (case b3 => exact e1.out); rintro e w5 ⟨rfl, hb⟩; refine ⟨_, rfl, ?_⟩; replace a5 := bkb a5 hb; replace HB := bstep HB hb; (try clear hb); (try clear hb2); (try clear hk); (try clear hi)))
  go_ret
  exact ⟨erf, bb HB⟩
 rw [if_pos b8] at H
 have d9 := beq_iff_eq.mpr b8
 have d8 := bne_eq_false_iff_eq.mpr b8
 clear b8
 have d3 := am H
 clear H
 go_enter Tryz.func104, Tryz.ntmps104
 go_upto_region 8 with (first | ((with_reducible refine gate_dst (N := 2) rfl ?_); (try (refine gate_guard (by rfl) ?_; dsimp only)); refine be 2 #[.string a7, .int .i64 a9, .int .i64 a8, .slice b2 a6.length b1] 99 ?_; intro b0 hg x4 hbox hb; have a5 := am (hbox); have d2 := bsz HB hg; replace HB := bstep HB hb; clear hb hbox hg; obtain ⟨m4, m3, m2, m1, h3, h2, h1, h0⟩ := cz4 a5) | ((with_reducible refine gate_callee (f := 100) rfl ?_); refine gl 10 Tryz.func100 #[.string a7] (h := ?_); (with_reducible refine (token_IsName.calls k a7 true _ A3.out).mono ?_); rintro e x3 ⟨rfl, hb⟩; refine ⟨_, rfl, ?_⟩; replace a5 := bkb a5 hb; replace HB := bstep HB hb; (try clear hb); (try clear hb2); (try clear hk); (try clear hi)) | ((with_reducible refine gate_callee (f := 117) rfl ?_); refine gl 15 Tryz.func117 #[.slice A1 l1.length c1, .func (.func 118) #[] #[.pointer (some ⟨b0, 0, none⟩)]] (h := ?_); (with_reducible refine (any_attr.calls _ _ l1 b0 a7 (.int .i64 a9) (.int .i64 a8) (.slice b2 a6.length b1) false _ ?b4 ?b3 ?b7 A5.out).mono ?_); (case b4 => exact cb n3 HB); (case b3 => exact n4.out); (case b7 => exact (bk a5)); rintro e x2 ⟨rfl, hb⟩; refine ⟨_, rfl, ?_⟩; replace a5 := bkb a5 hb; replace HB := bstep HB hb; (try clear hb); (try clear hb2); (try clear hk); (try clear hi); obtain ⟨m0, j9, j8, j7, g9, g8, g7, g6⟩ := cz4 a5) | ((with_reducible refine gate_callee (f := 119) rfl ?_); refine gl 18 Tryz.func119 #[.slice b2 a6.length b1] (h := ?_); (with_reducible refine (types_names.calls k _ _ a6 b5 _ ?b4 ?b3 o3.out).mono ?_); (case b4 => exact cb e0 HB); (case b3 => exact e1.out); rintro e x1 ⟨rfl, hb⟩; refine ⟨_, rfl, ?_⟩; replace a5 := bkb a5 hb; replace HB := bstep HB hb; (try clear hb); (try clear hb2); (try clear hk); (try clear hi)))
 (try simp only [Act.put, List.setIfInBounds_toArray, List.set_cons_zero, List.set_cons_succ])
 go_cut [6] (fun v6 wc => ∃ (kq : Nat) (b9 : Bool), v6 = .bool b9 ∧ Aside0 (types_attribute.j0 kq b9 a7 a9 a8 a6 = some r) ∧ Aside0 (kq ≤ k) ∧ Aside0 (wc.heap[b0]? = some (.cells #[.string a7, .int .i64 a9, .int .i64 a8, (.slice b2 a6.length b1)] 99 (0, 0))) ∧ Aside0 (Below w.heap.size w wc))
 case first =>
  have H := d3.out
  clear d3
  by_cases c9 : (-1000000) ≤ a9
  rotate_left
  ·rw [if_neg c9] at H
   have b6 := decide_eq_false c9
   clear c9
   (first | rw [b6] | (simp only [i64_w, i32_w]; rw [b6]) | skip)
   have H' := am H
   clear H
   obtain ⟨h7, h6, h5, h4, e7, e6, e5, e4⟩ := cz4 a5
   go_wp2
   go_meet
   case rel => exact ⟨_, (false), eqs, H', ⟨by first | omega | exact Nat.le_refl _⟩, ⟨bk a5⟩, ⟨bb HB⟩⟩
  rw [if_pos c9] at H
  have b6 := decide_eq_true c9
  clear c9
  (first | rw [b6] | (simp only [i64_w, i32_w]; rw [b6]) | skip)
  by_cases c8 : a9 ≤ a8
  rotate_left
  ·rw [if_neg c8] at H
   have d7 := decide_eq_false c8
   clear c8
   have H' := am H
   clear H
   obtain ⟨j2, j1, h9, h8, g1, g0, e9, e8⟩ := cz4 a5
   go_wp2
   go_meet
   case rel => exact ⟨_, (false), eqs, H', ⟨by first | omega | exact Nat.le_refl _⟩, ⟨bk a5⟩, ⟨bb HB⟩⟩
  rw [if_pos c8] at H
  have d7 := decide_eq_true c8
  clear c8
  have H' := am H
  clear H
  obtain ⟨j6, j5, j4, j3, g5, g4, g3, g2⟩ := cz4 a5
  go_wp2
  go_meet
  case rel => exact ⟨_, (decide (a8 ≤ 1000000)), eqs, H', ⟨by first | omega | exact Nat.le_refl _⟩, ⟨bk a5⟩, ⟨bb HB⟩⟩
 case rest =>
  clear d3
  try clear c1
  try clear c2
  try clear p2
  try clear c4
  try clear c6
  try clear x8
  try clear x7
  try clear b8
  try clear d9
  try clear d8
  try clear c9
  try clear b6
  try clear c8
  try clear d7
  try clear m4
  try clear m3
  try clear m2
  try clear m1
  try clear m0
  try clear j9
  try clear j8
  try clear j7
  try clear j6
  try clear j5
  try clear j4
  try clear j3
  try clear j2
  try clear j1
  try clear h9
  try clear h8
  try clear h7
  try clear h6
  try clear h5
  try clear h4
  try clear n2
  try clear n1
  try clear n0
  try clear m9
  try clear h3
  try clear h2
  try clear h1
  try clear h0
  try clear g9
  try clear g8
  try clear g7
  try clear g6
  try clear g5
  try clear g4
  try clear g3
  try clear g2
  try clear g1
  try clear g0
  try clear e9
  try clear e8
  try clear e7
  try clear e6
  try clear e5
  try clear e4
  try clear m8
  try clear m7
  try clear m6
  try clear m5
  obtain ⟨kq, b9, rfl, HA, w2, a5, HB⟩ := hcut
  cases kq with
  | zero => exact absurd HA.out (by simp [types_attribute.j0])
  | succ w1 =>
   have H := HA.out
   clear HA
   simp only [types_attribute.j0] at H
   by_cases d1 : (a6.length : Int) > 0
   rotate_left
   ·rw [if_neg d1] at H
    have o0 : decide (0 < (a6.length : Int)) = false := decide_eq_false d1
    have n9 : decide (0 < a6.length) = false := decide_eq_false (by omega)
    clear d1
    by_cases d6 : b9 = true
    ·subst d6
     replace H := ift H
     obtain rfl := Option.some.inj H
     obtain ⟨t7, t6, t5, t4, q5, q4, q3, q2⟩ := cz4 a5
     go_wp2
     go_ret
     exact ⟨erf, bb HB⟩
    ·replace d6 := Bool.eq_false_iff.mpr d6
     subst d6
     replace H := iff_ H
     obtain rfl := Option.some.inj H
     obtain ⟨t3, t2, t1, t0, q1, q0, p9, p8⟩ := cz4 a5
     go_wp2
     go_ret
     exact ⟨erf, bb HB⟩
   rw [if_pos d1] at H
   have o0 : decide (0 < (a6.length : Int)) = true := decide_eq_true d1
   have n9 : decide (0 < a6.length) = true := decide_eq_true (by omega)
   clear d1
   by_cases c7 : a9 = 0
   rotate_left
   ·rw [if_neg c7] at H
    have n8 := beq_eq_false_iff_ne.mpr c7
    have n7 := bne_iff_ne.mpr c7
    obtain rfl := Option.some.inj H
    obtain ⟨v1, v0, t9, t8, q9, q8, q7, q6⟩ := cz4 a5
    go_wp2
    go_ret
    exact ⟨erf, bb HB⟩
   rw [if_pos c7] at H
   have n8 := beq_iff_eq.mpr c7
   have n7 := bne_eq_false_iff_eq.mpr c7
   clear c7
   by_cases c5 : (a8 = (wrap64 ((a6.length : Int) - 1)))
   rotate_left
   ·rw [if_neg c5] at H
    have n6 : (a8 == (wrap64 ((a6.length : Int) - 1))) = false := beq_eq_false_iff_ne.mpr c5
    have n5 : (a8 != (wrap64 ((a6.length : Int) - 1))) = true := bne_iff_ne.mpr c5
    obtain rfl := Option.some.inj H
    obtain ⟨v5, v4, v3, v2, r3, r2, r1, r0⟩ := cz4 a5
    go_wp2
    go_ret
    exact ⟨erf, bb HB⟩
   rw [if_pos c5] at H
   have n6 : (a8 == (wrap64 ((a6.length : Int) - 1))) = true := beq_iff_eq.mpr c5
   have n5 : (a8 != (wrap64 ((a6.length : Int) - 1))) = false := bne_eq_false_iff_eq.mpr c5
   clear c5
   obtain rfl := Option.some.inj H
   obtain ⟨w0, v9, v8, v7, r7, r6, r5, r4⟩ := cz4 a5
   go_wp2
   go_ret
   exact ⟨erf, bb HB⟩
end Go.Proofs.YtfpianecohobjaaGreat.P
