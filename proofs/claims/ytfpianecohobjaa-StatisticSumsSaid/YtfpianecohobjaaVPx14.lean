/- StatisticOf: a part of its proof. No condition. -/
import Derived.Test.YtfpianecohobjaaVPx0
namespace Go.Proofs.Ytfpianecohobjaa.P
open Go.RowKit Go.Proofs.YtfpianecohobjaaW.PrintWords Go.Proofs.YtfpianecohobjaaW.PrintLast Go.Proofs.YtfpianecohobjaaW.PrintMore
set_option maxHeartbeats 8000000
set_option maxRecDepth 100000
set_option linter.unusedVariables false
set_option linter.unusedSimpArgs false
def q1_text.f (a7 : Int) (b0 : ByteArray) (b9 : Int) : Option (ByteArray) := if a7 = 3 then (none) else (some b0)
theorem q1_text.calls (a7 : Int) (b0 : ByteArray) (b9 : Int) (r : ByteArray) (w : World) (h : q1_text.f a7 b0 b9 = some r) :
  Calls Try.prog 106 #[.agg #[.int .i64 a7, .string b0, .int .i64 b9]] w fun e w' => e = .returned (.string r) ∧ Below w.heap.size w w' := by
 have hu119 := Try.underlying119
 have HB := Aside0.mk (Below.refl w.heap.size w)
 have H : (if a7 = 3 then (none) else (some b0)) = some r := h
 clear h
 by_cases c2 : a7 = 3
 ·rw [if_pos c2] at H
  have b4 := beq_iff_eq.mpr c2
  have e7 := bne_eq_false_iff_eq.mpr c2
  clear c2
  exact absurd H (by simp)
 rw [if_neg c2] at H
 have b4 := beq_eq_false_iff_ne.mpr c2
 have e7 := bne_iff_ne.mpr c2
 obtain rfl := Option.some.inj H
 go_enter Try.func106, Try.ntmps106
 go_wp2_with (first | ((with_reducible refine gate_dst (N := 1) rfl ?_); refine be 1 #[.int .i64 a7, .string b0, .int .i64 b9] 119 ?_; intro g6 hg w3 hbox hb; have d6 := Aside0.mk (hbox); have g7 := bsz HB hg; replace HB := bstep HB hb; clear hb hbox hg; obtain ⟨g4, g3, g2, g1, g0, e9⟩ := cz3 d6))
 go_ret
 exact ⟨erf, bb HB⟩
def q1_letter.f (a0 : Int) : Option (Bool) := if a0 ≥ 97 then (if a0 ≤ 122 then (some true) else (if a0 ≥ 65 then (some (decide (a0 ≤ 90))) else (some false))) else (if a0 ≥ 65 then (some (decide (a0 ≤ 90))) else (some false))
theorem q1_letter.calls (a0 : Int) (r : Bool) (w : World) (h : q1_letter.f a0 = some r) :
  Calls Try.prog 119 #[.int .u8 a0] w fun e w' => e = .returned (.bool r) ∧ Drawn0 w w' := by
 have H : (if a0 ≥ 97 then (if a0 ≤ 122 then (some true) else (if a0 ≥ 65 then (some (decide (a0 ≤ 90))) else (some false))) else (if a0 ≥ 65 then (some (decide (a0 ≤ 90))) else (some false))) = some r := h
 clear h
 by_cases c2 : a0 ≥ 97
 rotate_left
 ·rw [if_neg c2] at H
  have b4 : decide (97 ≤ a0) = false := decide_eq_false c2
  clear c2
  by_cases c5 : a0 ≥ 65
  ·rw [if_pos c5] at H
   have d2 : decide (65 ≤ a0) = true := decide_eq_true c5
   clear c5
   obtain rfl := Option.some.inj H
   go_enter Try.func119, Try.ntmps119
   go_wp2
   go_ret
   exact ⟨by first | rfl | (simp; done) | (simp [*]; done), drw⟩
  rw [if_neg c5] at H
  have d2 : decide (65 ≤ a0) = false := decide_eq_false c5
  clear c5
  obtain rfl := Option.some.inj H
  go_enter Try.func119, Try.ntmps119
  go_wp2
  go_ret
  exact ⟨by first | rfl | (simp; done) | (simp [*]; done), drw⟩
 rw [if_pos c2] at H
 have b4 : decide (97 ≤ a0) = true := decide_eq_true c2
 clear c2
 by_cases c3 : a0 ≤ 122
 ·rw [if_pos c3] at H
  have b8 := decide_eq_true c3
  clear c3
  obtain rfl := Option.some.inj H
  go_enter Try.func119, Try.ntmps119
  go_wp2
  go_ret
  exact ⟨by first | rfl | (simp; done) | (simp [*]; done), drw⟩
 rw [if_neg c3] at H
 have b8 := decide_eq_false c3
 clear c3
 by_cases c4 : a0 ≥ 65
 ·rw [if_pos c4] at H
  have b7 : decide (65 ≤ a0) = true := decide_eq_true c4
  clear c4
  obtain rfl := Option.some.inj H
  go_enter Try.func119, Try.ntmps119
  go_wp2
  go_ret
  exact ⟨by first | rfl | (simp; done) | (simp [*]; done), drw⟩
 rw [if_neg c4] at H
 have b7 : decide (65 ≤ a0) = false := decide_eq_false c4
 clear c4
 obtain rfl := Option.some.inj H
 go_enter Try.func119, Try.ntmps119
 go_wp2
 go_ret
 exact ⟨by first | rfl | (simp; done) | (simp [*]; done), drw⟩
def q1_digit.f (a0 : Int) : Option (Bool) := if a0 ≥ 48 then (some (decide (a0 ≤ 57))) else (some false)
theorem q1_digit.calls (a0 : Int) (r : Bool) (w : World) (h : q1_digit.f a0 = some r) :
  Calls Try.prog 120 #[.int .u8 a0] w fun e w' => e = .returned (.bool r) ∧ Drawn0 w w' := by
 have H : (if a0 ≥ 48 then (some (decide (a0 ≤ 57))) else (some false)) = some r := h
 clear h
 by_cases c2 : a0 ≥ 48
 ·rw [if_pos c2] at H
  have b4 : decide (48 ≤ a0) = true := decide_eq_true c2
  clear c2
  obtain rfl := Option.some.inj H
  go_enter Try.func120, Try.ntmps120
  go_wp2
  go_ret
  exact ⟨by first | rfl | (simp; done) | (simp [*]; done), drw⟩
 rw [if_neg c2] at H
 have b4 : decide (48 ≤ a0) = false := decide_eq_false c2
 clear c2
 obtain rfl := Option.some.inj H
 go_enter Try.func120, Try.ntmps120
 go_wp2
 go_ret
 exact ⟨by first | rfl | (simp; done) | (simp [*]; done), drw⟩
def q1_run.l0 : Nat → ByteArray → Int → Bool → Int → Option (Int)
 | 0, _, _, _, _ => none
 | k + 1, x0, x1, x2, x7 => if (wrap64 (x1 + x7)) < (x0.size : Int) then (if 0 ≤ (wrap64 (x1 + x7)) then ((q1_digit.f (bt x0 (wrap64 (x1 + x7)))).bind fun b2 => (if b2 = true then (q1_run.l0 k x0 x1 x2 (wrap64 (x7 + 1))) else (if x2 = true then (some x7) else ((q1_letter.f (bt x0 (wrap64 (x1 + x7)))).bind fun b1 => (if b1 = true then (q1_run.l0 k x0 x1 x2 (wrap64 (x7 + 1))) else (if (bt x0 (wrap64 (x1 + x7))) = 95 then (q1_run.l0 k x0 x1 x2 (wrap64 (x7 + 1))) else (some x7))))))) else (none)) else (some x7)
def q1_run.f (k : Nat) (a0 : ByteArray) (a1 : Int) (a2 : Bool) : Option (Int) := q1_run.l0 k a0 a1 a2 0
theorem q1_run.calls (k : Nat) (a0 : ByteArray) (a1 : Int) (a2 : Bool) (r : Int) (w : World) (h : q1_run.f k a0 a1 a2 = some r) :
  Calls Try.prog 121 #[.string a0, .int .i64 a1, .bool a2] w fun e w' => e = .returned (.int .i64 r) ∧ Drawn0 w w' := by
 have H : (q1_run.l0 k a0 a1 a2 0) = some r := h
 clear h
 have H' := Aside0.mk H
 clear H
 go_enter Try.func121, Try.ntmps121
 go_wp2
 go_loopg [7] k (fun kq v7 w' => ∃ (a3 : Int), v7 = .int .i64 a3 ∧ Aside0 (q1_run.l0 kq a0 a1 a2 a3 = some r) ∧ Aside0 (kq ≤ k) ∧ Drawn0 w w')
 case atStart => exact ⟨(0), eqs, H', ⟨Nat.le_refl _⟩, drw⟩
 case round =>
  clear H'
  obtain ⟨a3, rfl, HA, b6, ⟨m1, rfl⟩⟩ := hrel
  cases gk with
  | zero => exact absurd HA.out (by simp [q1_run.l0])
  | succ k1 =>
   have H := HA.out
   clear HA
   simp only [q1_run.l0] at H
   by_cases c4 : (wrap64 (a1 + a3)) < (a0.size : Int)
   rotate_left
   ·rw [if_neg c4] at H
    have b7 := decide_eq_false c4
    clear c4
    obtain rfl := Option.some.inj H
    go_wp2
    go_ret
    exact ⟨by first | rfl | (simp; done) | (simp [*]; done), drw⟩
   rw [if_pos c4] at H
   have b7 := decide_eq_true c4
   clear c4
   obtain ⟨a5, a9⟩ : ∃ j_ : Int, (wrap64 (a1 + a3)) = j_ := ⟨_, rfl⟩
   replace H : (if 0 ≤ (a5) then ((q1_digit.f (bt a0 (a5))).bind fun b2 => (if b2 = true then (q1_run.l0 k1 a0 a1 a2 (wrap64 (a3 + 1))) else (if a2 = true then (some a3) else ((q1_letter.f (bt a0 (a5))).bind fun b1 => (if b1 = true then (q1_run.l0 k1 a0 a1 a2 (wrap64 (a3 + 1))) else (if (bt a0 (a5)) = 95 then (q1_run.l0 k1 a0 a1 a2 (wrap64 (a3 + 1))) else (some a3))))))) else (none)) = some r := by first | (rw [a9] at H; exact H) | (simp only [a9] at H ⊢; exact H)
   (try rw [a9] at b7)
   have hji5w : (IntKind.i64.wrap (a1 + a3)) = a5 := (i64_w _).trans a9
   obtain ⟨c6, H⟩ := itn H
   have h1 := decide_eq_true c6
   clear c6
   obtain ⟨b2, A8, H⟩ := obA H
   by_cases c9 : b2 = true
   subst c9
   replace H := ift H
   have H' := Aside0.mk H
   clear H
   rotate_left
   replace c9 := Bool.eq_false_iff.mpr c9
   subst c9
   replace H := iff_ H
   by_cases d0 : a2 = true
   subst d0
   replace H := ift H
   obtain rfl := Option.some.inj H
   rotate_left
   replace d0 := Bool.eq_false_iff.mpr d0
   subst d0
   replace H := iff_ H
   obtain ⟨b1, g5, H⟩ := obA H
   by_cases c1 : b1 = true
   subst c1
   replace H := ift H
   have H' := Aside0.mk H
   clear H
   rotate_left
   replace c1 := Bool.eq_false_iff.mpr c1
   subst c1
   replace H := iff_ H
   by_cases b5 : (bt a0 (a5)) = 95
   rw [if_pos b5] at H
   have d4 := beq_iff_eq.mpr b5
   have d3 := bne_eq_false_iff_eq.mpr b5
   clear b5
   have H' := Aside0.mk H
   clear H
   rotate_left
   rw [if_neg b5] at H
   have d4 := beq_eq_false_iff_ne.mpr b5
   have d3 := bne_iff_ne.mpr b5
   obtain rfl := Option.some.inj H
   all_goals
    have p7 : 0 ≤ ((a5) : Int) := odt
    have q7 : (a5) < (a0.size : Int) := odt
    have h2 := bt_at a0 (a5)
    replace p7 := eq_true p7
    replace q7 := eq_true q7
    go_wp2_with (first | (go_at_call 120; (with_reducible refine (q1_digit.calls _ _ _ A8.out).mono ?_); rintro e w' ⟨rfl, ⟨nd, rfl⟩⟩; (try (have e1 : 0 ≤ ((a5) : Int) := odt; have d9 : (a5) < (a0.size : Int) := odt; have h0 := bt_at a0 (a5); replace e1 := eq_true e1; replace d9 := eq_true d9))) | (go_at_call 119; (with_reducible refine (q1_letter.calls _ _ _ g5.out).mono ?_); rintro e w' ⟨rfl, ⟨nd, rfl⟩⟩; (try (have e0 : 0 ≤ ((a5) : Int) := odt; have d8 : (a5) < (a0.size : Int) := odt; have g9 := bt_at a0 (a5); replace e0 := eq_true e0; replace d8 := eq_true d8))))
   ·go_ret
    exact ⟨by first | rfl | (simp; done) | (simp only [← a9] <;> (first | rfl | simp)) | (simp [*]; done), drw⟩
   ·go_roundg k1
    case measure => have := b6.out; omega
    case rel => exact ⟨(wrap64 (a3 + 1)), eqs, H', ⟨by have := b6.out; omega⟩, drw⟩
   ·go_ret
    exact ⟨by first | rfl | (simp; done) | (simp only [← a9] <;> (first | rfl | simp)) | (simp [*]; done), drw⟩
   iterate 2
    ·go_roundg k1
     case measure => have := b6.out; omega
     case rel => exact ⟨(wrap64 (a3 + 1)), eqs, H', ⟨by have := b6.out; omega⟩, drw⟩
def q1_quoted.l0 : Nat → ByteArray → Int → Int → Option (Int)
 | 0, _, _, _ => none
 | k + 1, x0, x1, x5 => if (wrap64 (x1 + x5)) < (x0.size : Int) then (if 0 ≤ (wrap64 (x1 + x5)) then (if (bt x0 (wrap64 (x1 + x5))) = 34 then (some (wrap64 (x5 + 1))) else (if (bt x0 (wrap64 (x1 + x5))) < 32 then (some 0) else (if (bt x0 (wrap64 (x1 + x5))) > 126 then (some 0) else (q1_quoted.l0 k x0 x1 (wrap64 (x5 + 1)))))) else (none)) else (some 0)
def q1_quoted.f (k : Nat) (a0 : ByteArray) (a1 : Int) : Option (Int) := q1_quoted.l0 k a0 a1 1
theorem q1_quoted.calls (k : Nat) (a0 : ByteArray) (a1 : Int) (r : Int) (w : World) (h : q1_quoted.f k a0 a1 = some r) :
  Calls Try.prog 122 #[.string a0, .int .i64 a1] w fun e w' => e = .returned (.int .i64 r) ∧ Drawn0 w w' := by
 have H : (q1_quoted.l0 k a0 a1 1) = some r := h
 clear h
 have H' := Aside0.mk H
 clear H
 go_enter Try.func122, Try.ntmps122
 go_wp2
 go_loopg [5] k (fun kq v5 w' => ∃ (a6 : Int), v5 = .int .i64 a6 ∧ Aside0 (q1_quoted.l0 kq a0 a1 a6 = some r) ∧ Aside0 (kq ≤ k) ∧ Drawn0 w w')
 case atStart => exact ⟨(1), eqs, H', ⟨Nat.le_refl _⟩, drw⟩
 case round =>
  clear H'
  obtain ⟨a6, rfl, HA, b6, ⟨m1, rfl⟩⟩ := hrel
  cases gk with
  | zero => exact absurd HA.out (by simp [q1_quoted.l0])
  | succ k1 =>
   have H := HA.out
   clear HA
   simp only [q1_quoted.l0] at H
   by_cases c3 : (wrap64 (a1 + a6)) < (a0.size : Int)
   rotate_left
   ·rw [if_neg c3] at H
    have b8 := decide_eq_false c3
    clear c3
    obtain rfl := Option.some.inj H
    go_wp2
    go_ret
    exact ⟨by first | rfl | (simp; done) | (simp [*]; done), drw⟩
   rw [if_pos c3] at H
   have b8 := decide_eq_true c3
   clear c3
   obtain ⟨a4, b3⟩ : ∃ j_ : Int, (wrap64 (a1 + a6)) = j_ := ⟨_, rfl⟩
   replace H : (if 0 ≤ (a4) then (if (bt a0 (a4)) = 34 then (some (wrap64 (a6 + 1))) else (if (bt a0 (a4)) < 32 then (some 0) else (if (bt a0 (a4)) > 126 then (some 0) else (q1_quoted.l0 k1 a0 a1 (wrap64 (a6 + 1)))))) else (none)) = some r := by first | (rw [b3] at H; exact H) | (simp only [b3] at H ⊢; exact H)
   (try rw [b3] at b8)
   have hji4w : (IntKind.i64.wrap (a1 + a6)) = a4 := (i64_w _).trans b3
   obtain ⟨c5, H⟩ := itn H
   have d2 := decide_eq_true c5
   clear c5
   by_cases c7 : (bt a0 (a4)) = 34
   rw [if_pos c7] at H
   have e6 := beq_iff_eq.mpr c7
   have e5 := bne_eq_false_iff_eq.mpr c7
   clear c7
   obtain rfl := Option.some.inj H
   rotate_left
   rw [if_neg c7] at H
   have e6 := beq_eq_false_iff_ne.mpr c7
   have e5 := bne_iff_ne.mpr c7
   by_cases c8 : (bt a0 (a4)) < 32
   rw [if_pos c8] at H
   have e4 := decide_eq_true c8
   clear c8
   obtain rfl := Option.some.inj H
   rotate_left
   rw [if_neg c8] at H
   have e4 := decide_eq_false c8
   clear c8
   by_cases c9 : (bt a0 (a4)) > 126
   rotate_left
   ·rw [if_neg c9] at H
    have e3 : decide (126 < (bt a0 (a4))) = false := decide_eq_false c9
    clear c9
    have H' := Aside0.mk H
    clear H
    have p6 : 0 ≤ ((a4) : Int) := odt
    have q6 : (a4) < (a0.size : Int) := odt
    have e8 := bt_at a0 (a4)
    replace p6 := eq_true p6
    replace q6 := eq_true q6
    go_wp2
    go_roundg k1
    case measure => have := b6.out; omega
    case rel => exact ⟨(wrap64 (a6 + 1)), eqs, H', ⟨by have := b6.out; omega⟩, drw⟩
   rotate_left 2
   rw [if_pos c9] at H
   have e3 : decide (126 < (bt a0 (a4))) = true := decide_eq_true c9
   clear c9
   obtain rfl := Option.some.inj H
   all_goals
    have p6 : 0 ≤ ((a4) : Int) := odt
    have q6 : (a4) < (a0.size : Int) := odt
    have e8 := bt_at a0 (a4)
    replace p6 := eq_true p6
    replace q6 := eq_true q6
    go_wp2
    go_ret
    exact ⟨by first | rfl | (simp; done) | (simp only [← b3] <;> (first | rfl | simp)) | (simp [*]; done), drw⟩
def q1_signs.f  : Option (List ByteArray) := some (([(⟨#[45, 62]⟩ : ByteArray), (⟨#[60, 61]⟩ : ByteArray), (⟨#[62, 61]⟩ : ByteArray), (⟨#[61, 61]⟩ : ByteArray), (⟨#[33, 61]⟩ : ByteArray), (⟨#[123]⟩ : ByteArray), (⟨#[125]⟩ : ByteArray), (⟨#[40]⟩ : ByteArray), (⟨#[41]⟩ : ByteArray), (⟨#[91]⟩ : ByteArray), (⟨#[93]⟩ : ByteArray), (⟨#[44]⟩ : ByteArray), (⟨#[59]⟩ : ByteArray), (⟨#[58]⟩ : ByteArray), (⟨#[61]⟩ : ByteArray), (⟨#[43]⟩ : ByteArray), (⟨#[45]⟩ : ByteArray), (⟨#[42]⟩ : ByteArray), (⟨#[60]⟩ : ByteArray), (⟨#[62]⟩ : ByteArray), (⟨#[33]⟩ : ByteArray), (⟨#[38]⟩ : ByteArray), (⟨#[124]⟩ : ByteArray), (⟨#[46]⟩ : ByteArray), (⟨#[63]⟩ : ByteArray)] : List ByteArray))
theorem q1_signs.calls  (r : List ByteArray) (w : World) (h : q1_signs.f  = some r) :
  Calls Try.prog 123 #[] w fun e w' => ∃ d7 : Value, e = .returned (d7) ∧ Kd.R Kd.string 9 w' w.heap.size (fun _ => True) d7 r ∧ Below w.heap.size w w' := by
 have HB := Aside0.mk (Below.refl w.heap.size w)
 have H : (some (([(⟨#[45, 62]⟩ : ByteArray), (⟨#[60, 61]⟩ : ByteArray), (⟨#[62, 61]⟩ : ByteArray), (⟨#[61, 61]⟩ : ByteArray), (⟨#[33, 61]⟩ : ByteArray), (⟨#[123]⟩ : ByteArray), (⟨#[125]⟩ : ByteArray), (⟨#[40]⟩ : ByteArray), (⟨#[41]⟩ : ByteArray), (⟨#[91]⟩ : ByteArray), (⟨#[93]⟩ : ByteArray), (⟨#[44]⟩ : ByteArray), (⟨#[59]⟩ : ByteArray), (⟨#[58]⟩ : ByteArray), (⟨#[61]⟩ : ByteArray), (⟨#[43]⟩ : ByteArray), (⟨#[45]⟩ : ByteArray), (⟨#[42]⟩ : ByteArray), (⟨#[60]⟩ : ByteArray), (⟨#[62]⟩ : ByteArray), (⟨#[33]⟩ : ByteArray), (⟨#[38]⟩ : ByteArray), (⟨#[124]⟩ : ByteArray), (⟨#[46]⟩ : ByteArray), (⟨#[63]⟩ : ByteArray)] : List ByteArray))) = some r := h
 clear h
 obtain ⟨e2, a8⟩ : ∃ y_ : List ByteArray, y_ = (([(⟨#[45, 62]⟩ : ByteArray), (⟨#[60, 61]⟩ : ByteArray), (⟨#[62, 61]⟩ : ByteArray), (⟨#[61, 61]⟩ : ByteArray), (⟨#[33, 61]⟩ : ByteArray), (⟨#[123]⟩ : ByteArray), (⟨#[125]⟩ : ByteArray), (⟨#[40]⟩ : ByteArray), (⟨#[41]⟩ : ByteArray), (⟨#[91]⟩ : ByteArray), (⟨#[93]⟩ : ByteArray), (⟨#[44]⟩ : ByteArray), (⟨#[59]⟩ : ByteArray), (⟨#[58]⟩ : ByteArray), (⟨#[61]⟩ : ByteArray), (⟨#[43]⟩ : ByteArray), (⟨#[45]⟩ : ByteArray), (⟨#[42]⟩ : ByteArray), (⟨#[60]⟩ : ByteArray), (⟨#[62]⟩ : ByteArray), (⟨#[33]⟩ : ByteArray), (⟨#[38]⟩ : ByteArray), (⟨#[124]⟩ : ByteArray), (⟨#[46]⟩ : ByteArray), (⟨#[63]⟩ : ByteArray)] : List ByteArray)) := ⟨_, rfl⟩
 replace H : (some e2) = some r := by first | (rw [a8]; with_reducible exact H) | (have H2_ := (Option.bind_some _ _).symm.trans H; rw [a8]; with_reducible exact H2_) | (have H2_ := (Option.bind_some _ _).symm.trans H; with_reducible exact H2_) | with_reducible exact H | (rw [a8]; exact H) | exact H
 have d1 := Aside0.mk a8
 clear a8
 obtain rfl := Option.some.inj H
 go_enter Try.func123, Try.ntmps123
 go_wp2_with (first | ((with_reducible refine gate_dst (N := 1) rfl ?_); refine Kd.R_lit Kd.string _ 9 ?hg (N := 1) ?hd (xs := ([(⟨#[45, 62]⟩ : ByteArray), (⟨#[60, 61]⟩ : ByteArray), (⟨#[62, 61]⟩ : ByteArray), (⟨#[61, 61]⟩ : ByteArray), (⟨#[33, 61]⟩ : ByteArray), (⟨#[123]⟩ : ByteArray), (⟨#[125]⟩ : ByteArray), (⟨#[40]⟩ : ByteArray), (⟨#[41]⟩ : ByteArray), (⟨#[91]⟩ : ByteArray), (⟨#[93]⟩ : ByteArray), (⟨#[44]⟩ : ByteArray), (⟨#[59]⟩ : ByteArray), (⟨#[58]⟩ : ByteArray), (⟨#[61]⟩ : ByteArray), (⟨#[43]⟩ : ByteArray), (⟨#[45]⟩ : ByteArray), (⟨#[42]⟩ : ByteArray), (⟨#[60]⟩ : ByteArray), (⟨#[62]⟩ : ByteArray), (⟨#[33]⟩ : ByteArray), (⟨#[38]⟩ : ByteArray), (⟨#[124]⟩ : ByteArray), (⟨#[46]⟩ : ByteArray), (⟨#[63]⟩ : ByteArray)] : List ByteArray)) (inner := [.string (⟨#[45, 62]⟩ : ByteArray), .string (⟨#[60, 61]⟩ : ByteArray), .string (⟨#[62, 61]⟩ : ByteArray), .string (⟨#[61, 61]⟩ : ByteArray), .string (⟨#[33, 61]⟩ : ByteArray), .string (⟨#[123]⟩ : ByteArray), .string (⟨#[125]⟩ : ByteArray), .string (⟨#[40]⟩ : ByteArray), .string (⟨#[41]⟩ : ByteArray), .string (⟨#[91]⟩ : ByteArray), .string (⟨#[93]⟩ : ByteArray), .string (⟨#[44]⟩ : ByteArray), .string (⟨#[59]⟩ : ByteArray), .string (⟨#[58]⟩ : ByteArray), .string (⟨#[61]⟩ : ByteArray), .string (⟨#[43]⟩ : ByteArray), .string (⟨#[45]⟩ : ByteArray), .string (⟨#[42]⟩ : ByteArray), .string (⟨#[60]⟩ : ByteArray), .string (⟨#[62]⟩ : ByteArray), .string (⟨#[33]⟩ : ByteArray), .string (⟨#[38]⟩ : ByteArray), .string (⟨#[124]⟩ : ByteArray), .string (⟨#[46]⟩ : ByteArray), .string (⟨#[63]⟩ : ByteArray)]) (ok := fun _ => True) (okp := fun _ => True) ?hr ?hp (fun _ hk => hk) trivial (Below.refl _ _) (Nat.le_refl _) (by simp) ?_; (case hd => rfl); (case hg => rfl); (case hr => first | (go_simp; done) | (go_simp; rfl)); (case hp => exact (Reps.one (show Kd.M Kd.string _ _ _ (⟨#[45, 62]⟩ : ByteArray) [.string (⟨#[45, 62]⟩ : ByteArray)] from rfl) (Reps.one (show Kd.M Kd.string _ _ _ (⟨#[60, 61]⟩ : ByteArray) [.string (⟨#[60, 61]⟩ : ByteArray)] from rfl) (Reps.one (show Kd.M Kd.string _ _ _ (⟨#[62, 61]⟩ : ByteArray) [.string (⟨#[62, 61]⟩ : ByteArray)] from rfl) (Reps.one (show Kd.M Kd.string _ _ _ (⟨#[61, 61]⟩ : ByteArray) [.string (⟨#[61, 61]⟩ : ByteArray)] from rfl) (Reps.one (show Kd.M Kd.string _ _ _ (⟨#[33, 61]⟩ : ByteArray) [.string (⟨#[33, 61]⟩ : ByteArray)] from rfl) (Reps.one (show Kd.M Kd.string _ _ _ (⟨#[123]⟩ : ByteArray) [.string (⟨#[123]⟩ : ByteArray)] from rfl) (Reps.one (show Kd.M Kd.string _ _ _ (⟨#[125]⟩ : ByteArray) [.string (⟨#[125]⟩ : ByteArray)] from rfl) (Reps.one (show Kd.M Kd.string _ _ _ (⟨#[40]⟩ : ByteArray) [.string (⟨#[40]⟩ : ByteArray)] from rfl) (Reps.one (show Kd.M Kd.string _ _ _ (⟨#[41]⟩ : ByteArray) [.string (⟨#[41]⟩ : ByteArray)] from rfl) (Reps.one (show Kd.M Kd.string _ _ _ (⟨#[91]⟩ : ByteArray) [.string (⟨#[91]⟩ : ByteArray)] from rfl) (Reps.one (show Kd.M Kd.string _ _ _ (⟨#[93]⟩ : ByteArray) [.string (⟨#[93]⟩ : ByteArray)] from rfl) (Reps.one (show Kd.M Kd.string _ _ _ (⟨#[44]⟩ : ByteArray) [.string (⟨#[44]⟩ : ByteArray)] from rfl) (Reps.one (show Kd.M Kd.string _ _ _ (⟨#[59]⟩ : ByteArray) [.string (⟨#[59]⟩ : ByteArray)] from rfl) (Reps.one (show Kd.M Kd.string _ _ _ (⟨#[58]⟩ : ByteArray) [.string (⟨#[58]⟩ : ByteArray)] from rfl) (Reps.one (show Kd.M Kd.string _ _ _ (⟨#[61]⟩ : ByteArray) [.string (⟨#[61]⟩ : ByteArray)] from rfl) (Reps.one (show Kd.M Kd.string _ _ _ (⟨#[43]⟩ : ByteArray) [.string (⟨#[43]⟩ : ByteArray)] from rfl) (Reps.one (show Kd.M Kd.string _ _ _ (⟨#[45]⟩ : ByteArray) [.string (⟨#[45]⟩ : ByteArray)] from rfl) (Reps.one (show Kd.M Kd.string _ _ _ (⟨#[42]⟩ : ByteArray) [.string (⟨#[42]⟩ : ByteArray)] from rfl) (Reps.one (show Kd.M Kd.string _ _ _ (⟨#[60]⟩ : ByteArray) [.string (⟨#[60]⟩ : ByteArray)] from rfl) (Reps.one (show Kd.M Kd.string _ _ _ (⟨#[62]⟩ : ByteArray) [.string (⟨#[62]⟩ : ByteArray)] from rfl) (Reps.one (show Kd.M Kd.string _ _ _ (⟨#[33]⟩ : ByteArray) [.string (⟨#[33]⟩ : ByteArray)] from rfl) (Reps.one (show Kd.M Kd.string _ _ _ (⟨#[38]⟩ : ByteArray) [.string (⟨#[38]⟩ : ByteArray)] from rfl) (Reps.one (show Kd.M Kd.string _ _ _ (⟨#[124]⟩ : ByteArray) [.string (⟨#[124]⟩ : ByteArray)] from rfl) (Reps.one (show Kd.M Kd.string _ _ _ (⟨#[46]⟩ : ByteArray) [.string (⟨#[46]⟩ : ByteArray)] from rfl) (Reps.one (show Kd.M Kd.string _ _ _ (⟨#[63]⟩ : ByteArray) [.string (⟨#[63]⟩ : ByteArray)] from rfl) (Reps.none _ _))))))))))))))))))))))))))); intro g8 w1 c0 hb hg_ hnew_; clear hg_ hnew_; (first | rw [← d1.out] at c0 | (simp only [Int.reduceToNat] at c0; rw [← d1.out] at c0)); have d5 := Aside0.mk (Kd.R_lower c0 (below_size (bb HB))); replace HB := bstep HB hb; clear hb c0))
 go_ret
 exact ⟨_, erf, kR d5, bb HB⟩
end Go.Proofs.Ytfpianecohobjaa.P
