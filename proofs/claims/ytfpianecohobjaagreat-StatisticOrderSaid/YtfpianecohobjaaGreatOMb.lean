/- StatisticOf: a part of its proof. No condition. -/
import Derived.Test.YtfpianecohobjaaGreatOPx0
namespace Go.Proofs.YtfpianecohobjaaGreat.P
open Go.RowKit Go.Proofs.YtfpianecohobjaaGreatW.PrintWords Go.Proofs.YtfpianecohobjaaGreatW.PrintLast Go.Proofs.YtfpianecohobjaaGreatW.PrintMore
set_option maxHeartbeats 8000000
set_option maxRecDepth 100000
set_option linter.unusedVariables false
set_option linter.unusedSimpArgs false
def q4_in.f (a0 : Int) (a1 : Int) (a2 : Int) : Option (Bool) := if a0 ≥ a1 then (some (decide (a0 ≤ a2))) else (some false)
theorem q4_in.calls (a0 : Int) (a1 : Int) (a2 : Int) (r : Bool) (w : World) (h : q4_in.f a0 a1 a2 = some r) :
  Calls Tryz.prog 90 #[.int .i64 a0, .int .i64 a1, .int .i64 a2] w fun e w' => e = .returned (.bool r) ∧ Drawn0 w w' := by
 have H : (if a0 ≥ a1 then (some (decide (a0 ≤ a2))) else (some false)) = some r := h
 clear h
 by_cases c4 : a0 ≥ a1
 ·rw [if_pos c4] at H
  have b0 : decide (a1 ≤ a0) = true := decide_eq_true c4
  clear c4
  obtain rfl := Option.some.inj H
  go_enter Tryz.func90, Tryz.ntmps90
  go_wp2
  go_ret
  exact ⟨by first | rfl | (simp; done) | (simp [*]; done), drw⟩
 rw [if_neg c4] at H
 have b0 : decide (a1 ≤ a0) = false := decide_eq_false c4
 clear c4
 obtain rfl := Option.some.inj H
 go_enter Tryz.func90, Tryz.ntmps90
 go_wp2
 go_ret
 exact ⟨by first | rfl | (simp; done) | (simp [*]; done), drw⟩
def q1_text.f (a7 : Int) (b1 : ByteArray) (b9 : Int) : Option (ByteArray) := if a7 = 3 then (none) else (some b1)
theorem q1_text.calls (a7 : Int) (b1 : ByteArray) (b9 : Int) (r : ByteArray) (w : World) (h : q1_text.f a7 b1 b9 = some r) :
  Calls Tryz.prog 127 #[.agg #[.int .i64 a7, .string b1, .int .i64 b9]] w fun e w' => e = .returned (.string r) ∧ Below w.heap.size w w' := by
 have hu142 := Tryz.underlying142
 have HB := Aside0.mk (Below.refl w.heap.size w)
 have H : (if a7 = 3 then (none) else (some b1)) = some r := h
 clear h
 by_cases c2 : a7 = 3
 ·rw [if_pos c2] at H
  have b5 := beq_iff_eq.mpr c2
  have e7 := bne_eq_false_iff_eq.mpr c2
  clear c2
  exact absurd H (by simp)
 rw [if_neg c2] at H
 have b5 := beq_eq_false_iff_ne.mpr c2
 have e7 := bne_iff_ne.mpr c2
 obtain rfl := Option.some.inj H
 go_enter Tryz.func127, Tryz.ntmps127
 go_wp2_with ((with_reducible refine gate_dst (N := 1) rfl ?_); refine be 1 #[.int .i64 a7, .string b1, .int .i64 b9] 142 ?_; intro g6 hg w3 hbox hb; have d6 := Aside0.mk (hbox); have g7 := bsz HB hg; replace HB := bstep HB hb; clear hb hbox hg; obtain ⟨g4, g3, g2, g1, g0, e9⟩ := cz3 d6)
 go_ret
 exact ⟨erf, bb HB⟩
def q1_letter.f (a0 : Int) : Option (Bool) := if a0 ≥ 97 then (if a0 ≤ 122 then (some true) else (if a0 ≥ 65 then (some (decide (a0 ≤ 90))) else (some false))) else (if a0 ≥ 65 then (some (decide (a0 ≤ 90))) else (some false))
theorem q1_letter.calls (a0 : Int) (r : Bool) (w : World) (h : q1_letter.f a0 = some r) :
  Calls Tryz.prog 137 #[.int .u8 a0] w fun e w' => e = .returned (.bool r) ∧ Drawn0 w w' := by
 have H : (if a0 ≥ 97 then (if a0 ≤ 122 then (some true) else (if a0 ≥ 65 then (some (decide (a0 ≤ 90))) else (some false))) else (if a0 ≥ 65 then (some (decide (a0 ≤ 90))) else (some false))) = some r := h
 clear h
 by_cases c2 : a0 ≥ 97
 rotate_left
 ·rw [if_neg c2] at H
  have b5 : decide (97 ≤ a0) = false := decide_eq_false c2
  clear c2
  by_cases c5 : a0 ≥ 65
  ·rw [if_pos c5] at H
   have d2 : decide (65 ≤ a0) = true := decide_eq_true c5
   clear c5
   obtain rfl := Option.some.inj H
   go_enter Tryz.func137, Tryz.ntmps137
   go_wp2
   go_ret
   exact ⟨by first | rfl | (simp; done) | (simp [*]; done), drw⟩
  rw [if_neg c5] at H
  have d2 : decide (65 ≤ a0) = false := decide_eq_false c5
  clear c5
  obtain rfl := Option.some.inj H
  go_enter Tryz.func137, Tryz.ntmps137
  go_wp2
  go_ret
  exact ⟨by first | rfl | (simp; done) | (simp [*]; done), drw⟩
 rw [if_pos c2] at H
 have b5 : decide (97 ≤ a0) = true := decide_eq_true c2
 clear c2
 by_cases c3 : a0 ≤ 122
 ·rw [if_pos c3] at H
  have b8 := decide_eq_true c3
  clear c3
  obtain rfl := Option.some.inj H
  go_enter Tryz.func137, Tryz.ntmps137
  go_wp2
  go_ret
  exact ⟨by first | rfl | (simp; done) | (simp [*]; done), drw⟩
 rw [if_neg c3] at H
 have b8 := decide_eq_false c3
 clear c3
 by_cases c4 : a0 ≥ 65
 ·rw [if_pos c4] at H
  have b0 : decide (65 ≤ a0) = true := decide_eq_true c4
  clear c4
  obtain rfl := Option.some.inj H
  go_enter Tryz.func137, Tryz.ntmps137
  go_wp2
  go_ret
  exact ⟨by first | rfl | (simp; done) | (simp [*]; done), drw⟩
 rw [if_neg c4] at H
 have b0 : decide (65 ≤ a0) = false := decide_eq_false c4
 clear c4
 obtain rfl := Option.some.inj H
 go_enter Tryz.func137, Tryz.ntmps137
 go_wp2
 go_ret
 exact ⟨by first | rfl | (simp; done) | (simp [*]; done), drw⟩
def q1_digit.f (a0 : Int) : Option (Bool) := if a0 ≥ 48 then (some (decide (a0 ≤ 57))) else (some false)
theorem q1_digit.calls (a0 : Int) (r : Bool) (w : World) (h : q1_digit.f a0 = some r) :
  Calls Tryz.prog 138 #[.int .u8 a0] w fun e w' => e = .returned (.bool r) ∧ Drawn0 w w' := by
 have H : (if a0 ≥ 48 then (some (decide (a0 ≤ 57))) else (some false)) = some r := h
 clear h
 by_cases c2 : a0 ≥ 48
 ·rw [if_pos c2] at H
  have b5 : decide (48 ≤ a0) = true := decide_eq_true c2
  clear c2
  obtain rfl := Option.some.inj H
  go_enter Tryz.func138, Tryz.ntmps138
  go_wp2
  go_ret
  exact ⟨by first | rfl | (simp; done) | (simp [*]; done), drw⟩
 rw [if_neg c2] at H
 have b5 : decide (48 ≤ a0) = false := decide_eq_false c2
 clear c2
 obtain rfl := Option.some.inj H
 go_enter Tryz.func138, Tryz.ntmps138
 go_wp2
 go_ret
 exact ⟨by first | rfl | (simp; done) | (simp [*]; done), drw⟩
def q1_run.l0 : Nat → ByteArray → Int → Bool → Int → Option (Int)
 | 0, _, _, _, _ => none
 | k + 1, x0, x1, x2, x7 => if (wrap64 (x1 + x7)) < (x0.size : Int) then (if 0 ≤ (wrap64 (x1 + x7)) then ((q1_digit.f (bt x0 (wrap64 (x1 + x7)))).bind fun b3 => (if b3 = true then (q1_run.l0 k x0 x1 x2 (wrap64 (x7 + 1))) else (if x2 = true then (some x7) else ((q1_letter.f (bt x0 (wrap64 (x1 + x7)))).bind fun b2 => (if b2 = true then (q1_run.l0 k x0 x1 x2 (wrap64 (x7 + 1))) else (if (bt x0 (wrap64 (x1 + x7))) = 95 then (q1_run.l0 k x0 x1 x2 (wrap64 (x7 + 1))) else (some x7))))))) else (none)) else (some x7)
def q1_run.f (k : Nat) (a0 : ByteArray) (a1 : Int) (a2 : Bool) : Option (Int) := q1_run.l0 k a0 a1 a2 0
theorem q1_run.calls (k : Nat) (a0 : ByteArray) (a1 : Int) (a2 : Bool) (r : Int) (w : World) (h : q1_run.f k a0 a1 a2 = some r) :
  Calls Tryz.prog 139 #[.string a0, .int .i64 a1, .bool a2] w fun e w' => e = .returned (.int .i64 r) ∧ Drawn0 w w' := by
 have H : (q1_run.l0 k a0 a1 a2 0) = some r := h
 clear h
 have H' := Aside0.mk H
 clear H
 go_enter Tryz.func139, Tryz.ntmps139
 go_wp2
 go_loopg [7] k (fun kq v7 w' => ∃ (a3 : Int), v7 = .int .i64 a3 ∧ Aside0 (q1_run.l0 kq a0 a1 a2 a3 = some r) ∧ Aside0 (kq ≤ k) ∧ Drawn0 w w')
 case atStart => exact ⟨(0), eqs, H', ⟨Nat.le_refl _⟩, drw⟩
 case round =>
  clear H'
  obtain ⟨a3, rfl, HA, b7, ⟨m1, rfl⟩⟩ := hrel
  cases gk with
  | zero => exact absurd HA.out (by simp [q1_run.l0])
  | succ k1 =>
   have H := HA.out
   clear HA
   simp only [q1_run.l0] at H
   by_cases c4 : (wrap64 (a1 + a3)) < (a0.size : Int)
   rotate_left
   ·rw [if_neg c4] at H
    have b0 := decide_eq_false c4
    clear c4
    obtain rfl := Option.some.inj H
    go_wp2
    go_ret
    exact ⟨by first | rfl | (simp; done) | (simp [*]; done), drw⟩
   rw [if_pos c4] at H
   have b0 := decide_eq_true c4
   clear c4
   obtain ⟨a5, a9⟩ : ∃ j_ : Int, (wrap64 (a1 + a3)) = j_ := ⟨_, rfl⟩
   replace H : (if 0 ≤ (a5) then ((q1_digit.f (bt a0 (a5))).bind fun b3 => (if b3 = true then (q1_run.l0 k1 a0 a1 a2 (wrap64 (a3 + 1))) else (if a2 = true then (some a3) else ((q1_letter.f (bt a0 (a5))).bind fun b2 => (if b2 = true then (q1_run.l0 k1 a0 a1 a2 (wrap64 (a3 + 1))) else (if (bt a0 (a5)) = 95 then (q1_run.l0 k1 a0 a1 a2 (wrap64 (a3 + 1))) else (some a3))))))) else (none)) = some r := by first | (rw [a9] at H; exact H) | (simp only [a9] at H ⊢; exact H)
   (try rw [a9] at b0)
   have hji5w : (IntKind.i64.wrap (a1 + a3)) = a5 := (i64_w _).trans a9
   obtain ⟨c6, H⟩ := itn H
   have h1 := decide_eq_true c6
   clear c6
   obtain ⟨b3, A8, H⟩ := obA H
   by_cases c9 : b3 = true
   subst c9
   replace H := ift H
   have H' := Aside0.mk H
   clear H
   rotate_left
   replace c9 := Bool.eq_false_iff.mpr c9
   subst c9
   replace H := iff_ H
   by_cases d0 : a2 = true
   subst d0
   replace H := ift H
   obtain rfl := Option.some.inj H
   rotate_left
   replace d0 := Bool.eq_false_iff.mpr d0
   subst d0
   replace H := iff_ H
   obtain ⟨b2, g5, H⟩ := obA H
   by_cases c1 : b2 = true
   subst c1
   replace H := ift H
   have H' := Aside0.mk H
   clear H
   rotate_left
   replace c1 := Bool.eq_false_iff.mpr c1
   subst c1
   replace H := iff_ H
   by_cases b6 : (bt a0 (a5)) = 95
   rw [if_pos b6] at H
   have d4 := beq_iff_eq.mpr b6
   have d3 := bne_eq_false_iff_eq.mpr b6
   clear b6
   have H' := Aside0.mk H
   clear H
   rotate_left
   rw [if_neg b6] at H
   have d4 := beq_eq_false_iff_ne.mpr b6
   have d3 := bne_iff_ne.mpr b6
   obtain rfl := Option.some.inj H
   all_goals
    have p7 : 0 ≤ ((a5) : Int) := odt
    have q7 : (a5) < (a0.size : Int) := odt
    have h2 := bt_at a0 (a5)
    replace p7 := eq_true p7
    replace q7 := eq_true q7
    go_wp2_with (first | (go_at_call 138; (with_reducible refine (q1_digit.calls _ _ _ A8.out).mono ?_); rintro e w' ⟨rfl, ⟨nd, rfl⟩⟩; (try (have e1 : 0 ≤ ((a5) : Int) := odt; have d9 : (a5) < (a0.size : Int) := odt; have h0 := bt_at a0 (a5); replace e1 := eq_true e1; replace d9 := eq_true d9))) | (go_at_call 137; (with_reducible refine (q1_letter.calls _ _ _ g5.out).mono ?_); rintro e w' ⟨rfl, ⟨nd, rfl⟩⟩; (try (have e0 : 0 ≤ ((a5) : Int) := odt; have d8 : (a5) < (a0.size : Int) := odt; have g9 := bt_at a0 (a5); replace e0 := eq_true e0; replace d8 := eq_true d8))))
   ·go_ret
    exact ⟨by first | rfl | (simp; done) | (simp only [← a9] <;> (first | rfl | simp)) | (simp [*]; done), drw⟩
   ·go_roundg k1
    case measure => have := b7.out; omega
    case rel => exact ⟨(wrap64 (a3 + 1)), eqs, H', ⟨by have := b7.out; omega⟩, drw⟩
   ·go_ret
    exact ⟨by first | rfl | (simp; done) | (simp only [← a9] <;> (first | rfl | simp)) | (simp [*]; done), drw⟩
   iterate 2
    ·go_roundg k1
     case measure => have := b7.out; omega
     case rel => exact ⟨(wrap64 (a3 + 1)), eqs, H', ⟨by have := b7.out; omega⟩, drw⟩
def q1_quoted.l0 : Nat → ByteArray → Int → Int → Option (Int)
 | 0, _, _, _ => none
 | k + 1, x0, x1, x5 => if (wrap64 (x1 + x5)) < (x0.size : Int) then (if 0 ≤ (wrap64 (x1 + x5)) then (if (bt x0 (wrap64 (x1 + x5))) = 34 then (some (wrap64 (x5 + 1))) else (if (bt x0 (wrap64 (x1 + x5))) < 32 then (some 0) else (if (bt x0 (wrap64 (x1 + x5))) > 126 then (some 0) else (q1_quoted.l0 k x0 x1 (wrap64 (x5 + 1)))))) else (none)) else (some 0)
def q1_quoted.f (k : Nat) (a0 : ByteArray) (a1 : Int) : Option (Int) := q1_quoted.l0 k a0 a1 1
theorem q1_quoted.calls (k : Nat) (a0 : ByteArray) (a1 : Int) (r : Int) (w : World) (h : q1_quoted.f k a0 a1 = some r) :
  Calls Tryz.prog 140 #[.string a0, .int .i64 a1] w fun e w' => e = .returned (.int .i64 r) ∧ Drawn0 w w' := by
 have H : (q1_quoted.l0 k a0 a1 1) = some r := h
 clear h
 have H' := Aside0.mk H
 clear H
 go_enter Tryz.func140, Tryz.ntmps140
 go_wp2
 go_loopg [5] k (fun kq v5 w' => ∃ (a6 : Int), v5 = .int .i64 a6 ∧ Aside0 (q1_quoted.l0 kq a0 a1 a6 = some r) ∧ Aside0 (kq ≤ k) ∧ Drawn0 w w')
 case atStart => exact ⟨(1), eqs, H', ⟨Nat.le_refl _⟩, drw⟩
 case round =>
  clear H'
  obtain ⟨a6, rfl, HA, b7, ⟨m1, rfl⟩⟩ := hrel
  cases gk with
  | zero => exact absurd HA.out (by simp [q1_quoted.l0])
  | succ k1 =>
   have H := HA.out
   clear HA
   simp only [q1_quoted.l0] at H
   by_cases c3 : (wrap64 (a1 + a6)) < (a0.size : Int)
   rotate_left
   ·rw [if_neg c3] at H
    have b8 := decide_eq_false c3
    clear c3
    obtain rfl := Option.some.inj H
    go_wp2
    go_ret
    exact ⟨by first | rfl | (simp; done) | (simp [*]; done), drw⟩
   rw [if_pos c3] at H
   have b8 := decide_eq_true c3
   clear c3
   obtain ⟨a4, b4⟩ : ∃ j_ : Int, (wrap64 (a1 + a6)) = j_ := ⟨_, rfl⟩
   replace H : (if 0 ≤ (a4) then (if (bt a0 (a4)) = 34 then (some (wrap64 (a6 + 1))) else (if (bt a0 (a4)) < 32 then (some 0) else (if (bt a0 (a4)) > 126 then (some 0) else (q1_quoted.l0 k1 a0 a1 (wrap64 (a6 + 1)))))) else (none)) = some r := by first | (rw [b4] at H; exact H) | (simp only [b4] at H ⊢; exact H)
   (try rw [b4] at b8)
   have hji4w : (IntKind.i64.wrap (a1 + a6)) = a4 := (i64_w _).trans b4
   obtain ⟨c5, H⟩ := itn H
   have d2 := decide_eq_true c5
   clear c5
   by_cases c7 : (bt a0 (a4)) = 34
   rw [if_pos c7] at H
   have e6 := beq_iff_eq.mpr c7
   have e5 := bne_eq_false_iff_eq.mpr c7
   clear c7
   obtain rfl := Option.some.inj H
   rotate_left
   rw [if_neg c7] at H
   have e6 := beq_eq_false_iff_ne.mpr c7
   have e5 := bne_iff_ne.mpr c7
   by_cases c8 : (bt a0 (a4)) < 32
   rw [if_pos c8] at H
   have e4 := decide_eq_true c8
   clear c8
   obtain rfl := Option.some.inj H
   rotate_left
   rw [if_neg c8] at H
   have e4 := decide_eq_false c8
   clear c8
   by_cases c9 : (bt a0 (a4)) > 126
   rotate_left
   ·rw [if_neg c9] at H
    have e3 : decide (126 < (bt a0 (a4))) = false := decide_eq_false c9
    clear c9
    have H' := Aside0.mk H
    clear H
    have p6 : 0 ≤ ((a4) : Int) := odt
    have q6 : (a4) < (a0.size : Int) := odt
    have e8 := bt_at a0 (a4)
    replace p6 := eq_true p6
    replace q6 := eq_true q6
    go_wp2
    go_roundg k1
    case measure => have := b7.out; omega
    case rel => exact ⟨(wrap64 (a6 + 1)), eqs, H', ⟨by have := b7.out; omega⟩, drw⟩
   rotate_left 2
   rw [if_pos c9] at H
   have e3 : decide (126 < (bt a0 (a4))) = true := decide_eq_true c9
   clear c9
   obtain rfl := Option.some.inj H
   all_goals
    have p6 : 0 ≤ ((a4) : Int) := odt
    have q6 : (a4) < (a0.size : Int) := odt
    have e8 := bt_at a0 (a4)
    replace p6 := eq_true p6
    replace q6 := eq_true q6
    go_wp2
    go_ret
    exact ⟨by first | rfl | (simp; done) | (simp only [← b4] <;> (first | rfl | simp)) | (simp [*]; done), drw⟩
def q1_signs.f  : Option (List ByteArray) := some (([(⟨#[45, 62]⟩ : ByteArray), (⟨#[60, 61]⟩ : ByteArray), (⟨#[62, 61]⟩ : ByteArray), (⟨#[61, 61]⟩ : ByteArray), (⟨#[33, 61]⟩ : ByteArray), (⟨#[123]⟩ : ByteArray), (⟨#[125]⟩ : ByteArray), (⟨#[40]⟩ : ByteArray), (⟨#[41]⟩ : ByteArray), (⟨#[91]⟩ : ByteArray), (⟨#[93]⟩ : ByteArray), (⟨#[44]⟩ : ByteArray), (⟨#[59]⟩ : ByteArray), (⟨#[58]⟩ : ByteArray), (⟨#[61]⟩ : ByteArray), (⟨#[43]⟩ : ByteArray), (⟨#[45]⟩ : ByteArray), (⟨#[42]⟩ : ByteArray), (⟨#[60]⟩ : ByteArray), (⟨#[62]⟩ : ByteArray), (⟨#[33]⟩ : ByteArray), (⟨#[38]⟩ : ByteArray), (⟨#[124]⟩ : ByteArray), (⟨#[46]⟩ : ByteArray), (⟨#[63]⟩ : ByteArray)] : List ByteArray))
theorem q1_signs.calls  (r : List ByteArray) (w : World) (h : q1_signs.f  = some r) :
  Calls Tryz.prog 141 #[] w fun e w' => ∃ d7 : Value, e = .returned (d7) ∧ Kd.R Kd.string 9 w' w.heap.size (fun _ => True) d7 r ∧ Below w.heap.size w w' := by
 have HB := Aside0.mk (Below.refl w.heap.size w)
 have H : (some (([(⟨#[45, 62]⟩ : ByteArray), (⟨#[60, 61]⟩ : ByteArray), (⟨#[62, 61]⟩ : ByteArray), (⟨#[61, 61]⟩ : ByteArray), (⟨#[33, 61]⟩ : ByteArray), (⟨#[123]⟩ : ByteArray), (⟨#[125]⟩ : ByteArray), (⟨#[40]⟩ : ByteArray), (⟨#[41]⟩ : ByteArray), (⟨#[91]⟩ : ByteArray), (⟨#[93]⟩ : ByteArray), (⟨#[44]⟩ : ByteArray), (⟨#[59]⟩ : ByteArray), (⟨#[58]⟩ : ByteArray), (⟨#[61]⟩ : ByteArray), (⟨#[43]⟩ : ByteArray), (⟨#[45]⟩ : ByteArray), (⟨#[42]⟩ : ByteArray), (⟨#[60]⟩ : ByteArray), (⟨#[62]⟩ : ByteArray), (⟨#[33]⟩ : ByteArray), (⟨#[38]⟩ : ByteArray), (⟨#[124]⟩ : ByteArray), (⟨#[46]⟩ : ByteArray), (⟨#[63]⟩ : ByteArray)] : List ByteArray))) = some r := h
 clear h
 obtain ⟨e2, a8⟩ : ∃ y_ : List ByteArray, y_ = (([(⟨#[45, 62]⟩ : ByteArray), (⟨#[60, 61]⟩ : ByteArray), (⟨#[62, 61]⟩ : ByteArray), (⟨#[61, 61]⟩ : ByteArray), (⟨#[33, 61]⟩ : ByteArray), (⟨#[123]⟩ : ByteArray), (⟨#[125]⟩ : ByteArray), (⟨#[40]⟩ : ByteArray), (⟨#[41]⟩ : ByteArray), (⟨#[91]⟩ : ByteArray), (⟨#[93]⟩ : ByteArray), (⟨#[44]⟩ : ByteArray), (⟨#[59]⟩ : ByteArray), (⟨#[58]⟩ : ByteArray), (⟨#[61]⟩ : ByteArray), (⟨#[43]⟩ : ByteArray), (⟨#[45]⟩ : ByteArray), (⟨#[42]⟩ : ByteArray), (⟨#[60]⟩ : ByteArray), (⟨#[62]⟩ : ByteArray), (⟨#[33]⟩ : ByteArray), (⟨#[38]⟩ : ByteArray), (⟨#[124]⟩ : ByteArray), (⟨#[46]⟩ : ByteArray), (⟨#[63]⟩ : ByteArray)] : List ByteArray)) := ⟨_, rfl⟩
 replace H : (some e2) = some r := by first | (rw [a8]; with_reducible exact H) | (have H2_ := (Option.bind_some _ _).symm.trans H; rw [a8]; with_reducible exact H2_) | (have H2_ := (Option.bind_some _ _).symm.trans H; with_reducible exact H2_) | with_reducible exact H | (rw [a8]; exact H) | exact H
 have d1 := Aside0.mk a8
 clear a8
 obtain rfl := Option.some.inj H
 go_enter Tryz.func141, Tryz.ntmps141
 go_wp2_with ((with_reducible refine gate_dst (N := 1) rfl ?_); refine Kd.R_lit Kd.string _ 9 ?hg (N := 1) ?hd (xs := ([(⟨#[45, 62]⟩ : ByteArray), (⟨#[60, 61]⟩ : ByteArray), (⟨#[62, 61]⟩ : ByteArray), (⟨#[61, 61]⟩ : ByteArray), (⟨#[33, 61]⟩ : ByteArray), (⟨#[123]⟩ : ByteArray), (⟨#[125]⟩ : ByteArray), (⟨#[40]⟩ : ByteArray), (⟨#[41]⟩ : ByteArray), (⟨#[91]⟩ : ByteArray), (⟨#[93]⟩ : ByteArray), (⟨#[44]⟩ : ByteArray), (⟨#[59]⟩ : ByteArray), (⟨#[58]⟩ : ByteArray), (⟨#[61]⟩ : ByteArray), (⟨#[43]⟩ : ByteArray), (⟨#[45]⟩ : ByteArray), (⟨#[42]⟩ : ByteArray), (⟨#[60]⟩ : ByteArray), (⟨#[62]⟩ : ByteArray), (⟨#[33]⟩ : ByteArray), (⟨#[38]⟩ : ByteArray), (⟨#[124]⟩ : ByteArray), (⟨#[46]⟩ : ByteArray), (⟨#[63]⟩ : ByteArray)] : List ByteArray)) (inner := [.string (⟨#[45, 62]⟩ : ByteArray), .string (⟨#[60, 61]⟩ : ByteArray), .string (⟨#[62, 61]⟩ : ByteArray), .string (⟨#[61, 61]⟩ : ByteArray), .string (⟨#[33, 61]⟩ : ByteArray), .string (⟨#[123]⟩ : ByteArray), .string (⟨#[125]⟩ : ByteArray), .string (⟨#[40]⟩ : ByteArray), .string (⟨#[41]⟩ : ByteArray), .string (⟨#[91]⟩ : ByteArray), .string (⟨#[93]⟩ : ByteArray), .string (⟨#[44]⟩ : ByteArray), .string (⟨#[59]⟩ : ByteArray), .string (⟨#[58]⟩ : ByteArray), .string (⟨#[61]⟩ : ByteArray), .string (⟨#[43]⟩ : ByteArray), .string (⟨#[45]⟩ : ByteArray), .string (⟨#[42]⟩ : ByteArray), .string (⟨#[60]⟩ : ByteArray), .string (⟨#[62]⟩ : ByteArray), .string (⟨#[33]⟩ : ByteArray), .string (⟨#[38]⟩ : ByteArray), .string (⟨#[124]⟩ : ByteArray), .string (⟨#[46]⟩ : ByteArray), .string (⟨#[63]⟩ : ByteArray)]) (ok := fun _ => True) (okp := fun _ => True) ?hr ?hp (fun _ hk => hk) trivial (Below.refl _ _) (Nat.le_refl _) (by simp) ?_; (case hd => rfl); (case hg => rfl); (case hr => first | (go_simp; done) | (go_simp; rfl)); (case hp => exact (Reps.one (show Kd.M Kd.string _ _ _ (⟨#[45, 62]⟩ : ByteArray) [.string (⟨#[45, 62]⟩ : ByteArray)] from rfl) (Reps.one (show Kd.M Kd.string _ _ _ (⟨#[60, 61]⟩ : ByteArray) [.string (⟨#[60, 61]⟩ : ByteArray)] from rfl) (Reps.one (show Kd.M Kd.string _ _ _ (⟨#[62, 61]⟩ : ByteArray) [.string (⟨#[62, 61]⟩ : ByteArray)] from rfl) (Reps.one (show Kd.M Kd.string _ _ _ (⟨#[61, 61]⟩ : ByteArray) [.string (⟨#[61, 61]⟩ : ByteArray)] from rfl) (Reps.one (show Kd.M Kd.string _ _ _ (⟨#[33, 61]⟩ : ByteArray) [.string (⟨#[33, 61]⟩ : ByteArray)] from rfl) (Reps.one (show Kd.M Kd.string _ _ _ (⟨#[123]⟩ : ByteArray) [.string (⟨#[123]⟩ : ByteArray)] from rfl) (Reps.one (show Kd.M Kd.string _ _ _ (⟨#[125]⟩ : ByteArray) [.string (⟨#[125]⟩ : ByteArray)] from rfl) (Reps.one (show Kd.M Kd.string _ _ _ (⟨#[40]⟩ : ByteArray) [.string (⟨#[40]⟩ : ByteArray)] from rfl) (Reps.one (show Kd.M Kd.string _ _ _ (⟨#[41]⟩ : ByteArray) [.string (⟨#[41]⟩ : ByteArray)] from rfl) (Reps.one (show Kd.M Kd.string _ _ _ (⟨#[91]⟩ : ByteArray) [.string (⟨#[91]⟩ : ByteArray)] from rfl) (Reps.one (show Kd.M Kd.string _ _ _ (⟨#[93]⟩ : ByteArray) [.string (⟨#[93]⟩ : ByteArray)] from rfl) (Reps.one (show Kd.M Kd.string _ _ _ (⟨#[44]⟩ : ByteArray) [.string (⟨#[44]⟩ : ByteArray)] from rfl) (Reps.one (show Kd.M Kd.string _ _ _ (⟨#[59]⟩ : ByteArray) [.string (⟨#[59]⟩ : ByteArray)] from rfl) (Reps.one (show Kd.M Kd.string _ _ _ (⟨#[58]⟩ : ByteArray) [.string (⟨#[58]⟩ : ByteArray)] from rfl) (Reps.one (show Kd.M Kd.string _ _ _ (⟨#[61]⟩ : ByteArray) [.string (⟨#[61]⟩ : ByteArray)] from rfl) (Reps.one (show Kd.M Kd.string _ _ _ (⟨#[43]⟩ : ByteArray) [.string (⟨#[43]⟩ : ByteArray)] from rfl) (Reps.one (show Kd.M Kd.string _ _ _ (⟨#[45]⟩ : ByteArray) [.string (⟨#[45]⟩ : ByteArray)] from rfl) (Reps.one (show Kd.M Kd.string _ _ _ (⟨#[42]⟩ : ByteArray) [.string (⟨#[42]⟩ : ByteArray)] from rfl) (Reps.one (show Kd.M Kd.string _ _ _ (⟨#[60]⟩ : ByteArray) [.string (⟨#[60]⟩ : ByteArray)] from rfl) (Reps.one (show Kd.M Kd.string _ _ _ (⟨#[62]⟩ : ByteArray) [.string (⟨#[62]⟩ : ByteArray)] from rfl) (Reps.one (show Kd.M Kd.string _ _ _ (⟨#[33]⟩ : ByteArray) [.string (⟨#[33]⟩ : ByteArray)] from rfl) (Reps.one (show Kd.M Kd.string _ _ _ (⟨#[38]⟩ : ByteArray) [.string (⟨#[38]⟩ : ByteArray)] from rfl) (Reps.one (show Kd.M Kd.string _ _ _ (⟨#[124]⟩ : ByteArray) [.string (⟨#[124]⟩ : ByteArray)] from rfl) (Reps.one (show Kd.M Kd.string _ _ _ (⟨#[46]⟩ : ByteArray) [.string (⟨#[46]⟩ : ByteArray)] from rfl) (Reps.one (show Kd.M Kd.string _ _ _ (⟨#[63]⟩ : ByteArray) [.string (⟨#[63]⟩ : ByteArray)] from rfl) (Reps.none _ _))))))))))))))))))))))))))); intro g8 w1 c0 hb hg_ hnew_; clear hg_ hnew_; (first | rw [← d1.out] at c0 | (simp only [Int.reduceToNat] at c0; rw [← d1.out] at c0)); have d5 := Aside0.mk (Kd.R_lower c0 (below_size (bb HB))); replace HB := bstep HB hb; clear hb c0)
 go_ret
 exact ⟨_, erf, kR d5, bb HB⟩
mutual
def q1_one.j0 : Nat → ByteArray → Int → Int → Bool → Option (Int × ByteArray × Int × Int × Int)
 | 0, _, _, _, _ => none
 | k + 1, x0, x1, x7, p8 => if p8 = true then ((q1_digit.f x7).bind fun d8 => ((q1_run.f k x0 x1 d8).bind fun a6 => ((q1_digit.f x7).bind fun d7 => (if d7 = true then (if a6 > 9 then (some (0, (⟨#[]⟩ : ByteArray), 0, 0, 3)) else (if 0 ≤ x1 then (if x1 ≤ (wrap64 (x1 + a6)) then (if (wrap64 (x1 + a6)) ≤ (x0.size : Int) then (some (2, x0.extract (x1 : Int).toNat ((wrap64 (x1 + a6)) : Int).toNat, 0, a6, 0)) else (none)) else (none)) else (none))) else (if a6 > 20 then (some (0, (⟨#[]⟩ : ByteArray), 0, 0, 3)) else (if 0 ≤ x1 then (if x1 ≤ (wrap64 (x1 + a6)) then (if (wrap64 (x1 + a6)) ≤ (x0.size : Int) then (some (1, x0.extract (x1 : Int).toNat ((wrap64 (x1 + a6)) : Int).toNat, 0, a6, 0)) else (none)) else (none)) else (none))))))) else (if x7 = 34 then ((q1_quoted.f k x0 x1).bind fun a7 => (if a7 = 0 then (some (0, (⟨#[]⟩ : ByteArray), 0, 0, 2)) else (if (wrap64 (a7 - 2)) > 60 then (some (0, (⟨#[]⟩ : ByteArray), 0, 0, 3)) else (if 0 ≤ (wrap64 (x1 + 1)) then (if (wrap64 (x1 + 1)) ≤ (wrap64 ((wrap64 (x1 + a7)) - 1)) then (if (wrap64 ((wrap64 (x1 + a7)) - 1)) ≤ (x0.size : Int) then (some (3, x0.extract ((wrap64 (x1 + 1)) : Int).toNat ((wrap64 ((wrap64 (x1 + a7)) - 1)) : Int).toNat, 0, a7, 0)) else (none)) else (none)) else (none))))) else ((q1_signs.f).bind fun a5 => (q1_one.l0 k x0 x1 a5 0)))
def q1_one.l0 : Nat → ByteArray → Int → List ByteArray → Int → Option (Int × ByteArray × Int × Int × Int)
 | 0, _, _, _, _ => none
 | k + 1, x0, x1, b6, b3 => if b3 < (b6.length : Int) then (if 0 ≤ b3 then (if (wrap64 (x1 + ((rdOf ByteArray.empty b6 b3).size : Int))) ≤ (x0.size : Int) then (if 0 ≤ x1 then (if x1 ≤ (wrap64 (x1 + ((rdOf ByteArray.empty b6 b3).size : Int))) then (if (x0.extract (x1 : Int).toNat ((wrap64 (x1 + ((rdOf ByteArray.empty b6 b3).size : Int))) : Int).toNat).toList = (rdOf ByteArray.empty b6 b3).toList then (some (4, rdOf ByteArray.empty b6 b3, 0, ((rdOf ByteArray.empty b6 b3).size : Int), 0)) else (q1_one.l0 k x0 x1 b6 (wrap64 (b3 + 1)))) else (none)) else (none)) else (q1_one.l0 k x0 x1 b6 (wrap64 (b3 + 1)))) else (none)) else (some (0, (⟨#[]⟩ : ByteArray), 0, 0, 2))
end
def q1_one.f (k : Nat) (a0 : ByteArray) (a1 : Int) : Option (Int × ByteArray × Int × Int × Int) := if 0 ≤ a1 then (if a1 < (a0.size : Int) then ((q1_letter.f (bt a0 a1)).bind fun c0 => (if c0 = true then (q1_one.j0 k a0 a1 (bt a0 a1) true) else ((q1_digit.f (bt a0 a1)).bind fun d6 => (q1_one.j0 k a0 a1 (bt a0 a1) d6)))) else (none)) else (none)
def q1_one.T21 : Bool × List (List Nat × List Nat) := (true, [([], []), ([], []), ([], []), ([1, 2], [1, 2]), ([3], [3]), ([4], [4]), ([0, 5], [0, 5]), ([], []), ([7], [7]), ([6, 8], [6, 8]), ([9], [9]), ([10], [10]), ([10], [10]), ([10], [10]), ([10], [10]), ([10], [10]), ([14, 15, 10], [10, 14, 15]), ([16, 10], [10, 16]), ([17, 10], [10, 17]), ([13, 18, 10], [10, 13, 18]), ([11, 12, 19, 10], [10, 11, 12, 19]), ([10], [10]), ([10], [10]), ([21, 22, 10], [10, 21, 22]), ([23, 10], [10, 23]), ([20, 24, 10], [10, 20, 24]), ([10, 25], [10, 25])])
def q1_one.B21 : List Nat := [0, 0, 0, 6, 14, 30, 63, 0, 128, 511, 1023, 2047, 2047, 2047, 2047, 2047, 51199, 116735, 247807, 518143, 1048575, 2047, 2047, 6293503, 14682111, 33554431, 67108863]
theorem q1_one.tab21 : rtab .any (opsOf Tryz.f128 21) = q1_one.T21 := by kernel_rfl
theorem q1_one.bits21 : waitsOk q1_one.T21.2 q1_one.B21 = true := by kernel_rfl
def q1_one.T22 : Bool × List (List Nat × List Nat) := (true, [([], []), ([], []), ([0, 1], [0, 1]), ([2], [2]), ([3], [3]), ([], []), ([], []), ([5, 6], [5, 6]), ([7], [7]), ([8], [8]), ([4, 0, 1, 2, 3, 4], [4]), ([9, 10, 0, 1, 2, 3, 4, 5, 6, 7, 8, 9, 10], [9]), ([11, 0, 1, 2, 3, 4, 5, 6, 7, 8, 9, 10, 11], [])])
def q1_one.B22 : List Nat := [0, 0, 3, 7, 15, 0, 0, 96, 224, 480, 31, 2047, 4095]
theorem q1_one.tab22 : rtab .any (opsOf Tryz.f128 22) = q1_one.T22 := by kernel_rfl
theorem q1_one.bits22 : waitsOk q1_one.T22.2 q1_one.B22 = true := by kernel_rfl
theorem q1_one.calls (k : Nat) (a0 : ByteArray) (a1 : Int) (r1 : Int) (r2 : ByteArray) (r3 : Int) (r4 : Int) (r5 : Int) (w : World) (h : q1_one.f k a0 a1 = some (r1, r2, r3, r4, r5)) :
  Calls Tryz.prog 128 #[.string a0, .int .i64 a1] w fun e w' => e = .returned (.tuple #[.agg #[.int .i64 r1, .string r2, .int .i64 r3], .int .i64 r4, .int .i64 r5]) ∧ Below w.heap.size w w' := by
 have hu142 := Tryz.underlying142
 have HB := Aside0.mk (Below.refl w.heap.size w)
 have H : (if 0 ≤ a1 then (if a1 < (a0.size : Int) then ((q1_letter.f (bt a0 a1)).bind fun c0 => (if c0 = true then (q1_one.j0 k a0 a1 (bt a0 a1) true) else ((q1_digit.f (bt a0 a1)).bind fun d6 => (q1_one.j0 k a0 a1 (bt a0 a1) d6)))) else (none)) else (none)) = some (r1, r2, r3, r4, r5) := h
 clear h
 obtain ⟨c3, H⟩ := itn H
 have n2 := decide_eq_true c3
 clear c3
 obtain ⟨c4, H⟩ := itn H
 have n1 := decide_eq_true c4
 clear c4
 have h0 := Aside0.mk H
 clear H
 go_enter Tryz.func128, Tryz.ntmps128
 go_upto_region 2 with ((with_reducible refine gate_dst (N := 4) rfl ?_); (try (refine gate_guard (by rfl) ?_; dsimp only)); refine be 4 #[.int .i64 0, .string (⟨#[]⟩ : ByteArray), .int .i64 0] 142 ?_; intro a4 hg w7 hbox hb; have a2 := Aside0.mk (hbox); have v4 := bsz HB hg; replace HB := bstep HB hb; clear hb hbox hg; have p5 : 0 ≤ a1 := odt; have q5 : a1 < (a0.size : Int) := odt; have q2 := bt_at a0 a1; replace p5 := eq_true p5; replace q5 := eq_true q5)
 (try simp only [Act.put, List.setIfInBounds_toArray, List.set_cons_zero, List.set_cons_succ])
 go_cut [22] (fun q0 wc => ∃ (kq : Nat) (b9 : Bool), q0 = .bool b9 ∧ Aside0 (q1_one.j0 kq a0 a1 (bt a0 a1) b9 = some (r1, r2, r3, r4, r5)) ∧ Aside0 (kq ≤ k) ∧ Aside0 (wc.heap[a4]? = some (.cells #[.int .i64 0, .string (⟨#[]⟩ : ByteArray), .int .i64 0] 142 (0, 0))) ∧ Aside0 (Below w.heap.size w wc))
 case first =>
  have H := h0.out
  clear h0
  obtain ⟨c0, A8, H⟩ := obA H
  by_cases c9 : c0 = true
  subst c9
  replace H := ift H
  have H' := Aside0.mk H
  clear H
  rotate_left
  replace c9 := Bool.eq_false_iff.mpr c9
  subst c9
  replace H := iff_ H
  obtain ⟨d6, q8, H⟩ := obA H
  have H' := Aside0.mk H
  clear H
  all_goals
   go_wp2_with (first | ((with_reducible refine gate_callee (f := 137) rfl ?_); refine gl 18 Tryz.func137 #[.int .u8 (bt a0 a1)] (h := ?_); (with_reducible refine (q1_letter.calls _ _ _ A8.out).mono ?_); rintro e w' ⟨rfl, ⟨nd, rfl⟩⟩; refine ⟨_, rfl, ?_⟩) | (go_at_call 138; (with_reducible refine (q1_digit.calls _ _ _ q8.out).mono ?_); rintro e w' ⟨rfl, ⟨nd, rfl⟩⟩))
   go_meet
   case rel => exact ⟨_, _, eqs, H', ⟨by first | omega | exact Nat.le_refl _⟩, ⟨bk a2⟩, ⟨bb HB⟩⟩
 case rest =>
  clear h0 n2 n1 p5 q5 q2
  obtain ⟨kq, b9, rfl, HA, g4, a2, HB⟩ := hcut
  cases kq with
  | zero => exact absurd HA.out (by simp [q1_one.j0])
  | succ j7 =>
   have H := HA.out
   clear HA
   simp only [q1_one.j0] at H
   by_cases g2 : b9 = true
   ·subst g2
    replace H := ift H
    obtain ⟨d8, q7, H⟩ := obA H
    obtain ⟨a6, q6, H⟩ := obA H
    obtain ⟨d7, q4, H⟩ := obA H
    by_cases g1 : d7 = true
    subst g1
    replace H := ift H
    by_cases d5 : a6 > 9
    rw [if_pos d5] at H
    have j1 : decide (9 < a6) = true := decide_eq_true d5
    clear d5
    simp only [Option.some.injEq, Prod.mk.injEq] at H
    obtain ⟨rfl, rfl, rfl, rfl, rfl⟩ := H
    rotate_left
    rw [if_neg d5] at H
    have j1 : decide (9 < a6) = false := decide_eq_false d5
    clear d5
    obtain ⟨g9, H⟩ := itn H
    have v3 := eq_true g9
    have v2 := decide_eq_true g9
    clear g9
    obtain ⟨m5, H⟩ := itn H
    have v1 := eq_true m5
    have v0 := decide_eq_true m5
    obtain ⟨m4, H⟩ := itn H
    have t9 := eq_true m4
    have t8 := decide_eq_true m4
    simp only [Option.some.injEq, Prod.mk.injEq] at H
    obtain ⟨rfl, rfl, rfl, rfl, rfl⟩ := H
    rotate_left
    replace g1 := Bool.eq_false_iff.mpr g1
    subst g1
    replace H := iff_ H
    by_cases d4 : a6 > 20
    rw [if_pos d4] at H
    have h9 : decide (20 < a6) = true := decide_eq_true d4
    clear d4
    simp only [Option.some.injEq, Prod.mk.injEq] at H
    obtain ⟨rfl, rfl, rfl, rfl, rfl⟩ := H
    rotate_left
    rw [if_neg d4] at H
    have h9 : decide (20 < a6) = false := decide_eq_false d4
    clear d4
    obtain ⟨g8, H⟩ := itn H
    have t7 := eq_true g8
    have t6 := decide_eq_true g8
    clear g8
    obtain ⟨m3, H⟩ := itn H
    have t5 := eq_true m3
    have t4 := decide_eq_true m3
    obtain ⟨m2, H⟩ := itn H
    have t3 := eq_true m2
    have t2 := decide_eq_true m2
    simp only [Option.some.injEq, Prod.mk.injEq] at H
    obtain ⟨rfl, rfl, rfl, rfl, rfl⟩ := H
    all_goals
     go_wp2_with (first | ((with_reducible refine gate_callee (f := 138) rfl ?_); refine gl 26 Tryz.func138 #[.int .u8 (bt a0 a1)] (h := ?_); (with_reducible refine (q1_digit.calls _ _ _ q7.out).mono ?_); rintro e w' ⟨rfl, ⟨nd, rfl⟩⟩; refine ⟨_, rfl, ?_⟩; (try (rw [drewN_self wc]; generalize hq_ : World.drewN wc _ = wc; replace a2 : Aside0 (wc.heap[a4]? = some (.cells #[.int .i64 0, .string (⟨#[]⟩ : ByteArray), .int .i64 0] 142 (0, 0))) := ⟨by rw [← hq_]; exact (bk a2)⟩; replace HB : Aside0 (Below w.heap.size w wc) := ⟨by rw [← hq_]; exact (bb HB)⟩; clear hq_))) | ((with_reducible refine gate_callee (f := 139) rfl ?_); refine gl 27 Tryz.func139 #[.string a0, .int .i64 a1, .bool d8] (h := ?_); (with_reducible refine (q1_run.calls _ _ _ _ _ _ q6.out).mono ?_); rintro e w' ⟨rfl, ⟨nd, rfl⟩⟩; refine ⟨_, rfl, ?_⟩; (try (rw [drewN_self wc]; generalize hq_ : World.drewN wc _ = wc; replace a2 : Aside0 (wc.heap[a4]? = some (.cells #[.int .i64 0, .string (⟨#[]⟩ : ByteArray), .int .i64 0] 142 (0, 0))) := ⟨by rw [← hq_]; exact (bk a2)⟩; replace HB : Aside0 (Below w.heap.size w wc) := ⟨by rw [← hq_]; exact (bb HB)⟩; clear hq_))) | ((with_reducible refine gate_callee (f := 138) rfl ?_); refine gl 29 Tryz.func138 #[.int .u8 (bt a0 a1)] (h := ?_); (with_reducible refine (q1_digit.calls _ _ _ q4.out).mono ?_); rintro e w' ⟨rfl, ⟨nd, rfl⟩⟩; refine ⟨_, rfl, ?_⟩; (try (rw [drewN_self wc]; generalize hq_ : World.drewN wc _ = wc; replace a2 : Aside0 (wc.heap[a4]? = some (.cells #[.int .i64 0, .string (⟨#[]⟩ : ByteArray), .int .i64 0] 142 (0, 0))) := ⟨by rw [← hq_]; exact (bk a2)⟩; replace HB : Aside0 (Below w.heap.size w wc) := ⟨by rw [← hq_]; exact (bb HB)⟩; clear hq_)); obtain ⟨p7, p6, p4, o4, o3, o2⟩ := cz3 a2))
    ·refine bodyPost_ret (results_ctt rfl _ _ a4 142 #[.int .i64 1, .string (a0.extract (a1 : Int).toNat ((wrap64 (a1 + a6)) : Int).toNat), .int .i64 0] (0, 0) _ rfl (bkP a2) Tryz.underlying142 rfl (by kernel_rfl)) rfl ?_
     exact ⟨erf, bb HB⟩
    ·refine bodyPost_ret (results_ctt rfl _ _ a4 142 #[.int .i64 0, .string (⟨#[]⟩ : ByteArray), .int .i64 0] (0, 0) _ rfl (bkP a2) Tryz.underlying142 rfl (by kernel_rfl)) rfl ?_
     exact ⟨erf, bb HB⟩
    ·refine bodyPost_ret (results_ctt rfl _ _ a4 142 #[.int .i64 2, .string (a0.extract (a1 : Int).toNat ((wrap64 (a1 + a6)) : Int).toNat), .int .i64 0] (0, 0) _ rfl (bkP a2) Tryz.underlying142 rfl (by kernel_rfl)) rfl ?_
     exact ⟨erf, bb HB⟩
    ·refine bodyPost_ret (results_ctt rfl _ _ a4 142 #[.int .i64 0, .string (⟨#[]⟩ : ByteArray), .int .i64 0] (0, 0) _ rfl (bkP a2) Tryz.underlying142 rfl (by kernel_rfl)) rfl ?_
     exact ⟨erf, bb HB⟩
   replace g2 := Bool.eq_false_iff.mpr g2
   subst g2
   replace H := iff_ H
   by_cases b8 : (bt a0 a1) = 34
   ·rw [if_pos b8] at H
    have g0 := beq_iff_eq.mpr b8
    have e9 := bne_eq_false_iff_eq.mpr b8
    clear b8
    obtain ⟨a7, h1, H⟩ := obA H
    by_cases c5 : a7 = 0
    rw [if_pos c5] at H
    have h8 := beq_iff_eq.mpr c5
    have h7 := bne_eq_false_iff_eq.mpr c5
    clear c5
    simp only [Option.some.injEq, Prod.mk.injEq] at H
    obtain ⟨rfl, rfl, rfl, rfl, rfl⟩ := H
    rotate_left
    rw [if_neg c5] at H
    have h8 := beq_eq_false_iff_ne.mpr c5
    have h7 := bne_iff_ne.mpr c5
    by_cases d3 : (wrap64 (a7 - 2)) > 60
    rotate_left
    ·rw [if_neg d3] at H
     have h6 : decide (60 < (wrap64 (a7 - 2))) = false := decide_eq_false d3
     clear d3
     obtain ⟨c1, b7⟩ : ∃ j_ : Int, (wrap64 (a1 + 1)) = j_ := ⟨_, rfl⟩
     replace H : (if 0 ≤ (c1) then (if (c1) ≤ (wrap64 ((wrap64 (a1 + a7)) - 1)) then (if (wrap64 ((wrap64 (a1 + a7)) - 1)) ≤ (a0.size : Int) then (some (3, a0.extract ((c1) : Int).toNat ((wrap64 ((wrap64 (a1 + a7)) - 1)) : Int).toNat, 0, a7, 0)) else (none)) else (none)) else (none)) = some (r1, r2, r3, r4, r5) := by first | (rw [b7] at H; exact H) | (simp only [b7] at H ⊢; exact H)
     (try rw [b7] at h1)
     have hji34w : (IntKind.i64.wrap (a1 + 1)) = c1 := (i64_w _).trans b7
     obtain ⟨g7, H⟩ := itn H
     have t1 := eq_true g7
     have t0 := decide_eq_true g7
     clear g7
     obtain ⟨m1, H⟩ := itn H
     have s9 := eq_true m1
     have s8 := decide_eq_true m1
     by_cases e8 : (wrap64 ((wrap64 (a1 + a7)) - 1)) ≤ (a0.size : Int)
     ·rw [if_pos e8] at H
      have s7 := eq_true e8
      have s6 := decide_eq_true e8
      simp only [Option.some.injEq, Prod.mk.injEq] at H
      obtain ⟨rfl, rfl, rfl, rfl, rfl⟩ := H
      go_wp2_with ((with_reducible refine gate_callee (f := 140) rfl ?_); refine gl 47 Tryz.func140 #[.string a0, .int .i64 a1] (h := ?_); (with_reducible refine (q1_quoted.calls _ _ _ _ _ h1.out).mono ?_); rintro e w' ⟨rfl, ⟨nd, rfl⟩⟩; refine ⟨_, rfl, ?_⟩; (try (rw [drewN_self wc]; generalize hq_ : World.drewN wc _ = wc; replace a2 : Aside0 (wc.heap[a4]? = some (.cells #[.int .i64 0, .string (⟨#[]⟩ : ByteArray), .int .i64 0] 142 (0, 0))) := ⟨by rw [← hq_]; exact (bk a2)⟩; replace HB : Aside0 (Below w.heap.size w wc) := ⟨by rw [← hq_]; exact (bb HB)⟩; clear hq_)); obtain ⟨p0, o9, o8, n8, n7, n6⟩ := cz3 a2)
      refine bodyPost_ret (results_ctt rfl _ _ a4 142 #[.int .i64 3, .string (a0.extract ((c1) : Int).toNat ((wrap64 ((wrap64 (a1 + a7)) - 1)) : Int).toNat), .int .i64 0] (0, 0) _ rfl (bkP a2) Tryz.underlying142 rfl (by kernel_rfl)) rfl ?_
      exact ⟨by first | rfl | (simp [errW_none, errW_some] <;> rfl) | (simp only [← b7]; first | rfl | (simp [errW_none, errW_some] <;> rfl)) | (simp [*, errW_none, errW_some] <;> rfl), bb HB⟩
     rw [if_neg e8] at H
     exact absurd H (by simp)
    rotate_left
    rw [if_pos d3] at H
    have h6 : decide (60 < (wrap64 (a7 - 2))) = true := decide_eq_true d3
    clear d3
    simp only [Option.some.injEq, Prod.mk.injEq] at H
    obtain ⟨rfl, rfl, rfl, rfl, rfl⟩ := H
    all_goals
     go_wp2_with ((with_reducible refine gate_callee (f := 140) rfl ?_); refine gl 47 Tryz.func140 #[.string a0, .int .i64 a1] (h := ?_); (with_reducible refine (q1_quoted.calls _ _ _ _ _ h1.out).mono ?_); rintro e w' ⟨rfl, ⟨nd, rfl⟩⟩; refine ⟨_, rfl, ?_⟩; (try (rw [drewN_self wc]; generalize hq_ : World.drewN wc _ = wc; replace a2 : Aside0 (wc.heap[a4]? = some (.cells #[.int .i64 0, .string (⟨#[]⟩ : ByteArray), .int .i64 0] 142 (0, 0))) := ⟨by rw [← hq_]; exact (bk a2)⟩; replace HB : Aside0 (Below w.heap.size w wc) := ⟨by rw [← hq_]; exact (bb HB)⟩; clear hq_)); obtain ⟨p3, p2, p1, o1, o0, n9⟩ := cz3 a2)
     refine bodyPost_ret (results_ctt rfl _ _ a4 142 #[.int .i64 0, .string (⟨#[]⟩ : ByteArray), .int .i64 0] (0, 0) _ rfl (bkP a2) Tryz.underlying142 rfl (by kernel_rfl)) rfl ?_
     exact ⟨erf, bb HB⟩
   rw [if_neg b8] at H
   have g0 := beq_eq_false_iff_ne.mpr b8
   have e9 := bne_iff_ne.mpr b8
   obtain ⟨a5, q3, H⟩ := obA H
   have H' := Aside0.mk H
   clear H
   go_wp2_with ((with_reducible refine gate_callee (f := 141) rfl ?_); refine gl 65 Tryz.func141 #[] (h := ?_); (with_reducible refine (q1_signs.calls _ _ q3.out).mono ?_); rintro e w6 ⟨m6, rfl, j8, hb⟩; refine ⟨_, rfl, ?_⟩; have j6 := Aside0.mk (Kd.R_lower j8 (below_size (bb HB))); replace a2 := bkb a2 hb; replace HB := bstep HB hb; clear hb j8)
   go_loopg [13] j7 (fun kq q1 w' => ∃ (a3 : Int) (b1 : Int) (b0 : ByteArray) (a9 : Int), q1 = .int .i64 a3 ∧ Aside0 (q1_one.l0 kq a0 a1 a5 a3 = some (r1, r2, r3, r4, r5)) ∧ Aside0 (kq ≤ j7) ∧ Aside0 (Kd.R Kd.string 9 w' w.heap.size (fun _ => True) m6 a5) ∧ Aside0 (w'.heap[a4]? = some (.cells #[.int .i64 b1, .string b0, .int .i64 a9] 142 (0, 0))) ∧ Aside0 (Below w.heap.size w w'))
   case atStart => exact ⟨(0), (0), ((⟨#[]⟩ : ByteArray)), (0), eqs, H', ⟨Nat.le_refl _⟩, ⟨kR j6⟩, ⟨bk a2⟩, ⟨bb HB⟩⟩
   case round =>
    clear H' b8 g0 e9
    obtain ⟨a3, b1, b0, a9, rfl, HA, g3, HO_12, a2, HB⟩ := hrel
    cases gk with
    | zero => exact absurd HA.out (by simp [q1_one.l0])
    | succ k2 =>
     have H := HA.out
     clear HA
     simp only [q1_one.l0] at H
     by_cases d2 : a3 < (a5.length : Int)
     rotate_left
     ·rw [if_neg d2] at H
      have h5 := decide_eq_false d2
      clear d2
      simp only [Option.some.injEq, Prod.mk.injEq] at H
      obtain ⟨rfl, rfl, rfl, rfl, rfl⟩ := H
      obtain ⟨w2, v8, eo58⟩ := Kd.R_slice HO_12.out
      subst eo58
      obtain ⟨o7, o6, o5, n5, n4, n3⟩ := cz3 a2
      go_wp2
      refine bodyPost_ret (results_ctt rfl _ _ a4 142 #[.int .i64 0, .string (⟨#[]⟩ : ByteArray), .int .i64 0] (0, 0) _ rfl (bkP a2) Tryz.underlying142 rfl (by kernel_rfl)) rfl ?_
      exact ⟨erf, bb HB⟩
     rw [if_pos d2] at H
     have h5 := decide_eq_true d2
     clear d2
     obtain ⟨m0, H⟩ := itn H
     have s5 := decide_eq_true m0
     clear m0
     by_cases d1 : (wrap64 (a1 + ((rdOf ByteArray.empty a5 a3).size : Int))) ≤ (a0.size : Int)
     rotate_left
     ·rw [if_neg d1] at H
      have h4 := decide_eq_false d1
      clear d1
      have H' := Aside0.mk H
      clear H
      obtain ⟨w3, v9, eo56⟩ := Kd.R_slice HO_12.out
      subst eo56
      try go_wp2
      replace HO_12 := Aside0.mk (Kd.R_drew HO_12.out)
      replace a2 := Aside0.mk (blk_drew a2.out)
      replace HB := Aside0.mk (below_drew1 HB.out)
      have b5 : 0 ≤ a3 := odt
      have b4 : a3 < (a5.length : Int) := odt
      obtain ⟨a8, e7, b2⟩ := Kd.at_string (Kd.R_reads' HO_12.out).2.2 a3 b5 b4
      cases e7
      replace b5 := eq_true b5
      replace b4 := eq_true b4
      refine start_ (n := 27) (S := fun w' => w'.cell? (a8.add (a3).toNat) = some (.string (rdOf ByteArray.empty a5 a3))) (ds := []) #[false, false, false, false, false, false, false, false, false, false, false, false, false, false, false, false, false, false, false, false, false, false, false, false, false, false, false] (by kernel_rfl) rfl rfl (b2) (fun hHeld => ?_); refine with_tabW q1_one.tab21 q1_one.bits21 (fun HT_ HW_ => ?_)
      generalize wr.drew = w5 at HO_12 a2 HB b2 hHeld ⊢
      refine pu 0 72 (bits 27 0x1) HT_ (h := ?_)
      refine pu 1 73 (bits 27 0x3) HT_ (h := ?_)
      refine pu 2 74 (bits 27 0x7) HT_ (h := ?_)
      refine pu 3 75 (bits 27 0xf) HT_ (h := ?_)
      refine pu 7 79 (bits 27 0x8f) HT_ (h := ?_)
      refine pu 8 80 (bits 27 0x18f) HT_ (h := ?_)
      refine take_ (i := 4) (N := some 76) (v := ?_) (a' := ?_) #[true, true, true, true, true, false, false, true, true, false, false, false, false, false, false, false, false, false, false, false, false, false, false, false, false, false, false] rfl rfl (take_ofW HT_.out HW_.out (by kernel_rfl)) (fun _ _ _ h => h) (Or.inl ⟨by rfl, ?_⟩) hHeld ?_ ?_
      rotate_left
      ·intro w' s0
       go_simp
       with_reducible rfl
      rotate_left
      ·simp only [Act.put, List.setIfInBounds_toArray, List.set_cons_zero, List.set_cons_succ, i64_w, i32_w]
       rfl
      refine pu 5 77 (bits 27 0x1bf) HT_ (h := ?_)
      refine pu 6 78 (bits 27 0x1ff) HT_ (h := ?_)
      refine pu 9 81 (bits 27 0x3ff) HT_ (h := ?_)
      refine pu 10 82 (bits 27 0x7ff) HT_ (h := ?_)
      refine pn 11 83 (bits 27 0xfff) HT_ (h := ?_)
      refine pn 12 84 (bits 27 0x1fff) HT_ (h := ?_)
      refine pn 13 85 (bits 27 0x3fff) HT_ (h := ?_)
      refine pn 14 86 (bits 27 0x7fff) HT_ (h := ?_)
      refine pn 15 87 (bits 27 0xffff) HT_ (h := ?_)
      refine pn 16 88 (bits 27 0x1ffff) HT_ (h := ?_)
      refine pn 17 89 (bits 27 0x3ffff) HT_ (h := ?_)
      refine pn 18 90 (bits 27 0x7ffff) HT_ (h := ?_)
      refine pn 19 91 (bits 27 0xfffff) HT_ (h := ?_)
      refine pn 20 92 (bits 27 0x1fffff) HT_ (h := ?_)
      refine pn 21 93 (bits 27 0x3fffff) HT_ (h := ?_)
      refine pn 22 94 (bits 27 0x7fffff) HT_ (h := ?_)
      refine pn 23 95 (bits 27 0xffffff) HT_ (h := ?_)
      refine pn 24 96 (bits 27 0x1ffffff) HT_ (h := ?_)
      refine pn 25 97 (bits 27 0x3ffffff) HT_ (h := ?_)
      refine pu 26 98 (bits 27 0x7ffffff) HT_ (h := ?_)
      refine done_ (done_of HT_.out (by kernel_rfl)) ?_
      try go_wp2
      go_roundg k2
      case measure => have := g4.out; have := g3.out; omega
      case rel => exact ⟨(wrap64 (a3 + 1)), (b1), (b0), (a9), eqs, H', ⟨by have := g4.out; have := g3.out; omega⟩, ⟨kR HO_12⟩, ⟨bk a2⟩, ⟨bb HB⟩⟩
     rw [if_pos d1] at H
     have h4 := decide_eq_true d1
     clear d1
     obtain ⟨g6, H⟩ := itn H
     have s4 := eq_true g6
     have s3 := decide_eq_true g6
     clear g6
     obtain ⟨j9, H⟩ := itn H
     have r9 := eq_true j9
     have r8 := decide_eq_true j9
     have r7 := eq_true (odt : (wrap64 (a1 + ((rdOf ByteArray.empty a5 a3).size : Int))) ≤ (a0.size : Int))
     by_cases c2 : (a0.extract (a1 : Int).toNat ((wrap64 (a1 + ((rdOf ByteArray.empty a5 a3).size : Int))) : Int).toNat).toList = (rdOf ByteArray.empty a5 a3).toList
     rw [if_pos c2] at H
     have h3 := beq_iff_eq.mpr c2
     have h2 := bne_eq_false_iff_eq.mpr c2
     clear c2
     simp only [Option.some.injEq, Prod.mk.injEq] at H
     obtain ⟨rfl, rfl, rfl, rfl, rfl⟩ := H
     rotate_left
     rw [if_neg c2] at H
     have h3 := beq_eq_false_iff_ne.mpr c2
     have h2 := bne_iff_ne.mpr c2
     have H' := Aside0.mk H
     clear H
     all_goals
      obtain ⟨w4, w0, eo48⟩ := Kd.R_slice HO_12.out
      subst eo48
      try go_wp2
      replace HO_12 := Aside0.mk (Kd.R_drew HO_12.out)
      replace a2 := Aside0.mk (blk_drew a2.out)
      replace HB := Aside0.mk (below_drew1 HB.out)
      have b5 : 0 ≤ a3 := odt
      have b4 : a3 < (a5.length : Int) := odt
      obtain ⟨a8, e7, b2⟩ := Kd.at_string (Kd.R_reads' HO_12.out).2.2 a3 b5 b4
      cases e7
      replace b5 := eq_true b5
      replace b4 := eq_true b4
      have e6 : 0 ≤ a3 := odt
      have e2 : a3 < (a5.length : Int) := odt
      obtain ⟨j5, n0, d0⟩ := Kd.at_string (Kd.R_reads' HO_12.out).2.2 a3 e6 e2
      obtain rfl : a8 = j5 := (by injection n0)
      replace e6 := eq_true e6
      replace e2 := eq_true e2
      have e5 : 0 ≤ a3 := odt
      have e1 : a3 < (a5.length : Int) := odt
      obtain ⟨j4, m9, c8⟩ := Kd.at_string (Kd.R_reads' HO_12.out).2.2 a3 e5 e1
      obtain rfl : a8 = j4 := (by injection m9)
      replace e5 := eq_true e5
      replace e1 := eq_true e1
      refine start_ (n := 27) (S := fun w' => w'.cell? (a8.add (a3).toNat) = some (.string (rdOf ByteArray.empty a5 a3)) ∧ w'.cell? (a8.add (a3).toNat) = some (.string (rdOf ByteArray.empty a5 a3)) ∧ w'.cell? (a8.add (a3).toNat) = some (.string (rdOf ByteArray.empty a5 a3))) (ds := []) #[false, false, false, false, false, false, false, false, false, false, false, false, false, false, false, false, false, false, false, false, false, false, false, false, false, false, false] (by kernel_rfl) rfl rfl ⟨b2, d0, c8⟩ (fun hHeld => ?_); refine with_tabW q1_one.tab21 q1_one.bits21 (fun HT_ HW_ => ?_)
      generalize wr.drew = p9 at HO_12 a2 HB b2 d0 c8 hHeld ⊢
      refine pu 0 72 (bits 27 0x1) HT_ (h := ?_)
      refine pu 1 73 (bits 27 0x3) HT_ (h := ?_)
      refine pu 2 74 (bits 27 0x7) HT_ (h := ?_)
      refine pu 3 75 (bits 27 0xf) HT_ (h := ?_)
      refine pu 7 79 (bits 27 0x8f) HT_ (h := ?_)
      refine pu 8 80 (bits 27 0x18f) HT_ (h := ?_)
      refine tk 4 76 (bits 27 0x19f) HT_ HW_ hHeld (hy := by rintro w' ⟨s0, s1, s2⟩; go_simp; with_reducible rfl) (h := ?_)
      refine pu 5 77 (bits 27 0x1bf) HT_ (h := ?_)
      refine pu 6 78 (bits 27 0x1ff) HT_ (h := ?_)
      refine pu 9 81 (bits 27 0x3ff) HT_ (h := ?_)
      refine pu 10 82 (bits 27 0x7ff) HT_ (h := ?_)
      refine pu 11 83 (bits 27 0xfff) HT_ (h := ?_)
      refine pu 12 84 (bits 27 0x1fff) HT_ (h := ?_)
      refine pu 13 85 (bits 27 0x3fff) HT_ (h := ?_)
      refine pu 14 86 (bits 27 0x7fff) HT_ (h := ?_)
      refine pu 15 87 (bits 27 0xffff) HT_ (h := ?_)
      refine pu 16 88 (bits 27 0x1ffff) HT_ (h := ?_)
      refine pu 21 93 (bits 27 0x21ffff) HT_ (h := ?_)
      refine pu 22 94 (bits 27 0x61ffff) HT_ (h := ?_)
      refine pu 23 95 (bits 27 0xe1ffff) HT_ (h := ?_)
      refine tk 17 89 (bits 27 0xe3ffff) HT_ HW_ hHeld (hy := by rintro w' ⟨s0, s1, s2⟩; go_simp; with_reducible rfl) (h := ?_)
      refine pu 18 90 (bits 27 0xe7ffff) HT_ (h := ?_)
      refine pu 19 91 (bits 27 0xefffff) HT_ (h := ?_)
      refine pu 20 92 (bits 27 0xffffff) HT_ (h := ?_)
      refine tk 24 96 (bits 27 0x1ffffff) HT_ HW_ hHeld (hy := by rintro w' ⟨s0, s1, s2⟩; go_simp; with_reducible rfl) (h := ?_)
      refine pu 25 97 (bits 27 0x3ffffff) HT_ (h := ?_)
      refine pu 26 98 (bits 27 0x7ffffff) HT_ (h := ?_)
      refine done_ (done_of HT_.out (by kernel_rfl)) ?_
      try go_wp2
     ·go_roundg k2
      case measure => have := g4.out; have := g3.out; omega
      case rel => exact ⟨(wrap64 (a3 + 1)), (b1), (b0), (a9), eqs, H', ⟨by have := g4.out; have := g3.out; omega⟩, ⟨kR HO_12⟩, ⟨bk a2⟩, ⟨bb HB⟩⟩
     ·replace HO_12 := Aside0.mk (Kd.R_drew HO_12.out)
      replace a2 := Aside0.mk (blk_drew a2.out)
      replace HB := Aside0.mk (below_drew1 HB.out)
      have e4 : 0 ≤ a3 := odt
      have e0 : a3 < (a5.length : Int) := odt
      obtain ⟨j3, m8, c7⟩ := Kd.at_string (Kd.R_reads' HO_12.out).2.2 a3 e4 e0
      obtain rfl : a8 = j3 := (by injection m8)
      replace e4 := eq_true e4
      replace e0 := eq_true e0
      have e3 : 0 ≤ a3 := odt
      have d9 : a3 < (a5.length : Int) := odt
      obtain ⟨j2, m7, c6⟩ := Kd.at_string (Kd.R_reads' HO_12.out).2.2 a3 e3 d9
      obtain rfl : a8 = j2 := (by injection m7)
      replace e3 := eq_true e3
      replace d9 := eq_true d9
      refine start_ (n := 13) (S := fun w' => w'.cell? (a8.add (a3).toNat) = some (.string (rdOf ByteArray.empty a5 a3)) ∧ w'.cell? (a8.add (a3).toNat) = some (.string (rdOf ByteArray.empty a5 a3))) (ds := []) #[false, false, false, false, false, false, false, false, false, false, false, false, false] (by kernel_rfl) rfl rfl ⟨c7, c6⟩ (fun hHeld => ?_); refine with_tabW q1_one.tab22 q1_one.bits22 (fun HT_ HW_ => ?_)
      generalize p9.drew = g5 at HO_12 a2 HB c7 c6 hHeld ⊢
      refine pu 0 99 (bits 13 0x1) HT_ (h := ?_)
      refine pu 1 100 (bits 13 0x3) HT_ (h := ?_)
      refine pu 2 101 (bits 13 0x7) HT_ (h := ?_)
      refine pu 5 104 (bits 13 0x27) HT_ (h := ?_)
      refine pu 6 105 (bits 13 0x67) HT_ (h := ?_)
      refine pu 7 106 (bits 13 0xe7) HT_ (h := ?_)
      refine tk 3 102 (bits 13 0xef) HT_ HW_ hHeld (hy := by rintro w' ⟨s0, s1⟩; go_simp; with_reducible rfl) (h := ?_)
      refine pu 4 103 (bits 13 0xff) HT_ (h := ?_)
      refine tk 8 107 (bits 13 0x1ff) HT_ HW_ hHeld (hy := by rintro w' ⟨s0, s1⟩; go_simp; with_reducible rfl) (h := ?_)
      refine pu 9 108 (bits 13 0x3ff) HT_ (h := ?_)
      refine one_ (i := 10) (N := none) #[true, true, true, true, true, true, true, true, true, true, true, false, false] rfl rfl (one_of HT_.out (by kernel_rfl)) (by decide) (fun K hK => ?_)
      have v7 : g5.cell? ⟨a4, 0, none⟩ = some (.int .i64 b1) := bc a2 0
      have r6 := blk_frozen a2.out 0
      have v6 : g5.cell? ⟨a4, 1, none⟩ = some (.string b0) := bc a2 1
      have r0 := blk_frozen a2.out 1
      have v5 : g5.cell? ⟨a4, 2, none⟩ = some (.int .i64 a9) := bc a2 2
      have q9 := blk_frozen a2.out 2
      refine skip_ (w1 := ?_) (by rfl) rfl ?_ ?_
      rotate_left
      ·go_simp
       rfl
      refine hK.out _ _ ⟨((cell_far (p := ⟨a4, _, none⟩) (by first | exact Kd.own_blk (Kd.R_ne HO_12.out a2.out (by decide)) | (rw [add_block]; exact Kd.own_blk (Kd.R_ne HO_12.out a2.out (by decide))) | (show (Addr.add _ _).block ≠ _; rw [add_block]; exact Kd.own_blk (Kd.R_ne HO_12.out a2.out (by decide))) | (dsimp only; exact Kd.own_blk (Kd.R_ne HO_12.out a2.out (by decide)))) _).trans (((cell_far (p := ⟨a4, _, none⟩) (by first | exact Kd.own_blk (Kd.R_ne HO_12.out a2.out (by decide)) | (rw [add_block]; exact Kd.own_blk (Kd.R_ne HO_12.out a2.out (by decide))) | (show (Addr.add _ _).block ≠ _; rw [add_block]; exact Kd.own_blk (Kd.R_ne HO_12.out a2.out (by decide))) | (dsimp only; exact Kd.own_blk (Kd.R_ne HO_12.out a2.out (by decide)))) _).trans (((cell_far (p := ⟨a4, _, none⟩) (by first | exact Kd.own_blk (Kd.R_ne HO_12.out a2.out (by decide)) | (rw [add_block]; exact Kd.own_blk (Kd.R_ne HO_12.out a2.out (by decide))) | (show (Addr.add _ _).block ≠ _; rw [add_block]; exact Kd.own_blk (Kd.R_ne HO_12.out a2.out (by decide))) | (dsimp only; exact Kd.own_blk (Kd.R_ne HO_12.out a2.out (by decide)))) _).trans (hHeld.1)))))), ((cell_far (p := ⟨a4, _, none⟩) (by first | exact Kd.own_blk (Kd.R_ne HO_12.out a2.out (by decide)) | (rw [add_block]; exact Kd.own_blk (Kd.R_ne HO_12.out a2.out (by decide))) | (show (Addr.add _ _).block ≠ _; rw [add_block]; exact Kd.own_blk (Kd.R_ne HO_12.out a2.out (by decide))) | (dsimp only; exact Kd.own_blk (Kd.R_ne HO_12.out a2.out (by decide)))) _).trans (((cell_far (p := ⟨a4, _, none⟩) (by first | exact Kd.own_blk (Kd.R_ne HO_12.out a2.out (by decide)) | (rw [add_block]; exact Kd.own_blk (Kd.R_ne HO_12.out a2.out (by decide))) | (show (Addr.add _ _).block ≠ _; rw [add_block]; exact Kd.own_blk (Kd.R_ne HO_12.out a2.out (by decide))) | (dsimp only; exact Kd.own_blk (Kd.R_ne HO_12.out a2.out (by decide)))) _).trans (((cell_far (p := ⟨a4, _, none⟩) (by first | exact Kd.own_blk (Kd.R_ne HO_12.out a2.out (by decide)) | (rw [add_block]; exact Kd.own_blk (Kd.R_ne HO_12.out a2.out (by decide))) | (show (Addr.add _ _).block ≠ _; rw [add_block]; exact Kd.own_blk (Kd.R_ne HO_12.out a2.out (by decide))) | (dsimp only; exact Kd.own_blk (Kd.R_ne HO_12.out a2.out (by decide)))) _).trans (hHeld.2))))))⟩ (fun hHeld => ?_)
      clear hK K
      refine pu 11 5 (bits 13 0xfff) HT_ (h := ?_)
      refine pu 12 6 (bits 13 0x1fff) HT_ (h := ?_)
      refine done_ (done_of HT_.out (by kernel_rfl)) ?_
      try go_wp2
      refine bodyPost_ret (results_ctt rfl _ _ a4 142 #[.int .i64 4, .string (rdOf ByteArray.empty a5 a3), .int .i64 0] (0, 0) _ rfl (bkP a2) Tryz.underlying142 rfl (by kernel_rfl)) rfl ?_
      exact ⟨erf, bb HB⟩
def q1_Right.f (k : Nat) (a4 : Int) (a6 : ByteArray) (a5 : Int) : Option (Bool) := (q1_text.f a4 a6 a5).bind fun a2 => (if a2.toList = ([] : List UInt8) then (some false) else ((q1_one.f k a2 0).bind fun a3 => (if a3.2.2.2.2 = 0 then (if a3.2.2.2.1 = (a2.size : Int) then (some (a3.1 == a4)) else (some false)) else (some false))))
theorem q1_Right.calls (k : Nat) (a4 : Int) (a6 : ByteArray) (a5 : Int) (r : Bool) (w : World) (h : q1_Right.f k a4 a6 a5 = some r) :
  Calls Tryz.prog 121 #[.agg #[.int .i64 a4, .string a6, .int .i64 a5]] w fun e w' => e = .returned (.bool r) ∧ Below w.heap.size w w' := by
 have hu142 := Tryz.underlying142
 have HB := Aside0.mk (Below.refl w.heap.size w)
 have H : ((q1_text.f a4 a6 a5).bind fun a2 => (if a2.toList = ([] : List UInt8) then (some false) else ((q1_one.f k a2 0).bind fun a3 => (if a3.2.2.2.2 = 0 then (if a3.2.2.2.1 = (a2.size : Int) then (some (a3.1 == a4)) else (some false)) else (some false))))) = some r := h
 clear h
 obtain ⟨a2, A2, H⟩ := obA H
 by_cases c3 : a2.toList = ([] : List UInt8)
 rw [if_pos c3] at H
 have b8 := beq_iff_eq.mpr c3
 have b7 := bne_eq_false_iff_eq.mpr c3
 clear c3
 obtain rfl := Option.some.inj H
 rotate_left
 rw [if_neg c3] at H
 have b8 := beq_eq_false_iff_ne.mpr c3
 have b7 := bne_iff_ne.mpr c3
 obtain ⟨⟨e8, e7, e6, b2, b1⟩, A7, H⟩ := obA H
 try dsimp only at H
 by_cases c8 : b1 = 0
 rw [if_pos c8] at H
 have b6 := beq_iff_eq.mpr c8
 have b5 := bne_eq_false_iff_eq.mpr c8
 clear c8
 by_cases c9 : b2 = (a2.size : Int)
 rw [if_pos c9] at H
 have b4 := beq_iff_eq.mpr c9
 have b3 := bne_eq_false_iff_eq.mpr c9
 clear c9
 obtain rfl := Option.some.inj H
 rotate_left
 rw [if_neg c9] at H
 have b4 := beq_eq_false_iff_ne.mpr c9
 have b3 := bne_iff_ne.mpr c9
 obtain rfl := Option.some.inj H
 rotate_left
 rw [if_neg c8] at H
 have b6 := beq_eq_false_iff_ne.mpr c8
 have b5 := bne_iff_ne.mpr c8
 obtain rfl := Option.some.inj H
 all_goals
  go_enter Tryz.func121, Tryz.ntmps121
  go_wp2_with (first | ((with_reducible refine gate_dst (N := 1) rfl ?_); (try (refine gate_guard (by rfl) ?_; dsimp only)); refine be 1 #[.int .i64 a4, .string a6, .int .i64 a5] 142 ?_; intro e3 hg g2 hbox hb; have a1 := Aside0.mk (hbox); have e5 := bsz HB hg; replace HB := bstep HB hb; clear hb hbox hg; obtain ⟨d9, d8, d7, d0, c7, c6⟩ := cz3 a1) | ((with_reducible refine gate_callee (f := 127) rfl ?_); refine gl 8 Tryz.func127 #[.agg #[.int .i64 a4, .string a6, .int .i64 a5]] (h := ?_); (with_reducible refine (q1_text.calls _ _ _ _ _ A2.out).mono ?_); rintro e g1 ⟨rfl, hb⟩; refine ⟨_, rfl, ?_⟩; replace a1 := bkb a1 hb; replace HB := bstep HB hb; clear hb) | ((with_reducible refine gate_callee (f := 128) rfl ?_); refine gl 13 Tryz.func128 #[.string a2, .int .i64 0] (h := ?_); (with_reducible refine (q1_one.calls _ _ _ _ _ _ _ _ _ A7.out).mono ?_); rintro e g0 ⟨rfl, hb⟩; refine ⟨_, rfl, ?_⟩; replace a1 := bkb a1 hb; replace HB := bstep HB hb; clear hb) | ((with_reducible refine gate_dst (N := 4) rfl ?_); (try (refine gate_guard (by rfl) ?_; dsimp only)); refine be 4 #[.int .i64 0, .string (⟨#[]⟩ : ByteArray), .int .i64 0] 142 ?_; intro e2 hg e9 hbox hb; have b0 := Aside0.mk (hbox); have e4 := bsz HB hg; replace HB := bstep HB hb; have a9 := blt a1 hg; have a8 := bgt a1 hg; replace a1 := bkb a1 hb; clear hb hbox hg; have e1 := a8.out; have e0 := a9.out; obtain ⟨d6, d5, d4, c5, c4, c2⟩ := cz3 b0; obtain ⟨d3, d2, d1, c1, c0, b9⟩ := cz3 a1))
  go_ret
  exact ⟨erf, bb HB⟩
def q1_IsName.f (k : Nat) (a0 : ByteArray) : Option (Bool) := (q1_Right.f k 1 a0 0).bind fun a7 => (some a7)
theorem q1_IsName.calls (k : Nat) (a0 : ByteArray) (r : Bool) (w : World) (h : q1_IsName.f k a0 = some r) :
  Calls Tryz.prog 109 #[.string a0] w fun e w' => e = .returned (.bool r) ∧ Below w.heap.size w w' := by
 have hu142 := Tryz.underlying142
 have HB := Aside0.mk (Below.refl w.heap.size w)
 have H : ((q1_Right.f k 1 a0 0).bind fun a7 => (some a7)) = some r := h
 clear h
 obtain ⟨a7, A2, H⟩ := obA H
 obtain rfl := Option.some.inj H
 go_enter Tryz.func109, Tryz.ntmps109
 go_wp2_with (first | ((with_reducible refine gate_callee (f := 121) rfl ?_); refine gl 5 Tryz.func121 #[.agg #[.int .i64 1, .string a0, .int .i64 0]] (h := ?_); (with_reducible refine (q1_Right.calls _ _ _ _ _ _ A2.out).mono ?_); rintro e w3 ⟨rfl, hb⟩; refine ⟨_, rfl, ?_⟩; replace HB := bstep HB hb; clear hb))
 go_ret
 exact ⟨erf, bb HB⟩
mutual
def q4_names.l0 : Nat → List ByteArray → Int → Option (Int)
 | 0, _, _ => none
 | k + 1, x0, x3 => if x3 < (x0.length : Int) then (if 0 ≤ x3 then ((q1_IsName.f k (rdOf ByteArray.empty x0 x3)).bind fun d0 => (if d0 = true then (q4_names.l1 k x0 x3 0) else (some 2))) else (none)) else (some 0)
def q4_names.l1 : Nat → List ByteArray → Int → Int → Option (Int)
 | 0, _, _, _ => none
 | k + 1, x0, x3, x4 => if x4 < x3 then (if 0 ≤ x4 then (if x4 < (x0.length : Int) then (if 0 ≤ x3 then (if x3 < (x0.length : Int) then (if (rdOf ByteArray.empty x0 x4).toList = (rdOf ByteArray.empty x0 x3).toList then (some 5) else (q4_names.l1 k x0 x3 (wrap64 (x4 + 1)))) else (none)) else (none)) else (none)) else (none)) else (q4_names.l0 k x0 (wrap64 (x3 + 1)))
end
def q4_names.f (k : Nat) (l0 : List ByteArray) : Option (Int) := if (l0.length : Int) > 20 then (some 3) else (q4_names.l0 k l0 0)
theorem q4_names.calls (k : Nat) (A0 : Option Addr) (c0 : Nat) (l0 : List ByteArray) (r : Int) (w : World) (g4 : Kd.C Kd.string w A0 l0.length l0) (g5 : l0.length ≤ c0) (h : q4_names.f k l0 = some r) :
  Calls Tryz.prog 122 #[.slice A0 l0.length c0] w fun e w' => e = .returned (.int .i64 r) ∧ Below w.heap.size w w' := by
 have e1 := Aside0.mk g4
 have n1 := Aside0.mk g5
 clear g4 g5
 have HB := Aside0.mk (Below.refl w.heap.size w)
 have H : (if (l0.length : Int) > 20 then (some 3) else (q4_names.l0 k l0 0)) = some r := h
 clear h
 by_cases c2 : (l0.length : Int) > 20
 ·rw [if_pos c2] at H
  have b9 : decide (20 < (l0.length : Int)) = true := decide_eq_true c2
  have b8 : decide (20 < l0.length) = true := decide_eq_true (by omega)
  clear c2
  obtain rfl := Option.some.inj H
  go_enter Tryz.func122, Tryz.ntmps122
  go_wp2
  repeat (go_quiet (fail); try go_wp2)
  go_ret
  exact ⟨erf, bb HB⟩
 rw [if_neg c2] at H
 have b9 : decide (20 < (l0.length : Int)) = false := decide_eq_false c2
 have b8 : decide (20 < l0.length) = false := decide_eq_false (by omega)
 clear c2
 have H' := Aside0.mk H
 clear H
 go_enter Tryz.func122, Tryz.ntmps122
 go_wp2
 repeat (go_quiet (fail); try go_wp2)
 go_loopg [3] k (fun kq v3 w' => ∃ (a1 : Int), v3 = .int .i64 a1 ∧ Aside0 (q4_names.l0 kq l0 a1 = some r) ∧ Aside0 (kq ≤ k) ∧ Aside0 (Below w.heap.size w w'))
 case atStart => exact ⟨(0), eqs, H', ⟨Nat.le_refl _⟩, ⟨bb HB⟩⟩
 case round =>
  clear H' b9 b8
  obtain ⟨a1, rfl, HA, d9, HB⟩ := hrel
  cases gk with
  | zero => exact absurd HA.out (by simp [q4_names.l0])
  | succ k1 =>
   have H := HA.out
   clear HA
   simp only [q4_names.l0] at H
   by_cases c3 : a1 < (l0.length : Int)
   rotate_left
   ·rw [if_neg c3] at H
    have e0 := decide_eq_false c3
    clear c3
    obtain rfl := Option.some.inj H
    go_wp2
    repeat (go_quiet (fail); try go_wp2)
    go_ret
    exact ⟨erf, bb HB⟩
   rw [if_pos c3] at H
   have e0 := decide_eq_true c3
   clear c3
   obtain ⟨c4, H⟩ := itn H
   have h3 := decide_eq_true c4
   clear c4
   obtain ⟨d0, A5, H⟩ := obA H
   by_cases c6 : d0 = true
   subst c6
   replace H := ift H
   have H' := Aside0.mk H
   clear H
   rotate_left
   replace c6 := Bool.eq_false_iff.mpr c6
   subst c6
   replace H := iff_ H
   obtain rfl := Option.some.inj H
   all_goals
    have b7 : 0 ≤ a1 := odt
    have b6 : a1 < (l0.length : Int) := odt
    obtain ⟨d7, h1, a6⟩ := Kd.at_string e1.out a1 b7 b6
    cases h1
    replace a6 := hxc HB a6
    replace b7 := eq_true b7
    replace b6 := eq_true b6
    go_wp2_with (go_at_call 109; (with_reducible refine (q1_IsName.calls _ _ _ _ A5.out).mono ?_); rintro e m9 ⟨rfl, hb⟩; replace HB := bstep HB hb; clear hb)
    repeat (go_quiet (fail); try go_wp2_with (fail))
   ·go_ret
    exact ⟨erf, bb HB⟩
   ·go_loopg [4] k1 (fun kq v4 w' => ∃ (a3 : Int), v4 = .int .i64 a3 ∧ Aside0 (q4_names.l1 kq l0 a1 a3 = some r) ∧ Aside0 (kq ≤ k1) ∧ Aside0 (Below w.heap.size w w'))
    case atStart => exact ⟨(0), eqs, H', ⟨Nat.le_refl _⟩, ⟨bb HB⟩⟩
    case round =>
     clear H' e0 h3 a6 b7 b6
     obtain ⟨a3, rfl, HA, d8, HB⟩ := hrel
     cases gk with
     | zero => exact absurd HA.out (by simp [q4_names.l1])
     | succ k2 =>
      have H := HA.out
      clear HA
      simp only [q4_names.l1] at H
      by_cases c8 : a3 < a1
      rotate_left
      ·rw [if_neg c8] at H
       have h2 := decide_eq_false c8
       clear c8
       have H' := Aside0.mk H
       clear H
       go_wp2
       repeat (go_quiet (fail); try go_wp2)
       go_roundg k2
       case measure => have := d9.out; have := d8.out; omega
       case rel => exact ⟨(wrap64 (a1 + 1)), eqs, H', ⟨by have := d9.out; have := d8.out; omega⟩, ⟨bb HB⟩⟩
      rw [if_pos c8] at H
      have h2 := decide_eq_true c8
      clear c8
      obtain ⟨c9, H⟩ := itn H
      have m6 := decide_eq_true c9
      clear c9
      obtain ⟨g8, H⟩ := itn H
      have m4 := decide_eq_true g8
      clear g8
      obtain ⟨g7, H⟩ := itn H
      have m3 := decide_eq_true g7
      clear g7
      obtain ⟨g6, H⟩ := itn H
      have m2 := decide_eq_true g6
      clear g6
      by_cases b3 : (rdOf ByteArray.empty l0 a3).toList = (rdOf ByteArray.empty l0 a1).toList
      rw [if_pos b3] at H
      have e9 := beq_iff_eq.mpr b3
      have e8 := bne_eq_false_iff_eq.mpr b3
      clear b3
      obtain rfl := Option.some.inj H
      rotate_left
      rw [if_neg b3] at H
      have e9 := beq_eq_false_iff_ne.mpr b3
      have e8 := bne_iff_ne.mpr b3
      have H' := Aside0.mk H
      clear H
      all_goals
       have d4 : 0 ≤ a3 := odt
       have d2 : a3 < (l0.length : Int) := odt
       obtain ⟨g1, h0, b5⟩ := Kd.at_string e1.out a3 d4 d2
       obtain rfl : d7 = g1 := (by injection h0)
       replace b5 := hxc HB b5
       replace d4 := eq_true d4
       replace d2 := eq_true d2
       have d3 : 0 ≤ a1 := odt
       have d1 : a1 < (l0.length : Int) := odt
       obtain ⟨g0, g9, b4⟩ := Kd.at_string e1.out a1 d3 d1
       obtain rfl : d7 = g0 := (by injection g9)
       replace b4 := hxc HB b4
       replace d3 := eq_true d3
       replace d1 := eq_true d1
       go_wp2
       repeat (go_quiet (fail); try go_wp2)
      ·go_roundg k2
       case measure => have := d9.out; have := d8.out; omega
       case rel => exact ⟨(wrap64 (a3 + 1)), eqs, H', ⟨by have := d9.out; have := d8.out; omega⟩, ⟨bb HB⟩⟩
      ·go_ret
       exact ⟨erf, bb HB⟩
def q4_attribute.f (k : Nat) (c5 : ByteArray) (a2 : Int) (a4 : Int) (a0 : List ByteArray) : Option (Int) := if (a0.length : Int) = 0 then ((q4_in.f a2 (-1000000) 1000000).bind fun a9 => (if a9 = true then ((q4_in.f a4 a2 1000000).bind fun a8 => (if a8 = true then (some 0) else (some 6))) else (some 6))) else ((q4_names.f k a0).bind fun a5 => (if a5 = 0 then (if a2 = 0 then (if a4 = (wrap64 ((a0.length : Int) - 1)) then (some 0) else (some 6)) else (some 6)) else (some a5)))
theorem q4_attribute.calls (k : Nat) (c5 : ByteArray) (a2 : Int) (a4 : Int) (c7 : Option Addr) (c1 : Nat) (a0 : List ByteArray) (r : Int) (w : World) (d5 : Kd.C Kd.string w c7 a0.length a0) (d6 : a0.length ≤ c1) (h : q4_attribute.f k c5 a2 a4 a0 = some r) :
  Calls Tryz.prog 111 #[.agg #[.string c5, .int .i64 a2, .int .i64 a4, .slice c7 a0.length c1]] w fun e w' => e = .returned (.int .i64 r) ∧ Below w.heap.size w w' := by
 have hu99 := Tryz.underlying99
 have g2 := Aside0.mk d5
 have g3 := Aside0.mk d6
 clear d5 d6
 have HB := Aside0.mk (Below.refl w.heap.size w)
 have H : (if (a0.length : Int) = 0 then ((q4_in.f a2 (-1000000) 1000000).bind fun a9 => (if a9 = true then ((q4_in.f a4 a2 1000000).bind fun a8 => (if a8 = true then (some 0) else (some 6))) else (some 6))) else ((q4_names.f k a0).bind fun a5 => (if a5 = 0 then (if a2 = 0 then (if a4 = (wrap64 ((a0.length : Int) - 1)) then (some 0) else (some 6)) else (some 6)) else (some a5)))) = some r := h
 clear h
 by_cases c2 : (a0.length : Int) = 0
 rw [if_pos c2] at H
 have b9 := beq_iff_eq.mpr c2
 have b8 := bne_eq_false_iff_eq.mpr c2
 clear c2
 obtain ⟨a9, A3, H⟩ := obA H
 by_cases c4 : a9 = true
 subst c4
 replace H := ift H
 obtain ⟨a8, A5, H⟩ := obA H
 by_cases c6 : a8 = true
 subst c6
 replace H := ift H
 obtain rfl := Option.some.inj H
 rotate_left
 replace c6 := Bool.eq_false_iff.mpr c6
 subst c6
 replace H := iff_ H
 obtain rfl := Option.some.inj H
 rotate_left
 replace c4 := Bool.eq_false_iff.mpr c4
 subst c4
 replace H := iff_ H
 obtain rfl := Option.some.inj H
 rotate_left
 rw [if_neg c2] at H
 have b9 := beq_eq_false_iff_ne.mpr c2
 have b8 := bne_iff_ne.mpr c2
 have m7 : ¬ (a0 = []) := fun h_ => c2 (by rw [h_]; rfl)
 obtain ⟨a5, m0, H⟩ := obA H
 by_cases b2 : a5 = 0
 rw [if_pos b2] at H
 have e7 := beq_iff_eq.mpr b2
 have e6 := bne_eq_false_iff_eq.mpr b2
 clear b2
 by_cases b1 : a2 = 0
 rw [if_pos b1] at H
 have e5 := beq_iff_eq.mpr b1
 have e4 := bne_eq_false_iff_eq.mpr b1
 clear b1
 by_cases b0 : a4 = (wrap64 ((a0.length : Int) - 1))
 rw [if_pos b0] at H
 have e3 := beq_iff_eq.mpr b0
 have e2 := bne_eq_false_iff_eq.mpr b0
 clear b0
 obtain rfl := Option.some.inj H
 rotate_left
 rw [if_neg b0] at H
 have e3 := beq_eq_false_iff_ne.mpr b0
 have e2 := bne_iff_ne.mpr b0
 obtain rfl := Option.some.inj H
 rotate_left
 rw [if_neg b1] at H
 have e5 := beq_eq_false_iff_ne.mpr b1
 have e4 := bne_iff_ne.mpr b1
 obtain rfl := Option.some.inj H
 rotate_left
 rw [if_neg b2] at H
 have e7 := beq_eq_false_iff_ne.mpr b2
 have e6 := bne_iff_ne.mpr b2
 obtain rfl := Option.some.inj H
 all_goals
  go_enter Tryz.func111, Tryz.ntmps111
  go_wp2_with (first | ((with_reducible refine gate_dst (N := 1) rfl ?_); (try (refine gate_guard (by rfl) ?_; dsimp only)); refine be 1 #[.string c5, .int .i64 a2, .int .i64 a4, .slice c7 a0.length c1] 99 ?_; intro m1 hg n0 hbox hb; have a7 := Aside0.mk (hbox); have m5 := bsz HB hg; replace HB := bstep HB hb; clear hb hbox hg; obtain ⟨j9, j8, j7, j6, j1, j0, h9, h8⟩ := cz4 a7) | ((with_reducible refine gate_callee (f := 122) rfl ?_); refine gl 22 Tryz.func122 #[.slice c7 a0.length c1] (h := ?_); (with_reducible refine (q4_names.calls _ _ _ _ _ _ (cb g2 HB) g3.out m0.out).mono ?_); rintro e m8 ⟨rfl, hb⟩; refine ⟨_, rfl, ?_⟩; replace a7 := bkb a7 hb; replace HB := bstep HB hb; clear hb; obtain ⟨j5, j4, j3, j2, h7, h6, h5, h4⟩ := cz4 a7) | ((with_reducible refine gate_callee (f := 90) rfl ?_); refine gl 10 Tryz.func90 #[.int .i64 a2, .int .i64 (-1000000), .int .i64 1000000] (h := ?_); (with_reducible refine (q4_in.calls _ _ _ _ _ A3.out).mono ?_); rintro e w' ⟨rfl, ⟨nd, rfl⟩⟩; refine ⟨_, rfl, ?_⟩) | (go_at_call 90; (with_reducible refine (q4_in.calls _ _ _ _ _ A5.out).mono ?_); rintro e w' ⟨rfl, ⟨nd, rfl⟩⟩))
  go_ret
  exact ⟨erf, bb HB⟩
end Go.Proofs.YtfpianecohobjaaGreat.P
