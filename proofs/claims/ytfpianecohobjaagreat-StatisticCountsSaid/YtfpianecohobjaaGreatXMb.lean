/- StatisticOf: a part of its proof. No condition. -/
import Derived.Test.YtfpianecohobjaaGreatXPx0
namespace Go.Proofs.YtfpianecohobjaaGreat.P
open Go.RowKit Go.Proofs.YtfpianecohobjaaGreatW.PrintWords Go.Proofs.YtfpianecohobjaaGreatW.PrintLast Go.Proofs.YtfpianecohobjaaGreatW.PrintMore
set_option maxHeartbeats 8000000
set_option maxRecDepth 100000
set_option linter.unusedVariables false
set_option linter.unusedSimpArgs false
def q4_in.f (a0 : Int) (a1 : Int) (a2 : Int) : Option (Bool) := if a0 ≥ a1 then (some (decide (a0 ≤ a2))) else (some false)
theorem q4_in.calls (a0 : Int) (a1 : Int) (a2 : Int) (r : Bool) (w : World) (h : q4_in.f a0 a1 a2 = some r) :
  Calls Tryz.prog 90 #[.int .i64 a0, .int .i64 a1, .int .i64 a2] w fun e w' => e = .returned (.bool r) ∧ Drawn0 w w' := by
 have H : (if a0 ≥ a1 then (some (decide (a0 ≤ a2))) else (some false)) = some r := h
 clear h
 by_cases c4 : a0 ≥ a1
 ·rw [if_pos c4] at H
  have b2 : decide (a1 ≤ a0) = true := decide_eq_true c4
  clear c4
  obtain rfl := Option.some.inj H
  go_enter Tryz.func90, Tryz.ntmps90
  go_wp2
  go_ret
  exact ⟨by first | rfl | (simp; done) | (simp [*]; done), drw⟩
 rw [if_neg c4] at H
 have b2 : decide (a1 ≤ a0) = false := decide_eq_false c4
 clear c4
 obtain rfl := Option.some.inj H
 go_enter Tryz.func90, Tryz.ntmps90
 go_wp2
 go_ret
 exact ⟨by first | rfl | (simp; done) | (simp [*]; done), drw⟩
def q1_text.f (a8 : Int) (b3 : ByteArray) (c1 : Int) : Option (ByteArray) := if a8 = 3 then (none) else (some b3)
theorem q1_text.calls (a8 : Int) (b3 : ByteArray) (c1 : Int) (r : ByteArray) (w : World) (h : q1_text.f a8 b3 c1 = some r) :
  Calls Tryz.prog 127 #[.agg #[.int .i64 a8, .string b3, .int .i64 c1]] w fun e w' => e = .returned (.string r) ∧ Below w.heap.size w w' := by
 have hu142 := Tryz.underlying142
 have HB := am (Below.refl w.heap.size w)
 have H : (if a8 = 3 then (none) else (some b3)) = some r := h
 clear h
 by_cases c2 : a8 = 3
 ·rw [if_pos c2] at H
  have b8 := beq_iff_eq.mpr c2
  have g2 := bne_eq_false_iff_eq.mpr c2
  clear c2
  exact absurd H (by simp)
 rw [if_neg c2] at H
 have b8 := beq_eq_false_iff_ne.mpr c2
 have g2 := bne_iff_ne.mpr c2
 obtain rfl := Option.some.inj H
 go_enter Tryz.func127, Tryz.ntmps127
 go_wp2_with ((with_reducible refine gate_dst (N := 1) rfl ?_); refine be 1 #[.int .i64 a8, .string b3, .int .i64 c1] 142 ?_; intro g9 hg w3 hbox hb; have e4 := am (hbox); have h0 := bsz HB hg; replace HB := bstep HB hb; clear hb hbox hg; obtain ⟨g8, g7, g6, g5, g4, g3⟩ := cz3 e4)
 go_ret
 exact ⟨erf, bb HB⟩
def q1_letter.f (a0 : Int) : Option (Bool) := if a0 ≥ 97 then (if a0 ≤ 122 then (some true) else (if a0 ≥ 65 then (some (decide (a0 ≤ 90))) else (some false))) else (if a0 ≥ 65 then (some (decide (a0 ≤ 90))) else (some false))
theorem q1_letter.calls (a0 : Int) (r : Bool) (w : World) (h : q1_letter.f a0 = some r) :
  Calls Tryz.prog 137 #[.int .u8 a0] w fun e w' => e = .returned (.bool r) ∧ Drawn0 w w' := by
 have H : (if a0 ≥ 97 then (if a0 ≤ 122 then (some true) else (if a0 ≥ 65 then (some (decide (a0 ≤ 90))) else (some false))) else (if a0 ≥ 65 then (some (decide (a0 ≤ 90))) else (some false))) = some r := h
 clear h
 by_cases c2 : a0 ≥ 97
 rotate_left
 ·rw [if_neg c2] at H
  have b8 : decide (97 ≤ a0) = false := decide_eq_false c2
  clear c2
  by_cases c5 : a0 ≥ 65
  ·rw [if_pos c5] at H
   have d9 : decide (65 ≤ a0) = true := decide_eq_true c5
   clear c5
   obtain rfl := Option.some.inj H
   go_enter Tryz.func137, Tryz.ntmps137
   go_wp2
   go_ret
   exact ⟨by first | rfl | (simp; done) | (simp [*]; done), drw⟩
  rw [if_neg c5] at H
  have d9 : decide (65 ≤ a0) = false := decide_eq_false c5
  clear c5
  obtain rfl := Option.some.inj H
  go_enter Tryz.func137, Tryz.ntmps137
  go_wp2
  go_ret
  exact ⟨by first | rfl | (simp; done) | (simp [*]; done), drw⟩
 rw [if_pos c2] at H
 have b8 : decide (97 ≤ a0) = true := decide_eq_true c2
 clear c2
 by_cases c3 : a0 ≤ 122
 ·rw [if_pos c3] at H
  have c0 := decide_eq_true c3
  clear c3
  obtain rfl := Option.some.inj H
  go_enter Tryz.func137, Tryz.ntmps137
  go_wp2
  go_ret
  exact ⟨by first | rfl | (simp; done) | (simp [*]; done), drw⟩
 rw [if_neg c3] at H
 have c0 := decide_eq_false c3
 clear c3
 by_cases c4 : a0 ≥ 65
 ·rw [if_pos c4] at H
  have b2 : decide (65 ≤ a0) = true := decide_eq_true c4
  clear c4
  obtain rfl := Option.some.inj H
  go_enter Tryz.func137, Tryz.ntmps137
  go_wp2
  go_ret
  exact ⟨by first | rfl | (simp; done) | (simp [*]; done), drw⟩
 ·rw [if_neg c4] at H
  have b2 : decide (65 ≤ a0) = false := decide_eq_false c4
  clear c4
  obtain rfl := Option.some.inj H
  go_enter Tryz.func137, Tryz.ntmps137
  go_wp2
  go_ret
  exact ⟨by first | rfl | (simp; done) | (simp [*]; done), drw⟩
def q1_digit.f (a0 : Int) : Option (Bool) := if a0 ≥ 48 then (some (decide (a0 ≤ 57))) else (some false)
theorem q1_digit.calls (a0 : Int) (r : Bool) (w : World) (h : q1_digit.f a0 = some r) :
  Calls Tryz.prog 138 #[.int .u8 a0] w fun e w' => e = .returned (.bool r) ∧ Drawn0 w w' := by
 have H : (if a0 ≥ 48 then (some (decide (a0 ≤ 57))) else (some false)) = some r := h
 clear h
 by_cases c2 : a0 ≥ 48
 ·rw [if_pos c2] at H
  have b8 : decide (48 ≤ a0) = true := decide_eq_true c2
  clear c2
  obtain rfl := Option.some.inj H
  go_enter Tryz.func138, Tryz.ntmps138
  go_wp2
  go_ret
  exact ⟨by first | rfl | (simp; done) | (simp [*]; done), drw⟩
 rw [if_neg c2] at H
 have b8 : decide (48 ≤ a0) = false := decide_eq_false c2
 clear c2
 obtain rfl := Option.some.inj H
 go_enter Tryz.func138, Tryz.ntmps138
 go_wp2
 go_ret
 exact ⟨by first | rfl | (simp; done) | (simp [*]; done), drw⟩
def q1_run.l0 : Nat → ByteArray → Int → Bool → Int → Option (Int)
 | 0, _, _, _, _ => none
 | k + 1, x0, x1, x2, x7 => if (wrap64 (x1 + x7)) < (x0.size : Int) then (if 0 ≤ (wrap64 (x1 + x7)) then ((q1_digit.f (bt x0 (wrap64 (x1 + x7)))).bind fun b7 => (if b7 = true then (q1_run.l0 k x0 x1 x2 (wrap64 (x7 + 1))) else (if x2 = true then (some x7) else ((q1_letter.f (bt x0 (wrap64 (x1 + x7)))).bind fun b6 => (if b6 = true then (q1_run.l0 k x0 x1 x2 (wrap64 (x7 + 1))) else (if (bt x0 (wrap64 (x1 + x7))) = 95 then (q1_run.l0 k x0 x1 x2 (wrap64 (x7 + 1))) else (some x7))))))) else (none)) else (some x7)
def q1_run.f (k : Nat) (a0 : ByteArray) (a1 : Int) (a2 : Bool) : Option (Int) := q1_run.l0 k a0 a1 a2 0
theorem q1_run.calls (k : Nat) (a0 : ByteArray) (a1 : Int) (a2 : Bool) (r : Int) (w : World) (h : q1_run.f k a0 a1 a2 = some r) :
  Calls Tryz.prog 139 #[.string a0, .int .i64 a1, .bool a2] w fun e w' => e = .returned (.int .i64 r) ∧ Drawn0 w w' := by
 have H : (q1_run.l0 k a0 a1 a2 0) = some r := h
 clear h
 have H' := am H
 clear H
 go_enter Tryz.func139, Tryz.ntmps139
 go_wp2
 go_loopg [7] k (fun kq v7 w' => ∃ (a5 : Int), v7 = .int .i64 a5 ∧ Aside0 (q1_run.l0 kq a0 a1 a2 a5 = some r) ∧ Aside0 (kq ≤ k) ∧ Drawn0 w w')
 case atStart => exact ⟨(0), eqs, H', ⟨Nat.le_refl _⟩, drw⟩
 case round =>
  clear H'
  obtain ⟨a5, rfl, HA, b0, ⟨m1, rfl⟩⟩ := hrel
  cases gk with
  | zero => exact absurd HA.out (by simp [q1_run.l0])
  | succ k1 =>
   have H := HA.out
   clear HA
   simp only [q1_run.l0] at H
   by_cases c4 : (wrap64 (a1 + a5)) < (a0.size : Int)
   rotate_left
   ·rw [if_neg c4] at H
    have b2 := decide_eq_false c4
    clear c4
    obtain rfl := Option.some.inj H
    go_wp2
    go_ret
    exact ⟨by first | rfl | (simp; done) | (simp [*]; done), drw⟩
   rw [if_pos c4] at H
   have b2 := decide_eq_true c4
   clear c4
   obtain ⟨a3, b1⟩ : ∃ j_ : Int, (wrap64 (a1 + a5)) = j_ := ⟨_, rfl⟩
   replace H : (if 0 ≤ (a3) then ((q1_digit.f (bt a0 (a3))).bind fun b7 => (if b7 = true then (q1_run.l0 k1 a0 a1 a2 (wrap64 (a5 + 1))) else (if a2 = true then (some a5) else ((q1_letter.f (bt a0 (a3))).bind fun b6 => (if b6 = true then (q1_run.l0 k1 a0 a1 a2 (wrap64 (a5 + 1))) else (if (bt a0 (a3)) = 95 then (q1_run.l0 k1 a0 a1 a2 (wrap64 (a5 + 1))) else (some a5))))))) else (none)) = some r := by first | (rw [b1] at H; exact H) | (simp only [b1] at H ⊢; exact H)
   (try rw [b1] at b2)
   have hji5w : (IntKind.i64.wrap (a1 + a5)) = a3 := (i64_w _).trans b1
   obtain ⟨c6, H⟩ := itn H
   have h2 := decide_eq_true c6
   clear c6
   obtain ⟨b7, A8, H⟩ := obA H
   by_cases c9 : b7 = true
   ·subst c9
    replace H := ift H
    have H' := am H
    clear H
    have p7 : 0 ≤ ((a3) : Int) := odt
    have q7 : (a3) < (a0.size : Int) := odt
    have d3 := bt_at a0 (a3)
    replace p7 := eq_true p7
    replace q7 := eq_true q7
    go_wp2_with (go_at_call 138; (with_reducible refine (q1_digit.calls (bt a0 (a3)) true _ A8.out).mono ?_); rintro e w' ⟨rfl, ⟨nd, rfl⟩⟩)
    go_roundg k1
    case measure => have := b0.out; omega
    case rel => exact ⟨(wrap64 (a5 + 1)), eqs, H', ⟨by have := b0.out; omega⟩, drw⟩
   replace c9 := Bool.eq_false_iff.mpr c9
   subst c9
   replace H := iff_ H
   by_cases d5 : a2 = true
   ·subst d5
    replace H := ift H
    obtain rfl := Option.some.inj H
    have p7 : 0 ≤ ((a3) : Int) := odt
    have q7 : (a3) < (a0.size : Int) := odt
    have d3 := bt_at a0 (a3)
    replace p7 := eq_true p7
    replace q7 := eq_true q7
    go_wp2_with (go_at_call 138; (with_reducible refine (q1_digit.calls (bt a0 (a3)) false _ A8.out).mono ?_); rintro e w' ⟨rfl, ⟨nd, rfl⟩⟩)
    go_ret
    exact ⟨by first | rfl | (simp; done) | (simp only [← b1] <;> (first | rfl | simp)) | (simp [*]; done), drw⟩
   replace d5 := Bool.eq_false_iff.mpr d5
   subst d5
   replace H := iff_ H
   obtain ⟨b6, e0, H⟩ := obA H
   by_cases d4 : b6 = true
   ·subst d4
    replace H := ift H
    have H' := am H
    clear H
    have p7 : 0 ≤ ((a3) : Int) := odt
    have q7 : (a3) < (a0.size : Int) := odt
    have d3 := bt_at a0 (a3)
    replace p7 := eq_true p7
    replace q7 := eq_true q7
    go_wp2_with (first | (go_at_call 138; (with_reducible refine (q1_digit.calls (bt a0 (a3)) false _ A8.out).mono ?_); rintro e w' ⟨rfl, ⟨nd, rfl⟩⟩; have b5 : 0 ≤ ((a3) : Int) := odt; have b4 : (a3) < (a0.size : Int) := odt; have d8 := bt_at a0 (a3); replace b5 := eq_true b5; replace b4 := eq_true b4) | (go_at_call 137; (with_reducible refine (q1_letter.calls (bt a0 (a3)) true _ e0.out).mono ?_); rintro e w' ⟨rfl, ⟨nd, rfl⟩⟩))
    go_roundg k1
    case measure => have := b0.out; omega
    case rel => exact ⟨(wrap64 (a5 + 1)), eqs, H', ⟨by have := b0.out; omega⟩, drw⟩
   replace d4 := Bool.eq_false_iff.mpr d4
   subst d4
   replace H := iff_ H
   by_cases b9 : (bt a0 (a3)) = 95
   rotate_left
   ·rw [if_neg b9] at H
    have e2 := beq_eq_false_iff_ne.mpr b9
    have e1 := bne_iff_ne.mpr b9
    obtain rfl := Option.some.inj H
    have p7 : 0 ≤ ((a3) : Int) := odt
    have q7 : (a3) < (a0.size : Int) := odt
    have d3 := bt_at a0 (a3)
    replace p7 := eq_true p7
    replace q7 := eq_true q7
    go_wp2_with (first | (go_at_call 138; (with_reducible refine (q1_digit.calls (bt a0 (a3)) false _ A8.out).mono ?_); rintro e w' ⟨rfl, ⟨nd, rfl⟩⟩; have b5 : 0 ≤ ((a3) : Int) := odt; have b4 : (a3) < (a0.size : Int) := odt; have d8 := bt_at a0 (a3); replace b5 := eq_true b5; replace b4 := eq_true b4) | (go_at_call 137; (with_reducible refine (q1_letter.calls (bt a0 (a3)) false _ e0.out).mono ?_); rintro e w' ⟨rfl, ⟨nd, rfl⟩⟩; have d1 : 0 ≤ ((a3) : Int) := odt; have d0 : (a3) < (a0.size : Int) := odt; have e7 := bt_at a0 (a3); replace d1 := eq_true d1; replace d0 := eq_true d0))
    go_ret
    exact ⟨by first | rfl | (simp; done) | (simp only [← b1] <;> (first | rfl | simp)) | (simp [*]; done), drw⟩
   rw [if_pos b9] at H
   have e2 := beq_iff_eq.mpr b9
   have e1 := bne_eq_false_iff_eq.mpr b9
   clear b9
   have H' := am H
   clear H
   have p7 : 0 ≤ ((a3) : Int) := odt
   have q7 : (a3) < (a0.size : Int) := odt
   have d3 := bt_at a0 (a3)
   replace p7 := eq_true p7
   replace q7 := eq_true q7
   go_wp2_with (first | (go_at_call 138; (with_reducible refine (q1_digit.calls (bt a0 (a3)) false _ A8.out).mono ?_); rintro e w' ⟨rfl, ⟨nd, rfl⟩⟩; have b5 : 0 ≤ ((a3) : Int) := odt; have b4 : (a3) < (a0.size : Int) := odt; have d8 := bt_at a0 (a3); replace b5 := eq_true b5; replace b4 := eq_true b4) | (go_at_call 137; (with_reducible refine (q1_letter.calls (bt a0 (a3)) false _ e0.out).mono ?_); rintro e w' ⟨rfl, ⟨nd, rfl⟩⟩; have d1 : 0 ≤ ((a3) : Int) := odt; have d0 : (a3) < (a0.size : Int) := odt; have e7 := bt_at a0 (a3); replace d1 := eq_true d1; replace d0 := eq_true d0))
   go_roundg k1
   case measure => have := b0.out; omega
   case rel => exact ⟨(wrap64 (a5 + 1)), eqs, H', ⟨by have := b0.out; omega⟩, drw⟩
def q1_quoted.l0 : Nat → ByteArray → Int → Int → Option (Int)
 | 0, _, _, _ => none
 | k + 1, x0, x1, x5 => if (wrap64 (x1 + x5)) < (x0.size : Int) then (if 0 ≤ (wrap64 (x1 + x5)) then (if (bt x0 (wrap64 (x1 + x5))) = 34 then (some (wrap64 (x5 + 1))) else (if (bt x0 (wrap64 (x1 + x5))) < 32 then (some 0) else (if (bt x0 (wrap64 (x1 + x5))) > 126 then (some 0) else (q1_quoted.l0 k x0 x1 (wrap64 (x5 + 1)))))) else (none)) else (some 0)
def q1_quoted.f (k : Nat) (a0 : ByteArray) (a1 : Int) : Option (Int) := q1_quoted.l0 k a0 a1 1
theorem q1_quoted.calls (k : Nat) (a0 : ByteArray) (a1 : Int) (r : Int) (w : World) (h : q1_quoted.f k a0 a1 = some r) :
  Calls Tryz.prog 140 #[.string a0, .int .i64 a1] w fun e w' => e = .returned (.int .i64 r) ∧ Drawn0 w w' := by
 have H : (q1_quoted.l0 k a0 a1 1) = some r := h
 clear h
 have H' := am H
 clear H
 go_enter Tryz.func140, Tryz.ntmps140
 go_wp2
 go_loopg [5] k (fun kq v5 w' => ∃ (a6 : Int), v5 = .int .i64 a6 ∧ Aside0 (q1_quoted.l0 kq a0 a1 a6 = some r) ∧ Aside0 (kq ≤ k) ∧ Drawn0 w w')
 case atStart => exact ⟨(1), eqs, H', ⟨Nat.le_refl _⟩, drw⟩
 case round =>
  clear H'
  obtain ⟨a6, rfl, HA, b0, ⟨m1, rfl⟩⟩ := hrel
  cases gk with
  | zero => exact absurd HA.out (by simp [q1_quoted.l0])
  | succ k1 =>
   have H := HA.out
   clear HA
   simp only [q1_quoted.l0] at H
   by_cases c3 : (wrap64 (a1 + a6)) < (a0.size : Int)
   rotate_left
   ·rw [if_neg c3] at H
    have c0 := decide_eq_false c3
    clear c3
    obtain rfl := Option.some.inj H
    go_wp2
    go_ret
    exact ⟨by first | rfl | (simp; done) | (simp [*]; done), drw⟩
   rw [if_pos c3] at H
   have c0 := decide_eq_true c3
   clear c3
   obtain ⟨a4, a7⟩ : ∃ j_ : Int, (wrap64 (a1 + a6)) = j_ := ⟨_, rfl⟩
   replace H : (if 0 ≤ (a4) then (if (bt a0 (a4)) = 34 then (some (wrap64 (a6 + 1))) else (if (bt a0 (a4)) < 32 then (some 0) else (if (bt a0 (a4)) > 126 then (some 0) else (q1_quoted.l0 k1 a0 a1 (wrap64 (a6 + 1)))))) else (none)) = some r := by first | (rw [a7] at H; exact H) | (simp only [a7] at H ⊢; exact H)
   (try rw [a7] at c0)
   have hji4w : (IntKind.i64.wrap (a1 + a6)) = a4 := (i64_w _).trans a7
   obtain ⟨c5, H⟩ := itn H
   have d9 := decide_eq_true c5
   clear c5
   by_cases c7 : (bt a0 (a4)) = 34
   ·rw [if_pos c7] at H
    have g1 := beq_iff_eq.mpr c7
    have g0 := bne_eq_false_iff_eq.mpr c7
    clear c7
    obtain rfl := Option.some.inj H
    have p6 : 0 ≤ ((a4) : Int) := odt
    have q6 : (a4) < (a0.size : Int) := odt
    have d7 := bt_at a0 (a4)
    replace p6 := eq_true p6
    replace q6 := eq_true q6
    go_wp2
    go_ret
    exact ⟨by first | rfl | (simp; done) | (simp only [← a7] <;> (first | rfl | simp)) | (simp [*]; done), drw⟩
   rw [if_neg c7] at H
   have g1 := beq_eq_false_iff_ne.mpr c7
   have g0 := bne_iff_ne.mpr c7
   by_cases c8 : (bt a0 (a4)) < 32
   ·rw [if_pos c8] at H
    have e9 := decide_eq_true c8
    clear c8
    obtain rfl := Option.some.inj H
    have p6 : 0 ≤ ((a4) : Int) := odt
    have q6 : (a4) < (a0.size : Int) := odt
    have d7 := bt_at a0 (a4)
    replace p6 := eq_true p6
    replace q6 := eq_true q6
    go_wp2
    go_ret
    exact ⟨by first | rfl | (simp; done) | (simp only [← a7] <;> (first | rfl | simp)) | (simp [*]; done), drw⟩
   rw [if_neg c8] at H
   have e9 := decide_eq_false c8
   clear c8
   by_cases c9 : (bt a0 (a4)) > 126
   ·rw [if_pos c9] at H
    have e8 : decide (126 < (bt a0 (a4))) = true := decide_eq_true c9
    clear c9
    obtain rfl := Option.some.inj H
    have p6 : 0 ≤ ((a4) : Int) := odt
    have q6 : (a4) < (a0.size : Int) := odt
    have d7 := bt_at a0 (a4)
    replace p6 := eq_true p6
    replace q6 := eq_true q6
    go_wp2
    go_ret
    exact ⟨by first | rfl | (simp; done) | (simp only [← a7] <;> (first | rfl | simp)) | (simp [*]; done), drw⟩
   rw [if_neg c9] at H
   have e8 : decide (126 < (bt a0 (a4))) = false := decide_eq_false c9
   clear c9
   have H' := am H
   clear H
   have p6 : 0 ≤ ((a4) : Int) := odt
   have q6 : (a4) < (a0.size : Int) := odt
   have d7 := bt_at a0 (a4)
   replace p6 := eq_true p6
   replace q6 := eq_true q6
   go_wp2
   go_roundg k1
   case measure => have := b0.out; omega
   case rel => exact ⟨(wrap64 (a6 + 1)), eqs, H', ⟨by have := b0.out; omega⟩, drw⟩
def q1_signs.f  : Option (List ByteArray) := some (([(⟨#[45, 62]⟩ : ByteArray), (⟨#[60, 61]⟩ : ByteArray), (⟨#[62, 61]⟩ : ByteArray), (⟨#[61, 61]⟩ : ByteArray), (⟨#[33, 61]⟩ : ByteArray), (⟨#[123]⟩ : ByteArray), (⟨#[125]⟩ : ByteArray), (⟨#[40]⟩ : ByteArray), (⟨#[41]⟩ : ByteArray), (⟨#[91]⟩ : ByteArray), (⟨#[93]⟩ : ByteArray), (⟨#[44]⟩ : ByteArray), (⟨#[59]⟩ : ByteArray), (⟨#[58]⟩ : ByteArray), (⟨#[61]⟩ : ByteArray), (⟨#[43]⟩ : ByteArray), (⟨#[45]⟩ : ByteArray), (⟨#[42]⟩ : ByteArray), (⟨#[60]⟩ : ByteArray), (⟨#[62]⟩ : ByteArray), (⟨#[33]⟩ : ByteArray), (⟨#[38]⟩ : ByteArray), (⟨#[124]⟩ : ByteArray), (⟨#[46]⟩ : ByteArray), (⟨#[63]⟩ : ByteArray)] : List ByteArray))
theorem q1_signs.calls  (r : List ByteArray) (w : World) (h : q1_signs.f  = some r) :
  Calls Tryz.prog 141 #[] w fun e w' => ∃ e5 : Value, e = .returned (e5) ∧ Kd.R Kd.string 9 w' w.heap.size (fun _ => True) e5 r ∧ Below w.heap.size w w' := by
 have HB := am (Below.refl w.heap.size w)
 have H : (some (([(⟨#[45, 62]⟩ : ByteArray), (⟨#[60, 61]⟩ : ByteArray), (⟨#[62, 61]⟩ : ByteArray), (⟨#[61, 61]⟩ : ByteArray), (⟨#[33, 61]⟩ : ByteArray), (⟨#[123]⟩ : ByteArray), (⟨#[125]⟩ : ByteArray), (⟨#[40]⟩ : ByteArray), (⟨#[41]⟩ : ByteArray), (⟨#[91]⟩ : ByteArray), (⟨#[93]⟩ : ByteArray), (⟨#[44]⟩ : ByteArray), (⟨#[59]⟩ : ByteArray), (⟨#[58]⟩ : ByteArray), (⟨#[61]⟩ : ByteArray), (⟨#[43]⟩ : ByteArray), (⟨#[45]⟩ : ByteArray), (⟨#[42]⟩ : ByteArray), (⟨#[60]⟩ : ByteArray), (⟨#[62]⟩ : ByteArray), (⟨#[33]⟩ : ByteArray), (⟨#[38]⟩ : ByteArray), (⟨#[124]⟩ : ByteArray), (⟨#[46]⟩ : ByteArray), (⟨#[63]⟩ : ByteArray)] : List ByteArray))) = some r := h
 clear h
 obtain ⟨e6, d6⟩ := leq (α := List ByteArray) (([(⟨#[45, 62]⟩ : ByteArray), (⟨#[60, 61]⟩ : ByteArray), (⟨#[62, 61]⟩ : ByteArray), (⟨#[61, 61]⟩ : ByteArray), (⟨#[33, 61]⟩ : ByteArray), (⟨#[123]⟩ : ByteArray), (⟨#[125]⟩ : ByteArray), (⟨#[40]⟩ : ByteArray), (⟨#[41]⟩ : ByteArray), (⟨#[91]⟩ : ByteArray), (⟨#[93]⟩ : ByteArray), (⟨#[44]⟩ : ByteArray), (⟨#[59]⟩ : ByteArray), (⟨#[58]⟩ : ByteArray), (⟨#[61]⟩ : ByteArray), (⟨#[43]⟩ : ByteArray), (⟨#[45]⟩ : ByteArray), (⟨#[42]⟩ : ByteArray), (⟨#[60]⟩ : ByteArray), (⟨#[62]⟩ : ByteArray), (⟨#[33]⟩ : ByteArray), (⟨#[38]⟩ : ByteArray), (⟨#[124]⟩ : ByteArray), (⟨#[46]⟩ : ByteArray), (⟨#[63]⟩ : ByteArray)] : List ByteArray))
 rw [← d6.out] at H
 obtain rfl := Option.some.inj H
 go_enter Tryz.func141, Tryz.ntmps141
 go_wp2_with ((with_reducible refine gate_dst (N := 1) rfl ?_); refine Kd.R_lit Kd.string _ 9 ?hg (N := 1) ?hd (xs := ([(⟨#[45, 62]⟩ : ByteArray), (⟨#[60, 61]⟩ : ByteArray), (⟨#[62, 61]⟩ : ByteArray), (⟨#[61, 61]⟩ : ByteArray), (⟨#[33, 61]⟩ : ByteArray), (⟨#[123]⟩ : ByteArray), (⟨#[125]⟩ : ByteArray), (⟨#[40]⟩ : ByteArray), (⟨#[41]⟩ : ByteArray), (⟨#[91]⟩ : ByteArray), (⟨#[93]⟩ : ByteArray), (⟨#[44]⟩ : ByteArray), (⟨#[59]⟩ : ByteArray), (⟨#[58]⟩ : ByteArray), (⟨#[61]⟩ : ByteArray), (⟨#[43]⟩ : ByteArray), (⟨#[45]⟩ : ByteArray), (⟨#[42]⟩ : ByteArray), (⟨#[60]⟩ : ByteArray), (⟨#[62]⟩ : ByteArray), (⟨#[33]⟩ : ByteArray), (⟨#[38]⟩ : ByteArray), (⟨#[124]⟩ : ByteArray), (⟨#[46]⟩ : ByteArray), (⟨#[63]⟩ : ByteArray)] : List ByteArray)) (inner := [.string (⟨#[45, 62]⟩ : ByteArray), .string (⟨#[60, 61]⟩ : ByteArray), .string (⟨#[62, 61]⟩ : ByteArray), .string (⟨#[61, 61]⟩ : ByteArray), .string (⟨#[33, 61]⟩ : ByteArray), .string (⟨#[123]⟩ : ByteArray), .string (⟨#[125]⟩ : ByteArray), .string (⟨#[40]⟩ : ByteArray), .string (⟨#[41]⟩ : ByteArray), .string (⟨#[91]⟩ : ByteArray), .string (⟨#[93]⟩ : ByteArray), .string (⟨#[44]⟩ : ByteArray), .string (⟨#[59]⟩ : ByteArray), .string (⟨#[58]⟩ : ByteArray), .string (⟨#[61]⟩ : ByteArray), .string (⟨#[43]⟩ : ByteArray), .string (⟨#[45]⟩ : ByteArray), .string (⟨#[42]⟩ : ByteArray), .string (⟨#[60]⟩ : ByteArray), .string (⟨#[62]⟩ : ByteArray), .string (⟨#[33]⟩ : ByteArray), .string (⟨#[38]⟩ : ByteArray), .string (⟨#[124]⟩ : ByteArray), .string (⟨#[46]⟩ : ByteArray), .string (⟨#[63]⟩ : ByteArray)]) (ok := fun _ => True) (okp := fun _ => True) ?hr ?hp (fun _ hk => hk) trivial (Below.refl _ _) (Nat.le_refl _) (by simp) ?_; (case hd => rfl); (case hg => rfl); (case hr => first | (go_simp; done) | (go_simp; rfl)); (case hp => exact (Reps.one (show Kd.M Kd.string _ _ _ (⟨#[45, 62]⟩ : ByteArray) [.string (⟨#[45, 62]⟩ : ByteArray)] from rfl) (Reps.one (show Kd.M Kd.string _ _ _ (⟨#[60, 61]⟩ : ByteArray) [.string (⟨#[60, 61]⟩ : ByteArray)] from rfl) (Reps.one (show Kd.M Kd.string _ _ _ (⟨#[62, 61]⟩ : ByteArray) [.string (⟨#[62, 61]⟩ : ByteArray)] from rfl) (Reps.one (show Kd.M Kd.string _ _ _ (⟨#[61, 61]⟩ : ByteArray) [.string (⟨#[61, 61]⟩ : ByteArray)] from rfl) (Reps.one (show Kd.M Kd.string _ _ _ (⟨#[33, 61]⟩ : ByteArray) [.string (⟨#[33, 61]⟩ : ByteArray)] from rfl) (Reps.one (show Kd.M Kd.string _ _ _ (⟨#[123]⟩ : ByteArray) [.string (⟨#[123]⟩ : ByteArray)] from rfl) (Reps.one (show Kd.M Kd.string _ _ _ (⟨#[125]⟩ : ByteArray) [.string (⟨#[125]⟩ : ByteArray)] from rfl) (Reps.one (show Kd.M Kd.string _ _ _ (⟨#[40]⟩ : ByteArray) [.string (⟨#[40]⟩ : ByteArray)] from rfl) (Reps.one (show Kd.M Kd.string _ _ _ (⟨#[41]⟩ : ByteArray) [.string (⟨#[41]⟩ : ByteArray)] from rfl) (Reps.one (show Kd.M Kd.string _ _ _ (⟨#[91]⟩ : ByteArray) [.string (⟨#[91]⟩ : ByteArray)] from rfl) (Reps.one (show Kd.M Kd.string _ _ _ (⟨#[93]⟩ : ByteArray) [.string (⟨#[93]⟩ : ByteArray)] from rfl) (Reps.one (show Kd.M Kd.string _ _ _ (⟨#[44]⟩ : ByteArray) [.string (⟨#[44]⟩ : ByteArray)] from rfl) (Reps.one (show Kd.M Kd.string _ _ _ (⟨#[59]⟩ : ByteArray) [.string (⟨#[59]⟩ : ByteArray)] from rfl) (Reps.one (show Kd.M Kd.string _ _ _ (⟨#[58]⟩ : ByteArray) [.string (⟨#[58]⟩ : ByteArray)] from rfl) (Reps.one (show Kd.M Kd.string _ _ _ (⟨#[61]⟩ : ByteArray) [.string (⟨#[61]⟩ : ByteArray)] from rfl) (Reps.one (show Kd.M Kd.string _ _ _ (⟨#[43]⟩ : ByteArray) [.string (⟨#[43]⟩ : ByteArray)] from rfl) (Reps.one (show Kd.M Kd.string _ _ _ (⟨#[45]⟩ : ByteArray) [.string (⟨#[45]⟩ : ByteArray)] from rfl) (Reps.one (show Kd.M Kd.string _ _ _ (⟨#[42]⟩ : ByteArray) [.string (⟨#[42]⟩ : ByteArray)] from rfl) (Reps.one (show Kd.M Kd.string _ _ _ (⟨#[60]⟩ : ByteArray) [.string (⟨#[60]⟩ : ByteArray)] from rfl) (Reps.one (show Kd.M Kd.string _ _ _ (⟨#[62]⟩ : ByteArray) [.string (⟨#[62]⟩ : ByteArray)] from rfl) (Reps.one (show Kd.M Kd.string _ _ _ (⟨#[33]⟩ : ByteArray) [.string (⟨#[33]⟩ : ByteArray)] from rfl) (Reps.one (show Kd.M Kd.string _ _ _ (⟨#[38]⟩ : ByteArray) [.string (⟨#[38]⟩ : ByteArray)] from rfl) (Reps.one (show Kd.M Kd.string _ _ _ (⟨#[124]⟩ : ByteArray) [.string (⟨#[124]⟩ : ByteArray)] from rfl) (Reps.one (show Kd.M Kd.string _ _ _ (⟨#[46]⟩ : ByteArray) [.string (⟨#[46]⟩ : ByteArray)] from rfl) (Reps.one (show Kd.M Kd.string _ _ _ (⟨#[63]⟩ : ByteArray) [.string (⟨#[63]⟩ : ByteArray)] from rfl) (Reps.none _ _))))))))))))))))))))))))))); intro h1 w1 d2 hb hg_ hnew_; clear hg_ hnew_; (first | rw [← d6.out] at d2 | (simp only [Int.reduceToNat] at d2; rw [← d6.out] at d2)); have e3 := am (Kd.R_lower d2 (below_size (bb HB))); replace HB := bstep HB hb; clear hb d2)
 go_ret
 exact ⟨_, erf, kR e3, bb HB⟩
mutual
def q1_one.j0 : Nat → ByteArray → Int → Int → Bool → Option (Int × ByteArray × Int × Int × Int)
 | 0, _, _, _, _ => none
 | k + 1, x0, x1, x7, t4 => if t4 = true then ((q1_digit.f x7).bind fun b3 => ((q1_run.f k x0 x1 b3).bind fun a6 => ((q1_digit.f x7).bind fun e6 => (if e6 = true then (if a6 > 9 then (some (0, (⟨#[]⟩ : ByteArray), 0, 0, 3)) else (if 0 ≤ x1 then (if x1 ≤ (wrap64 (x1 + a6)) then (if (wrap64 (x1 + a6)) ≤ (x0.size : Int) then (some (2, x0.extract (x1 : Int).toNat ((wrap64 (x1 + a6)) : Int).toNat, 0, a6, 0)) else (none)) else (none)) else (none))) else (if a6 > 20 then (some (0, (⟨#[]⟩ : ByteArray), 0, 0, 3)) else (if 0 ≤ x1 then (if x1 ≤ (wrap64 (x1 + a6)) then (if (wrap64 (x1 + a6)) ≤ (x0.size : Int) then (some (1, x0.extract (x1 : Int).toNat ((wrap64 (x1 + a6)) : Int).toNat, 0, a6, 0)) else (none)) else (none)) else (none))))))) else (if x7 = 34 then ((q1_quoted.f k x0 x1).bind fun b0 => (if b0 = 0 then (some (0, (⟨#[]⟩ : ByteArray), 0, 0, 2)) else (if (wrap64 (b0 - 2)) > 60 then (some (0, (⟨#[]⟩ : ByteArray), 0, 0, 3)) else (if 0 ≤ (wrap64 (x1 + 1)) then (if (wrap64 (x1 + 1)) ≤ (wrap64 ((wrap64 (x1 + b0)) - 1)) then (if (wrap64 ((wrap64 (x1 + b0)) - 1)) ≤ (x0.size : Int) then (some (3, x0.extract ((wrap64 (x1 + 1)) : Int).toNat ((wrap64 ((wrap64 (x1 + b0)) - 1)) : Int).toNat, 0, b0, 0)) else (none)) else (none)) else (none))))) else ((q1_signs.f).bind fun a5 => (q1_one.l0 k x0 x1 a5 0)))
def q1_one.l0 : Nat → ByteArray → Int → List ByteArray → Int → Option (Int × ByteArray × Int × Int × Int)
 | 0, _, _, _, _ => none
 | k + 1, x0, x1, c5, b8 => if b8 < (c5.length : Int) then (if 0 ≤ b8 then (if (wrap64 (x1 + ((rdOf ByteArray.empty c5 b8).size : Int))) ≤ (x0.size : Int) then (if 0 ≤ x1 then (if x1 ≤ (wrap64 (x1 + ((rdOf ByteArray.empty c5 b8).size : Int))) then (if (x0.extract (x1 : Int).toNat ((wrap64 (x1 + ((rdOf ByteArray.empty c5 b8).size : Int))) : Int).toNat).toList = (rdOf ByteArray.empty c5 b8).toList then (some (4, rdOf ByteArray.empty c5 b8, 0, ((rdOf ByteArray.empty c5 b8).size : Int), 0)) else (q1_one.l0 k x0 x1 c5 (wrap64 (b8 + 1)))) else (none)) else (none)) else (q1_one.l0 k x0 x1 c5 (wrap64 (b8 + 1)))) else (none)) else (some (0, (⟨#[]⟩ : ByteArray), 0, 0, 2))
end
def q1_one.f (k : Nat) (a0 : ByteArray) (a1 : Int) : Option (Int × ByteArray × Int × Int × Int) := if 0 ≤ a1 then (if a1 < (a0.size : Int) then ((q1_letter.f (bt a0 a1)).bind fun d3 => (if d3 = true then (q1_one.j0 k a0 a1 (bt a0 a1) true) else ((q1_digit.f (bt a0 a1)).bind fun c8 => (q1_one.j0 k a0 a1 (bt a0 a1) c8)))) else (none)) else (none)
def q1_one.T21 : Bool × List (List Nat × List Nat) := (true, [([], []), ([], []), ([], []), ([1, 2], [1, 2]), ([3], [3]), ([4], [4]), ([0, 5], [0, 5]), ([], []), ([7], [7]), ([6, 8], [6, 8]), ([9], [9]), ([10], [10]), ([10], [10]), ([10], [10]), ([10], [10]), ([10], [10]), ([14, 15, 10], [10, 14, 15]), ([16, 10], [10, 16]), ([17, 10], [10, 17]), ([13, 18, 10], [10, 13, 18]), ([11, 12, 19, 10], [10, 11, 12, 19]), ([10], [10]), ([10], [10]), ([21, 22, 10], [10, 21, 22]), ([23, 10], [10, 23]), ([20, 24, 10], [10, 20, 24]), ([10, 25], [10, 25])])
def q1_one.B21 : List Nat := [0, 0, 0, 6, 14, 30, 63, 0, 128, 511, 1023, 2047, 2047, 2047, 2047, 2047, 51199, 116735, 247807, 518143, 1048575, 2047, 2047, 6293503, 14682111, 33554431, 67108863]
theorem q1_one.tab21 : rtab .any (opsOf Tryz.f128 21) = q1_one.T21 := by kernel_rfl
theorem q1_one.bits21 : waitsOk q1_one.T21.2 q1_one.B21 = true := by kernel_rfl
def q1_one.T22 : Bool × List (List Nat × List Nat) := (true, [([], []), ([], []), ([0, 1], [0, 1]), ([2], [2]), ([3], [3]), ([], []), ([], []), ([5, 6], [5, 6]), ([7], [7]), ([8], [8]), ([4, 0, 1, 2, 3, 4], [4]), ([9, 10, 0, 1, 2, 3, 4, 5, 6, 7, 8, 9, 10], [9]), ([11, 0, 1, 2, 3, 4, 5, 6, 7, 8, 9, 10, 11], [])])
def q1_one.B22 : List Nat := [0, 0, 3, 7, 15, 0, 0, 96, 224, 480, 31, 2047, 4095]
theorem q1_one.tab22 : rtab .any (opsOf Tryz.f128 22) = q1_one.T22 := by kernel_rfl
theorem q1_one.bits22 : waitsOk q1_one.T22.2 q1_one.B22 = true := by kernel_rfl
theorem q1_one.calls (k : Nat) (a0 : ByteArray) (a1 : Int) (r1 : Int) (r2 : ByteArray) (r3 : Int) (r4 : Int) (r5 : Int) (w : World) (h : q1_one.f k a0 a1 = some (r1, r2, r3, r4, r5)) :
  Calls Tryz.prog 128 #[.string a0, .int .i64 a1] w fun e w' => e = .returned (.tuple #[.agg #[.int .i64 r1, .string r2, .int .i64 r3], .int .i64 r4, .int .i64 r5]) ∧ Below w.heap.size w w' := by
 have hu142 := Tryz.underlying142
 have HB := am (Below.refl w.heap.size w)
 have H : (if 0 ≤ a1 then (if a1 < (a0.size : Int) then ((q1_letter.f (bt a0 a1)).bind fun d3 => (if d3 = true then (q1_one.j0 k a0 a1 (bt a0 a1) true) else ((q1_digit.f (bt a0 a1)).bind fun c8 => (q1_one.j0 k a0 a1 (bt a0 a1) c8)))) else (none)) else (none)) = some (r1, r2, r3, r4, r5) := h
 clear h
 obtain ⟨c3, H⟩ := itn H
 have n5 := decide_eq_true c3
 clear c3
 obtain ⟨c4, H⟩ := itn H
 have n4 := decide_eq_true c4
 clear c4
 have j2 := am H
 clear H
 go_enter Tryz.func128, Tryz.ntmps128
 go_upto_region 2 with ((with_reducible refine gate_dst (N := 4) rfl ?_); (try (refine gate_guard (by rfl) ?_; dsimp only)); refine be 4 #[.int .i64 0, .string (⟨#[]⟩ : ByteArray), .int .i64 0] 142 ?_; intro a4 hg w7 hbox hb; have a2 := am (hbox); have y4 := bsz HB hg; replace HB := bstep HB hb; clear hb hbox hg; have p5 : 0 ≤ a1 := odt; have q5 : a1 < (a0.size : Int) := odt; have t8 := bt_at a0 a1; replace p5 := eq_true p5; replace q5 := eq_true q5)
 (try simp only [Act.put, List.setIfInBounds_toArray, List.set_cons_zero, List.set_cons_succ])
 go_cut [22] (fun t6 wc => ∃ (kq : Nat) (d2 : Bool), t6 = .bool d2 ∧ Aside0 (q1_one.j0 kq a0 a1 (bt a0 a1) d2 = some (r1, r2, r3, r4, r5)) ∧ Aside0 (kq ≤ k) ∧ Aside0 (wc.heap[a4]? = some (.cells #[.int .i64 0, .string (⟨#[]⟩ : ByteArray), .int .i64 0] 142 (0, 0))) ∧ Aside0 (Below w.heap.size w wc))
 case first =>
  have H := j2.out
  clear j2
  obtain ⟨d3, A8, H⟩ := obA H
  by_cases c9 : d3 = true
  ·subst c9
   replace H := ift H
   have H' := am H
   clear H
   go_wp2_with ((with_reducible refine gate_callee (f := 137) rfl ?_); refine gl 18 Tryz.func137 #[.int .u8 (bt a0 a1)] (h := ?_); (with_reducible refine (q1_letter.calls (bt a0 a1) true _ A8.out).mono ?_); rintro e w' ⟨rfl, ⟨nd, rfl⟩⟩; refine ⟨_, rfl, ?_⟩)
   go_meet
   case rel => exact ⟨_, (true), eqs, H', ⟨by first | omega | exact Nat.le_refl _⟩, ⟨bk a2⟩, ⟨bb HB⟩⟩
  replace c9 := Bool.eq_false_iff.mpr c9
  subst c9
  replace H := iff_ H
  obtain ⟨c8, v0, H⟩ := obA H
  have H' := am H
  clear H
  go_wp2_with (first | ((with_reducible refine gate_callee (f := 137) rfl ?_); refine gl 18 Tryz.func137 #[.int .u8 (bt a0 a1)] (h := ?_); (with_reducible refine (q1_letter.calls (bt a0 a1) false _ A8.out).mono ?_); rintro e w' ⟨rfl, ⟨nd, rfl⟩⟩; refine ⟨_, rfl, ?_⟩) | (go_at_call 138; (with_reducible refine (q1_digit.calls (bt a0 a1) c8 _ v0.out).mono ?_); rintro e w' ⟨rfl, ⟨nd, rfl⟩⟩))
  go_meet
  case rel => exact ⟨_, (c8), eqs, H', ⟨by first | omega | exact Nat.le_refl _⟩, ⟨bk a2⟩, ⟨bb HB⟩⟩
 case rest =>
  clear j2
  clear n5
  clear n4
  clear p5
  clear q5
  clear t8
  obtain ⟨kq, d2, rfl, HA, h1, a2, HB⟩ := hcut
  cases kq with
  | zero => exact absurd HA.out (by simp [q1_one.j0])
  | succ c6 =>
   have H := HA.out
   clear HA
   simp only [q1_one.j0] at H
   by_cases g9 : d2 = true
   ·subst g9
    replace H := ift H
    obtain ⟨b3, h5, H⟩ := obA H
    obtain ⟨a6, h4, H⟩ := obA H
    obtain ⟨e6, h3, H⟩ := obA H
    by_cases g8 : e6 = true
    ·subst g8
     replace H := ift H
     by_cases e3 : a6 > 9
     ·rw [if_pos e3] at H
      have m1 : decide (9 < a6) = true := decide_eq_true e3
      clear e3
      simp only [Option.some.injEq, Prod.mk.injEq] at H
      obtain ⟨rfl, rfl, rfl, rfl, rfl⟩ := H
      go_wp2_with (first | ((with_reducible refine gate_callee (f := 138) rfl ?_); refine gl 26 Tryz.func138 #[.int .u8 (bt a0 a1)] (h := ?_); (with_reducible refine (q1_digit.calls (bt a0 a1) b3 _ h5.out).mono ?_); rintro e w' ⟨rfl, ⟨nd, rfl⟩⟩; refine ⟨_, rfl, ?_⟩; (try (rw [drewN_self wc]; generalize hq_ : World.drewN wc _ = wc; replace a2 : Aside0 (wc.heap[a4]? = some (.cells #[.int .i64 0, .string (⟨#[]⟩ : ByteArray), .int .i64 0] 142 (0, 0))) := ⟨by rw [← hq_]; exact (bk a2)⟩; replace HB : Aside0 (Below w.heap.size w wc) := ⟨by rw [← hq_]; exact (bb HB)⟩; clear hq_))) | ((with_reducible refine gate_callee (f := 139) rfl ?_); refine gl 27 Tryz.func139 #[.string a0, .int .i64 a1, .bool b3] (h := ?_); (with_reducible refine (q1_run.calls c6 a0 a1 b3 a6 _ h4.out).mono ?_); rintro e w' ⟨rfl, ⟨nd, rfl⟩⟩; refine ⟨_, rfl, ?_⟩; (try (rw [drewN_self wc]; generalize hq_ : World.drewN wc _ = wc; replace a2 : Aside0 (wc.heap[a4]? = some (.cells #[.int .i64 0, .string (⟨#[]⟩ : ByteArray), .int .i64 0] 142 (0, 0))) := ⟨by rw [← hq_]; exact (bk a2)⟩; replace HB : Aside0 (Below w.heap.size w wc) := ⟨by rw [← hq_]; exact (bb HB)⟩; clear hq_))) | ((with_reducible refine gate_callee (f := 138) rfl ?_); refine gl 29 Tryz.func138 #[.int .u8 (bt a0 a1)] (h := ?_); (with_reducible refine (q1_digit.calls (bt a0 a1) true _ h3.out).mono ?_); rintro e w' ⟨rfl, ⟨nd, rfl⟩⟩; refine ⟨_, rfl, ?_⟩; (try (rw [drewN_self wc]; generalize hq_ : World.drewN wc _ = wc; replace a2 : Aside0 (wc.heap[a4]? = some (.cells #[.int .i64 0, .string (⟨#[]⟩ : ByteArray), .int .i64 0] 142 (0, 0))) := ⟨by rw [← hq_]; exact (bk a2)⟩; replace HB : Aside0 (Below w.heap.size w wc) := ⟨by rw [← hq_]; exact (bb HB)⟩; clear hq_)); obtain ⟨t3, t2, t1, q0, p9, p8⟩ := cz3 a2))
      refine bodyPost_ret (results_ctt rfl _ _ a4 142 #[.int .i64 0, .string (⟨#[]⟩ : ByteArray), .int .i64 0] (0, 0) _ rfl (by (with_reducible repeat (first | refine dN ?_ _ | refine dR ?_ | refine dA ?_ _)); refine blk_put (cs := #[.int .i64 0, .string (⟨#[]⟩ : ByteArray), .int .i64 0]) ?_ 2 _ rfl; refine blk_put (cs := #[.int .i64 0, .string (⟨#[]⟩ : ByteArray), .int .i64 0]) ?_ 1 _ rfl; refine blk_put (cs := #[.int .i64 0, .string (⟨#[]⟩ : ByteArray), .int .i64 0]) ?_ 0 _ rfl; (with_reducible repeat (first | refine dN ?_ _ | refine dR ?_ | refine dA ?_ _)); exact a2.out) Tryz.underlying142 rfl (by kernel_rfl)) rfl ?_
      exact ⟨erf, bb HB⟩
     rw [if_neg e3] at H
     have m1 : decide (9 < a6) = false := decide_eq_false e3
     clear e3
     obtain ⟨j1, H⟩ := itn H
     have y3 := eq_true j1
     have y2 := decide_eq_true j1
     clear j1
     obtain ⟨n0, H⟩ := itn H
     have y1 := eq_true n0
     have y0 := decide_eq_true n0
     by_cases g7 : (wrap64 (a1 + a6)) ≤ (a0.size : Int)
     ·rw [if_pos g7] at H
      have x9 := eq_true g7
      have x8 := decide_eq_true g7
      simp only [Option.some.injEq, Prod.mk.injEq] at H
      obtain ⟨rfl, rfl, rfl, rfl, rfl⟩ := H
      go_wp2_with (first | ((with_reducible refine gate_callee (f := 138) rfl ?_); refine gl 26 Tryz.func138 #[.int .u8 (bt a0 a1)] (h := ?_); (with_reducible refine (q1_digit.calls (bt a0 a1) b3 _ h5.out).mono ?_); rintro e w' ⟨rfl, ⟨nd, rfl⟩⟩; refine ⟨_, rfl, ?_⟩; (try (rw [drewN_self wc]; generalize hq_ : World.drewN wc _ = wc; replace a2 : Aside0 (wc.heap[a4]? = some (.cells #[.int .i64 0, .string (⟨#[]⟩ : ByteArray), .int .i64 0] 142 (0, 0))) := ⟨by rw [← hq_]; exact (bk a2)⟩; replace HB : Aside0 (Below w.heap.size w wc) := ⟨by rw [← hq_]; exact (bb HB)⟩; clear hq_))) | ((with_reducible refine gate_callee (f := 139) rfl ?_); refine gl 27 Tryz.func139 #[.string a0, .int .i64 a1, .bool b3] (h := ?_); (with_reducible refine (q1_run.calls c6 a0 a1 b3 a6 _ h4.out).mono ?_); rintro e w' ⟨rfl, ⟨nd, rfl⟩⟩; refine ⟨_, rfl, ?_⟩; (try (rw [drewN_self wc]; generalize hq_ : World.drewN wc _ = wc; replace a2 : Aside0 (wc.heap[a4]? = some (.cells #[.int .i64 0, .string (⟨#[]⟩ : ByteArray), .int .i64 0] 142 (0, 0))) := ⟨by rw [← hq_]; exact (bk a2)⟩; replace HB : Aside0 (Below w.heap.size w wc) := ⟨by rw [← hq_]; exact (bb HB)⟩; clear hq_))) | ((with_reducible refine gate_callee (f := 138) rfl ?_); refine gl 29 Tryz.func138 #[.int .u8 (bt a0 a1)] (h := ?_); (with_reducible refine (q1_digit.calls (bt a0 a1) true _ h3.out).mono ?_); rintro e w' ⟨rfl, ⟨nd, rfl⟩⟩; refine ⟨_, rfl, ?_⟩; (try (rw [drewN_self wc]; generalize hq_ : World.drewN wc _ = wc; replace a2 : Aside0 (wc.heap[a4]? = some (.cells #[.int .i64 0, .string (⟨#[]⟩ : ByteArray), .int .i64 0] 142 (0, 0))) := ⟨by rw [← hq_]; exact (bk a2)⟩; replace HB : Aside0 (Below w.heap.size w wc) := ⟨by rw [← hq_]; exact (bb HB)⟩; clear hq_)); obtain ⟨t0, s9, s8, p7, p6, p4⟩ := cz3 a2))
      refine bodyPost_ret (results_ctt rfl _ _ a4 142 #[.int .i64 2, .string (a0.extract (a1 : Int).toNat ((wrap64 (a1 + a6)) : Int).toNat), .int .i64 0] (0, 0) _ rfl (by (with_reducible repeat (first | refine dN ?_ _ | refine dR ?_ | refine dA ?_ _)); refine blk_put (cs := #[.int .i64 2, .string (a0.extract (a1 : Int).toNat ((wrap64 (a1 + a6)) : Int).toNat), .int .i64 0]) ?_ 2 _ rfl; refine blk_put (cs := #[.int .i64 2, .string (⟨#[]⟩ : ByteArray), .int .i64 0]) ?_ 1 _ rfl; refine blk_put (cs := #[.int .i64 0, .string (⟨#[]⟩ : ByteArray), .int .i64 0]) ?_ 0 _ rfl; (with_reducible repeat (first | refine dN ?_ _ | refine dR ?_ | refine dA ?_ _)); exact a2.out) Tryz.underlying142 rfl (by kernel_rfl)) rfl ?_
      exact ⟨erf, bb HB⟩
     ·rw [if_neg g7] at H
      exact absurd H (by simp)
    replace g8 := Bool.eq_false_iff.mpr g8
    subst g8
    replace H := iff_ H
    by_cases e2 : a6 > 20
    ·rw [if_pos e2] at H
     have m0 : decide (20 < a6) = true := decide_eq_true e2
     clear e2
     simp only [Option.some.injEq, Prod.mk.injEq] at H
     obtain ⟨rfl, rfl, rfl, rfl, rfl⟩ := H
     go_wp2_with (first | ((with_reducible refine gate_callee (f := 138) rfl ?_); refine gl 26 Tryz.func138 #[.int .u8 (bt a0 a1)] (h := ?_); (with_reducible refine (q1_digit.calls (bt a0 a1) b3 _ h5.out).mono ?_); rintro e w' ⟨rfl, ⟨nd, rfl⟩⟩; refine ⟨_, rfl, ?_⟩; (try (rw [drewN_self wc]; generalize hq_ : World.drewN wc _ = wc; replace a2 : Aside0 (wc.heap[a4]? = some (.cells #[.int .i64 0, .string (⟨#[]⟩ : ByteArray), .int .i64 0] 142 (0, 0))) := ⟨by rw [← hq_]; exact (bk a2)⟩; replace HB : Aside0 (Below w.heap.size w wc) := ⟨by rw [← hq_]; exact (bb HB)⟩; clear hq_))) | ((with_reducible refine gate_callee (f := 139) rfl ?_); refine gl 27 Tryz.func139 #[.string a0, .int .i64 a1, .bool b3] (h := ?_); (with_reducible refine (q1_run.calls c6 a0 a1 b3 a6 _ h4.out).mono ?_); rintro e w' ⟨rfl, ⟨nd, rfl⟩⟩; refine ⟨_, rfl, ?_⟩; (try (rw [drewN_self wc]; generalize hq_ : World.drewN wc _ = wc; replace a2 : Aside0 (wc.heap[a4]? = some (.cells #[.int .i64 0, .string (⟨#[]⟩ : ByteArray), .int .i64 0] 142 (0, 0))) := ⟨by rw [← hq_]; exact (bk a2)⟩; replace HB : Aside0 (Below w.heap.size w wc) := ⟨by rw [← hq_]; exact (bb HB)⟩; clear hq_))) | ((with_reducible refine gate_callee (f := 138) rfl ?_); refine gl 29 Tryz.func138 #[.int .u8 (bt a0 a1)] (h := ?_); (with_reducible refine (q1_digit.calls (bt a0 a1) false _ h3.out).mono ?_); rintro e w' ⟨rfl, ⟨nd, rfl⟩⟩; refine ⟨_, rfl, ?_⟩; (try (rw [drewN_self wc]; generalize hq_ : World.drewN wc _ = wc; replace a2 : Aside0 (wc.heap[a4]? = some (.cells #[.int .i64 0, .string (⟨#[]⟩ : ByteArray), .int .i64 0] 142 (0, 0))) := ⟨by rw [← hq_]; exact (bk a2)⟩; replace HB : Aside0 (Below w.heap.size w wc) := ⟨by rw [← hq_]; exact (bb HB)⟩; clear hq_)); obtain ⟨s7, s6, s5, p3, p2, p1⟩ := cz3 a2))
     refine bodyPost_ret (results_ctt rfl _ _ a4 142 #[.int .i64 0, .string (⟨#[]⟩ : ByteArray), .int .i64 0] (0, 0) _ rfl (by (with_reducible repeat (first | refine dN ?_ _ | refine dR ?_ | refine dA ?_ _)); refine blk_put (cs := #[.int .i64 0, .string (⟨#[]⟩ : ByteArray), .int .i64 0]) ?_ 2 _ rfl; refine blk_put (cs := #[.int .i64 0, .string (⟨#[]⟩ : ByteArray), .int .i64 0]) ?_ 1 _ rfl; refine blk_put (cs := #[.int .i64 0, .string (⟨#[]⟩ : ByteArray), .int .i64 0]) ?_ 0 _ rfl; (with_reducible repeat (first | refine dN ?_ _ | refine dR ?_ | refine dA ?_ _)); exact a2.out) Tryz.underlying142 rfl (by kernel_rfl)) rfl ?_
     exact ⟨erf, bb HB⟩
    rw [if_neg e2] at H
    have m0 : decide (20 < a6) = false := decide_eq_false e2
    clear e2
    obtain ⟨h9, H⟩ := itn H
    have x6 := eq_true h9
    have x5 := decide_eq_true h9
    clear h9
    obtain ⟨m9, H⟩ := itn H
    have x4 := eq_true m9
    have x2 := decide_eq_true m9
    by_cases g6 : (wrap64 (a1 + a6)) ≤ (a0.size : Int)
    ·rw [if_pos g6] at H
     have w9 := eq_true g6
     have w8 := decide_eq_true g6
     simp only [Option.some.injEq, Prod.mk.injEq] at H
     obtain ⟨rfl, rfl, rfl, rfl, rfl⟩ := H
     go_wp2_with (first | ((with_reducible refine gate_callee (f := 138) rfl ?_); refine gl 26 Tryz.func138 #[.int .u8 (bt a0 a1)] (h := ?_); (with_reducible refine (q1_digit.calls (bt a0 a1) b3 _ h5.out).mono ?_); rintro e w' ⟨rfl, ⟨nd, rfl⟩⟩; refine ⟨_, rfl, ?_⟩; (try (rw [drewN_self wc]; generalize hq_ : World.drewN wc _ = wc; replace a2 : Aside0 (wc.heap[a4]? = some (.cells #[.int .i64 0, .string (⟨#[]⟩ : ByteArray), .int .i64 0] 142 (0, 0))) := ⟨by rw [← hq_]; exact (bk a2)⟩; replace HB : Aside0 (Below w.heap.size w wc) := ⟨by rw [← hq_]; exact (bb HB)⟩; clear hq_))) | ((with_reducible refine gate_callee (f := 139) rfl ?_); refine gl 27 Tryz.func139 #[.string a0, .int .i64 a1, .bool b3] (h := ?_); (with_reducible refine (q1_run.calls c6 a0 a1 b3 a6 _ h4.out).mono ?_); rintro e w' ⟨rfl, ⟨nd, rfl⟩⟩; refine ⟨_, rfl, ?_⟩; (try (rw [drewN_self wc]; generalize hq_ : World.drewN wc _ = wc; replace a2 : Aside0 (wc.heap[a4]? = some (.cells #[.int .i64 0, .string (⟨#[]⟩ : ByteArray), .int .i64 0] 142 (0, 0))) := ⟨by rw [← hq_]; exact (bk a2)⟩; replace HB : Aside0 (Below w.heap.size w wc) := ⟨by rw [← hq_]; exact (bb HB)⟩; clear hq_))) | ((with_reducible refine gate_callee (f := 138) rfl ?_); refine gl 29 Tryz.func138 #[.int .u8 (bt a0 a1)] (h := ?_); (with_reducible refine (q1_digit.calls (bt a0 a1) false _ h3.out).mono ?_); rintro e w' ⟨rfl, ⟨nd, rfl⟩⟩; refine ⟨_, rfl, ?_⟩; (try (rw [drewN_self wc]; generalize hq_ : World.drewN wc _ = wc; replace a2 : Aside0 (wc.heap[a4]? = some (.cells #[.int .i64 0, .string (⟨#[]⟩ : ByteArray), .int .i64 0] 142 (0, 0))) := ⟨by rw [← hq_]; exact (bk a2)⟩; replace HB : Aside0 (Below w.heap.size w wc) := ⟨by rw [← hq_]; exact (bb HB)⟩; clear hq_)); obtain ⟨s4, s3, r9, p0, o9, o8⟩ := cz3 a2))
     refine bodyPost_ret (results_ctt rfl _ _ a4 142 #[.int .i64 1, .string (a0.extract (a1 : Int).toNat ((wrap64 (a1 + a6)) : Int).toNat), .int .i64 0] (0, 0) _ rfl (by (with_reducible repeat (first | refine dN ?_ _ | refine dR ?_ | refine dA ?_ _)); refine blk_put (cs := #[.int .i64 1, .string (a0.extract (a1 : Int).toNat ((wrap64 (a1 + a6)) : Int).toNat), .int .i64 0]) ?_ 2 _ rfl; refine blk_put (cs := #[.int .i64 1, .string (⟨#[]⟩ : ByteArray), .int .i64 0]) ?_ 1 _ rfl; refine blk_put (cs := #[.int .i64 0, .string (⟨#[]⟩ : ByteArray), .int .i64 0]) ?_ 0 _ rfl; (with_reducible repeat (first | refine dN ?_ _ | refine dR ?_ | refine dA ?_ _)); exact a2.out) Tryz.underlying142 rfl (by kernel_rfl)) rfl ?_
     exact ⟨erf, bb HB⟩
    ·rw [if_neg g6] at H
     exact absurd H (by simp)
   replace g9 := Bool.eq_false_iff.mpr g9
   subst g9
   replace H := iff_ H
   by_cases d1 : (bt a0 a1) = 34
   ·rw [if_pos d1] at H
    have g5 := beq_iff_eq.mpr d1
    have g4 := bne_eq_false_iff_eq.mpr d1
    clear d1
    obtain ⟨b0, h2, H⟩ := obA H
    by_cases d6 : b0 = 0
    ·rw [if_pos d6] at H
     have j9 := beq_iff_eq.mpr d6
     have j8 := bne_eq_false_iff_eq.mpr d6
     clear d6
     simp only [Option.some.injEq, Prod.mk.injEq] at H
     obtain ⟨rfl, rfl, rfl, rfl, rfl⟩ := H
     go_wp2_with ((with_reducible refine gate_callee (f := 140) rfl ?_); refine gl 47 Tryz.func140 #[.string a0, .int .i64 a1] (h := ?_); (with_reducible refine (q1_quoted.calls c6 a0 a1 b0 _ h2.out).mono ?_); rintro e w' ⟨rfl, ⟨nd, rfl⟩⟩; refine ⟨_, rfl, ?_⟩; (try (rw [drewN_self wc]; generalize hq_ : World.drewN wc _ = wc; replace a2 : Aside0 (wc.heap[a4]? = some (.cells #[.int .i64 0, .string (⟨#[]⟩ : ByteArray), .int .i64 0] 142 (0, 0))) := ⟨by rw [← hq_]; exact (bk a2)⟩; replace HB : Aside0 (Below w.heap.size w wc) := ⟨by rw [← hq_]; exact (bb HB)⟩; clear hq_)); obtain ⟨r8, r7, r6, o7, o6, o5⟩ := cz3 a2)
     refine bodyPost_ret (results_ctt rfl _ _ a4 142 #[.int .i64 0, .string (⟨#[]⟩ : ByteArray), .int .i64 0] (0, 0) _ rfl (by (with_reducible repeat (first | refine dN ?_ _ | refine dR ?_ | refine dA ?_ _)); refine blk_put (cs := #[.int .i64 0, .string (⟨#[]⟩ : ByteArray), .int .i64 0]) ?_ 2 _ rfl; refine blk_put (cs := #[.int .i64 0, .string (⟨#[]⟩ : ByteArray), .int .i64 0]) ?_ 1 _ rfl; refine blk_put (cs := #[.int .i64 0, .string (⟨#[]⟩ : ByteArray), .int .i64 0]) ?_ 0 _ rfl; (with_reducible repeat (first | refine dN ?_ _ | refine dR ?_ | refine dA ?_ _)); exact a2.out) Tryz.underlying142 rfl (by kernel_rfl)) rfl ?_
     exact ⟨erf, bb HB⟩
    rw [if_neg d6] at H
    have j9 := beq_eq_false_iff_ne.mpr d6
    have j8 := bne_iff_ne.mpr d6
    by_cases e1 : (wrap64 (b0 - 2)) > 60
    ·rw [if_pos e1] at H
     have j7 : decide (60 < (wrap64 (b0 - 2))) = true := decide_eq_true e1
     clear e1
     simp only [Option.some.injEq, Prod.mk.injEq] at H
     obtain ⟨rfl, rfl, rfl, rfl, rfl⟩ := H
     go_wp2_with ((with_reducible refine gate_callee (f := 140) rfl ?_); refine gl 47 Tryz.func140 #[.string a0, .int .i64 a1] (h := ?_); (with_reducible refine (q1_quoted.calls c6 a0 a1 b0 _ h2.out).mono ?_); rintro e w' ⟨rfl, ⟨nd, rfl⟩⟩; refine ⟨_, rfl, ?_⟩; (try (rw [drewN_self wc]; generalize hq_ : World.drewN wc _ = wc; replace a2 : Aside0 (wc.heap[a4]? = some (.cells #[.int .i64 0, .string (⟨#[]⟩ : ByteArray), .int .i64 0] 142 (0, 0))) := ⟨by rw [← hq_]; exact (bk a2)⟩; replace HB : Aside0 (Below w.heap.size w wc) := ⟨by rw [← hq_]; exact (bb HB)⟩; clear hq_)); obtain ⟨r0, q9, q8, o4, o3, o2⟩ := cz3 a2)
     refine bodyPost_ret (results_ctt rfl _ _ a4 142 #[.int .i64 0, .string (⟨#[]⟩ : ByteArray), .int .i64 0] (0, 0) _ rfl (by (with_reducible repeat (first | refine dN ?_ _ | refine dR ?_ | refine dA ?_ _)); refine blk_put (cs := #[.int .i64 0, .string (⟨#[]⟩ : ByteArray), .int .i64 0]) ?_ 2 _ rfl; refine blk_put (cs := #[.int .i64 0, .string (⟨#[]⟩ : ByteArray), .int .i64 0]) ?_ 1 _ rfl; refine blk_put (cs := #[.int .i64 0, .string (⟨#[]⟩ : ByteArray), .int .i64 0]) ?_ 0 _ rfl; (with_reducible repeat (first | refine dN ?_ _ | refine dR ?_ | refine dA ?_ _)); exact a2.out) Tryz.underlying142 rfl (by kernel_rfl)) rfl ?_
     exact ⟨erf, bb HB⟩
    rw [if_neg e1] at H
    have j7 : decide (60 < (wrap64 (b0 - 2))) = false := decide_eq_false e1
    clear e1
    obtain ⟨d0, c7⟩ : ∃ j_ : Int, (wrap64 (a1 + 1)) = j_ := ⟨_, rfl⟩
    replace H : (if 0 ≤ (d0) then (if (d0) ≤ (wrap64 ((wrap64 (a1 + b0)) - 1)) then (if (wrap64 ((wrap64 (a1 + b0)) - 1)) ≤ (a0.size : Int) then (some (3, a0.extract ((d0) : Int).toNat ((wrap64 ((wrap64 (a1 + b0)) - 1)) : Int).toNat, 0, b0, 0)) else (none)) else (none)) else (none)) = some (r1, r2, r3, r4, r5) := by first | (rw [c7] at H; exact H) | (simp only [c7] at H ⊢; exact H)
    (try rw [c7] at h2)
    have hji34w : (IntKind.i64.wrap (a1 + 1)) = d0 := (i64_w _).trans c7
    obtain ⟨h8, H⟩ := itn H
    have w6 := eq_true h8
    have w5 := decide_eq_true h8
    clear h8
    obtain ⟨m8, H⟩ := itn H
    have w4 := eq_true m8
    have w3 := decide_eq_true m8
    by_cases g3 : (wrap64 ((wrap64 (a1 + b0)) - 1)) ≤ (a0.size : Int)
    ·rw [if_pos g3] at H
     have w2 := eq_true g3
     have w0 := decide_eq_true g3
     simp only [Option.some.injEq, Prod.mk.injEq] at H
     obtain ⟨rfl, rfl, rfl, rfl, rfl⟩ := H
     go_wp2_with ((with_reducible refine gate_callee (f := 140) rfl ?_); refine gl 47 Tryz.func140 #[.string a0, .int .i64 a1] (h := ?_); (with_reducible refine (q1_quoted.calls c6 a0 a1 b0 _ h2.out).mono ?_); rintro e w' ⟨rfl, ⟨nd, rfl⟩⟩; refine ⟨_, rfl, ?_⟩; (try (rw [drewN_self wc]; generalize hq_ : World.drewN wc _ = wc; replace a2 : Aside0 (wc.heap[a4]? = some (.cells #[.int .i64 0, .string (⟨#[]⟩ : ByteArray), .int .i64 0] 142 (0, 0))) := ⟨by rw [← hq_]; exact (bk a2)⟩; replace HB : Aside0 (Below w.heap.size w wc) := ⟨by rw [← hq_]; exact (bb HB)⟩; clear hq_)); obtain ⟨q7, q6, q4, o1, o0, n9⟩ := cz3 a2)
     refine bodyPost_ret (results_ctt rfl _ _ a4 142 #[.int .i64 3, .string (a0.extract ((d0) : Int).toNat ((wrap64 ((wrap64 (a1 + b0)) - 1)) : Int).toNat), .int .i64 0] (0, 0) _ rfl (by (with_reducible repeat (first | refine dN ?_ _ | refine dR ?_ | refine dA ?_ _)); refine blk_put (cs := #[.int .i64 3, .string (a0.extract ((d0) : Int).toNat ((wrap64 ((wrap64 (a1 + b0)) - 1)) : Int).toNat), .int .i64 0]) ?_ 2 _ rfl; refine blk_put (cs := #[.int .i64 3, .string (⟨#[]⟩ : ByteArray), .int .i64 0]) ?_ 1 _ rfl; refine blk_put (cs := #[.int .i64 0, .string (⟨#[]⟩ : ByteArray), .int .i64 0]) ?_ 0 _ rfl; (with_reducible repeat (first | refine dN ?_ _ | refine dR ?_ | refine dA ?_ _)); exact a2.out) Tryz.underlying142 rfl (by kernel_rfl)) rfl ?_
     exact ⟨by first | rfl | (simp [errW_none, errW_some] <;> rfl) | (simp only [← c7]; first | rfl | (simp [errW_none, errW_some] <;> rfl)) | (simp [*, errW_none, errW_some] <;> rfl), bb HB⟩
    ·rw [if_neg g3] at H
     exact absurd H (by simp)
   rw [if_neg d1] at H
   have g5 := beq_eq_false_iff_ne.mpr d1
   have g4 := bne_iff_ne.mpr d1
   obtain ⟨a5, t9, H⟩ := obA H
   have H' := am H
   clear H
   go_wp2_with ((with_reducible refine gate_callee (f := 141) rfl ?_); refine gl 65 Tryz.func141 #[] (h := ?_); (with_reducible refine (q1_signs.calls  a5 _ t9.out).mono ?_); rintro e A9 ⟨n1, rfl, m5, hb⟩; refine ⟨_, rfl, ?_⟩; have m4 := am (Kd.R_lower m5 (below_size (bb HB))); replace a2 := bkb a2 hb; replace HB := bstep HB hb; (try clear hb); (try clear hb2); (try clear hk); (try clear hi); (try clear m5))
   go_loopg [13] c6 (fun kq t7 w' => ∃ (a3 : Int) (b1 : Int) (a8 : ByteArray) (a7 : Int), t7 = .int .i64 a3 ∧ Aside0 (q1_one.l0 kq a0 a1 a5 a3 = some (r1, r2, r3, r4, r5)) ∧ Aside0 (kq ≤ c6) ∧ Aside0 (Kd.R Kd.string 9 w' w.heap.size (fun _ => True) n1 a5) ∧ Aside0 (w'.heap[a4]? = some (.cells #[.int .i64 b1, .string a8, .int .i64 a7] 142 (0, 0))) ∧ Aside0 (Below w.heap.size w w'))
   case atStart => exact ⟨(0), (0), ((⟨#[]⟩ : ByteArray)), (0), eqs, H', ⟨Nat.le_refl _⟩, ⟨kR m4⟩, ⟨bk a2⟩, ⟨bb HB⟩⟩
   case round =>
    clear H'
    clear d1
    clear g5
    clear g4
    obtain ⟨a3, b1, a8, a7, rfl, HA, h0, HO_12, a2, HB⟩ := hrel
    cases gk with
    | zero => exact absurd HA.out (by simp [q1_one.l0])
    | succ k2 =>
     have H := HA.out
     clear HA
     simp only [q1_one.l0] at H
     by_cases e0 : a3 < (a5.length : Int)
     rotate_left
     ·rw [if_neg e0] at H
      have j6 := decide_eq_false e0
      clear e0
      simp only [Option.some.injEq, Prod.mk.injEq] at H
      obtain ⟨rfl, rfl, rfl, rfl, rfl⟩ := H
      obtain ⟨A2, y8, eo58⟩ := Kd.R_slice HO_12.out
      subst eo58
      obtain ⟨q3, q2, q1, n8, n7, n6⟩ := cz3 a2
      go_wp2
      refine bodyPost_ret (results_ctt rfl _ _ a4 142 #[.int .i64 0, .string (⟨#[]⟩ : ByteArray), .int .i64 0] (0, 0) _ rfl (by (with_reducible repeat (first | refine dN ?_ _ | refine dR ?_ | refine dA ?_ _)); refine blk_put (cs := #[.int .i64 0, .string (⟨#[]⟩ : ByteArray), .int .i64 a7]) ?_ 2 _ rfl; refine blk_put (cs := #[.int .i64 0, .string a8, .int .i64 a7]) ?_ 1 _ rfl; refine blk_put (cs := #[.int .i64 b1, .string a8, .int .i64 a7]) ?_ 0 _ rfl; (with_reducible repeat (first | refine dN ?_ _ | refine dR ?_ | refine dA ?_ _)); exact a2.out) Tryz.underlying142 rfl (by kernel_rfl)) rfl ?_
      exact ⟨erf, bb HB⟩
     rw [if_pos e0] at H
     have j6 := decide_eq_true e0
     clear e0
     obtain ⟨m7, H⟩ := itn H
     have v9 := decide_eq_true m7
     clear m7
     by_cases d9 : (wrap64 (a1 + ((rdOf ByteArray.empty a5 a3).size : Int))) ≤ (a0.size : Int)
     rotate_left
     ·rw [if_neg d9] at H
      have j5 := decide_eq_false d9
      clear d9
      have H' := am H
      clear H
      obtain ⟨A3, y9, eo56⟩ := Kd.R_slice HO_12.out
      subst eo56
      try go_wp2
      replace HO_12 := am (Kd.R_drew HO_12.out)
      replace a2 := am (blk_drew a2.out)
      replace HB := am (below_drew1 HB.out)
      have b5 : 0 ≤ a3 := odt
      have b4 : a3 < (a5.length : Int) := odt
      obtain ⟨a9, d4, b2⟩ := Kd.at_string (Kd.R_reads' HO_12.out).2.2 a3 b5 b4
      cases d4
      replace b5 := eq_true b5
      replace b4 := eq_true b4
      refine start_ (n := 27) (S := fun w' => w'.cell? (a9.add (a3).toNat) = some (.string (rdOf ByteArray.empty a5 a3))) (ds := []) #[false, false, false, false, false, false, false, false, false, false, false, false, false, false, false, false, false, false, false, false, false, false, false, false, false, false, false] (by kernel_rfl) rfl rfl (b2) (fun hHeld => ?_); refine with_tabW q1_one.tab21 q1_one.bits21 (fun HT_ HW_ => ?_)
      generalize wr.drew = A6 at HO_12 a2 HB b2 hHeld ⊢
      refine pu 0 72 (bits 27 0x1) HT_ (h := ?_)
      refine pu 1 73 (bits 27 0x3) HT_ (h := ?_)
      refine pu 2 74 (bits 27 0x7) HT_ (h := ?_)
      refine pu 3 75 (bits 27 0xf) HT_ (h := ?_)
      refine pu 7 79 (bits 27 0x8f) HT_ (h := ?_)
      refine pu 8 80 (bits 27 0x18f) HT_ (h := ?_)
      refine take_ (i := 4) (N := some 76) (v := ?_) (a' := ?_) #[true, true, true, true, true, false, false, true, true, false, false, false, false, false, false, false, false, false, false, false, false, false, false, false, false, false, false] rfl rfl (take_ofW HT_.out HW_.out (by kernel_rfl)) (fun _ _ _ h => h) (Or.inl ⟨by rfl, ?_⟩) hHeld ?_ ?_
      rotate_left
      ·intro w' s0
       go_simp
       with_reducible rfl
      rotate_left
      ·simp only [Act.put, List.setIfInBounds_toArray, List.set_cons_zero, List.set_cons_succ, i64_w, i32_w]
       rfl
      refine pu 5 77 (bits 27 0x1bf) HT_ (h := ?_)
      refine pu 6 78 (bits 27 0x1ff) HT_ (h := ?_)
      refine pu 9 81 (bits 27 0x3ff) HT_ (h := ?_)
      refine pu 10 82 (bits 27 0x7ff) HT_ (h := ?_)
      refine pn 11 83 (bits 27 0xfff) HT_ (h := ?_)
      refine pn 12 84 (bits 27 0x1fff) HT_ (h := ?_)
      refine pn 13 85 (bits 27 0x3fff) HT_ (h := ?_)
      refine pn 14 86 (bits 27 0x7fff) HT_ (h := ?_)
      refine pn 15 87 (bits 27 0xffff) HT_ (h := ?_)
      refine pn 16 88 (bits 27 0x1ffff) HT_ (h := ?_)
      refine pn 17 89 (bits 27 0x3ffff) HT_ (h := ?_)
      refine pn 18 90 (bits 27 0x7ffff) HT_ (h := ?_)
      refine pn 19 91 (bits 27 0xfffff) HT_ (h := ?_)
      refine pn 20 92 (bits 27 0x1fffff) HT_ (h := ?_)
      refine pn 21 93 (bits 27 0x3fffff) HT_ (h := ?_)
      refine pn 22 94 (bits 27 0x7fffff) HT_ (h := ?_)
      refine pn 23 95 (bits 27 0xffffff) HT_ (h := ?_)
      refine pn 24 96 (bits 27 0x1ffffff) HT_ (h := ?_)
      refine pn 25 97 (bits 27 0x3ffffff) HT_ (h := ?_)
      refine pu 26 98 (bits 27 0x7ffffff) HT_ (h := ?_)
      refine done_ (done_of HT_.out (by kernel_rfl)) ?_
      try go_wp2
      go_roundg k2
      case measure => have := h1.out; have := h0.out; omega
      case rel => exact ⟨(wrap64 (a3 + 1)), (b1), (a8), (a7), eqs, H', ⟨by have := h1.out; have := h0.out; omega⟩, ⟨kR HO_12⟩, ⟨bk a2⟩, ⟨bb HB⟩⟩
     rw [if_pos d9] at H
     have j5 := decide_eq_true d9
     clear d9
     obtain ⟨h7, H⟩ := itn H
     have v8 := eq_true h7
     have v7 := decide_eq_true h7
     clear h7
     obtain ⟨m6, H⟩ := itn H
     have v6 := eq_true m6
     have v5 := decide_eq_true m6
     have v4 := eq_true (odt : (wrap64 (a1 + ((rdOf ByteArray.empty a5 a3).size : Int))) ≤ (a0.size : Int))
     by_cases d5 : (a0.extract (a1 : Int).toNat ((wrap64 (a1 + ((rdOf ByteArray.empty a5 a3).size : Int))) : Int).toNat).toList = (rdOf ByteArray.empty a5 a3).toList
     rotate_left
     ·rw [if_neg d5] at H
      have j4 := beq_eq_false_iff_ne.mpr d5
      have j3 := bne_iff_ne.mpr d5
      have H' := am H
      clear H
      obtain ⟨A4, A0, eo54⟩ := Kd.R_slice HO_12.out
      subst eo54
      try go_wp2
      replace HO_12 := am (Kd.R_drew HO_12.out)
      replace a2 := am (blk_drew a2.out)
      replace HB := am (below_drew1 HB.out)
      have b5 : 0 ≤ a3 := odt
      have b4 : a3 < (a5.length : Int) := odt
      obtain ⟨a9, d4, b2⟩ := Kd.at_string (Kd.R_reads' HO_12.out).2.2 a3 b5 b4
      cases d4
      replace b5 := eq_true b5
      replace b4 := eq_true b4
      have c2 : 0 ≤ a3 := odt
      have c0 : a3 < (a5.length : Int) := odt
      obtain ⟨e5, g2, b7⟩ := Kd.at_string (Kd.R_reads' HO_12.out).2.2 a3 c2 c0
      obtain rfl : a9 = e5 := (by injection g2)
      replace c2 := eq_true c2
      replace c0 := eq_true c0
      have c1 : 0 ≤ a3 := odt
      have b9 : a3 < (a5.length : Int) := odt
      obtain ⟨e4, g1, b6⟩ := Kd.at_string (Kd.R_reads' HO_12.out).2.2 a3 c1 b9
      obtain rfl : a9 = e4 := (by injection g1)
      replace c1 := eq_true c1
      replace b9 := eq_true b9
      refine start_ (n := 27) (S := fun w' => w'.cell? (a9.add (a3).toNat) = some (.string (rdOf ByteArray.empty a5 a3)) ∧ w'.cell? (a9.add (a3).toNat) = some (.string (rdOf ByteArray.empty a5 a3)) ∧ w'.cell? (a9.add (a3).toNat) = some (.string (rdOf ByteArray.empty a5 a3))) (ds := []) #[false, false, false, false, false, false, false, false, false, false, false, false, false, false, false, false, false, false, false, false, false, false, false, false, false, false, false] (by kernel_rfl) rfl rfl ⟨b2, b7, b6⟩ (fun hHeld => ?_); refine with_tabW q1_one.tab21 q1_one.bits21 (fun HT_ HW_ => ?_)
      generalize wr.drew = A7 at HO_12 a2 HB b2 b7 b6 hHeld ⊢
      refine pu 0 72 (bits 27 0x1) HT_ (h := ?_)
      refine pu 1 73 (bits 27 0x3) HT_ (h := ?_)
      refine pu 2 74 (bits 27 0x7) HT_ (h := ?_)
      refine pu 3 75 (bits 27 0xf) HT_ (h := ?_)
      refine pu 7 79 (bits 27 0x8f) HT_ (h := ?_)
      refine pu 8 80 (bits 27 0x18f) HT_ (h := ?_)
      refine tk 4 76 (bits 27 0x19f) HT_ HW_ hHeld (hy := by rintro w' ⟨s0, s1, s2⟩; go_simp; with_reducible rfl) (h := ?_)
      refine pu 5 77 (bits 27 0x1bf) HT_ (h := ?_)
      refine pu 6 78 (bits 27 0x1ff) HT_ (h := ?_)
      refine pu 9 81 (bits 27 0x3ff) HT_ (h := ?_)
      refine pu 10 82 (bits 27 0x7ff) HT_ (h := ?_)
      refine pu 11 83 (bits 27 0xfff) HT_ (h := ?_)
      refine pu 12 84 (bits 27 0x1fff) HT_ (h := ?_)
      refine pu 13 85 (bits 27 0x3fff) HT_ (h := ?_)
      refine pu 14 86 (bits 27 0x7fff) HT_ (h := ?_)
      refine pu 15 87 (bits 27 0xffff) HT_ (h := ?_)
      refine pu 16 88 (bits 27 0x1ffff) HT_ (h := ?_)
      refine pu 21 93 (bits 27 0x21ffff) HT_ (h := ?_)
      refine pu 22 94 (bits 27 0x61ffff) HT_ (h := ?_)
      refine pu 23 95 (bits 27 0xe1ffff) HT_ (h := ?_)
      refine tk 17 89 (bits 27 0xe3ffff) HT_ HW_ hHeld (hy := by rintro w' ⟨s0, s1, s2⟩; go_simp; with_reducible rfl) (h := ?_)
      refine pu 18 90 (bits 27 0xe7ffff) HT_ (h := ?_)
      refine pu 19 91 (bits 27 0xefffff) HT_ (h := ?_)
      refine pu 20 92 (bits 27 0xffffff) HT_ (h := ?_)
      refine tk 24 96 (bits 27 0x1ffffff) HT_ HW_ hHeld (hy := by rintro w' ⟨s0, s1, s2⟩; go_simp; with_reducible rfl) (h := ?_)
      refine pu 25 97 (bits 27 0x3ffffff) HT_ (h := ?_)
      refine pu 26 98 (bits 27 0x7ffffff) HT_ (h := ?_)
      refine done_ (done_of HT_.out (by kernel_rfl)) ?_
      try go_wp2
      go_roundg k2
      case measure => have := h1.out; have := h0.out; omega
      case rel => exact ⟨(wrap64 (a3 + 1)), (b1), (a8), (a7), eqs, H', ⟨by have := h1.out; have := h0.out; omega⟩, ⟨kR HO_12⟩, ⟨bk a2⟩, ⟨bb HB⟩⟩
     rw [if_pos d5] at H
     have j4 := beq_iff_eq.mpr d5
     have j3 := bne_eq_false_iff_eq.mpr d5
     clear d5
     simp only [Option.some.injEq, Prod.mk.injEq] at H
     obtain ⟨rfl, rfl, rfl, rfl, rfl⟩ := H
     obtain ⟨A5, A1, eo48⟩ := Kd.R_slice HO_12.out
     subst eo48
     try go_wp2
     replace HO_12 := am (Kd.R_drew HO_12.out)
     replace a2 := am (blk_drew a2.out)
     replace HB := am (below_drew1 HB.out)
     have b5 : 0 ≤ a3 := odt
     have b4 : a3 < (a5.length : Int) := odt
     obtain ⟨a9, d4, b2⟩ := Kd.at_string (Kd.R_reads' HO_12.out).2.2 a3 b5 b4
     cases d4
     replace b5 := eq_true b5
     replace b4 := eq_true b4
     have c2 : 0 ≤ a3 := odt
     have c0 : a3 < (a5.length : Int) := odt
     obtain ⟨e5, g2, b7⟩ := Kd.at_string (Kd.R_reads' HO_12.out).2.2 a3 c2 c0
     obtain rfl : a9 = e5 := (by injection g2)
     replace c2 := eq_true c2
     replace c0 := eq_true c0
     have c1 : 0 ≤ a3 := odt
     have b9 : a3 < (a5.length : Int) := odt
     obtain ⟨e4, g1, b6⟩ := Kd.at_string (Kd.R_reads' HO_12.out).2.2 a3 c1 b9
     obtain rfl : a9 = e4 := (by injection g1)
     replace c1 := eq_true c1
     replace b9 := eq_true b9
     refine start_ (n := 27) (S := fun w' => w'.cell? (a9.add (a3).toNat) = some (.string (rdOf ByteArray.empty a5 a3)) ∧ w'.cell? (a9.add (a3).toNat) = some (.string (rdOf ByteArray.empty a5 a3)) ∧ w'.cell? (a9.add (a3).toNat) = some (.string (rdOf ByteArray.empty a5 a3))) (ds := []) #[false, false, false, false, false, false, false, false, false, false, false, false, false, false, false, false, false, false, false, false, false, false, false, false, false, false, false] (by kernel_rfl) rfl rfl ⟨b2, b7, b6⟩ (fun hHeld => ?_); refine with_tabW q1_one.tab21 q1_one.bits21 (fun HT_ HW_ => ?_)
     generalize wr.drew = t5 at HO_12 a2 HB b2 b7 b6 hHeld ⊢
     refine pu 0 72 (bits 27 0x1) HT_ (h := ?_)
     refine pu 1 73 (bits 27 0x3) HT_ (h := ?_)
     refine pu 2 74 (bits 27 0x7) HT_ (h := ?_)
     refine pu 3 75 (bits 27 0xf) HT_ (h := ?_)
     refine pu 7 79 (bits 27 0x8f) HT_ (h := ?_)
     refine pu 8 80 (bits 27 0x18f) HT_ (h := ?_)
     refine tk 4 76 (bits 27 0x19f) HT_ HW_ hHeld (hy := by rintro w' ⟨s0, s1, s2⟩; go_simp; with_reducible rfl) (h := ?_)
     refine pu 5 77 (bits 27 0x1bf) HT_ (h := ?_)
     refine pu 6 78 (bits 27 0x1ff) HT_ (h := ?_)
     refine pu 9 81 (bits 27 0x3ff) HT_ (h := ?_)
     refine pu 10 82 (bits 27 0x7ff) HT_ (h := ?_)
     refine pu 11 83 (bits 27 0xfff) HT_ (h := ?_)
     refine pu 12 84 (bits 27 0x1fff) HT_ (h := ?_)
     refine pu 13 85 (bits 27 0x3fff) HT_ (h := ?_)
     refine pu 14 86 (bits 27 0x7fff) HT_ (h := ?_)
     refine pu 15 87 (bits 27 0xffff) HT_ (h := ?_)
     refine pu 16 88 (bits 27 0x1ffff) HT_ (h := ?_)
     refine pu 21 93 (bits 27 0x21ffff) HT_ (h := ?_)
     refine pu 22 94 (bits 27 0x61ffff) HT_ (h := ?_)
     refine pu 23 95 (bits 27 0xe1ffff) HT_ (h := ?_)
     refine tk 17 89 (bits 27 0xe3ffff) HT_ HW_ hHeld (hy := by rintro w' ⟨s0, s1, s2⟩; go_simp; with_reducible rfl) (h := ?_)
     refine pu 18 90 (bits 27 0xe7ffff) HT_ (h := ?_)
     refine pu 19 91 (bits 27 0xefffff) HT_ (h := ?_)
     refine pu 20 92 (bits 27 0xffffff) HT_ (h := ?_)
     refine tk 24 96 (bits 27 0x1ffffff) HT_ HW_ hHeld (hy := by rintro w' ⟨s0, s1, s2⟩; go_simp; with_reducible rfl) (h := ?_)
     refine pu 25 97 (bits 27 0x3ffffff) HT_ (h := ?_)
     refine pu 26 98 (bits 27 0x7ffffff) HT_ (h := ?_)
     refine done_ (done_of HT_.out (by kernel_rfl)) ?_
     try go_wp2
     replace HO_12 := am (Kd.R_drew HO_12.out)
     replace a2 := am (blk_drew a2.out)
     replace HB := am (below_drew1 HB.out)
     have g0 : 0 ≤ a3 := odt
     have e8 : a3 < (a5.length : Int) := odt
     obtain ⟨m3, n3, d8⟩ := Kd.at_string (Kd.R_reads' HO_12.out).2.2 a3 g0 e8
     obtain rfl : a9 = m3 := (by injection n3)
     replace g0 := eq_true g0
     replace e8 := eq_true e8
     have e9 : 0 ≤ a3 := odt
     have e7 : a3 < (a5.length : Int) := odt
     obtain ⟨m2, n2, d7⟩ := Kd.at_string (Kd.R_reads' HO_12.out).2.2 a3 e9 e7
     obtain rfl : a9 = m2 := (by injection n2)
     replace e9 := eq_true e9
     replace e7 := eq_true e7
     refine start_ (n := 13) (S := fun w' => w'.cell? (a9.add (a3).toNat) = some (.string (rdOf ByteArray.empty a5 a3)) ∧ w'.cell? (a9.add (a3).toNat) = some (.string (rdOf ByteArray.empty a5 a3))) (ds := []) #[false, false, false, false, false, false, false, false, false, false, false, false, false] (by kernel_rfl) rfl rfl ⟨d8, d7⟩ (fun hHeld => ?_); refine with_tabW q1_one.tab22 q1_one.bits22 (fun HT_ HW_ => ?_)
     generalize t5.drew = h6 at HO_12 a2 HB d8 d7 hHeld ⊢
     refine pu 0 99 (bits 13 0x1) HT_ (h := ?_)
     refine pu 1 100 (bits 13 0x3) HT_ (h := ?_)
     refine pu 2 101 (bits 13 0x7) HT_ (h := ?_)
     refine pu 5 104 (bits 13 0x27) HT_ (h := ?_)
     refine pu 6 105 (bits 13 0x67) HT_ (h := ?_)
     refine pu 7 106 (bits 13 0xe7) HT_ (h := ?_)
     refine tk 3 102 (bits 13 0xef) HT_ HW_ hHeld (hy := by rintro w' ⟨s0, s1⟩; go_simp; with_reducible rfl) (h := ?_)
     refine pu 4 103 (bits 13 0xff) HT_ (h := ?_)
     refine tk 8 107 (bits 13 0x1ff) HT_ HW_ hHeld (hy := by rintro w' ⟨s0, s1⟩; go_simp; with_reducible rfl) (h := ?_)
     refine pu 9 108 (bits 13 0x3ff) HT_ (h := ?_)
     refine one_ (i := 10) (N := none) #[true, true, true, true, true, true, true, true, true, true, true, false, false] rfl rfl (one_of HT_.out (by kernel_rfl)) (by decide) (fun K hK => ?_)
     have y7 : h6.cell? ⟨a4, 0, none⟩ = some (.int .i64 b1) := bc a2 0
     have v3 := blk_frozen a2.out 0
     have y6 : h6.cell? ⟨a4, 1, none⟩ = some (.string a8) := bc a2 1
     have v2 := blk_frozen a2.out 1
     have y5 : h6.cell? ⟨a4, 2, none⟩ = some (.int .i64 a7) := bc a2 2
     have v1 := blk_frozen a2.out 2
     refine skip_ (w1 := ?_) (by rfl) rfl ?_ ?_
     rotate_left
     ·go_simp
      rfl
     refine hK.out _ _ ⟨((cell_far (p := ⟨a4, _, none⟩) (by first | exact Kd.own_blk (Kd.R_ne HO_12.out a2.out (by decide)) | (rw [add_block]; exact Kd.own_blk (Kd.R_ne HO_12.out a2.out (by decide))) | (show (Addr.add _ _).block ≠ _; rw [add_block]; exact Kd.own_blk (Kd.R_ne HO_12.out a2.out (by decide))) | (dsimp only; exact Kd.own_blk (Kd.R_ne HO_12.out a2.out (by decide)))) _).trans (((cell_far (p := ⟨a4, _, none⟩) (by first | exact Kd.own_blk (Kd.R_ne HO_12.out a2.out (by decide)) | (rw [add_block]; exact Kd.own_blk (Kd.R_ne HO_12.out a2.out (by decide))) | (show (Addr.add _ _).block ≠ _; rw [add_block]; exact Kd.own_blk (Kd.R_ne HO_12.out a2.out (by decide))) | (dsimp only; exact Kd.own_blk (Kd.R_ne HO_12.out a2.out (by decide)))) _).trans (((cell_far (p := ⟨a4, _, none⟩) (by first | exact Kd.own_blk (Kd.R_ne HO_12.out a2.out (by decide)) | (rw [add_block]; exact Kd.own_blk (Kd.R_ne HO_12.out a2.out (by decide))) | (show (Addr.add _ _).block ≠ _; rw [add_block]; exact Kd.own_blk (Kd.R_ne HO_12.out a2.out (by decide))) | (dsimp only; exact Kd.own_blk (Kd.R_ne HO_12.out a2.out (by decide)))) _).trans (hHeld.1)))))), ((cell_far (p := ⟨a4, _, none⟩) (by first | exact Kd.own_blk (Kd.R_ne HO_12.out a2.out (by decide)) | (rw [add_block]; exact Kd.own_blk (Kd.R_ne HO_12.out a2.out (by decide))) | (show (Addr.add _ _).block ≠ _; rw [add_block]; exact Kd.own_blk (Kd.R_ne HO_12.out a2.out (by decide))) | (dsimp only; exact Kd.own_blk (Kd.R_ne HO_12.out a2.out (by decide)))) _).trans (((cell_far (p := ⟨a4, _, none⟩) (by first | exact Kd.own_blk (Kd.R_ne HO_12.out a2.out (by decide)) | (rw [add_block]; exact Kd.own_blk (Kd.R_ne HO_12.out a2.out (by decide))) | (show (Addr.add _ _).block ≠ _; rw [add_block]; exact Kd.own_blk (Kd.R_ne HO_12.out a2.out (by decide))) | (dsimp only; exact Kd.own_blk (Kd.R_ne HO_12.out a2.out (by decide)))) _).trans (((cell_far (p := ⟨a4, _, none⟩) (by first | exact Kd.own_blk (Kd.R_ne HO_12.out a2.out (by decide)) | (rw [add_block]; exact Kd.own_blk (Kd.R_ne HO_12.out a2.out (by decide))) | (show (Addr.add _ _).block ≠ _; rw [add_block]; exact Kd.own_blk (Kd.R_ne HO_12.out a2.out (by decide))) | (dsimp only; exact Kd.own_blk (Kd.R_ne HO_12.out a2.out (by decide)))) _).trans (hHeld.2))))))⟩ (fun hHeld => ?_)
     clear hK K
     refine pu 11 5 (bits 13 0xfff) HT_ (h := ?_)
     refine pu 12 6 (bits 13 0x1fff) HT_ (h := ?_)
     refine done_ (done_of HT_.out (by kernel_rfl)) ?_
     try go_wp2
     refine bodyPost_ret (results_ctt rfl _ _ a4 142 #[.int .i64 4, .string (rdOf ByteArray.empty a5 a3), .int .i64 0] (0, 0) _ rfl (by (with_reducible repeat (first | refine dN ?_ _ | refine dR ?_ | refine dA ?_ _)); refine blk_put (cs := #[.int .i64 4, .string (rdOf ByteArray.empty a5 a3), .int .i64 a7]) ?_ 2 _ rfl; refine blk_put (cs := #[.int .i64 4, .string a8, .int .i64 a7]) ?_ 1 _ rfl; refine blk_put (cs := #[.int .i64 b1, .string a8, .int .i64 a7]) ?_ 0 _ rfl; (with_reducible repeat (first | refine dN ?_ _ | refine dR ?_ | refine dA ?_ _)); exact a2.out) Tryz.underlying142 rfl (by kernel_rfl)) rfl ?_
     exact ⟨erf, bb HB⟩
def q1_Right.f (k : Nat) (a3 : Int) (a5 : ByteArray) (a4 : Int) : Option (Bool) := (q1_text.f a3 a5 a4).bind fun a2 => (if a2.toList = ([] : List UInt8) then (some false) else ((q1_one.f k a2 0).bind fun a8 => (if a8.2.2.2.2 = 0 then (if a8.2.2.2.1 = (a2.size : Int) then (some (a8.1 == a3)) else (some false)) else (some false))))
theorem q1_Right.calls (k : Nat) (a3 : Int) (a5 : ByteArray) (a4 : Int) (r : Bool) (w : World) (h : q1_Right.f k a3 a5 a4 = some r) :
  Calls Tryz.prog 121 #[.agg #[.int .i64 a3, .string a5, .int .i64 a4]] w fun e w' => e = .returned (.bool r) ∧ Below w.heap.size w w' := by
 have hu142 := Tryz.underlying142
 have HB := am (Below.refl w.heap.size w)
 have H : ((q1_text.f a3 a5 a4).bind fun a2 => (if a2.toList = ([] : List UInt8) then (some false) else ((q1_one.f k a2 0).bind fun a8 => (if a8.2.2.2.2 = 0 then (if a8.2.2.2.1 = (a2.size : Int) then (some (a8.1 == a3)) else (some false)) else (some false))))) = some r := h
 clear h
 obtain ⟨a2, A2, H⟩ := obA H
 by_cases c3 : a2.toList = ([] : List UInt8)
 ·rw [if_pos c3] at H
  have c6 := beq_iff_eq.mpr c3
  have c5 := bne_eq_false_iff_eq.mpr c3
  clear c3
  obtain rfl := Option.some.inj H
  go_enter Tryz.func121, Tryz.ntmps121
  go_wp2_with (first | ((with_reducible refine gate_dst (N := 1) rfl ?_); (try (refine gate_guard (by rfl) ?_; dsimp only)); refine be 1 #[.int .i64 a3, .string a5, .int .i64 a4] 142 ?_; intro b4 hg w4 hbox hb; have a1 := am (hbox); have b5 := bsz HB hg; replace HB := bstep HB hb; clear hb hbox hg; obtain ⟨j6, j5, j4, j3, j2, j1⟩ := cz3 a1) | ((with_reducible refine gate_callee (f := 127) rfl ?_); refine gl 8 Tryz.func127 #[.agg #[.int .i64 a3, .string a5, .int .i64 a4]] (h := ?_); (with_reducible refine (q1_text.calls a3 a5 a4 a2 _ A2.out).mono ?_); rintro e w6 ⟨rfl, hb⟩; refine ⟨_, rfl, ?_⟩; replace a1 := bkb a1 hb; replace HB := bstep HB hb; (try clear hb); (try clear hb2); (try clear hk); (try clear hi)))
  go_ret
  exact ⟨erf, bb HB⟩
 rw [if_neg c3] at H
 have c6 := beq_eq_false_iff_ne.mpr c3
 have c5 := bne_iff_ne.mpr c3
 obtain ⟨⟨b3, b7, b6, b2, b1⟩, A7, H⟩ := obA H
 replace H : (if b1 = 0 then (if b2 = (a2.size : Int) then (some (b3 == a3)) else (some false)) else (some false)) = some r := H
 by_cases c8 : b1 = 0
 rotate_left
 ·rw [if_neg c8] at H
  have c4 := beq_eq_false_iff_ne.mpr c8
  have c2 := bne_iff_ne.mpr c8
  obtain rfl := Option.some.inj H
  go_enter Tryz.func121, Tryz.ntmps121
  go_wp2_with (first | ((with_reducible refine gate_dst (N := 1) rfl ?_); (try (refine gate_guard (by rfl) ?_; dsimp only)); refine be 1 #[.int .i64 a3, .string a5, .int .i64 a4] 142 ?_; intro b4 hg m6 hbox hb; have a1 := am (hbox); have b5 := bsz HB hg; replace HB := bstep HB hb; clear hb hbox hg; obtain ⟨g5, g4, g3, d4, d3, d2⟩ := cz3 a1) | ((with_reducible refine gate_callee (f := 127) rfl ?_); refine gl 8 Tryz.func127 #[.agg #[.int .i64 a3, .string a5, .int .i64 a4]] (h := ?_); (with_reducible refine (q1_text.calls a3 a5 a4 a2 _ A2.out).mono ?_); rintro e m5 ⟨rfl, hb⟩; refine ⟨_, rfl, ?_⟩; replace a1 := bkb a1 hb; replace HB := bstep HB hb; (try clear hb); (try clear hb2); (try clear hk); (try clear hi)) | ((with_reducible refine gate_callee (f := 128) rfl ?_); refine gl 13 Tryz.func128 #[.string a2, .int .i64 0] (h := ?_); (with_reducible refine (q1_one.calls k a2 0 b3 b7 b6 b2 b1 _ A7.out).mono ?_); rintro e m4 ⟨rfl, hb⟩; refine ⟨_, rfl, ?_⟩; replace a1 := bkb a1 hb; replace HB := bstep HB hb; (try clear hb); (try clear hb2); (try clear hk); (try clear hi)) | ((with_reducible refine gate_dst (N := 4) rfl ?_); (try (refine gate_guard (by rfl) ?_; dsimp only)); refine be 4 #[.int .i64 0, .string (⟨#[]⟩ : ByteArray), .int .i64 0] 142 ?_; intro b8 hg m3 hbox hb; have a9 := am (hbox); have b9 := bsz HB hg; replace HB := bstep HB hb; have a7 := blt a1 hg; have a6 := bgt a1 hg; replace a1 := bkb a1 hb; clear hb hbox hg; have m0 := a6.out; have j7 := a7.out; obtain ⟨g2, g1, g0, d1, d0, c7⟩ := cz3 a9))
  go_ret
  exact ⟨erf, bb HB⟩
 rw [if_pos c8] at H
 have c4 := beq_iff_eq.mpr c8
 have c2 := bne_eq_false_iff_eq.mpr c8
 clear c8
 by_cases c9 : b2 = (a2.size : Int)
 rotate_left
 ·rw [if_neg c9] at H
  have c1 := beq_eq_false_iff_ne.mpr c9
  have c0 := bne_iff_ne.mpr c9
  obtain rfl := Option.some.inj H
  go_enter Tryz.func121, Tryz.ntmps121
  go_wp2_with (first | ((with_reducible refine gate_dst (N := 1) rfl ?_); (try (refine gate_guard (by rfl) ?_; dsimp only)); refine be 1 #[.int .i64 a3, .string a5, .int .i64 a4] 142 ?_; intro b4 hg n0 hbox hb; have a1 := am (hbox); have b5 := bsz HB hg; replace HB := bstep HB hb; clear hb hbox hg; obtain ⟨h1, h0, g9, e0, d9, d8⟩ := cz3 a1) | ((with_reducible refine gate_callee (f := 127) rfl ?_); refine gl 8 Tryz.func127 #[.agg #[.int .i64 a3, .string a5, .int .i64 a4]] (h := ?_); (with_reducible refine (q1_text.calls a3 a5 a4 a2 _ A2.out).mono ?_); rintro e m9 ⟨rfl, hb⟩; refine ⟨_, rfl, ?_⟩; replace a1 := bkb a1 hb; replace HB := bstep HB hb; (try clear hb); (try clear hb2); (try clear hk); (try clear hi)) | ((with_reducible refine gate_callee (f := 128) rfl ?_); refine gl 13 Tryz.func128 #[.string a2, .int .i64 0] (h := ?_); (with_reducible refine (q1_one.calls k a2 0 b3 b7 b6 b2 b1 _ A7.out).mono ?_); rintro e m8 ⟨rfl, hb⟩; refine ⟨_, rfl, ?_⟩; replace a1 := bkb a1 hb; replace HB := bstep HB hb; (try clear hb); (try clear hb2); (try clear hk); (try clear hi)) | ((with_reducible refine gate_dst (N := 4) rfl ?_); (try (refine gate_guard (by rfl) ?_; dsimp only)); refine be 4 #[.int .i64 0, .string (⟨#[]⟩ : ByteArray), .int .i64 0] 142 ?_; intro b8 hg m7 hbox hb; have a9 := am (hbox); have b9 := bsz HB hg; replace HB := bstep HB hb; have a7 := blt a1 hg; have a6 := bgt a1 hg; replace a1 := bkb a1 hb; clear hb hbox hg; have m1 := a6.out; have j8 := a7.out; obtain ⟨g8, g7, g6, d7, d6, d5⟩ := cz3 a9))
  go_ret
  exact ⟨erf, bb HB⟩
 rw [if_pos c9] at H
 have c1 := beq_iff_eq.mpr c9
 have c0 := bne_eq_false_iff_eq.mpr c9
 clear c9
 obtain rfl := Option.some.inj H
 go_enter Tryz.func121, Tryz.ntmps121
 go_wp2_with (first | ((with_reducible refine gate_dst (N := 1) rfl ?_); (try (refine gate_guard (by rfl) ?_; dsimp only)); refine be 1 #[.int .i64 a3, .string a5, .int .i64 a4] 142 ?_; intro b4 hg n4 hbox hb; have a1 := am (hbox); have b5 := bsz HB hg; replace HB := bstep HB hb; clear hb hbox hg; obtain ⟨j0, h9, h8, e9, e8, e7⟩ := cz3 a1) | ((with_reducible refine gate_callee (f := 127) rfl ?_); refine gl 8 Tryz.func127 #[.agg #[.int .i64 a3, .string a5, .int .i64 a4]] (h := ?_); (with_reducible refine (q1_text.calls a3 a5 a4 a2 _ A2.out).mono ?_); rintro e n3 ⟨rfl, hb⟩; refine ⟨_, rfl, ?_⟩; replace a1 := bkb a1 hb; replace HB := bstep HB hb; (try clear hb); (try clear hb2); (try clear hk); (try clear hi)) | ((with_reducible refine gate_callee (f := 128) rfl ?_); refine gl 13 Tryz.func128 #[.string a2, .int .i64 0] (h := ?_); (with_reducible refine (q1_one.calls k a2 0 b3 b7 b6 b2 b1 _ A7.out).mono ?_); rintro e n2 ⟨rfl, hb⟩; refine ⟨_, rfl, ?_⟩; replace a1 := bkb a1 hb; replace HB := bstep HB hb; (try clear hb); (try clear hb2); (try clear hk); (try clear hi)) | ((with_reducible refine gate_dst (N := 4) rfl ?_); (try (refine gate_guard (by rfl) ?_; dsimp only)); refine be 4 #[.int .i64 0, .string (⟨#[]⟩ : ByteArray), .int .i64 0] 142 ?_; intro b8 hg n1 hbox hb; have a9 := am (hbox); have b9 := bsz HB hg; replace HB := bstep HB hb; have a7 := blt a1 hg; have a6 := bgt a1 hg; replace a1 := bkb a1 hb; clear hb hbox hg; have m2 := a6.out; have j9 := a7.out; obtain ⟨h7, h6, h5, e6, e5, e4⟩ := cz3 a9; obtain ⟨h4, h3, h2, e3, e2, e1⟩ := cz3 a1))
 go_ret
 exact ⟨erf, bb HB⟩
def q1_IsName.f (k : Nat) (a0 : ByteArray) : Option (Bool) := (q1_Right.f k 1 a0 0).bind fun b0 => (some b0)
theorem q1_IsName.calls (k : Nat) (a0 : ByteArray) (r : Bool) (w : World) (h : q1_IsName.f k a0 = some r) :
  Calls Tryz.prog 109 #[.string a0] w fun e w' => e = .returned (.bool r) ∧ Below w.heap.size w w' := by
 have hu142 := Tryz.underlying142
 have HB := am (Below.refl w.heap.size w)
 have H : ((q1_Right.f k 1 a0 0).bind fun b0 => (some b0)) = some r := h
 clear h
 obtain ⟨b0, A2, H⟩ := obA H
 obtain rfl := Option.some.inj H
 go_enter Tryz.func109, Tryz.ntmps109
 go_wp2_with (first | ((with_reducible refine gate_callee (f := 121) rfl ?_); refine gl 5 Tryz.func121 #[.agg #[.int .i64 1, .string a0, .int .i64 0]] (h := ?_); (with_reducible refine (q1_Right.calls k 1 a0 0 b0 _ A2.out).mono ?_); rintro e w3 ⟨rfl, hb⟩; refine ⟨_, rfl, ?_⟩; replace HB := bstep HB hb; (try clear hb); (try clear hb2); (try clear hk); (try clear hi)))
 go_ret
 exact ⟨erf, bb HB⟩
mutual
def q4_names.l0 : Nat → List ByteArray → Int → Option (Int)
 | 0, _, _ => none
 | k + 1, x0, x3 => if x3 < (x0.length : Int) then (if 0 ≤ x3 then ((q1_IsName.f k (rdOf ByteArray.empty x0 x3)).bind fun e4 => (if e4 = true then (q4_names.l1 k x0 x3 0) else (some 2))) else (none)) else (some 0)
def q4_names.l1 : Nat → List ByteArray → Int → Int → Option (Int)
 | 0, _, _, _ => none
 | k + 1, x0, x3, x4 => if x4 < x3 then (if 0 ≤ x4 then (if x4 < (x0.length : Int) then (if 0 ≤ x3 then (if x3 < (x0.length : Int) then (if (rdOf ByteArray.empty x0 x4).toList = (rdOf ByteArray.empty x0 x3).toList then (some 5) else (q4_names.l1 k x0 x3 (wrap64 (x4 + 1)))) else (none)) else (none)) else (none)) else (none)) else (q4_names.l0 k x0 (wrap64 (x3 + 1)))
end
def q4_names.f (k : Nat) (l0 : List ByteArray) : Option (Int) := if (l0.length : Int) > 20 then (some 3) else (q4_names.l0 k l0 0)
theorem q4_names.calls (k : Nat) (A0 : Option Addr) (c0 : Nat) (l0 : List ByteArray) (r : Int) (w : World) (h2 : Kd.C Kd.string w A0 l0.length l0) (h3 : l0.length ≤ c0) (h : q4_names.f k l0 = some r) :
  Calls Tryz.prog 122 #[.slice A0 l0.length c0] w fun e w' => e = .returned (.int .i64 r) ∧ Below w.heap.size w w' := by
 have d9 := am h2
 have v6 := am h3
 clear h2 h3
 have HB := am (Below.refl w.heap.size w)
 have H : (if (l0.length : Int) > 20 then (some 3) else (q4_names.l0 k l0 0)) = some r := h
 clear h
 by_cases c2 : (l0.length : Int) > 20
 ·rw [if_pos c2] at H
  have e1 : decide (20 < (l0.length : Int)) = true := decide_eq_true c2
  have e0 : decide (20 < l0.length) = true := decide_eq_true (by omega)
  clear c2
  obtain rfl := Option.some.inj H
  go_enter Tryz.func122, Tryz.ntmps122
  go_wp2
  repeat (go_quiet (fail); try go_wp2)
  go_ret
  exact ⟨erf, bb HB⟩
 rw [if_neg c2] at H
 have e1 : decide (20 < (l0.length : Int)) = false := decide_eq_false c2
 have e0 : decide (20 < l0.length) = false := decide_eq_false (by omega)
 clear c2
 have H' := am H
 clear H
 go_enter Tryz.func122, Tryz.ntmps122
 go_wp2
 repeat (go_quiet (fail); try go_wp2)
 go_loopg [3] k (fun kq v3 w' => ∃ (a3 : Int), v3 = .int .i64 a3 ∧ Aside0 (q4_names.l0 kq l0 a3 = some r) ∧ Aside0 (kq ≤ k) ∧ Aside0 (Below w.heap.size w w'))
 case atStart => exact ⟨(0), eqs, H', ⟨Nat.le_refl _⟩, ⟨bb HB⟩⟩
 case round =>
  clear H'
  clear e1
  clear e0
  obtain ⟨a3, rfl, HA, g1, HB⟩ := hrel
  cases gk with
  | zero => exact absurd HA.out (by simp [q4_names.l0])
  | succ k1 =>
   have H := HA.out
   clear HA
   simp only [q4_names.l0] at H
   by_cases c3 : a3 < (l0.length : Int)
   rotate_left
   ·rw [if_neg c3] at H
    have g3 := decide_eq_false c3
    clear c3
    obtain rfl := Option.some.inj H
    go_wp2
    repeat (go_quiet (fail); try go_wp2)
    go_ret
    exact ⟨erf, bb HB⟩
   rw [if_pos c3] at H
   have g3 := decide_eq_true c3
   clear c3
   obtain ⟨c4, H⟩ := itn H
   have h8 := decide_eq_true c4
   clear c4
   obtain ⟨e4, A5, H⟩ := obA H
   by_cases c6 : e4 = true
   rotate_left
   ·replace c6 := Bool.eq_false_iff.mpr c6
    subst c6
    replace H := iff_ H
    obtain rfl := Option.some.inj H
    have b6 : 0 ≤ a3 := odt
    have b5 : a3 < (l0.length : Int) := odt
    obtain ⟨d0, e7, a8⟩ := Kd.at_string d9.out a3 b6 b5
    cases e7
    replace a8 := hxc HB a8
    replace b6 := eq_true b6
    replace b5 := eq_true b5
    go_wp2_with (go_at_call 109; (with_reducible refine (q1_IsName.calls k1 (rdOf ByteArray.empty l0 a3) false _ A5.out).mono ?_); rintro e v2 ⟨rfl, hb⟩; replace HB := bstep HB hb; (try clear hb); (try clear hb2); (try clear hk); (try clear hi))
    repeat (go_quiet (fail); try go_wp2_with (fail))
    go_ret
    exact ⟨erf, bb HB⟩
   subst c6
   replace H := ift H
   have H' := am H
   clear H
   have b6 : 0 ≤ a3 := odt
   have b5 : a3 < (l0.length : Int) := odt
   obtain ⟨d0, e7, a8⟩ := Kd.at_string d9.out a3 b6 b5
   cases e7
   replace a8 := hxc HB a8
   replace b6 := eq_true b6
   replace b5 := eq_true b5
   go_wp2_with (go_at_call 109; (with_reducible refine (q1_IsName.calls k1 (rdOf ByteArray.empty l0 a3) true _ A5.out).mono ?_); rintro e w7 ⟨rfl, hb⟩; replace HB := bstep HB hb; (try clear hb); (try clear hb2); (try clear hk); (try clear hi))
   repeat (go_quiet (fail); try go_wp2_with (fail))
   go_loopg [4] k1 (fun kq v4 w' => ∃ (a7 : Int), v4 = .int .i64 a7 ∧ Aside0 (q4_names.l1 kq l0 a3 a7 = some r) ∧ Aside0 (kq ≤ k1) ∧ Aside0 (Below w.heap.size w w'))
   case atStart => exact ⟨(0), eqs, H', ⟨Nat.le_refl _⟩, ⟨bb HB⟩⟩
   case round =>
    clear H'
    clear g3
    clear h8
    clear a8
    clear b6
    clear b5
    obtain ⟨a7, rfl, HA, g0, HB⟩ := hrel
    cases gk with
    | zero => exact absurd HA.out (by simp [q4_names.l1])
    | succ k2 =>
     have H := HA.out
     clear HA
     simp only [q4_names.l1] at H
     by_cases c8 : a7 < a3
     rotate_left
     ·rw [if_neg c8] at H
      have h7 := decide_eq_false c8
      clear c8
      have H' := am H
      clear H
      go_wp2
      repeat (go_quiet (fail); try go_wp2)
      go_roundg k2
      case measure => have := g1.out; have := g0.out; omega
      case rel => exact ⟨(wrap64 (a3 + 1)), eqs, H', ⟨by have := g1.out; have := g0.out; omega⟩, ⟨bb HB⟩⟩
     rw [if_pos c8] at H
     have h7 := decide_eq_true c8
     clear c8
     obtain ⟨c9, H⟩ := itn H
     have t2 := decide_eq_true c9
     clear c9
     obtain ⟨h6, H⟩ := itn H
     have t1 := decide_eq_true h6
     clear h6
     obtain ⟨h5, H⟩ := itn H
     have t0 := decide_eq_true h5
     clear h5
     obtain ⟨h4, H⟩ := itn H
     have s9 := decide_eq_true h4
     clear h4
     by_cases d8 : (rdOf ByteArray.empty l0 a7).toList = (rdOf ByteArray.empty l0 a3).toList
     ·rw [if_pos d8] at H
      have h1 := beq_iff_eq.mpr d8
      have h0 := bne_eq_false_iff_eq.mpr d8
      clear d8
      obtain rfl := Option.some.inj H
      have c7 : 0 ≤ a7 := odt
      have c1 : a7 < (l0.length : Int) := odt
      obtain ⟨e3, e6, b2⟩ := Kd.at_string d9.out a7 c7 c1
      obtain rfl : d0 = e3 := (by injection e6)
      replace b2 := hxc HB b2
      replace c7 := eq_true c7
      replace c1 := eq_true c1
      have c5 : 0 ≤ a3 := odt
      have b9 : a3 < (l0.length : Int) := odt
      obtain ⟨e2, e5, b1⟩ := Kd.at_string d9.out a3 c5 b9
      obtain rfl : d0 = e2 := (by injection e5)
      replace b1 := hxc HB b1
      replace c5 := eq_true c5
      replace b9 := eq_true b9
      go_wp2
      repeat (go_quiet (fail); try go_wp2)
      go_ret
      exact ⟨erf, bb HB⟩
     rw [if_neg d8] at H
     have h1 := beq_eq_false_iff_ne.mpr d8
     have h0 := bne_iff_ne.mpr d8
     have H' := am H
     clear H
     have c7 : 0 ≤ a7 := odt
     have c1 : a7 < (l0.length : Int) := odt
     obtain ⟨e3, e6, b2⟩ := Kd.at_string d9.out a7 c7 c1
     obtain rfl : d0 = e3 := (by injection e6)
     replace b2 := hxc HB b2
     replace c7 := eq_true c7
     replace c1 := eq_true c1
     have c5 : 0 ≤ a3 := odt
     have b9 : a3 < (l0.length : Int) := odt
     obtain ⟨e2, e5, b1⟩ := Kd.at_string d9.out a3 c5 b9
     obtain rfl : d0 = e2 := (by injection e5)
     replace b1 := hxc HB b1
     replace c5 := eq_true c5
     replace b9 := eq_true b9
     go_wp2
     repeat (go_quiet (fail); try go_wp2)
     go_roundg k2
     case measure => have := g1.out; have := g0.out; omega
     case rel => exact ⟨(wrap64 (a7 + 1)), eqs, H', ⟨by have := g1.out; have := g0.out; omega⟩, ⟨bb HB⟩⟩
def q4_attribute.f (k : Nat) (b0 : ByteArray) (a2 : Int) (a4 : Int) (a1 : List ByteArray) : Option (Int) := if (a1.length : Int) = 0 then ((q4_in.f a2 (-1000000) 1000000).bind fun d4 => (if d4 = true then ((q4_in.f a4 a2 1000000).bind fun d3 => (if d3 = true then (some 0) else (some 6))) else (some 6))) else ((q4_names.f k a1).bind fun a9 => (if a9 = 0 then (if a2 = 0 then (if a4 = (wrap64 ((a1.length : Int) - 1)) then (some 0) else (some 6)) else (some 6)) else (some a9)))
theorem q4_attribute.calls (k : Nat) (b0 : ByteArray) (a2 : Int) (a4 : Int) (a6 : Option Addr) (a5 : Nat) (a1 : List ByteArray) (r : Int) (w : World) (e8 : Kd.C Kd.string w a6 a1.length a1) (e9 : a1.length ≤ a5) (h : q4_attribute.f k b0 a2 a4 a1 = some r) :
  Calls Tryz.prog 111 #[.agg #[.string b0, .int .i64 a2, .int .i64 a4, .slice a6 a1.length a5]] w fun e w' => e = .returned (.int .i64 r) ∧ Below w.heap.size w w' := by
 have hu99 := Tryz.underlying99
 have d1 := am e8
 have d2 := am e9
 clear e8 e9
 have HB := am (Below.refl w.heap.size w)
 have H : (if (a1.length : Int) = 0 then ((q4_in.f a2 (-1000000) 1000000).bind fun d4 => (if d4 = true then ((q4_in.f a4 a2 1000000).bind fun d3 => (if d3 = true then (some 0) else (some 6))) else (some 6))) else ((q4_names.f k a1).bind fun a9 => (if a9 = 0 then (if a2 = 0 then (if a4 = (wrap64 ((a1.length : Int) - 1)) then (some 0) else (some 6)) else (some 6)) else (some a9)))) = some r := h
 clear h
 by_cases c2 : (a1.length : Int) = 0
 ·rw [if_pos c2] at H
  have e1 := beq_iff_eq.mpr c2
  have e0 := bne_eq_false_iff_eq.mpr c2
  clear c2
  obtain ⟨d4, A3, H⟩ := obA H
  by_cases c4 : d4 = true
  rotate_left
  ·replace c4 := Bool.eq_false_iff.mpr c4
   subst c4
   replace H := iff_ H
   obtain rfl := Option.some.inj H
   go_enter Tryz.func111, Tryz.ntmps111
   go_wp2_with (first | ((with_reducible refine gate_dst (N := 1) rfl ?_); (try (refine gate_guard (by rfl) ?_; dsimp only)); refine be 1 #[.string b0, .int .i64 a2, .int .i64 a4, .slice a6 a1.length a5] 99 ?_; intro b7 hg v5 hbox hb; have a0 := am (hbox); have b8 := bsz HB hg; replace HB := bstep HB hb; clear hb hbox hg; obtain ⟨r6, r5, r4, r3, o0, n9, n8, n7⟩ := cz4 a0) | ((with_reducible refine gate_callee (f := 90) rfl ?_); refine gl 10 Tryz.func90 #[.int .i64 a2, .int .i64 (-1000000), .int .i64 1000000] (h := ?_); (with_reducible refine (q4_in.calls a2 (-1000000) 1000000 false _ A3.out).mono ?_); rintro e w' ⟨rfl, ⟨nd, rfl⟩⟩; refine ⟨_, rfl, ?_⟩))
   go_ret
   exact ⟨erf, bb HB⟩
  subst c4
  replace H := ift H
  obtain ⟨d3, A5, H⟩ := obA H
  by_cases c6 : d3 = true
  ·subst c6
   replace H := ift H
   obtain rfl := Option.some.inj H
   go_enter Tryz.func111, Tryz.ntmps111
   go_wp2_with (first | ((with_reducible refine gate_dst (N := 1) rfl ?_); (try (refine gate_guard (by rfl) ?_; dsimp only)); refine be 1 #[.string b0, .int .i64 a2, .int .i64 a4, .slice a6 a1.length a5] 99 ?_; intro b7 hg w7 hbox hb; have a0 := am (hbox); have b8 := bsz HB hg; replace HB := bstep HB hb; clear hb hbox hg; obtain ⟨s8, s7, s6, s5, s4, s3, s2, s1⟩ := cz4 a0) | ((with_reducible refine gate_callee (f := 90) rfl ?_); refine gl 10 Tryz.func90 #[.int .i64 a2, .int .i64 (-1000000), .int .i64 1000000] (h := ?_); (with_reducible refine (q4_in.calls a2 (-1000000) 1000000 true _ A3.out).mono ?_); rintro e w' ⟨rfl, ⟨nd, rfl⟩⟩; refine ⟨_, rfl, ?_⟩) | (go_at_call 90; (with_reducible refine (q4_in.calls a4 a2 1000000 true _ A5.out).mono ?_); rintro e w' ⟨rfl, ⟨nd, rfl⟩⟩))
   go_ret
   exact ⟨erf, bb HB⟩
  ·replace c6 := Bool.eq_false_iff.mpr c6
   subst c6
   replace H := iff_ H
   obtain rfl := Option.some.inj H
   go_enter Tryz.func111, Tryz.ntmps111
   go_wp2_with (first | ((with_reducible refine gate_dst (N := 1) rfl ?_); (try (refine gate_guard (by rfl) ?_; dsimp only)); refine be 1 #[.string b0, .int .i64 a2, .int .i64 a4, .slice a6 a1.length a5] 99 ?_; intro b7 hg w9 hbox hb; have a0 := am (hbox); have b8 := bsz HB hg; replace HB := bstep HB hb; clear hb hbox hg; obtain ⟨s0, r9, r8, r7, o4, o3, o2, o1⟩ := cz4 a0) | ((with_reducible refine gate_callee (f := 90) rfl ?_); refine gl 10 Tryz.func90 #[.int .i64 a2, .int .i64 (-1000000), .int .i64 1000000] (h := ?_); (with_reducible refine (q4_in.calls a2 (-1000000) 1000000 true _ A3.out).mono ?_); rintro e w' ⟨rfl, ⟨nd, rfl⟩⟩; refine ⟨_, rfl, ?_⟩) | (go_at_call 90; (with_reducible refine (q4_in.calls a4 a2 1000000 false _ A5.out).mono ?_); rintro e w' ⟨rfl, ⟨nd, rfl⟩⟩))
   go_ret
   exact ⟨erf, bb HB⟩
 rw [if_neg c2] at H
 have e1 := beq_eq_false_iff_ne.mpr c2
 have e0 := bne_iff_ne.mpr c2
 have t3 : ¬ (a1 = []) := fun h_ => c2 (by rw [h_]; rfl)
 obtain ⟨a9, g2, H⟩ := obA H
 by_cases d7 : a9 = 0
 rotate_left
 ·rw [if_neg d7] at H
  have g9 := beq_eq_false_iff_ne.mpr d7
  have g8 := bne_iff_ne.mpr d7
  obtain rfl := Option.some.inj H
  go_enter Tryz.func111, Tryz.ntmps111
  go_wp2_with (first | ((with_reducible refine gate_dst (N := 1) rfl ?_); (try (refine gate_guard (by rfl) ?_; dsimp only)); refine be 1 #[.string b0, .int .i64 a2, .int .i64 a4, .slice a6 a1.length a5] 99 ?_; intro b7 hg t5 hbox hb; have a0 := am (hbox); have b8 := bsz HB hg; replace HB := bstep HB hb; clear hb hbox hg; obtain ⟨o8, o7, o6, o5, j2, j1, j0, h9⟩ := cz4 a0) | ((with_reducible refine gate_callee (f := 122) rfl ?_); refine gl 22 Tryz.func122 #[.slice a6 a1.length a5] (h := ?_); (with_reducible refine (q4_names.calls k _ _ a1 a9 _ ?b4 ?b3 g2.out).mono ?_); (case b4 => exact cb d1 HB); (case b3 => exact d2.out); rintro e t4 ⟨rfl, hb⟩; refine ⟨_, rfl, ?_⟩; replace a0 := bkb a0 hb; replace HB := bstep HB hb; (try clear hb); (try clear hb2); (try clear hk); (try clear hi)))
  go_ret
  exact ⟨erf, bb HB⟩
 rw [if_pos d7] at H
 have g9 := beq_iff_eq.mpr d7
 have g8 := bne_eq_false_iff_eq.mpr d7
 clear d7
 by_cases d6 : a2 = 0
 rotate_left
 ·rw [if_neg d6] at H
  have g7 := beq_eq_false_iff_ne.mpr d6
  have g6 := bne_iff_ne.mpr d6
  obtain rfl := Option.some.inj H
  go_enter Tryz.func111, Tryz.ntmps111
  go_wp2_with (first | ((with_reducible refine gate_dst (N := 1) rfl ?_); (try (refine gate_guard (by rfl) ?_; dsimp only)); refine be 1 #[.string b0, .int .i64 a2, .int .i64 a4, .slice a6 a1.length a5] 99 ?_; intro b7 hg t7 hbox hb; have a0 := am (hbox); have b8 := bsz HB hg; replace HB := bstep HB hb; clear hb hbox hg; obtain ⟨p6, p5, p4, p3, m0, j9, j8, j7⟩ := cz4 a0) | ((with_reducible refine gate_callee (f := 122) rfl ?_); refine gl 22 Tryz.func122 #[.slice a6 a1.length a5] (h := ?_); (with_reducible refine (q4_names.calls k _ _ a1 a9 _ ?b4 ?b3 g2.out).mono ?_); (case b4 => exact cb d1 HB); (case b3 => exact d2.out); rintro e t6 ⟨rfl, hb⟩; refine ⟨_, rfl, ?_⟩; replace a0 := bkb a0 hb; replace HB := bstep HB hb; (try clear hb); (try clear hb2); (try clear hk); (try clear hi); obtain ⟨p2, p1, p0, o9, j6, j5, j4, j3⟩ := cz4 a0))
  go_ret
  exact ⟨erf, bb HB⟩
 rw [if_pos d6] at H
 have g7 := beq_iff_eq.mpr d6
 have g6 := bne_eq_false_iff_eq.mpr d6
 clear d6
 by_cases d5 : a4 = (wrap64 ((a1.length : Int) - 1))
 rotate_left
 ·rw [if_neg d5] at H
  have g5 := beq_eq_false_iff_ne.mpr d5
  have g4 := bne_iff_ne.mpr d5
  obtain rfl := Option.some.inj H
  go_enter Tryz.func111, Tryz.ntmps111
  go_wp2_with (first | ((with_reducible refine gate_dst (N := 1) rfl ?_); (try (refine gate_guard (by rfl) ?_; dsimp only)); refine be 1 #[.string b0, .int .i64 a2, .int .i64 a4, .slice a6 a1.length a5] 99 ?_; intro b7 hg t9 hbox hb; have a0 := am (hbox); have b8 := bsz HB hg; replace HB := bstep HB hb; clear hb hbox hg; obtain ⟨q4, q3, q2, q1, m8, m7, m6, m5⟩ := cz4 a0) | ((with_reducible refine gate_callee (f := 122) rfl ?_); refine gl 22 Tryz.func122 #[.slice a6 a1.length a5] (h := ?_); (with_reducible refine (q4_names.calls k _ _ a1 a9 _ ?b4 ?b3 g2.out).mono ?_); (case b4 => exact cb d1 HB); (case b3 => exact d2.out); rintro e t8 ⟨rfl, hb⟩; refine ⟨_, rfl, ?_⟩; replace a0 := bkb a0 hb; replace HB := bstep HB hb; (try clear hb); (try clear hb2); (try clear hk); (try clear hi); obtain ⟨q0, p9, p8, p7, m4, m3, m2, m1⟩ := cz4 a0))
  go_ret
  exact ⟨erf, bb HB⟩
 rw [if_pos d5] at H
 have g5 := beq_iff_eq.mpr d5
 have g4 := bne_eq_false_iff_eq.mpr d5
 clear d5
 obtain rfl := Option.some.inj H
 go_enter Tryz.func111, Tryz.ntmps111
 go_wp2_with (first | ((with_reducible refine gate_dst (N := 1) rfl ?_); (try (refine gate_guard (by rfl) ?_; dsimp only)); refine be 1 #[.string b0, .int .i64 a2, .int .i64 a4, .slice a6 a1.length a5] 99 ?_; intro b7 hg v1 hbox hb; have a0 := am (hbox); have b8 := bsz HB hg; replace HB := bstep HB hb; clear hb hbox hg; obtain ⟨r2, r1, r0, q9, n6, n5, n4, n3⟩ := cz4 a0) | ((with_reducible refine gate_callee (f := 122) rfl ?_); refine gl 22 Tryz.func122 #[.slice a6 a1.length a5] (h := ?_); (with_reducible refine (q4_names.calls k _ _ a1 a9 _ ?b4 ?b3 g2.out).mono ?_); (case b4 => exact cb d1 HB); (case b3 => exact d2.out); rintro e v0 ⟨rfl, hb⟩; refine ⟨_, rfl, ?_⟩; replace a0 := bkb a0 hb; replace HB := bstep HB hb; (try clear hb); (try clear hb2); (try clear hk); (try clear hi); obtain ⟨q8, q7, q6, q5, n2, n1, n0, m9⟩ := cz4 a0))
 go_ret
 exact ⟨erf, bb HB⟩
end Go.Proofs.YtfpianecohobjaaGreat.P
