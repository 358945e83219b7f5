/- typesLists_holds: a part of the proof that the law returns true for every input. No condition. -/
import Derived.Test.YtfpianecohobjaaVPx0
namespace Go.Proofs.Ytfpianecohobjaa.P
open Go.RowKit Go.Proofs.YtfpianecohobjaaW.PrintWords Go.Proofs.YtfpianecohobjaaW.PrintLast Go.Proofs.YtfpianecohobjaaW.PrintMore
set_option linter.unusedVariables false
set_option linter.unusedSimpArgs false
def q1_text.f (a0_0 : Int) (a0_1 : ByteArray) (a0_2 : Int) : Option (ByteArray) := if a0_0 = 3 then (none) else (some a0_1)
set_option maxHeartbeats 8000000 in
set_option maxRecDepth 100000 in
theorem q1_text.calls (a0_0 : Int) (a0_1 : ByteArray) (a0_2 : Int) (r : ByteArray) (w : World) (h : q1_text.f a0_0 a0_1 a0_2 = some r) :
    Calls Try.prog 106 #[.agg #[.int .i64 a0_0, .string a0_1, .int .i64 a0_2]] w fun e w' => e = .returned (.string r) ∧ Below w.heap.size w w' := by
  have hu119 := Try.underlying119
  have HB := Aside0.mk (Below.refl w.heap.size w)
  have H : (if a0_0 = 3 then (none) else (some a0_1)) = some r := h
  clear h
  by_cases c2 : a0_0 = 3
  · rw [if_pos c2] at H
    have c2b0 : (a0_0 == 3) = true := beq_iff_eq.mpr c2
    have c2b1 : (a0_0 != 3) = false := bne_eq_false_iff_eq.mpr c2
    clear c2
    exact absurd H (by simp)
  · rw [if_neg c2] at H
    have c2b0 : (a0_0 == 3) = false := beq_eq_false_iff_ne.mpr c2
    have c2b1 : (a0_0 != 3) = true := bne_iff_ne.mpr c2
    obtain rfl := Option.some.inj H
    go_enter Try.func106, Try.ntmps106
    go_wp2_with (first | ((with_reducible refine gate_dst (N := 1) rfl ?_); refine box_event ?hg (N := 1) ?hd (cs := #[.int .i64 a0_0, .string a0_1, .int .i64 a0_2]) (t := 119) ?hr ?_; (case hd => rfl); (case hg => rfl); (case hr => first | (go_simp; done) | (go_simp; rfl)); intro gb293 hg w3 hbox hb; have n0_ := Aside0.mk (below_step (by repeat (first | (with_reducible first | exact HB.out | apply below_alloc | apply pw_below_drewN | apply below_drew1) | exact HB.out)) hb); have n1_ := Aside0.mk (hbox); have n2_ := Aside0.mk ((by rw [hg]; exact (below_size (by repeat (first | (with_reducible first | exact HB.out | apply below_alloc | apply pw_below_drewN | apply below_drew1) | exact HB.out))) : w.heap.size ≤ gb293)); have n3_ := Aside0.mk ((by rw [hg]; exact (below_size (by repeat (first | (with_reducible first | exact HB.out | apply below_alloc | apply pw_below_drewN | apply below_drew1) | exact HB.out))) : w.heap.size ≤ gb293)); clear HB; have HB := n0_; have BK293 := n1_; have GW293 := n2_; have GE293 := n3_; clear n0_ n1_ n2_ n3_; clear hb hbox hg; have hcz4_0 : w3.cell? ⟨gb293, 0, none⟩ = some (.int .i64 a0_0) := (blk_cell BK293.out 0).trans rfl; have hcz4_1 : w3.cell? ⟨gb293, 1, none⟩ = some (.string a0_1) := (blk_cell BK293.out 1).trans rfl; have hcz4_2 : w3.cell? ⟨gb293, 2, none⟩ = some (.int .i64 a0_2) := (blk_cell BK293.out 2).trans rfl; have hfz4_0 := blk_frozen BK293.out 0; have hfz4_1 := blk_frozen BK293.out 1; have hfz4_2 := blk_frozen BK293.out 2))
    go_ret
    exact ⟨by first | rfl | (simp [errW_none, errW_some] <;> rfl) | (simp [*, errW_none, errW_some] <;> rfl), by repeat (first | (with_reducible first | exact HB.out | apply below_alloc | apply pw_below_drewN | apply below_drew1 | refine below_set ?_ GE293.out) | exact HB.out)⟩
def q1_letter.f (a0 : Int) : Option (Bool) := if a0 ≥ 97 then (if a0 ≤ 122 then (some true) else (if a0 ≥ 65 then (some (decide (a0 ≤ 90))) else (some false))) else (if a0 ≥ 65 then (some (decide (a0 ≤ 90))) else (some false))
set_option maxHeartbeats 8000000 in
set_option maxRecDepth 100000 in
theorem q1_letter.calls (a0 : Int) (r : Bool) (w : World) (h : q1_letter.f a0 = some r) :
    Calls Try.prog 119 #[.int .u8 a0] w fun e w' => e = .returned (.bool r) ∧ Drawn0 w w' := by
  have H : (if a0 ≥ 97 then (if a0 ≤ 122 then (some true) else (if a0 ≥ 65 then (some (decide (a0 ≤ 90))) else (some false))) else (if a0 ≥ 65 then (some (decide (a0 ≤ 90))) else (some false))) = some r := h
  clear h
  by_cases c2 : a0 ≥ 97
  · rw [if_pos c2] at H
    have c2b0 : decide (97 ≤ a0) = true := decide_eq_true c2
    clear c2
    by_cases c3 : a0 ≤ 122
    · rw [if_pos c3] at H
      have c3b0 : decide (a0 ≤ 122) = true := decide_eq_true c3
      clear c3
      obtain rfl := Option.some.inj H
      go_enter Try.func119, Try.ntmps119
      go_wp2
      go_ret
      exact ⟨by first | rfl | (simp; done) | (simp [*]; done), by repeat (first | exact Drawn0.refl _ | apply Drawn0.step)⟩
    · rw [if_neg c3] at H
      have c3b0 : decide (a0 ≤ 122) = false := decide_eq_false c3
      clear c3
      by_cases c4 : a0 ≥ 65
      · rw [if_pos c4] at H
        have c4b0 : decide (65 ≤ a0) = true := decide_eq_true c4
        clear c4
        obtain rfl := Option.some.inj H
        go_enter Try.func119, Try.ntmps119
        go_wp2
        go_ret
        exact ⟨by first | rfl | (simp; done) | (simp [*]; done), by repeat (first | exact Drawn0.refl _ | apply Drawn0.step)⟩
      · rw [if_neg c4] at H
        have c4b0 : decide (65 ≤ a0) = false := decide_eq_false c4
        clear c4
        obtain rfl := Option.some.inj H
        go_enter Try.func119, Try.ntmps119
        go_wp2
        go_ret
        exact ⟨by first | rfl | (simp; done) | (simp [*]; done), by repeat (first | exact Drawn0.refl _ | apply Drawn0.step)⟩
  · rw [if_neg c2] at H
    have c2b0 : decide (97 ≤ a0) = false := decide_eq_false c2
    clear c2
    by_cases c5 : a0 ≥ 65
    · rw [if_pos c5] at H
      have c5b0 : decide (65 ≤ a0) = true := decide_eq_true c5
      clear c5
      obtain rfl := Option.some.inj H
      go_enter Try.func119, Try.ntmps119
      go_wp2
      go_ret
      exact ⟨by first | rfl | (simp; done) | (simp [*]; done), by repeat (first | exact Drawn0.refl _ | apply Drawn0.step)⟩
    · rw [if_neg c5] at H
      have c5b0 : decide (65 ≤ a0) = false := decide_eq_false c5
      clear c5
      obtain rfl := Option.some.inj H
      go_enter Try.func119, Try.ntmps119
      go_wp2
      go_ret
      exact ⟨by first | rfl | (simp; done) | (simp [*]; done), by repeat (first | exact Drawn0.refl _ | apply Drawn0.step)⟩
def q1_digit.f (a0 : Int) : Option (Bool) := if a0 ≥ 48 then (some (decide (a0 ≤ 57))) else (some false)
set_option maxHeartbeats 8000000 in
set_option maxRecDepth 100000 in
theorem q1_digit.calls (a0 : Int) (r : Bool) (w : World) (h : q1_digit.f a0 = some r) :
    Calls Try.prog 120 #[.int .u8 a0] w fun e w' => e = .returned (.bool r) ∧ Drawn0 w w' := by
  have H : (if a0 ≥ 48 then (some (decide (a0 ≤ 57))) else (some false)) = some r := h
  clear h
  by_cases c2 : a0 ≥ 48
  · rw [if_pos c2] at H
    have c2b0 : decide (48 ≤ a0) = true := decide_eq_true c2
    clear c2
    obtain rfl := Option.some.inj H
    go_enter Try.func120, Try.ntmps120
    go_wp2
    go_ret
    exact ⟨by first | rfl | (simp; done) | (simp [*]; done), by repeat (first | exact Drawn0.refl _ | apply Drawn0.step)⟩
  · rw [if_neg c2] at H
    have c2b0 : decide (48 ≤ a0) = false := decide_eq_false c2
    clear c2
    obtain rfl := Option.some.inj H
    go_enter Try.func120, Try.ntmps120
    go_wp2
    go_ret
    exact ⟨by first | rfl | (simp; done) | (simp [*]; done), by repeat (first | exact Drawn0.refl _ | apply Drawn0.step)⟩
def q1_run.l0 : Nat → ByteArray → Int → Bool → Int → Option (Int)
  | 0, _, _, _, _ => none
  | k + 1, x0, x1, x2, x7 => if (wrap64 (x1 + x7)) < (x0.size : Int) then (if 0 ≤ (wrap64 (x1 + x7)) then ((q1_digit.f (bt x0 (wrap64 (x1 + x7)))).bind fun t294 => (if t294 = true then (q1_run.l0 k x0 x1 x2 (wrap64 (x7 + 1))) else (if x2 = true then (some x7) else ((q1_letter.f (bt x0 (wrap64 (x1 + x7)))).bind fun t295 => (if t295 = true then (q1_run.l0 k x0 x1 x2 (wrap64 (x7 + 1))) else (if (bt x0 (wrap64 (x1 + x7))) = 95 then (q1_run.l0 k x0 x1 x2 (wrap64 (x7 + 1))) else (some x7))))))) else (none)) else (some x7)
def q1_run.f (k : Nat) (a0 : ByteArray) (a1 : Int) (a2 : Bool) : Option (Int) := q1_run.l0 k a0 a1 a2 0
set_option maxHeartbeats 8000000 in
set_option maxRecDepth 100000 in
theorem q1_run.calls (k : Nat) (a0 : ByteArray) (a1 : Int) (a2 : Bool) (r : Int) (w : World) (h : q1_run.f k a0 a1 a2 = some r) :
    Calls Try.prog 121 #[.string a0, .int .i64 a1, .bool a2] w fun e w' => e = .returned (.int .i64 r) ∧ Drawn0 w w' := by
  have H : (q1_run.l0 k a0 a1 a2 0) = some r := h
  clear h
  have H' := Aside0.mk H
  clear H
  go_enter Try.func121, Try.ntmps121
  go_wp2
  go_loopg [7] k (fun kq v7 w' => ∃ (x7_1 : Int), v7 = .int .i64 x7_1 ∧ Aside0 (q1_run.l0 kq a0 a1 a2 x7_1 = some r) ∧ Aside0 (kq ≤ k) ∧ Drawn0 w w')
  case atStart => exact ⟨(0), (by first | rfl | (simp; done) | (simp [*]; done)), H', ⟨Nat.le_refl _⟩, by repeat (first | exact Drawn0.refl _ | apply Drawn0.step)⟩
  case round =>
    clear H'
    try clear c1
    try clear p2
    obtain ⟨x7_1, rfl, HA, HK1, ⟨m1, rfl⟩⟩ := hrel
    cases gk with
    | zero => exact absurd HA.out (by simp [q1_run.l0])
    | succ k1 =>
      have H := HA.out
      clear HA
      simp only [q1_run.l0] at H
      by_cases c4 : (wrap64 (a1 + x7_1)) < (a0.size : Int)
      · rw [if_pos c4] at H
        have c4b0 : decide ((wrap64 (a1 + x7_1)) < (a0.size : Int)) = true := decide_eq_true c4
        clear c4
        obtain ⟨ji5, hji5⟩ : ∃ j_ : Int, (wrap64 (a1 + x7_1)) = j_ := ⟨_, rfl⟩
        replace H : (if 0 ≤ (ji5) then ((q1_digit.f (bt a0 (ji5))).bind fun t294 => (if t294 = true then (q1_run.l0 k1 a0 a1 a2 (wrap64 (x7_1 + 1))) else (if a2 = true then (some x7_1) else ((q1_letter.f (bt a0 (ji5))).bind fun t295 => (if t295 = true then (q1_run.l0 k1 a0 a1 a2 (wrap64 (x7_1 + 1))) else (if (bt a0 (ji5)) = 95 then (q1_run.l0 k1 a0 a1 a2 (wrap64 (x7_1 + 1))) else (some x7_1))))))) else (none)) = some r := by first | (rw [hji5] at H; exact H) | (simp only [hji5] at H ⊢; exact H)
        (try rw [hji5] at c4b0)
        have hji5w : (IntKind.i64.wrap (a1 + x7_1)) = ji5 := (i64_w _).trans hji5
        by_cases c6 : 0 ≤ (ji5)
        · rw [if_pos c6] at H
          have c6b0 : decide (0 ≤ (ji5)) = true := decide_eq_true c6
          clear c6
          replace H := Option.bind_eq_some_iff.mp H
          obtain ⟨t294, A80, H⟩ := H
          replace H : (if t294 = true then (q1_run.l0 k1 a0 a1 a2 (wrap64 (x7_1 + 1))) else (if a2 = true then (some x7_1) else ((q1_letter.f (bt a0 (ji5))).bind fun t295 => (if t295 = true then (q1_run.l0 k1 a0 a1 a2 (wrap64 (x7_1 + 1))) else (if (bt a0 (ji5)) = 95 then (q1_run.l0 k1 a0 a1 a2 (wrap64 (x7_1 + 1))) else (some x7_1)))))) = some r := H
          have A8 := Aside0.mk A80
          clear A80
          by_cases c9 : t294 = true
          · subst c9
            have H1 : (q1_run.l0 k1 a0 a1 a2 (wrap64 (x7_1 + 1))) = some r := by rw [if_pos rfl] at H; exact H
            clear H
            have H := H1
            clear H1
            have H' := Aside0.mk H
            clear H
            have p7 : 0 ≤ ((ji5) : Int) := of_decide_eq_true (by first | (with_reducible assumption) | assumption)
            have q7 : (ji5) < (a0.size : Int) := of_decide_eq_true (by first | (with_reducible assumption) | assumption)
            have hx7 := bt_at a0 (ji5)
            replace p7 := eq_true p7
            replace q7 := eq_true q7
            go_wp2_with (first | (go_at_call 120; (with_reducible refine (q1_digit.calls (bt a0 (ji5)) true _ A8.out).mono ?_); rintro e w' ⟨rfl, ⟨nd, rfl⟩⟩))
            go_roundg k1
            case measure => have := HK1.out; omega
            case rel => exact ⟨(wrap64 (x7_1 + 1)), (by first | rfl | (simp; done) | (simp [*]; done)), H', ⟨by have := HK1.out; omega⟩, by repeat (first | exact Drawn0.refl _ | apply Drawn0.step)⟩
          · replace c9 := Bool.eq_false_iff.mpr c9
            subst c9
            have H1 : (if a2 = true then (some x7_1) else ((q1_letter.f (bt a0 (ji5))).bind fun t295 => (if t295 = true then (q1_run.l0 k1 a0 a1 a2 (wrap64 (x7_1 + 1))) else (if (bt a0 (ji5)) = 95 then (q1_run.l0 k1 a0 a1 a2 (wrap64 (x7_1 + 1))) else (some x7_1))))) = some r := by rw [if_neg (show ¬ (false = true) by decide)] at H; exact H
            clear H
            have H := H1
            clear H1
            by_cases c10 : a2 = true
            · subst c10
              have H1 : (some x7_1) = some r := by rw [if_pos rfl] at H; exact H
              clear H
              have H := H1
              clear H1
              obtain rfl := Option.some.inj H
              have p7 : 0 ≤ ((ji5) : Int) := of_decide_eq_true (by first | (with_reducible assumption) | assumption)
              have q7 : (ji5) < (a0.size : Int) := of_decide_eq_true (by first | (with_reducible assumption) | assumption)
              have hx7 := bt_at a0 (ji5)
              replace p7 := eq_true p7
              replace q7 := eq_true q7
              go_wp2_with (first | (go_at_call 120; (with_reducible refine (q1_digit.calls (bt a0 (ji5)) false _ A8.out).mono ?_); rintro e w' ⟨rfl, ⟨nd, rfl⟩⟩))
              go_ret
              exact ⟨by first | rfl | (simp; done) | (simp only [← hji5] <;> (first | rfl | simp)) | (simp [*]; done), by repeat (first | exact Drawn0.refl _ | apply Drawn0.step)⟩
            · replace c10 := Bool.eq_false_iff.mpr c10
              subst c10
              have H1 : ((q1_letter.f (bt a0 (ji5))).bind fun t295 => (if t295 = true then (q1_run.l0 k1 a0 a1 false (wrap64 (x7_1 + 1))) else (if (bt a0 (ji5)) = 95 then (q1_run.l0 k1 a0 a1 false (wrap64 (x7_1 + 1))) else (some x7_1)))) = some r := by rw [if_neg (show ¬ (false = true) by decide)] at H; exact H
              clear H
              have H := H1
              clear H1
              replace H := Option.bind_eq_some_iff.mp H
              obtain ⟨t295, A120, H⟩ := H
              replace H : (if t295 = true then (q1_run.l0 k1 a0 a1 false (wrap64 (x7_1 + 1))) else (if (bt a0 (ji5)) = 95 then (q1_run.l0 k1 a0 a1 false (wrap64 (x7_1 + 1))) else (some x7_1))) = some r := H
              have A12 := Aside0.mk A120
              clear A120
              by_cases c13 : t295 = true
              · subst c13
                have H1 : (q1_run.l0 k1 a0 a1 false (wrap64 (x7_1 + 1))) = some r := by rw [if_pos rfl] at H; exact H
                clear H
                have H := H1
                clear H1
                have H' := Aside0.mk H
                clear H
                have p7 : 0 ≤ ((ji5) : Int) := of_decide_eq_true (by first | (with_reducible assumption) | assumption)
                have q7 : (ji5) < (a0.size : Int) := of_decide_eq_true (by first | (with_reducible assumption) | assumption)
                have hx7 := bt_at a0 (ji5)
                replace p7 := eq_true p7
                replace q7 := eq_true q7
                go_wp2_with (first | (go_at_call 120; (with_reducible refine (q1_digit.calls (bt a0 (ji5)) false _ A8.out).mono ?_); rintro e w' ⟨rfl, ⟨nd, rfl⟩⟩; have p11 : 0 ≤ ((ji5) : Int) := of_decide_eq_true (by first | (with_reducible assumption) | assumption); have q11 : (ji5) < (a0.size : Int) := of_decide_eq_true (by first | (with_reducible assumption) | assumption); have hx11 := bt_at a0 (ji5); replace p11 := eq_true p11; replace q11 := eq_true q11) | (go_at_call 119; (with_reducible refine (q1_letter.calls (bt a0 (ji5)) true _ A12.out).mono ?_); rintro e w' ⟨rfl, ⟨nd, rfl⟩⟩))
                go_roundg k1
                case measure => have := HK1.out; omega
                case rel => exact ⟨(wrap64 (x7_1 + 1)), (by first | rfl | (simp; done) | (simp [*]; done)), H', ⟨by have := HK1.out; omega⟩, by repeat (first | exact Drawn0.refl _ | apply Drawn0.step)⟩
              · replace c13 := Bool.eq_false_iff.mpr c13
                subst c13
                have H1 : (if (bt a0 (ji5)) = 95 then (q1_run.l0 k1 a0 a1 false (wrap64 (x7_1 + 1))) else (some x7_1)) = some r := by rw [if_neg (show ¬ (false = true) by decide)] at H; exact H
                clear H
                have H := H1
                clear H1
                by_cases c15 : (bt a0 (ji5)) = 95
                · rw [if_pos c15] at H
                  have c15b0 : ((bt a0 (ji5)) == 95) = true := beq_iff_eq.mpr c15
                  have c15b1 : ((bt a0 (ji5)) != 95) = false := bne_eq_false_iff_eq.mpr c15
                  clear c15
                  have H' := Aside0.mk H
                  clear H
                  have p7 : 0 ≤ ((ji5) : Int) := of_decide_eq_true (by first | (with_reducible assumption) | assumption)
                  have q7 : (ji5) < (a0.size : Int) := of_decide_eq_true (by first | (with_reducible assumption) | assumption)
                  have hx7 := bt_at a0 (ji5)
                  replace p7 := eq_true p7
                  replace q7 := eq_true q7
                  go_wp2_with (first | (go_at_call 120; (with_reducible refine (q1_digit.calls (bt a0 (ji5)) false _ A8.out).mono ?_); rintro e w' ⟨rfl, ⟨nd, rfl⟩⟩; have p11 : 0 ≤ ((ji5) : Int) := of_decide_eq_true (by first | (with_reducible assumption) | assumption); have q11 : (ji5) < (a0.size : Int) := of_decide_eq_true (by first | (with_reducible assumption) | assumption); have hx11 := bt_at a0 (ji5); replace p11 := eq_true p11; replace q11 := eq_true q11) | (go_at_call 119; (with_reducible refine (q1_letter.calls (bt a0 (ji5)) false _ A12.out).mono ?_); rintro e w' ⟨rfl, ⟨nd, rfl⟩⟩; have p14 : 0 ≤ ((ji5) : Int) := of_decide_eq_true (by first | (with_reducible assumption) | assumption); have q14 : (ji5) < (a0.size : Int) := of_decide_eq_true (by first | (with_reducible assumption) | assumption); have hx14 := bt_at a0 (ji5); replace p14 := eq_true p14; replace q14 := eq_true q14))
                  go_roundg k1
                  case measure => have := HK1.out; omega
                  case rel => exact ⟨(wrap64 (x7_1 + 1)), (by first | rfl | (simp; done) | (simp [*]; done)), H', ⟨by have := HK1.out; omega⟩, by repeat (first | exact Drawn0.refl _ | apply Drawn0.step)⟩
                · rw [if_neg c15] at H
                  have c15b0 : ((bt a0 (ji5)) == 95) = false := beq_eq_false_iff_ne.mpr c15
                  have c15b1 : ((bt a0 (ji5)) != 95) = true := bne_iff_ne.mpr c15
                  obtain rfl := Option.some.inj H
                  have p7 : 0 ≤ ((ji5) : Int) := of_decide_eq_true (by first | (with_reducible assumption) | assumption)
                  have q7 : (ji5) < (a0.size : Int) := of_decide_eq_true (by first | (with_reducible assumption) | assumption)
                  have hx7 := bt_at a0 (ji5)
                  replace p7 := eq_true p7
                  replace q7 := eq_true q7
                  go_wp2_with (first | (go_at_call 120; (with_reducible refine (q1_digit.calls (bt a0 (ji5)) false _ A8.out).mono ?_); rintro e w' ⟨rfl, ⟨nd, rfl⟩⟩; have p11 : 0 ≤ ((ji5) : Int) := of_decide_eq_true (by first | (with_reducible assumption) | assumption); have q11 : (ji5) < (a0.size : Int) := of_decide_eq_true (by first | (with_reducible assumption) | assumption); have hx11 := bt_at a0 (ji5); replace p11 := eq_true p11; replace q11 := eq_true q11) | (go_at_call 119; (with_reducible refine (q1_letter.calls (bt a0 (ji5)) false _ A12.out).mono ?_); rintro e w' ⟨rfl, ⟨nd, rfl⟩⟩; have p14 : 0 ≤ ((ji5) : Int) := of_decide_eq_true (by first | (with_reducible assumption) | assumption); have q14 : (ji5) < (a0.size : Int) := of_decide_eq_true (by first | (with_reducible assumption) | assumption); have hx14 := bt_at a0 (ji5); replace p14 := eq_true p14; replace q14 := eq_true q14))
                  go_ret
                  exact ⟨by first | rfl | (simp; done) | (simp only [← hji5] <;> (first | rfl | simp)) | (simp [*]; done), by repeat (first | exact Drawn0.refl _ | apply Drawn0.step)⟩
        · rw [if_neg c6] at H
          exact absurd H (by simp)
      · rw [if_neg c4] at H
        have c4b0 : decide ((wrap64 (a1 + x7_1)) < (a0.size : Int)) = false := decide_eq_false c4
        clear c4
        obtain rfl := Option.some.inj H
        go_wp2
        go_ret
        exact ⟨by first | rfl | (simp; done) | (simp [*]; done), by repeat (first | exact Drawn0.refl _ | apply Drawn0.step)⟩
def q1_quoted.l0 : Nat → ByteArray → Int → Int → Option (Int)
  | 0, _, _, _ => none
  | k + 1, x0, x1, x5 => if (wrap64 (x1 + x5)) < (x0.size : Int) then (if 0 ≤ (wrap64 (x1 + x5)) then (if (bt x0 (wrap64 (x1 + x5))) = 34 then (some (wrap64 (x5 + 1))) else (if (bt x0 (wrap64 (x1 + x5))) < 32 then (some 0) else (if (bt x0 (wrap64 (x1 + x5))) > 126 then (some 0) else (q1_quoted.l0 k x0 x1 (wrap64 (x5 + 1)))))) else (none)) else (some 0)
def q1_quoted.f (k : Nat) (a0 : ByteArray) (a1 : Int) : Option (Int) := q1_quoted.l0 k a0 a1 1
set_option maxHeartbeats 8000000 in
set_option maxRecDepth 100000 in
theorem q1_quoted.calls (k : Nat) (a0 : ByteArray) (a1 : Int) (r : Int) (w : World) (h : q1_quoted.f k a0 a1 = some r) :
    Calls Try.prog 122 #[.string a0, .int .i64 a1] w fun e w' => e = .returned (.int .i64 r) ∧ Drawn0 w w' := by
  have H : (q1_quoted.l0 k a0 a1 1) = some r := h
  clear h
  have H' := Aside0.mk H
  clear H
  go_enter Try.func122, Try.ntmps122
  go_wp2
  go_loopg [5] k (fun kq v5 w' => ∃ (x5_1 : Int), v5 = .int .i64 x5_1 ∧ Aside0 (q1_quoted.l0 kq a0 a1 x5_1 = some r) ∧ Aside0 (kq ≤ k) ∧ Drawn0 w w')
  case atStart => exact ⟨(1), (by first | rfl | (simp; done) | (simp [*]; done)), H', ⟨Nat.le_refl _⟩, by repeat (first | exact Drawn0.refl _ | apply Drawn0.step)⟩
  case round =>
    clear H'
    try clear c1
    try clear p2
    obtain ⟨x5_1, rfl, HA, HK1, ⟨m1, rfl⟩⟩ := hrel
    cases gk with
    | zero => exact absurd HA.out (by simp [q1_quoted.l0])
    | succ k1 =>
      have H := HA.out
      clear HA
      simp only [q1_quoted.l0] at H
      by_cases c3 : (wrap64 (a1 + x5_1)) < (a0.size : Int)
      · rw [if_pos c3] at H
        have c3b0 : decide ((wrap64 (a1 + x5_1)) < (a0.size : Int)) = true := decide_eq_true c3
        clear c3
        obtain ⟨ji4, hji4⟩ : ∃ j_ : Int, (wrap64 (a1 + x5_1)) = j_ := ⟨_, rfl⟩
        replace H : (if 0 ≤ (ji4) then (if (bt a0 (ji4)) = 34 then (some (wrap64 (x5_1 + 1))) else (if (bt a0 (ji4)) < 32 then (some 0) else (if (bt a0 (ji4)) > 126 then (some 0) else (q1_quoted.l0 k1 a0 a1 (wrap64 (x5_1 + 1)))))) else (none)) = some r := by first | (rw [hji4] at H; exact H) | (simp only [hji4] at H ⊢; exact H)
        (try rw [hji4] at c3b0)
        have hji4w : (IntKind.i64.wrap (a1 + x5_1)) = ji4 := (i64_w _).trans hji4
        by_cases c5 : 0 ≤ (ji4)
        · rw [if_pos c5] at H
          have c5b0 : decide (0 ≤ (ji4)) = true := decide_eq_true c5
          clear c5
          by_cases c7 : (bt a0 (ji4)) = 34
          · rw [if_pos c7] at H
            have c7b0 : ((bt a0 (ji4)) == 34) = true := beq_iff_eq.mpr c7
            have c7b1 : ((bt a0 (ji4)) != 34) = false := bne_eq_false_iff_eq.mpr c7
            clear c7
            obtain rfl := Option.some.inj H
            have p6 : 0 ≤ ((ji4) : Int) := of_decide_eq_true (by first | (with_reducible assumption) | assumption)
            have q6 : (ji4) < (a0.size : Int) := of_decide_eq_true (by first | (with_reducible assumption) | assumption)
            have hx6 := bt_at a0 (ji4)
            replace p6 := eq_true p6
            replace q6 := eq_true q6
            go_wp2
            go_ret
            exact ⟨by first | rfl | (simp; done) | (simp only [← hji4] <;> (first | rfl | simp)) | (simp [*]; done), by repeat (first | exact Drawn0.refl _ | apply Drawn0.step)⟩
          · rw [if_neg c7] at H
            have c7b0 : ((bt a0 (ji4)) == 34) = false := beq_eq_false_iff_ne.mpr c7
            have c7b1 : ((bt a0 (ji4)) != 34) = true := bne_iff_ne.mpr c7
            by_cases c8 : (bt a0 (ji4)) < 32
            · rw [if_pos c8] at H
              have c8b0 : decide ((bt a0 (ji4)) < 32) = true := decide_eq_true c8
              clear c8
              obtain rfl := Option.some.inj H
              have p6 : 0 ≤ ((ji4) : Int) := of_decide_eq_true (by first | (with_reducible assumption) | assumption)
              have q6 : (ji4) < (a0.size : Int) := of_decide_eq_true (by first | (with_reducible assumption) | assumption)
              have hx6 := bt_at a0 (ji4)
              replace p6 := eq_true p6
              replace q6 := eq_true q6
              go_wp2
              go_ret
              exact ⟨by first | rfl | (simp; done) | (simp only [← hji4] <;> (first | rfl | simp)) | (simp [*]; done), by repeat (first | exact Drawn0.refl _ | apply Drawn0.step)⟩
            · rw [if_neg c8] at H
              have c8b0 : decide ((bt a0 (ji4)) < 32) = false := decide_eq_false c8
              clear c8
              by_cases c9 : (bt a0 (ji4)) > 126
              · rw [if_pos c9] at H
                have c9b0 : decide (126 < (bt a0 (ji4))) = true := decide_eq_true c9
                clear c9
                obtain rfl := Option.some.inj H
                have p6 : 0 ≤ ((ji4) : Int) := of_decide_eq_true (by first | (with_reducible assumption) | assumption)
                have q6 : (ji4) < (a0.size : Int) := of_decide_eq_true (by first | (with_reducible assumption) | assumption)
                have hx6 := bt_at a0 (ji4)
                replace p6 := eq_true p6
                replace q6 := eq_true q6
                go_wp2
                go_ret
                exact ⟨by first | rfl | (simp; done) | (simp only [← hji4] <;> (first | rfl | simp)) | (simp [*]; done), by repeat (first | exact Drawn0.refl _ | apply Drawn0.step)⟩
              · rw [if_neg c9] at H
                have c9b0 : decide (126 < (bt a0 (ji4))) = false := decide_eq_false c9
                clear c9
                have H' := Aside0.mk H
                clear H
                have p6 : 0 ≤ ((ji4) : Int) := of_decide_eq_true (by first | (with_reducible assumption) | assumption)
                have q6 : (ji4) < (a0.size : Int) := of_decide_eq_true (by first | (with_reducible assumption) | assumption)
                have hx6 := bt_at a0 (ji4)
                replace p6 := eq_true p6
                replace q6 := eq_true q6
                go_wp2
                go_roundg k1
                case measure => have := HK1.out; omega
                case rel => exact ⟨(wrap64 (x5_1 + 1)), (by first | rfl | (simp; done) | (simp [*]; done)), H', ⟨by have := HK1.out; omega⟩, by repeat (first | exact Drawn0.refl _ | apply Drawn0.step)⟩
        · rw [if_neg c5] at H
          exact absurd H (by simp)
      · rw [if_neg c3] at H
        have c3b0 : decide ((wrap64 (a1 + x5_1)) < (a0.size : Int)) = false := decide_eq_false c3
        clear c3
        obtain rfl := Option.some.inj H
        go_wp2
        go_ret
        exact ⟨by first | rfl | (simp; done) | (simp [*]; done), by repeat (first | exact Drawn0.refl _ | apply Drawn0.step)⟩
def q1_signs.f  : Option (List ByteArray) := some (([(⟨#[45, 62]⟩ : ByteArray), (⟨#[60, 61]⟩ : ByteArray), (⟨#[62, 61]⟩ : ByteArray), (⟨#[61, 61]⟩ : ByteArray), (⟨#[33, 61]⟩ : ByteArray), (⟨#[123]⟩ : ByteArray), (⟨#[125]⟩ : ByteArray), (⟨#[40]⟩ : ByteArray), (⟨#[41]⟩ : ByteArray), (⟨#[91]⟩ : ByteArray), (⟨#[93]⟩ : ByteArray), (⟨#[44]⟩ : ByteArray), (⟨#[59]⟩ : ByteArray), (⟨#[58]⟩ : ByteArray), (⟨#[61]⟩ : ByteArray), (⟨#[43]⟩ : ByteArray), (⟨#[45]⟩ : ByteArray), (⟨#[42]⟩ : ByteArray), (⟨#[60]⟩ : ByteArray), (⟨#[62]⟩ : ByteArray), (⟨#[33]⟩ : ByteArray), (⟨#[38]⟩ : ByteArray), (⟨#[124]⟩ : ByteArray), (⟨#[46]⟩ : ByteArray), (⟨#[63]⟩ : ByteArray)] : List ByteArray))
set_option maxHeartbeats 8000000 in
set_option maxRecDepth 100000 in
theorem q1_signs.calls  (r : List ByteArray) (w : World) (h : q1_signs.f  = some r) :
    Calls Try.prog 123 #[] w fun e w' => ∃ v0_ : Value, e = .returned (v0_) ∧ Kd.R Kd.string 9 w' w.heap.size (fun _ => True) v0_ r ∧ Below w.heap.size w w' := by
  have HB := Aside0.mk (Below.refl w.heap.size w)
  have H : (some (([(⟨#[45, 62]⟩ : ByteArray), (⟨#[60, 61]⟩ : ByteArray), (⟨#[62, 61]⟩ : ByteArray), (⟨#[61, 61]⟩ : ByteArray), (⟨#[33, 61]⟩ : ByteArray), (⟨#[123]⟩ : ByteArray), (⟨#[125]⟩ : ByteArray), (⟨#[40]⟩ : ByteArray), (⟨#[41]⟩ : ByteArray), (⟨#[91]⟩ : ByteArray), (⟨#[93]⟩ : ByteArray), (⟨#[44]⟩ : ByteArray), (⟨#[59]⟩ : ByteArray), (⟨#[58]⟩ : ByteArray), (⟨#[61]⟩ : ByteArray), (⟨#[43]⟩ : ByteArray), (⟨#[45]⟩ : ByteArray), (⟨#[42]⟩ : ByteArray), (⟨#[60]⟩ : ByteArray), (⟨#[62]⟩ : ByteArray), (⟨#[33]⟩ : ByteArray), (⟨#[38]⟩ : ByteArray), (⟨#[124]⟩ : ByteArray), (⟨#[46]⟩ : ByteArray), (⟨#[63]⟩ : ByteArray)] : List ByteArray))) = some r := h
  clear h
  obtain ⟨y296, hy296⟩ : ∃ y_ : List ByteArray, y_ = (([(⟨#[45, 62]⟩ : ByteArray), (⟨#[60, 61]⟩ : ByteArray), (⟨#[62, 61]⟩ : ByteArray), (⟨#[61, 61]⟩ : ByteArray), (⟨#[33, 61]⟩ : ByteArray), (⟨#[123]⟩ : ByteArray), (⟨#[125]⟩ : ByteArray), (⟨#[40]⟩ : ByteArray), (⟨#[41]⟩ : ByteArray), (⟨#[91]⟩ : ByteArray), (⟨#[93]⟩ : ByteArray), (⟨#[44]⟩ : ByteArray), (⟨#[59]⟩ : ByteArray), (⟨#[58]⟩ : ByteArray), (⟨#[61]⟩ : ByteArray), (⟨#[43]⟩ : ByteArray), (⟨#[45]⟩ : ByteArray), (⟨#[42]⟩ : ByteArray), (⟨#[60]⟩ : ByteArray), (⟨#[62]⟩ : ByteArray), (⟨#[33]⟩ : ByteArray), (⟨#[38]⟩ : ByteArray), (⟨#[124]⟩ : ByteArray), (⟨#[46]⟩ : ByteArray), (⟨#[63]⟩ : ByteArray)] : List ByteArray)) := ⟨_, rfl⟩
  replace H : (some y296) = some r := by first | (rw [hy296]; with_reducible exact H) | (have H2_ := (Option.bind_some _ _).symm.trans H; rw [hy296]; with_reducible exact H2_) | (have H2_ := (Option.bind_some _ _).symm.trans H; with_reducible exact H2_) | with_reducible exact H | (rw [hy296]; exact H) | exact H
  have Ny296 := Aside0.mk hy296
  clear hy296
  obtain rfl := Option.some.inj H
  go_enter Try.func123, Try.ntmps123
  go_wp2_with (first | ((with_reducible refine gate_dst (N := 1) rfl ?_); refine Kd.R_lit Kd.string _ 9 ?hg (N := 1) ?hd (xs := ([(⟨#[45, 62]⟩ : ByteArray), (⟨#[60, 61]⟩ : ByteArray), (⟨#[62, 61]⟩ : ByteArray), (⟨#[61, 61]⟩ : ByteArray), (⟨#[33, 61]⟩ : ByteArray), (⟨#[123]⟩ : ByteArray), (⟨#[125]⟩ : ByteArray), (⟨#[40]⟩ : ByteArray), (⟨#[41]⟩ : ByteArray), (⟨#[91]⟩ : ByteArray), (⟨#[93]⟩ : ByteArray), (⟨#[44]⟩ : ByteArray), (⟨#[59]⟩ : ByteArray), (⟨#[58]⟩ : ByteArray), (⟨#[61]⟩ : ByteArray), (⟨#[43]⟩ : ByteArray), (⟨#[45]⟩ : ByteArray), (⟨#[42]⟩ : ByteArray), (⟨#[60]⟩ : ByteArray), (⟨#[62]⟩ : ByteArray), (⟨#[33]⟩ : ByteArray), (⟨#[38]⟩ : ByteArray), (⟨#[124]⟩ : ByteArray), (⟨#[46]⟩ : ByteArray), (⟨#[63]⟩ : ByteArray)] : List ByteArray)) (inner := [.string (⟨#[45, 62]⟩ : ByteArray), .string (⟨#[60, 61]⟩ : ByteArray), .string (⟨#[62, 61]⟩ : ByteArray), .string (⟨#[61, 61]⟩ : ByteArray), .string (⟨#[33, 61]⟩ : ByteArray), .string (⟨#[123]⟩ : ByteArray), .string (⟨#[125]⟩ : ByteArray), .string (⟨#[40]⟩ : ByteArray), .string (⟨#[41]⟩ : ByteArray), .string (⟨#[91]⟩ : ByteArray), .string (⟨#[93]⟩ : ByteArray), .string (⟨#[44]⟩ : ByteArray), .string (⟨#[59]⟩ : ByteArray), .string (⟨#[58]⟩ : ByteArray), .string (⟨#[61]⟩ : ByteArray), .string (⟨#[43]⟩ : ByteArray), .string (⟨#[45]⟩ : ByteArray), .string (⟨#[42]⟩ : ByteArray), .string (⟨#[60]⟩ : ByteArray), .string (⟨#[62]⟩ : ByteArray), .string (⟨#[33]⟩ : ByteArray), .string (⟨#[38]⟩ : ByteArray), .string (⟨#[124]⟩ : ByteArray), .string (⟨#[46]⟩ : ByteArray), .string (⟨#[63]⟩ : ByteArray)]) (ok := fun _ => True) (okp := fun _ => True) ?hr ?hp (fun _ hk => hk) trivial (Below.refl _ _) (Nat.le_refl _) (by simp) ?_; (case hd => rfl); (case hg => rfl); (case hr => first | (go_simp; done) | (go_simp; rfl)); (case hp => exact (Reps.one (show Kd.M Kd.string _ _ _ (⟨#[45, 62]⟩ : ByteArray) [.string (⟨#[45, 62]⟩ : ByteArray)] from rfl) (Reps.one (show Kd.M Kd.string _ _ _ (⟨#[60, 61]⟩ : ByteArray) [.string (⟨#[60, 61]⟩ : ByteArray)] from rfl) (Reps.one (show Kd.M Kd.string _ _ _ (⟨#[62, 61]⟩ : ByteArray) [.string (⟨#[62, 61]⟩ : ByteArray)] from rfl) (Reps.one (show Kd.M Kd.string _ _ _ (⟨#[61, 61]⟩ : ByteArray) [.string (⟨#[61, 61]⟩ : ByteArray)] from rfl) (Reps.one (show Kd.M Kd.string _ _ _ (⟨#[33, 61]⟩ : ByteArray) [.string (⟨#[33, 61]⟩ : ByteArray)] from rfl) (Reps.one (show Kd.M Kd.string _ _ _ (⟨#[123]⟩ : ByteArray) [.string (⟨#[123]⟩ : ByteArray)] from rfl) (Reps.one (show Kd.M Kd.string _ _ _ (⟨#[125]⟩ : ByteArray) [.string (⟨#[125]⟩ : ByteArray)] from rfl) (Reps.one (show Kd.M Kd.string _ _ _ (⟨#[40]⟩ : ByteArray) [.string (⟨#[40]⟩ : ByteArray)] from rfl) (Reps.one (show Kd.M Kd.string _ _ _ (⟨#[41]⟩ : ByteArray) [.string (⟨#[41]⟩ : ByteArray)] from rfl) (Reps.one (show Kd.M Kd.string _ _ _ (⟨#[91]⟩ : ByteArray) [.string (⟨#[91]⟩ : ByteArray)] from rfl) (Reps.one (show Kd.M Kd.string _ _ _ (⟨#[93]⟩ : ByteArray) [.string (⟨#[93]⟩ : ByteArray)] from rfl) (Reps.one (show Kd.M Kd.string _ _ _ (⟨#[44]⟩ : ByteArray) [.string (⟨#[44]⟩ : ByteArray)] from rfl) (Reps.one (show Kd.M Kd.string _ _ _ (⟨#[59]⟩ : ByteArray) [.string (⟨#[59]⟩ : ByteArray)] from rfl) (Reps.one (show Kd.M Kd.string _ _ _ (⟨#[58]⟩ : ByteArray) [.string (⟨#[58]⟩ : ByteArray)] from rfl) (Reps.one (show Kd.M Kd.string _ _ _ (⟨#[61]⟩ : ByteArray) [.string (⟨#[61]⟩ : ByteArray)] from rfl) (Reps.one (show Kd.M Kd.string _ _ _ (⟨#[43]⟩ : ByteArray) [.string (⟨#[43]⟩ : ByteArray)] from rfl) (Reps.one (show Kd.M Kd.string _ _ _ (⟨#[45]⟩ : ByteArray) [.string (⟨#[45]⟩ : ByteArray)] from rfl) (Reps.one (show Kd.M Kd.string _ _ _ (⟨#[42]⟩ : ByteArray) [.string (⟨#[42]⟩ : ByteArray)] from rfl) (Reps.one (show Kd.M Kd.string _ _ _ (⟨#[60]⟩ : ByteArray) [.string (⟨#[60]⟩ : ByteArray)] from rfl) (Reps.one (show Kd.M Kd.string _ _ _ (⟨#[62]⟩ : ByteArray) [.string (⟨#[62]⟩ : ByteArray)] from rfl) (Reps.one (show Kd.M Kd.string _ _ _ (⟨#[33]⟩ : ByteArray) [.string (⟨#[33]⟩ : ByteArray)] from rfl) (Reps.one (show Kd.M Kd.string _ _ _ (⟨#[38]⟩ : ByteArray) [.string (⟨#[38]⟩ : ByteArray)] from rfl) (Reps.one (show Kd.M Kd.string _ _ _ (⟨#[124]⟩ : ByteArray) [.string (⟨#[124]⟩ : ByteArray)] from rfl) (Reps.one (show Kd.M Kd.string _ _ _ (⟨#[46]⟩ : ByteArray) [.string (⟨#[46]⟩ : ByteArray)] from rfl) (Reps.one (show Kd.M Kd.string _ _ _ (⟨#[63]⟩ : ByteArray) [.string (⟨#[63]⟩ : ByteArray)] from rfl) (Reps.none _ _))))))))))))))))))))))))))); intro v297 w1 ho2 hb hg_ hnew_; clear hg_ hnew_; (first | rw [← Ny296.out] at ho2 | (simp only [Int.reduceToNat] at ho2; rw [← Ny296.out] at ho2)); have n0_ := Aside0.mk (Kd.R_lower ho2 (below_size (by repeat (first | (with_reducible first | exact HB.out | apply below_alloc | apply pw_below_drewN | apply below_drew1) | exact HB.out)))); have n1_ := Aside0.mk (below_step (by repeat (first | (with_reducible first | exact HB.out | apply below_alloc | apply pw_below_drewN | apply below_drew1) | exact HB.out)) hb); clear HB; have HO298 := n0_; have HB := n1_; clear n0_ n1_; clear hb ho2))
  go_ret
  exact ⟨_, by first | rfl | (simp [errW_none, errW_some] <;> rfl) | (simp [*, errW_none, errW_some] <;> rfl), by (with_reducible repeat (first | apply Kd.R_alloc | apply Kd.R_drewN | apply Kd.R_drew)); exact HO298.out, by repeat (first | (with_reducible first | exact HB.out | apply below_alloc | apply pw_below_drewN | apply below_drew1) | exact HB.out)⟩
end Go.Proofs.Ytfpianecohobjaa.P
