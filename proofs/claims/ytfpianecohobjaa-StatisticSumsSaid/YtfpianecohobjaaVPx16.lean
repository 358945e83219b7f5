/- StatisticOf: a part of its proof. No condition. -/
import Derived.Test.YtfpianecohobjaaVPx0
import Derived.Test.YtfpianecohobjaaVPx12
import Derived.Test.YtfpianecohobjaaVPx14
import Derived.Test.YtfpianecohobjaaVPx15
namespace Go.Proofs.Ytfpianecohobjaa.P
open Go.RowKit Go.Proofs.YtfpianecohobjaaW.PrintWords Go.Proofs.YtfpianecohobjaaW.PrintLast Go.Proofs.YtfpianecohobjaaW.PrintMore
set_option maxHeartbeats 8000000
set_option maxRecDepth 100000
set_option linter.unusedVariables false
set_option linter.unusedSimpArgs false
def q1_Right.f (k : Nat) (a5 : Int) (a1 : ByteArray) (a3 : Int) : Option (Bool) := (q1_text.f a5 a1 a3).bind fun a7 => (if a7.toList = ([] : List UInt8) then (some false) else ((q1_one.f k a7 0).bind fun a9 => (if a9.2.2.2.2 = 0 then (if a9.2.2.2.1 = (a7.size : Int) then (some (a9.1 == a5)) else (some false)) else (some false))))
theorem q1_Right.calls (k : Nat) (a5 : Int) (a1 : ByteArray) (a3 : Int) (r : Bool) (w : World) (h : q1_Right.f k a5 a1 a3 = some r) :
  Calls Try.prog 89 #[.agg #[.int .i64 a5, .string a1, .int .i64 a3]] w fun e w' => e = .returned (.bool r) ∧ Below w.heap.size w w' := by
 have hu119 := Try.underlying119
 have HB := Aside0.mk (Below.refl w.heap.size w)
 have H : ((q1_text.f a5 a1 a3).bind fun a7 => (if a7.toList = ([] : List UInt8) then (some false) else ((q1_one.f k a7 0).bind fun a9 => (if a9.2.2.2.2 = 0 then (if a9.2.2.2.1 = (a7.size : Int) then (some (a9.1 == a5)) else (some false)) else (some false))))) = some r := h
 clear h
 obtain ⟨a7, A2, H⟩ := obA H
 by_cases c3 : a7.toList = ([] : List UInt8)
 rw [if_pos c3] at H
 have d1 := beq_iff_eq.mpr c3
 have j8 := bne_eq_false_iff_eq.mpr c3
 clear c3
 obtain rfl := Option.some.inj H
 rotate_left
 rw [if_neg c3] at H
 have d1 := beq_eq_false_iff_ne.mpr c3
 have j8 := bne_iff_ne.mpr c3
 obtain ⟨⟨q7, q6, q5, j1, j0⟩, A7, H⟩ := obA H
 try dsimp only at H
 by_cases c8 : j0 = 0
 rw [if_pos c8] at H
 have e3 := beq_iff_eq.mpr c8
 have j6 := bne_eq_false_iff_eq.mpr c8
 clear c8
 by_cases c9 : j1 = (a7.size : Int)
 rw [if_pos c9] at H
 have g0 := beq_iff_eq.mpr c9
 have j5 := bne_eq_false_iff_eq.mpr c9
 clear c9
 obtain rfl := Option.some.inj H
 rotate_left
 rw [if_neg c9] at H
 have g0 := beq_eq_false_iff_ne.mpr c9
 have j5 := bne_iff_ne.mpr c9
 obtain rfl := Option.some.inj H
 rotate_left
 rw [if_neg c8] at H
 have e3 := beq_eq_false_iff_ne.mpr c8
 have j6 := bne_iff_ne.mpr c8
 obtain rfl := Option.some.inj H
 all_goals
  go_enter Try.func89, Try.ntmps89
  go_wp2_with (first | ((with_reducible refine gate_dst (N := 1) rfl ?_); (try (refine gate_guard (by rfl) ?_; dsimp only)); refine be 1 #[.int .i64 a5, .string a1, .int .i64 a3] 119 ?_; intro p8 hg r3 hbox hb; have a6 := Aside0.mk (hbox); have q4 := bsz HB hg; replace HB := bstep HB hb; clear hb hbox hg; obtain ⟨p2, p1, p0, n5, n4, n3⟩ := cz3 a6) | ((with_reducible refine gate_callee (f := 106) rfl ?_); refine gl 8 Try.func106 #[.agg #[.int .i64 a5, .string a1, .int .i64 a3]] (h := ?_); (with_reducible refine (q1_text.calls _ _ _ _ _ A2.out).mono ?_); rintro e r1 ⟨rfl, hb⟩; refine ⟨_, rfl, ?_⟩; replace a6 := bkb a6 hb; replace HB := bstep HB hb; clear hb) | ((with_reducible refine gate_callee (f := 107) rfl ?_); refine gl 13 Try.func107 #[.string a7, .int .i64 0] (h := ?_); (with_reducible refine (q1_one.calls _ _ _ _ _ _ _ _ _ A7.out).mono ?_); rintro e r0 ⟨rfl, hb⟩; refine ⟨_, rfl, ?_⟩; replace a6 := bkb a6 hb; replace HB := bstep HB hb; clear hb) | ((with_reducible refine gate_dst (N := 4) rfl ?_); (try (refine gate_guard (by rfl) ?_; dsimp only)); refine be 4 #[.int .i64 0, .string (⟨#[]⟩ : ByteArray), .int .i64 0] 119 ?_; intro p7 hg e9 hbox hb; have h4 := Aside0.mk (hbox); have q3 := bsz HB hg; replace HB := bstep HB hb; have d7 := blt a6 hg; have d6 := bgt a6 hg; replace a6 := bkb a6 hb; clear hb hbox hg; have p5 := d6.out; have p4 := d7.out; obtain ⟨o5, o4, o3, m8, m7, m6⟩ := cz3 h4; obtain ⟨o2, o1, o0, m5, m4, m3⟩ := cz3 a6))
  go_ret
  exact ⟨erf, bb HB⟩
def q1_IsName.f (k : Nat) (a0 : ByteArray) : Option (Bool) := (q1_Right.f k 1 a0 0).bind fun c5 => (some c5)
theorem q1_IsName.calls (k : Nat) (a0 : ByteArray) (r : Bool) (w : World) (h : q1_IsName.f k a0 = some r) :
  Calls Try.prog 67 #[.string a0] w fun e w' => e = .returned (.bool r) ∧ Below w.heap.size w w' := by
 have hu119 := Try.underlying119
 have HB := Aside0.mk (Below.refl w.heap.size w)
 have H : ((q1_Right.f k 1 a0 0).bind fun c5 => (some c5)) = some r := h
 clear h
 obtain ⟨c5, A2, H⟩ := obA H
 obtain rfl := Option.some.inj H
 go_enter Try.func67, Try.ntmps67
 go_wp2_with (first | ((with_reducible refine gate_callee (f := 89) rfl ?_); refine gl 5 Try.func89 #[.agg #[.int .i64 1, .string a0, .int .i64 0]] (h := ?_); (with_reducible refine (q1_Right.calls _ _ _ _ _ _ A2.out).mono ?_); rintro e w3 ⟨rfl, hb⟩; refine ⟨_, rfl, ?_⟩; replace HB := bstep HB hb; clear hb))
 go_ret
 exact ⟨erf, bb HB⟩
mutual
def q4_names.l0 : Nat → List ByteArray → Int → Option (Int)
 | 0, _, _ => none
 | k + 1, x0, x3 => if x3 < (x0.length : Int) then (if 0 ≤ x3 then ((q1_IsName.f k (rdOf ByteArray.empty x0 x3)).bind fun d8 => (if d8 = true then (q4_names.l1 k x0 x3 0) else (some 2))) else (none)) else (some 0)
def q4_names.l1 : Nat → List ByteArray → Int → Int → Option (Int)
 | 0, _, _, _ => none
 | k + 1, x0, x3, x4 => if x4 < x3 then (if 0 ≤ x4 then (if x4 < (x0.length : Int) then (if 0 ≤ x3 then (if x3 < (x0.length : Int) then (if (rdOf ByteArray.empty x0 x4).toList = (rdOf ByteArray.empty x0 x3).toList then (some 5) else (q4_names.l1 k x0 x3 (wrap64 (x4 + 1)))) else (none)) else (none)) else (none)) else (none)) else (q4_names.l0 k x0 (wrap64 (x3 + 1)))
end
def q4_names.f (k : Nat) (l0 : List ByteArray) : Option (Int) := if (l0.length : Int) > 20 then (some 3) else (q4_names.l0 k l0 0)
theorem q4_names.calls (k : Nat) (A0 : Option Addr) (c0 : Nat) (l0 : List ByteArray) (r : Int) (w : World) (h5 : Kd.C Kd.string w A0 l0.length l0) (h6 : l0.length ≤ c0) (h : q4_names.f k l0 = some r) :
  Calls Try.prog 90 #[.slice A0 l0.length c0] w fun e w' => e = .returned (.int .i64 r) ∧ Below w.heap.size w w' := by
 have g1 := Aside0.mk h5
 have r4 := Aside0.mk h6
 clear h5 h6
 have HB := Aside0.mk (Below.refl w.heap.size w)
 have H : (if (l0.length : Int) > 20 then (some 3) else (q4_names.l0 k l0 0)) = some r := h
 clear h
 by_cases c2 : (l0.length : Int) > 20
 ·rw [if_pos c2] at H
  have d3 : decide (20 < (l0.length : Int)) = true := decide_eq_true c2
  have d2 : decide (20 < l0.length) = true := decide_eq_true (by omega)
  clear c2
  obtain rfl := Option.some.inj H
  go_enter Try.func90, Try.ntmps90
  go_wp2
  repeat (go_quiet (fail); try go_wp2)
  go_ret
  exact ⟨erf, bb HB⟩
 rw [if_neg c2] at H
 have d3 : decide (20 < (l0.length : Int)) = false := decide_eq_false c2
 have d2 : decide (20 < l0.length) = false := decide_eq_false (by omega)
 clear c2
 have H' := Aside0.mk H
 clear H
 go_enter Try.func90, Try.ntmps90
 go_wp2
 repeat (go_quiet (fail); try go_wp2)
 go_loopg [3] k (fun kq v3 w' => ∃ (a4 : Int), v3 = .int .i64 a4 ∧ Aside0 (q4_names.l0 kq l0 a4 = some r) ∧ Aside0 (kq ≤ k) ∧ Aside0 (Below w.heap.size w w'))
 case atStart => exact ⟨(0), eqs, H', ⟨Nat.le_refl _⟩, ⟨bb HB⟩⟩
 case round =>
  clear H'
  try clear d3 d2
  obtain ⟨a4, rfl, HA, e8, HB⟩ := hrel
  cases gk with
  | zero => exact absurd HA.out (by simp [q4_names.l0])
  | succ k1 =>
   have H := HA.out
   clear HA
   simp only [q4_names.l0] at H
   by_cases c3 : a4 < (l0.length : Int)
   rotate_left
   ·rw [if_neg c3] at H
    have d1 := decide_eq_false c3
    clear c3
    obtain rfl := Option.some.inj H
    go_wp2
    repeat (go_quiet (fail); try go_wp2)
    go_ret
    exact ⟨erf, bb HB⟩
   rw [if_pos c3] at H
   have d1 := decide_eq_true c3
   clear c3
   obtain ⟨c4, H⟩ := itn H
   have j7 := decide_eq_true c4
   clear c4
   obtain ⟨d8, A5, H⟩ := obA H
   by_cases c6 : d8 = true
   subst c6
   replace H := ift H
   have H' := Aside0.mk H
   clear H
   rotate_left
   replace c6 := Bool.eq_false_iff.mpr c6
   subst c6
   replace H := iff_ H
   obtain rfl := Option.some.inj H
   all_goals
    have d0 : 0 ≤ a4 := odt
    have c7 : a4 < (l0.length : Int) := odt
    obtain ⟨e6, j4, b1⟩ := Kd.at_string g1.out a4 d0 c7
    cases j4
    replace b1 := hxc HB b1
    replace d0 := eq_true d0
    replace c7 := eq_true c7
    go_wp2_with (first | (go_at_call 67; (with_reducible refine (q1_IsName.calls _ _ _ _ A5.out).mono ?_); rintro e e9 ⟨rfl, hb⟩; replace HB := bstep HB hb; clear hb))
    repeat (go_quiet (first | (go_at_call 67; (with_reducible refine (q1_IsName.calls _ _ _ _ A5.out).mono ?_); rintro e e9 ⟨rfl, hb⟩; replace HB := bstep HB hb; clear hb)); try go_wp2_with (first | (go_at_call 67; (with_reducible refine (q1_IsName.calls _ _ _ _ A5.out).mono ?_); rintro e e9 ⟨rfl, hb⟩; replace HB := bstep HB hb; clear hb)))
   ·go_ret
    exact ⟨erf, bb HB⟩
   ·go_loopg [4] k1 (fun kq v4 w' => ∃ (a8 : Int), v4 = .int .i64 a8 ∧ Aside0 (q4_names.l1 kq l0 a4 a8 = some r) ∧ Aside0 (kq ≤ k1) ∧ Aside0 (Below w.heap.size w w'))
    case atStart => exact ⟨(0), eqs, H', ⟨Nat.le_refl _⟩, ⟨bb HB⟩⟩
    case round =>
     clear H'
     try clear d1 j7 c6 b1 d0 c7
     obtain ⟨a8, rfl, HA, e7, HB⟩ := hrel
     cases gk with
     | zero => exact absurd HA.out (by simp [q4_names.l1])
     | succ k2 =>
      have H := HA.out
      clear HA
      simp only [q4_names.l1] at H
      by_cases c8 : a8 < a4
      rotate_left
      ·rw [if_neg c8] at H
       have e3 := decide_eq_false c8
       clear c8
       have H' := Aside0.mk H
       clear H
       go_wp2
       repeat (go_quiet (fail); try go_wp2)
       go_roundg k2
       case measure => have := e8.out; have := e7.out; omega
       case rel => exact ⟨(wrap64 (a4 + 1)), eqs, H', ⟨by have := e8.out; have := e7.out; omega⟩, ⟨bb HB⟩⟩
      rw [if_pos c8] at H
      have e3 := decide_eq_true c8
      clear c8
      obtain ⟨c9, H⟩ := itn H
      have g0 := decide_eq_true c9
      clear c9
      obtain ⟨h9, H⟩ := itn H
      have q1 := decide_eq_true h9
      clear h9
      obtain ⟨h8, H⟩ := itn H
      have q0 := decide_eq_true h8
      clear h8
      obtain ⟨h7, H⟩ := itn H
      have p9 := decide_eq_true h7
      clear h7
      by_cases b8 : (rdOf ByteArray.empty l0 a8).toList = (rdOf ByteArray.empty l0 a4).toList
      rw [if_pos b8] at H
      have g9 := beq_iff_eq.mpr b8
      have g8 := bne_eq_false_iff_eq.mpr b8
      clear b8
      obtain rfl := Option.some.inj H
      rotate_left
      rw [if_neg b8] at H
      have g9 := beq_eq_false_iff_ne.mpr b8
      have g8 := bne_iff_ne.mpr b8
      have H' := Aside0.mk H
      clear H
      all_goals
       have e2 : 0 ≤ a8 := odt
       have e0 : a8 < (l0.length : Int) := odt
       obtain ⟨h1, j3, c1⟩ := Kd.at_string g1.out a8 e2 e0
       obtain rfl : e6 = h1 := (by injection j3)
       replace c1 := hxc HB c1
       replace e2 := eq_true e2
       replace e0 := eq_true e0
       have e1 : 0 ≤ a4 := odt
       have d9 : a4 < (l0.length : Int) := odt
       obtain ⟨h0, j2, b9⟩ := Kd.at_string g1.out a4 e1 d9
       obtain rfl : e6 = h0 := (by injection j2)
       replace b9 := hxc HB b9
       replace e1 := eq_true e1
       replace d9 := eq_true d9
       go_wp2
       repeat (go_quiet (fail); try go_wp2)
      ·go_roundg k2
       case measure => have := e8.out; have := e7.out; omega
       case rel => exact ⟨(wrap64 (a8 + 1)), eqs, H', ⟨by have := e8.out; have := e7.out; omega⟩, ⟨bb HB⟩⟩
      ·go_ret
       exact ⟨erf, bb HB⟩
def q4_attribute.f (k : Nat) (a5 : ByteArray) (a1 : Int) (a3 : Int) (a2 : List ByteArray) : Option (Int) := if (a2.length : Int) = 0 then ((q4_in.f a1 (-1000000) 1000000).bind fun b4 => (if b4 = true then ((q4_in.f a3 a1 1000000).bind fun b3 => (if b3 = true then (some 0) else (some 6))) else (some 6))) else ((q4_names.f k a2).bind fun b0 => (if b0 = 0 then (if a1 = 0 then (if a3 = (wrap64 ((a2.length : Int) - 1)) then (some 0) else (some 6)) else (some 6)) else (some b0)))
theorem q4_attribute.calls (k : Nat) (a5 : ByteArray) (a1 : Int) (a3 : Int) (d5 : Option Addr) (d4 : Nat) (a2 : List ByteArray) (r : Int) (w : World) (e4 : Kd.C Kd.string w d5 a2.length a2) (e5 : a2.length ≤ d4) (h : q4_attribute.f k a5 a1 a3 a2 = some r) :
  Calls Try.prog 68 #[.agg #[.string a5, .int .i64 a1, .int .i64 a3, .slice d5 a2.length d4]] w fun e w' => e = .returned (.int .i64 r) ∧ Below w.heap.size w w' := by
 have hu77 := Try.underlying77
 have h2 := Aside0.mk e4
 have h3 := Aside0.mk e5
 clear e4 e5
 have HB := Aside0.mk (Below.refl w.heap.size w)
 have H : (if (a2.length : Int) = 0 then ((q4_in.f a1 (-1000000) 1000000).bind fun b4 => (if b4 = true then ((q4_in.f a3 a1 1000000).bind fun b3 => (if b3 = true then (some 0) else (some 6))) else (some 6))) else ((q4_names.f k a2).bind fun b0 => (if b0 = 0 then (if a1 = 0 then (if a3 = (wrap64 ((a2.length : Int) - 1)) then (some 0) else (some 6)) else (some 6)) else (some b0)))) = some r := h
 clear h
 by_cases c2 : (a2.length : Int) = 0
 rw [if_pos c2] at H
 have d3 := beq_iff_eq.mpr c2
 have d2 := bne_eq_false_iff_eq.mpr c2
 clear c2
 obtain ⟨b4, A3, H⟩ := obA H
 by_cases c4 : b4 = true
 subst c4
 replace H := ift H
 obtain ⟨b3, A5, H⟩ := obA H
 by_cases c6 : b3 = true
 subst c6
 replace H := ift H
 obtain rfl := Option.some.inj H
 rotate_left
 replace c6 := Bool.eq_false_iff.mpr c6
 subst c6
 replace H := iff_ H
 obtain rfl := Option.some.inj H
 rotate_left
 replace c4 := Bool.eq_false_iff.mpr c4
 subst c4
 replace H := iff_ H
 obtain rfl := Option.some.inj H
 rotate_left
 rw [if_neg c2] at H
 have d3 := beq_eq_false_iff_ne.mpr c2
 have d2 := bne_iff_ne.mpr c2
 have q8 : ¬ (a2 = []) := fun h_ => c2 (by rw [h_]; rfl)
 obtain ⟨b0, p3, H⟩ := obA H
 by_cases b7 : b0 = 0
 rw [if_pos b7] at H
 have g7 := beq_iff_eq.mpr b7
 have g6 := bne_eq_false_iff_eq.mpr b7
 clear b7
 by_cases b6 : a1 = 0
 rw [if_pos b6] at H
 have g5 := beq_iff_eq.mpr b6
 have g4 := bne_eq_false_iff_eq.mpr b6
 clear b6
 by_cases b5 : a3 = (wrap64 ((a2.length : Int) - 1))
 rw [if_pos b5] at H
 have g3 := beq_iff_eq.mpr b5
 have g2 := bne_eq_false_iff_eq.mpr b5
 clear b5
 obtain rfl := Option.some.inj H
 rotate_left
 rw [if_neg b5] at H
 have g3 := beq_eq_false_iff_ne.mpr b5
 have g2 := bne_iff_ne.mpr b5
 obtain rfl := Option.some.inj H
 rotate_left
 rw [if_neg b6] at H
 have g5 := beq_eq_false_iff_ne.mpr b6
 have g4 := bne_iff_ne.mpr b6
 obtain rfl := Option.some.inj H
 rotate_left
 rw [if_neg b7] at H
 have g7 := beq_eq_false_iff_ne.mpr b7
 have g6 := bne_iff_ne.mpr b7
 obtain rfl := Option.some.inj H
 all_goals
  go_enter Try.func68, Try.ntmps68
  go_wp2_with (first | ((with_reducible refine gate_dst (N := 1) rfl ?_); (try (refine gate_guard (by rfl) ?_; dsimp only)); refine be 1 #[.string a5, .int .i64 a1, .int .i64 a3, .slice d5 a2.length d4] 77 ?_; intro p6 hg r2 hbox hb; have b2 := Aside0.mk (hbox); have q2 := bsz HB hg; replace HB := bstep HB hb; clear hb hbox hg; obtain ⟨o9, o8, o7, o6, n2, n1, n0, m9⟩ := cz4 b2) | ((with_reducible refine gate_callee (f := 90) rfl ?_); refine gl 22 Try.func90 #[.slice d5 a2.length d4] (h := ?_); (with_reducible refine (q4_names.calls _ _ _ _ _ _ (cb h2 HB) h3.out p3.out).mono ?_); rintro e q9 ⟨rfl, hb⟩; refine ⟨_, rfl, ?_⟩; replace b2 := bkb b2 hb; replace HB := bstep HB hb; clear hb; obtain ⟨n9, n8, n7, n6, m2, m1, m0, j9⟩ := cz4 b2) | ((with_reducible refine gate_callee (f := 47) rfl ?_); refine gl 10 Try.func47 #[.int .i64 a1, .int .i64 (-1000000), .int .i64 1000000] (h := ?_); (with_reducible refine (q4_in.calls _ _ _ _ _ A3.out).mono ?_); rintro e w' ⟨rfl, ⟨nd, rfl⟩⟩; refine ⟨_, rfl, ?_⟩) | (go_at_call 47; (with_reducible refine (q4_in.calls _ _ _ _ _ A5.out).mono ?_); rintro e w' ⟨rfl, ⟨nd, rfl⟩⟩))
  go_ret
  exact ⟨erf, bb HB⟩
end Go.Proofs.Ytfpianecohobjaa.P
