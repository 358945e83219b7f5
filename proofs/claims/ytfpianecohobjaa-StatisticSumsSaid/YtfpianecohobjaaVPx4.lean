/- StatisticOf: a part of its proof. No condition. -/
import Derived.Test.YtfpianecohobjaaVPx0
import Derived.Test.YtfpianecohobjaaVPx3
import Derived.Test.YtfpianecohobjaaVH0
namespace Go.Proofs.Ytfpianecohobjaa.P
open Go.RowKit Go.Proofs.YtfpianecohobjaaW.PrintWords Go.Proofs.YtfpianecohobjaaW.PrintLast Go.Proofs.YtfpianecohobjaaW.PrintMore
set_option maxHeartbeats 8000000
set_option maxRecDepth 100000
set_option linter.unusedVariables false
set_option linter.unusedSimpArgs false
def types_attribute.j0 : Nat → Bool → ByteArray → Int → Int → List ByteArray → Option (Int)
 | 0, _, _, _, _, _ => none
 | k + 1, x6, h7, d8, d7, c2 => if (c2.length : Int) > 0 then (if d8 = 0 then (if (d7 = (wrap64 ((c2.length : Int) - 1))) then (some 0) else (some 6)) else (some 6)) else (if x6 = true then (some 0) else (some 6))
def types_attribute.f (k : Nat) (a9 : ByteArray) (a8 : Int) (a7 : Int) (a6 : List ByteArray) (l1 : List (S77)) : Option (Int) := (token_IsName.f k a9).bind fun b7 => (if b7 = true then ((any_attr.f l1 a9).bind fun b6 => (if b6 = true then (some 5) else ((types_names.f k a6).bind fun b3 => (if b3 = 0 then (if (-1000000) ≤ a8 then (if a8 ≤ a7 then (types_attribute.j0 k (decide (a7 ≤ 1000000)) a9 a8 a7 a6) else (types_attribute.j0 k false a9 a8 a7 a6)) else (types_attribute.j0 k false a9 a8 a7 a6)) else (some b3))))) else (some 2))
theorem types_attribute.mono_l : ∀ k, (∀ y0 y1 y2 y3 y4, LeO (types_attribute.j0 k y0 y1 y2 y3 y4) (types_attribute.j0 (k + 1) y0 y1 y2 y3 y4))
 | 0 => by (intros; intro r h; simp [types_attribute.j0] at h)
 | k + 1 => by
  have ih0 := types_attribute.mono_l k
  (intros; first | unfold types_attribute.j0)
  all_goals with_reducible repeat' first | exact ih0 .. | exact token_IsName.mono .. | exact types_names.mono .. | exact LeO.refl _ | exact LeO.none _ | refine LeO.ite ?_ ?_ | refine LeO.bind ?_ fun _ => ?_
theorem types_attribute.mono : ∀ a0 a1 a2 a3 a4 k, LeO (types_attribute.f k a0 a1 a2 a3 a4) (types_attribute.f (k + 1) a0 a1 a2 a3 a4) := by
 intro a0 a1 a2 a3 a4 k
 have ih0 := types_attribute.mono_l k
 unfold types_attribute.f
 with_reducible repeat' first | exact ih0 .. | exact token_IsName.mono .. | exact types_names.mono .. | exact LeO.refl _ | exact LeO.none _ | refine LeO.ite ?_ ?_ | refine LeO.bind ?_ fun _ => ?_
theorem types_attribute.calls (k : Nat) (a9 : ByteArray) (a8 : Int) (a7 : Int) (b2 : Option Addr) (b1 : Nat) (a6 : List ByteArray) (A1 : Option Addr) (c1 : Nat) (l1 : List (S77)) (r : Int) (w : World) (c9 : Kd.C Kd.string w b2 a6.length a6) (d0 : a6.length ≤ b1) (h4 : Kd.C k77 w A1 l1.length l1) (h5 : l1.length ≤ c1) (h : types_attribute.f k a9 a8 a7 a6 l1 = some r) :
  Calls Try.prog 62 #[.agg #[.string a9, .int .i64 a8, .int .i64 a7, .slice b2 a6.length b1], .slice A1 l1.length c1] w fun e w' => e = .returned (.int .i64 r) ∧ Below w.heap.size w w' := by
 have hu77 := Try.underlying77
 have d4 := Aside0.mk c9
 have d5 := Aside0.mk d0
 clear c9 d0
 have g5 := Aside0.mk h4
 have g6 := Aside0.mk h5
 clear h4 h5
 have HB := Aside0.mk (Below.refl w.heap.size w)
 have H : ((token_IsName.f k a9).bind fun b7 => (if b7 = true then ((any_attr.f l1 a9).bind fun b6 => (if b6 = true then (some 5) else ((types_names.f k a6).bind fun b3 => (if b3 = 0 then (if (-1000000) ≤ a8 then (if a8 ≤ a7 then (types_attribute.j0 k (decide (a7 ≤ 1000000)) a9 a8 a7 a6) else (types_attribute.j0 k false a9 a8 a7 a6)) else (types_attribute.j0 k false a9 a8 a7 a6)) else (some b3))))) else (some 2))) = some r := h
 clear h
 obtain ⟨b7, A3, H⟩ := obA H
 by_cases c4 : b7 = true
 subst c4
 replace H := ift H
 obtain ⟨b6, A5, H⟩ := obA H
 by_cases c6 : b6 = true
 ·subst c6
  replace H := ift H
  obtain rfl := Option.some.inj H
  go_enter Try.func62, Try.ntmps62
  go_wp2_with (first | ((with_reducible refine gate_dst (N := 2) rfl ?_); (try (refine gate_guard (by rfl) ?_; dsimp only)); refine be 2 #[.string a9, .int .i64 a8, .int .i64 a7, .slice b2 a6.length b1] 77 ?_; intro b0 hg w7 hbox hb; have a5 := Aside0.mk (hbox); have d6 := bsz HB hg; replace HB := bstep HB hb; clear hb hbox hg; obtain ⟨s0, r9, r8, r7, r6, r5, r4, r3⟩ := cz4 a5) | ((with_reducible refine gate_callee (f := 59) rfl ?_); refine gl 10 Try.func59 #[.string a9] (h := ?_); (with_reducible refine (token_IsName.calls _ _ _ _ A3.out).mono ?_); rintro e w9 ⟨rfl, hb⟩; refine ⟨_, rfl, ?_⟩; replace a5 := bkb a5 hb; replace HB := bstep HB hb; clear hb) | ((with_reducible refine gate_callee (f := 85) rfl ?_); refine gl 15 Try.func85 #[.slice A1 l1.length c1, .func (.func 86) #[] #[.pointer (some ⟨b0, 0, none⟩)]] (h := ?_); (with_reducible refine (any_attr.calls _ _ l1 b0 a9 (.int .i64 a8) (.int .i64 a7) (.slice b2 a6.length b1) true _ (cb g5 HB) g6.out (bk a5) A5.out).mono ?_); rintro e t1 ⟨rfl, hb⟩; refine ⟨_, rfl, ?_⟩; replace a5 := bkb a5 hb; replace HB := bstep HB hb; clear hb))
  go_ret
  exact ⟨erf, bb HB⟩
 replace c6 := Bool.eq_false_iff.mpr c6
 subst c6
 replace H := iff_ H
 obtain ⟨b3, h6, H⟩ := obA H
 by_cases c0 : b3 = 0
 ·rw [if_pos c0] at H
  have d3 := beq_iff_eq.mpr c0
  have d2 := bne_eq_false_iff_eq.mpr c0
  clear c0
  have c8 := Aside0.mk H
  clear H
  go_enter Try.func62, Try.ntmps62
  go_upto_region 8 with (first | ((with_reducible refine gate_dst (N := 2) rfl ?_); (try (refine gate_guard (by rfl) ?_; dsimp only)); refine be 2 #[.string a9, .int .i64 a8, .int .i64 a7, .slice b2 a6.length b1] 77 ?_; intro b0 hg t0 hbox hb; have a5 := Aside0.mk (hbox); have d6 := bsz HB hg; replace HB := bstep HB hb; clear hb hbox hg; obtain ⟨g4, g3, g2, g1, e6, e5, e4, e3⟩ := cz4 a5) | ((with_reducible refine gate_callee (f := 59) rfl ?_); refine gl 10 Try.func59 #[.string a9] (h := ?_); (with_reducible refine (token_IsName.calls _ _ _ _ A3.out).mono ?_); rintro e s9 ⟨rfl, hb⟩; refine ⟨_, rfl, ?_⟩; replace a5 := bkb a5 hb; replace HB := bstep HB hb; clear hb) | ((with_reducible refine gate_callee (f := 85) rfl ?_); refine gl 15 Try.func85 #[.slice A1 l1.length c1, .func (.func 86) #[] #[.pointer (some ⟨b0, 0, none⟩)]] (h := ?_); (with_reducible refine (any_attr.calls _ _ l1 b0 a9 (.int .i64 a8) (.int .i64 a7) (.slice b2 a6.length b1) false _ (cb g5 HB) g6.out (bk a5) A5.out).mono ?_); rintro e s8 ⟨rfl, hb⟩; refine ⟨_, rfl, ?_⟩; replace a5 := bkb a5 hb; replace HB := bstep HB hb; clear hb; obtain ⟨g0, e9, e8, e7, e2, e1, e0, d9⟩ := cz4 a5) | ((with_reducible refine gate_callee (f := 87) rfl ?_); refine gl 18 Try.func87 #[.slice b2 a6.length b1] (h := ?_); (with_reducible refine (types_names.calls _ _ _ _ _ _ (cb d4 HB) d5.out h6.out).mono ?_); rintro e s7 ⟨rfl, hb⟩; refine ⟨_, rfl, ?_⟩; replace a5 := bkb a5 hb; replace HB := bstep HB hb; clear hb))
  (try simp only [Act.put, List.setIfInBounds_toArray, List.set_cons_zero, List.set_cons_succ])
  go_cut [6] (fun v6 wc => ∃ (kq : Nat) (b5 : Bool), v6 = .bool b5 ∧ Aside0 (types_attribute.j0 kq b5 a9 a8 a7 a6 = some r) ∧ Aside0 (kq ≤ k) ∧ Aside0 (wc.heap[b0]? = some (.cells #[.string a9, .int .i64 a8, .int .i64 a7, (.slice b2 a6.length b1)] 77 (0, 0))) ∧ Aside0 (Below w.heap.size w wc))
  case first =>
   have H := c8.out
   clear c8
   by_cases c7 : (-1000000) ≤ a8
   rw [if_pos c7] at H
   have b4 := decide_eq_true c7
   clear c7
   (first | rw [b4] | (simp only [i64_w, i32_w]; rw [b4]) | skip)
   by_cases c5 : a8 ≤ a7
   rw [if_pos c5] at H
   have h3 := decide_eq_true c5
   clear c5
   have H' := Aside0.mk H
   clear H
   rotate_left
   rw [if_neg c5] at H
   have h3 := decide_eq_false c5
   clear c5
   have H' := Aside0.mk H
   clear H
   rotate_left
   rw [if_neg c7] at H
   have b4 := decide_eq_false c7
   clear c7
   (first | rw [b4] | (simp only [i64_w, i32_w]; rw [b4]) | skip)
   have H' := Aside0.mk H
   clear H
   all_goals
    obtain ⟨r2, r1, r0, q9, o0, n9, n8, n7⟩ := cz4 a5
    go_wp2
    go_meet
    case rel => exact ⟨_, _, eqs, H', ⟨by first | omega | exact Nat.le_refl _⟩, ⟨bk a5⟩, ⟨bb HB⟩⟩
  case rest =>
   clear c8
   try clear c6 d3 d2 g4 g3 g2 g1 g0 e9 e8 e7 e6 e5 e4 e3 e2 e1 e0 d9
   obtain ⟨kq, b5, rfl, HA, s2, a5, HB⟩ := hcut
   cases kq with
   | zero => exact absurd HA.out (by simp [types_attribute.j0])
   | succ s1 =>
    have H := HA.out
    clear HA
    simp only [types_attribute.j0] at H
    by_cases c3 : (a6.length : Int) > 0
    rotate_left
    ·rw [if_neg c3] at H
     have h2 : decide (0 < (a6.length : Int)) = false := decide_eq_false c3
     have h1 : decide (0 < a6.length) = false := decide_eq_false (by omega)
     clear c3
     by_cases d1 : b5 = true
     ·subst d1
      replace H := ift H
      obtain rfl := Option.some.inj H
      obtain ⟨p6, p5, p4, p3, m4, m3, m2, m1⟩ := cz4 a5
      go_wp2
      go_ret
      exact ⟨erf, bb HB⟩
     replace d1 := Bool.eq_false_iff.mpr d1
     subst d1
     replace H := iff_ H
     obtain rfl := Option.some.inj H
     obtain ⟨p2, p1, p0, o9, m0, j9, j8, j7⟩ := cz4 a5
     go_wp2
     go_ret
     exact ⟨erf, bb HB⟩
    rw [if_pos c3] at H
    have h2 : decide (0 < (a6.length : Int)) = true := decide_eq_true c3
    have h1 : decide (0 < a6.length) = true := decide_eq_true (by omega)
    clear c3
    by_cases b9 : a8 = 0
    rotate_left
    ·rw [if_neg b9] at H
     have h0 := beq_eq_false_iff_ne.mpr b9
     have g9 := bne_iff_ne.mpr b9
     obtain rfl := Option.some.inj H
     obtain ⟨q0, p9, p8, p7, m8, m7, m6, m5⟩ := cz4 a5
     go_wp2
     go_ret
     exact ⟨erf, bb HB⟩
    rw [if_pos b9] at H
    have h0 := beq_iff_eq.mpr b9
    have g9 := bne_eq_false_iff_eq.mpr b9
    clear b9
    by_cases b8 : (a7 = (wrap64 ((a6.length : Int) - 1)))
    rotate_left
    ·rw [if_neg b8] at H
     have g8 : (a7 == (wrap64 ((a6.length : Int) - 1))) = false := beq_eq_false_iff_ne.mpr b8
     have g7 : (a7 != (wrap64 ((a6.length : Int) - 1))) = true := bne_iff_ne.mpr b8
     obtain rfl := Option.some.inj H
     obtain ⟨q4, q3, q2, q1, n2, n1, n0, m9⟩ := cz4 a5
     go_wp2
     go_ret
     exact ⟨erf, bb HB⟩
    rw [if_pos b8] at H
    have g8 : (a7 == (wrap64 ((a6.length : Int) - 1))) = true := beq_iff_eq.mpr b8
    have g7 : (a7 != (wrap64 ((a6.length : Int) - 1))) = false := bne_eq_false_iff_eq.mpr b8
    clear b8
    obtain rfl := Option.some.inj H
    obtain ⟨q8, q7, q6, q5, n6, n5, n4, n3⟩ := cz4 a5
    go_wp2
    go_ret
    exact ⟨erf, bb HB⟩
 rw [if_neg c0] at H
 have d3 := beq_eq_false_iff_ne.mpr c0
 have d2 := bne_iff_ne.mpr c0
 obtain rfl := Option.some.inj H
 rotate_left
 replace c4 := Bool.eq_false_iff.mpr c4
 subst c4
 replace H := iff_ H
 obtain rfl := Option.some.inj H
 all_goals
  go_enter Try.func62, Try.ntmps62
  go_wp2_with (first | ((with_reducible refine gate_dst (N := 2) rfl ?_); (try (refine gate_guard (by rfl) ?_; dsimp only)); refine be 2 #[.string a9, .int .i64 a8, .int .i64 a7, .slice b2 a6.length b1] 77 ?_; intro b0 hg s6 hbox hb; have a5 := Aside0.mk (hbox); have d6 := bsz HB hg; replace HB := bstep HB hb; clear hb hbox hg; obtain ⟨o8, o7, o6, o5, j6, j5, j4, j3⟩ := cz4 a5) | ((with_reducible refine gate_callee (f := 59) rfl ?_); refine gl 10 Try.func59 #[.string a9] (h := ?_); (with_reducible refine (token_IsName.calls _ _ _ _ A3.out).mono ?_); rintro e s5 ⟨rfl, hb⟩; refine ⟨_, rfl, ?_⟩; replace a5 := bkb a5 hb; replace HB := bstep HB hb; clear hb) | ((with_reducible refine gate_callee (f := 85) rfl ?_); refine gl 15 Try.func85 #[.slice A1 l1.length c1, .func (.func 86) #[] #[.pointer (some ⟨b0, 0, none⟩)]] (h := ?_); (with_reducible refine (any_attr.calls _ _ l1 b0 a9 (.int .i64 a8) (.int .i64 a7) (.slice b2 a6.length b1) false _ (cb g5 HB) g6.out (bk a5) A5.out).mono ?_); rintro e s4 ⟨rfl, hb⟩; refine ⟨_, rfl, ?_⟩; replace a5 := bkb a5 hb; replace HB := bstep HB hb; clear hb; obtain ⟨o4, o3, o2, o1, j2, j1, h9, h8⟩ := cz4 a5) | ((with_reducible refine gate_callee (f := 87) rfl ?_); refine gl 18 Try.func87 #[.slice b2 a6.length b1] (h := ?_); (with_reducible refine (types_names.calls _ _ _ _ _ _ (cb d4 HB) d5.out h6.out).mono ?_); rintro e s3 ⟨rfl, hb⟩; refine ⟨_, rfl, ?_⟩; replace a5 := bkb a5 hb; replace HB := bstep HB hb; clear hb))
  go_ret
  exact ⟨erf, bb HB⟩
end Go.Proofs.Ytfpianecohobjaa.P
