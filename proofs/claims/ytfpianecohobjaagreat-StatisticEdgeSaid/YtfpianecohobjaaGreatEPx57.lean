/- StatisticOf: a part of its proof. No condition. -/
import Derived.Test.YtfpianecohobjaaGreatEPx0
import Derived.Test.YtfpianecohobjaaGreatEMe
import Derived.Test.YtfpianecohobjaaGreatEPx46
import Derived.Test.YtfpianecohobjaaGreatEMi
namespace Go.Proofs.YtfpianecohobjaaGreat.P
open Go.RowKit Go.Proofs.YtfpianecohobjaaGreatW.PrintWords Go.Proofs.YtfpianecohobjaaGreatW.PrintLast Go.Proofs.YtfpianecohobjaaGreatW.PrintMore
set_option maxHeartbeats 8000000
set_option maxRecDepth 100000
set_option linter.unusedVariables false
set_option linter.unusedSimpArgs false
mutual
def scarfjointref18_Edge.j0 : Nat → Int → Int → Int → Int → Bool → List (S96) → List (S101) → List (S75) → List (S75) → Option ((List (S75)) × (List (S75)) × Int)
 | 0, _, _, _, _, _, _, _, _, _ => none
 | k + 1, x2, x3, x4, x5, H5, o7, o6, b8, b6 => if H5 = true then (some (([] : List (S75)), ([] : List (S75)), 6)) else ((q4_Fits.f k o7 o6 x2 x3 x4).bind fun n8 => (if n8 = true then (if x5 = (-1) then ((scarfjointref18_number.f k b6 x2 x3 x4 0).bind fun n7 => (scarfjointref18_Edge.j1 k x3 x4 x5 (n7 == 0) b8 b6 x2 x3 x4 0)) else (scarfjointref18_Edge.j1 k x3 x4 x5 false b8 b6 x2 x3 x4 0)) else (some (([] : List (S75)), ([] : List (S75)), 13))))
def scarfjointref18_Edge.j1 : Nat → Int → Int → Int → Bool → List (S75) → List (S75) → Int → Int → Int → Int → Option ((List (S75)) × (List (S75)) × Int)
 | 0, _, _, _, _, _, _, _, _, _, _ => none
 | k + 1, x3, x4, x5, H4, b8, b6, c6, c5, c4, c3 => if H4 = true then (some (([] : List (S75)), ([] : List (S75)), 10)) else (if x5 = 1 then ((scarfjointref18_number.f k b8 x3 0 0 0).bind fun n6 => (if n6 = 0 then (scarfjointref18_Edge.j2 k x5 true b8 b6 c6 c5 c4 c3) else ((scarfjointref18_number.f k b8 x4 0 0 0).bind fun p5 => (scarfjointref18_Edge.j2 k x5 (p5 == 0) b8 b6 c6 c5 c4 c3)))) else (scarfjointref18_Edge.j2 k x5 false b8 b6 c6 c5 c4 c3))
def scarfjointref18_Edge.j2 : Nat → Int → Bool → List (S75) → List (S75) → Int → Int → Int → Int → Option ((List (S75)) × (List (S75)) × Int)
 | 0, _, _, _, _, _, _, _, _ => none
 | k + 1, x5, H3, b8, b6, c6, c5, c4, c3 => if H3 = true then (some (([] : List (S75)), ([] : List (S75)), 10)) else (if x5 = 1 then ((scarfjointref18_total.f k b6).bind fun n5 => (scarfjointref18_Edge.j3 k x5 (n5 == 80) b8 b6 c6 c5 c4 c3)) else (scarfjointref18_Edge.j3 k x5 false b8 b6 c6 c5 c4 c3))
def scarfjointref18_Edge.j3 : Nat → Int → Bool → List (S75) → List (S75) → Int → Int → Int → Int → Option ((List (S75)) × (List (S75)) × Int)
 | 0, _, _, _, _, _, _, _, _ => none
 | k + 1, x5, v4, b8, b6, c6, c5, c4, c3 => if v4 = true then (some (([] : List (S75)), ([] : List (S75)), 3)) else ((scarfjointref18_Copied.f b8 b6).bind fun t0 => ((scarfjointref18_change.f k b6 c6 c5 c4 c3 x5).bind fun g0 => (some (t0.1, g0, 0))))
end
def scarfjointref18_Edge.f (k : Nat) (a8 : List (S96)) (b2 : List (S101)) (b3 : List (S75)) (b1 : List (S75)) (a2 : Int) (a3 : Int) (a4 : Int) (a5 : Int) : Option ((List (S75)) × (List (S75)) × Int) := (scarfjointref18_Valid.f k a8 b2 b3 b1).bind fun g1 => (if g1 = 0 then ((scarfjointref18_is.f a2 (b2.length : Int)).bind fun h1 => (if h1 = true then ((scarfjointref18_is.f a3 (a8.length : Int)).bind fun h0 => (if h0 = true then ((scarfjointref18_is.f a4 (a8.length : Int)).bind fun g9 => (if g9 = true then (if a5 = 1 then (scarfjointref18_Edge.j0 k a2 a3 a4 a5 false a8 b2 b3 b1) else (scarfjointref18_Edge.j0 k a2 a3 a4 a5 (a5 != (-1)) a8 b2 b3 b1)) else (scarfjointref18_Edge.j0 k a2 a3 a4 a5 true a8 b2 b3 b1))) else (scarfjointref18_Edge.j0 k a2 a3 a4 a5 true a8 b2 b3 b1))) else (scarfjointref18_Edge.j0 k a2 a3 a4 a5 true a8 b2 b3 b1))) else (some (([] : List (S75)), ([] : List (S75)), g1)))
theorem scarfjointref18_Edge.calls (k : Nat) (d7 : Option Addr) (d4 : Nat) (a8 : List (S96)) (d6 : Option Addr) (d3 : Nat) (b2 : List (S101)) (d9 : Option Addr) (d8 : Nat) (b3 : List (S75)) (d5 : Option Addr) (d2 : Nat) (b1 : List (S75)) (a2 : Int) (a3 : Int) (a4 : Int) (a5 : Int) (r1 : List (S75)) (r2 : List (S75)) (r3 : Int) (w : World) (p9 : Kd.C k96 w d7 a8.length a8) (q3 : a8.length ≤ d4) (p8 : Kd.C k101 w d6 b2.length b2) (q2 : b2.length ≤ d3) (p7 : Kd.C k75 w d9 b3.length b3) (q1 : b3.length ≤ d8) (p6 : Kd.C k75 w d5 b1.length b1) (q0 : b1.length ≤ d2) (h : scarfjointref18_Edge.f k a8 b2 b3 b1 a2 a3 a4 a5 = some (r1, r2, r3)) :
  Calls Tryz.prog 32 #[.agg #[.slice d7 a8.length d4, .slice d6 b2.length d3], .agg #[.slice d9 b3.length d8, .slice d5 b1.length d2], .int .i64 a2, .int .i64 a3, .int .i64 a4, .int .i64 a5] w fun e w' => ∃ s7 s6 : Value, e = .returned (.tuple #[.agg #[s7, s6], .int .i64 r3]) ∧ Kd.R k75 75 w' w.heap.size (fun k_ => some k_ ≠ (s6 : Value).ownBlock) s7 r1 ∧ Kd.R k75 75 w' w.heap.size (fun k_ => some k_ ≠ (s7 : Value).ownBlock) s6 r2 ∧ Below w.heap.size w w' := by
 have hu31 := Tryz.underlying31
 have hu46 := Tryz.underlying46
 have hu75 := Tryz.underlying75
 have j8 := Aside0.mk p9
 have m0 := Aside0.mk q3
 clear p9 q3
 have j7 := Aside0.mk p8
 have j9 := Aside0.mk q2
 clear p8 q2
 have h8 := Aside0.mk p7
 have h9 := Aside0.mk q1
 clear p7 q1
 have g3 := Aside0.mk p6
 have g4 := Aside0.mk q0
 clear p6 q0
 have HB := Aside0.mk (Below.refl w.heap.size w)
 have H : ((scarfjointref18_Valid.f k a8 b2 b3 b1).bind fun g1 => (if g1 = 0 then ((scarfjointref18_is.f a2 (b2.length : Int)).bind fun h1 => (if h1 = true then ((scarfjointref18_is.f a3 (a8.length : Int)).bind fun h0 => (if h0 = true then ((scarfjointref18_is.f a4 (a8.length : Int)).bind fun g9 => (if g9 = true then (if a5 = 1 then (scarfjointref18_Edge.j0 k a2 a3 a4 a5 false a8 b2 b3 b1) else (scarfjointref18_Edge.j0 k a2 a3 a4 a5 (a5 != (-1)) a8 b2 b3 b1)) else (scarfjointref18_Edge.j0 k a2 a3 a4 a5 true a8 b2 b3 b1))) else (scarfjointref18_Edge.j0 k a2 a3 a4 a5 true a8 b2 b3 b1))) else (scarfjointref18_Edge.j0 k a2 a3 a4 a5 true a8 b2 b3 b1))) else (some (([] : List (S75)), ([] : List (S75)), g1)))) = some (r1, r2, r3) := h
 clear h
 obtain ⟨g1, A7, H⟩ := obA H
 by_cases c8 : g1 = 0
 rotate_left
 ·rw [if_neg c8] at H
  have s9 := beq_eq_false_iff_ne.mpr c8
  have s8 := bne_iff_ne.mpr c8
  simp only [Option.some.injEq, Prod.mk.injEq] at H
  obtain ⟨rfl, rfl, rfl⟩ := H
  go_enter Tryz.func32, Tryz.ntmps32
  go_wp2_with (first | ((with_reducible refine gate_dst (N := 6) rfl ?_); (try (refine gate_guard (by rfl) ?_; dsimp only)); refine be 6 #[.slice d7 a8.length d4, .slice d6 b2.length d3] 31 ?_; intro e5 hg V7 hbox hb; have a0 := Aside0.mk (hbox); have t5 := bsz HB hg; replace HB := bstep HB hb; clear hb hbox hg) | ((with_reducible refine gate_dst (N := 7) rfl ?_); (try (refine gate_guard (by rfl) ?_; dsimp only)); refine be 7 #[.slice d9 b3.length d8, .slice d5 b1.length d2] 46 ?_; intro e4 hg V6 hbox hb; have a6 := Aside0.mk (hbox); have t4 := bsz HB hg; replace HB := bstep HB hb; have c0 := blt a0 hg; have b9 := bgt a0 hg; replace a0 := bkb a0 hb; clear hb hbox hg) | ((with_reducible refine gate_dst (N := 12) rfl ?_); (try (refine gate_guard (by rfl) ?_; dsimp only)); refine be 12 #[.slice none 0 0, .slice none 0 0] 46 ?_; intro b7 hg V5 hbox hb; have a1 := Aside0.mk (hbox); have t3 := bsz HB hg; replace HB := bstep HB hb; have b5 := blt a0 hg; have b4 := bgt a0 hg; replace a0 := bkb a0 hb; have b0 := blt a6 hg; have a9 := bgt a6 hg; replace a6 := bkb a6 hb; clear hb hbox hg; have L1 := c0.out; have I2 := b9.out; have L0 := b5.out; have I1 := b4.out; obtain ⟨A3, A2, w3, w2⟩ := cz2 a0; have J9 := b0.out; have I0 := a9.out; obtain ⟨A1, A0, w1, w0⟩ := cz2 a6) | ((with_reducible refine gate_callee (f := 30) rfl ?_); refine gl 19 Tryz.func30 #[.agg #[.slice d7 a8.length d4, .slice d6 b2.length d3], .agg #[.slice d9 b3.length d8, .slice d5 b1.length d2]] (h := ?_); (with_reducible refine (scarfjointref18_Valid.calls _ _ _ _ _ _ _ _ _ _ _ _ _ _ _ (cb j8 HB) m0.out (cb j7 HB) j9.out (cb h8 HB) h9.out (cb g3 HB) g4.out A7.out).mono ?_); rintro e V4 ⟨rfl, hb⟩; refine ⟨_, rfl, ?_⟩; replace a0 := bkb a0 hb; replace a6 := bkb a6 hb; replace a1 := bkb a1 hb; replace HB := bstep HB hb; clear hb; obtain ⟨y9, y8, v9, v8⟩ := cz2 a1))
  refine bodyPost_ret (results_ct rfl _ _ b7 46 #[.slice none 0 0, .slice none 0 0] (0, 0) _ rfl (by (with_reducible repeat (first | refine dN ?_ _ | refine dR ?_ | refine dA ?_ _)); refine blk_put (cs := #[.slice none 0 0, .slice none 0 0]) ?_ 1 _ rfl; refine blk_put (cs := #[.slice none 0 0, .slice none 0 0]) ?_ 0 _ rfl; (with_reducible repeat (first | refine dN ?_ _ | refine dR ?_ | refine dA ?_ _)); exact a1.out) Tryz.underlying46 rfl (by kernel_rfl)) rfl ?_
  exact ⟨_, _, erf, by first | exact Kd.R_nil _ _ _ _ _ | exact Kd.N_nil _ _ _ _ _ | exact Kd.V_nil _ _ _ _ _ | exact Kd.Q_nil _ _ _ _ _ | exact Kd.S_nil _ _ _ _ _, by first | exact Kd.R_nil _ _ _ _ _ | exact Kd.N_nil _ _ _ _ _ | exact Kd.V_nil _ _ _ _ _ | exact Kd.Q_nil _ _ _ _ _ | exact Kd.S_nil _ _ _ _ _, bb HB⟩
 rw [if_pos c8] at H
 have s9 := beq_iff_eq.mpr c8
 have s8 := bne_eq_false_iff_eq.mpr c8
 clear c8
 have t2 := Aside0.mk H
 clear H
 go_enter Tryz.func32, Tryz.ntmps32
 go_upto_region 4 with (first | ((with_reducible refine gate_dst (N := 6) rfl ?_); (try (refine gate_guard (by rfl) ?_; dsimp only)); refine be 6 #[.slice d7 a8.length d4, .slice d6 b2.length d3] 31 ?_; intro e5 hg X2 hbox hb; have a0 := Aside0.mk (hbox); have t5 := bsz HB hg; replace HB := bstep HB hb; clear hb hbox hg) | ((with_reducible refine gate_dst (N := 7) rfl ?_); (try (refine gate_guard (by rfl) ?_; dsimp only)); refine be 7 #[.slice d9 b3.length d8, .slice d5 b1.length d2] 46 ?_; intro e4 hg X1 hbox hb; have a6 := Aside0.mk (hbox); have t4 := bsz HB hg; replace HB := bstep HB hb; have c0 := blt a0 hg; have b9 := bgt a0 hg; replace a0 := bkb a0 hb; clear hb hbox hg) | ((with_reducible refine gate_dst (N := 12) rfl ?_); (try (refine gate_guard (by rfl) ?_; dsimp only)); refine be 12 #[.slice none 0 0, .slice none 0 0] 46 ?_; intro b7 hg X0 hbox hb; have a1 := Aside0.mk (hbox); have t3 := bsz HB hg; replace HB := bstep HB hb; have b5 := blt a0 hg; have b4 := bgt a0 hg; replace a0 := bkb a0 hb; have b0 := blt a6 hg; have a9 := bgt a6 hg; replace a6 := bkb a6 hb; clear hb hbox hg; have V3 := c0.out; have Q6 := b9.out; have V2 := b5.out; have Q5 := b4.out; obtain ⟨s5, s4, r7, r6⟩ := cz2 a0; have V1 := b0.out; have Q4 := a9.out; obtain ⟨s3, s2, r5, r4⟩ := cz2 a6) | ((with_reducible refine gate_callee (f := 30) rfl ?_); refine gl 19 Tryz.func30 #[.agg #[.slice d7 a8.length d4, .slice d6 b2.length d3], .agg #[.slice d9 b3.length d8, .slice d5 b1.length d2]] (h := ?_); (with_reducible refine (scarfjointref18_Valid.calls _ _ _ _ _ _ _ _ _ _ _ _ _ _ _ (cb j8 HB) m0.out (cb j7 HB) j9.out (cb h8 HB) h9.out (cb g3 HB) g4.out A7.out).mono ?_); rintro e W9 ⟨rfl, hb⟩; refine ⟨_, rfl, ?_⟩; replace a0 := bkb a0 hb; replace a6 := bkb a6 hb; replace a1 := bkb a1 hb; replace HB := bstep HB hb; clear hb))
 (try simp only [Act.put, List.setIfInBounds_toArray, List.set_cons_zero, List.set_cons_succ])
 go_cut [53] (fun H8 wc => ∃ (kq : Nat) (j6 : Bool), H8 = .bool j6 ∧ Aside0 (scarfjointref18_Edge.j0 kq a2 a3 a4 a5 j6 a8 b2 b3 b1 = some (r1, r2, r3)) ∧ Aside0 (kq ≤ k) ∧ Aside0 (wc.heap[e5]? = some (.cells #[(.slice d7 a8.length d4), (.slice d6 b2.length d3)] 31 (0, 0))) ∧ Aside0 (wc.heap[e4]? = some (.cells #[(.slice d9 b3.length d8), (.slice d5 b1.length d2)] 46 (0, 0))) ∧ Aside0 (wc.heap[b7]? = some (.cells #[(.slice none 0 0), (.slice none 0 0)] 46 (0, 0))) ∧ Aside0 (Below w.heap.size w wc))
 case first =>
  have H := t2.out
  clear t2
  obtain ⟨h1, N6, H⟩ := obA H
  by_cases q6 : h1 = true
  subst q6
  replace H := ift H
  obtain ⟨h0, N5, H⟩ := obA H
  by_cases q5 : h0 = true
  subst q5
  replace H := ift H
  obtain ⟨g9, N4, H⟩ := obA H
  by_cases q4 : g9 = true
  subst q4
  replace H := ift H
  by_cases m5 : a5 = 1
  rw [if_pos m5] at H
  have h7 := beq_iff_eq.mpr m5
  have v1 := bne_eq_false_iff_eq.mpr m5
  clear m5
  (first | rw [h7] | (simp only [i64_w, i32_w]; rw [h7]) | skip)
  have H' := Aside0.mk H
  clear H
  rotate_left
  rw [if_neg m5] at H
  have h7 := beq_eq_false_iff_ne.mpr m5
  have v1 := bne_iff_ne.mpr m5
  (first | rw [h7] | (simp only [i64_w, i32_w]; rw [h7]) | skip)
  have H' := Aside0.mk H
  clear H
  rotate_left
  replace q4 := Bool.eq_false_iff.mpr q4
  subst q4
  replace H := iff_ H
  have H' := Aside0.mk H
  clear H
  rotate_left
  replace q5 := Bool.eq_false_iff.mpr q5
  subst q5
  replace H := iff_ H
  have H' := Aside0.mk H
  clear H
  rotate_left
  replace q6 := Bool.eq_false_iff.mpr q6
  subst q6
  replace H := iff_ H
  have H' := Aside0.mk H
  clear H
  all_goals
   have V0 := c0.out
   have Q3 := b9.out
   have U9 := b5.out
   have Q2 := b4.out
   obtain ⟨H2, H1, F4, F3⟩ := cz2 a0
   go_wp2_with (first | ((with_reducible refine gate_callee (f := 60) rfl ?_); refine gl 28 Tryz.func60 #[.int .i64 a2, .int .i64 (b2.length : Int)] (h := ?_); (with_reducible refine (scarfjointref18_is.calls _ _ _ _ N6.out).mono ?_); rintro e w' ⟨rfl, ⟨nd, rfl⟩⟩; refine ⟨_, rfl, ?_⟩) | (go_at_call 60; (with_reducible refine (scarfjointref18_is.calls _ _ _ _ N5.out).mono ?_); rintro e w' ⟨rfl, ⟨nd, rfl⟩⟩) | (go_at_call 60; (with_reducible refine (scarfjointref18_is.calls _ _ _ _ N4.out).mono ?_); rintro e w' ⟨rfl, ⟨nd, rfl⟩⟩))
   go_meet
   case rel => exact ⟨_, _, eqs, H', ⟨by first | omega | exact Nat.le_refl _⟩, ⟨bk a0⟩, ⟨bk a6⟩, ⟨bk a1⟩, ⟨bb HB⟩⟩
 case rest =>
  clear t2
  try clear s9 s8 s5 s4 s3 s2 r7 r6 r5 r4
  obtain ⟨kq, j6, rfl, HA, n4, a0, a6, a1, HB⟩ := hcut
  cases kq with
  | zero => exact absurd HA.out (by simp [scarfjointref18_Edge.j0])
  | succ H9 =>
   have H := HA.out
   clear HA
   simp only [scarfjointref18_Edge.j0] at H
   by_cases o4 : j6 = true
   ·subst o4
    replace H := ift H
    simp only [Option.some.injEq, Prod.mk.injEq] at H
    obtain ⟨rfl, rfl, rfl⟩ := H
    have U8 := b4.out
    have Q1 := b5.out
    have U7 := a9.out
    have Q0 := b0.out
    obtain ⟨H0, G9, F2, F1⟩ := cz2 a1
    go_wp2
    refine bodyPost_ret (results_ct rfl _ _ b7 46 #[.slice none 0 0, .slice none 0 0] (0, 0) _ rfl (by (with_reducible repeat (first | refine dN ?_ _ | refine dR ?_ | refine dA ?_ _)); refine blk_put (cs := #[.slice none 0 0, .slice none 0 0]) ?_ 1 _ rfl; refine blk_put (cs := #[.slice none 0 0, .slice none 0 0]) ?_ 0 _ rfl; (with_reducible repeat (first | refine dN ?_ _ | refine dR ?_ | refine dA ?_ _)); exact a1.out) Tryz.underlying46 rfl (by kernel_rfl)) rfl ?_
    exact ⟨_, _, erf, by first | exact Kd.R_nil _ _ _ _ _ | exact Kd.N_nil _ _ _ _ _ | exact Kd.V_nil _ _ _ _ _ | exact Kd.Q_nil _ _ _ _ _ | exact Kd.S_nil _ _ _ _ _, by first | exact Kd.R_nil _ _ _ _ _ | exact Kd.N_nil _ _ _ _ _ | exact Kd.V_nil _ _ _ _ _ | exact Kd.Q_nil _ _ _ _ _ | exact Kd.S_nil _ _ _ _ _, bb HB⟩
   replace o4 := Bool.eq_false_iff.mpr o4
   subst o4
   replace H := iff_ H
   obtain ⟨n8, v3, H⟩ := obA H
   by_cases o3 : n8 = true
   subst o3
   replace H := ift H
   have p4 := Aside0.mk H
   clear H
   rotate_left
   replace o3 := Bool.eq_false_iff.mpr o3
   subst o3
   replace H := iff_ H
   simp only [Option.some.injEq, Prod.mk.injEq] at H
   obtain ⟨rfl, rfl, rfl⟩ := H
   all_goals
    have L4 := c0.out
    have I5 := b9.out
    have L3 := b5.out
    have I4 := b4.out
    obtain ⟨p1, p0, o9, o8⟩ := cz2 a0
   ·go_wp2_with (first | ((with_reducible refine gate_callee (f := 65) rfl ?_); refine gl 59 Tryz.func65 #[.agg #[.slice d7 a8.length d4, .slice d6 b2.length d3], .int .i64 a2, .int .i64 a3, .int .i64 a4] (h := ?_); (with_reducible refine (q4_Fits.calls _ _ _ _ _ _ _ _ _ _ _ _ (cb j8 HB) m0.out (cb j7 HB) j9.out v3.out).mono ?_); rintro e V8 ⟨rfl, hb⟩; refine ⟨_, rfl, ?_⟩; replace a0 := bkb a0 hb; replace a6 := bkb a6 hb; replace a1 := bkb a1 hb; replace HB := bstep HB hb; clear hb; have L2 := a9.out; have I3 := b0.out; obtain ⟨A5, A4, w5, w4⟩ := cz2 a1))
    refine bodyPost_ret (results_ct rfl _ _ b7 46 #[.slice none 0 0, .slice none 0 0] (0, 0) _ rfl (by (with_reducible repeat (first | refine dN ?_ _ | refine dR ?_ | refine dA ?_ _)); refine blk_put (cs := #[.slice none 0 0, .slice none 0 0]) ?_ 1 _ rfl; refine blk_put (cs := #[.slice none 0 0, .slice none 0 0]) ?_ 0 _ rfl; (with_reducible repeat (first | refine dN ?_ _ | refine dR ?_ | refine dA ?_ _)); exact a1.out) Tryz.underlying46 rfl (by kernel_rfl)) rfl ?_
    exact ⟨_, _, erf, by first | exact Kd.R_nil _ _ _ _ _ | exact Kd.N_nil _ _ _ _ _ | exact Kd.V_nil _ _ _ _ _ | exact Kd.Q_nil _ _ _ _ _ | exact Kd.S_nil _ _ _ _ _, by first | exact Kd.R_nil _ _ _ _ _ | exact Kd.N_nil _ _ _ _ _ | exact Kd.V_nil _ _ _ _ _ | exact Kd.Q_nil _ _ _ _ _ | exact Kd.S_nil _ _ _ _ _, bb HB⟩
   ·go_upto_region 9 with (first | ((with_reducible refine gate_callee (f := 65) rfl ?_); refine gl 59 Tryz.func65 #[.agg #[.slice d7 a8.length d4, .slice d6 b2.length d3], .int .i64 a2, .int .i64 a3, .int .i64 a4] (h := ?_); (with_reducible refine (q4_Fits.calls _ _ _ _ _ _ _ _ _ _ _ _ (cb j8 HB) m0.out (cb j7 HB) j9.out v3.out).mono ?_); rintro e W8 ⟨rfl, hb⟩; refine ⟨_, rfl, ?_⟩; replace a0 := bkb a0 hb; replace a6 := bkb a6 hb; replace a1 := bkb a1 hb; replace HB := bstep HB hb; clear hb) | ((with_reducible refine gate_dst (N := 15) rfl ?_); (try (refine gate_guard (by rfl) ?_; dsimp only)); refine be 15 #[.int .i64 0, .int .i64 0, .int .i64 0, .int .i64 0] 75 ?_; intro e0 hg W7 hbox hb; have a7 := Aside0.mk (hbox); have M9 := bsz HB hg; replace HB := bstep HB hb; have e8 := blt a0 hg; have e7 := bgt a0 hg; replace a0 := bkb a0 hb; have d0 := blt a6 hg; have c9 := bgt a6 hg; replace a6 := bkb a6 hb; have c2 := blt a1 hg; have c1 := bgt a1 hg; replace a1 := bkb a1 hb; clear hb hbox hg; have U6 := e7.out; have P9 := e8.out; have U5 := c9.out; have P8 := d0.out; have U4 := c1.out; have P7 := c2.out; obtain ⟨s1, s0, r9, r8, r0, q9, q8, q7⟩ := cz4 a7))
    (try simp only [Act.put, List.setIfInBounds_toArray, List.set_cons_zero, List.set_cons_succ])
    go_cut [74] (fun H7 wc => ∃ (kq : Nat) (g7 : Bool), H7 = .bool g7 ∧ Aside0 (scarfjointref18_Edge.j1 kq a3 a4 a5 g7 b3 b1 a2 a3 a4 0 = some (r1, r2, r3)) ∧ Aside0 (kq ≤ H9) ∧ Aside0 (wc.heap[e5]? = some (.cells #[(.slice d7 a8.length d4), (.slice d6 b2.length d3)] 31 (0, 0))) ∧ Aside0 (wc.heap[e4]? = some (.cells #[(.slice d9 b3.length d8), (.slice d5 b1.length d2)] 46 (0, 0))) ∧ Aside0 (wc.heap[b7]? = some (.cells #[(.slice none 0 0), (.slice none 0 0)] 46 (0, 0))) ∧ Aside0 (wc.heap[e0]? = some (.cells #[.int .i64 a2, .int .i64 a3, .int .i64 a4, .int .i64 0] 75 (0, 0))) ∧ Aside0 (Below w.heap.size w wc))
    case first =>
     have H := p4.out
     clear p4
     by_cases m4 : a5 = (-1)
     rotate_left
     ·rw [if_neg m4] at H
      have h6 := beq_eq_false_iff_ne.mpr m4
      have v0 := bne_iff_ne.mpr m4
      (first | rw [h6] | (simp only [i64_w, i32_w]; rw [h6]) | skip)
      have H' := Aside0.mk H
      clear H
      go_wp2
      go_meet
      case rel => exact ⟨_, (false), eqs, H', ⟨by have := n4.out; first | omega | exact Nat.le_refl _⟩, ⟨bkF a0⟩, ⟨bkF a6⟩, ⟨bkF a1⟩, ⟨bkP a7⟩, ⟨bb HB⟩⟩
     rw [if_pos m4] at H
     have h6 := beq_iff_eq.mpr m4
     have v0 := bne_eq_false_iff_eq.mpr m4
     clear m4
     (first | rw [h6] | (simp only [i64_w, i32_w]; rw [h6]) | skip)
     obtain ⟨n7, N3, H⟩ := obA H
     have H' := Aside0.mk H
     clear H
     have U3 := b9.out
     have P6 := c0.out
     have U2 := b0.out
     have P5 := a9.out
     have U1 := d0.out
     have P4 := c9.out
     obtain ⟨G8, G7, F0, E9⟩ := cz2 a6
     have U0 := e7.out
     have P3 := e8.out
     have R9 := c1.out
     have P2 := c2.out
     obtain ⟨G6, G5, G4, G3, E8, E7, E6, E5⟩ := cz4 a7
     go_wp2_with (first | (go_at_call 66; (with_reducible refine (scarfjointref18_number.calls _ _ _ _ _ _ _ _ _ _ (Kd.C_below g3.out (bb HB)) g4.out N3.out).mono ?_); rintro e W6 ⟨rfl, hb⟩; replace a0 := Aside0.mk (blk_below (g := e5) (o := .cells #[.slice d7 a8.length d4, .slice d6 b2.length d3] 31 (0, 0)) (bkF a0) hb); replace a6 := Aside0.mk (blk_below (g := e4) (o := .cells #[.slice d9 b3.length d8, .slice d5 b1.length d2] 46 (0, 0)) (bkF a6) hb); replace a1 := Aside0.mk (blk_below (g := b7) (o := .cells #[.slice none 0 0, .slice none 0 0] 46 (0, 0)) (bkF a1) hb); replace a7 := Aside0.mk (blk_below (g := e0) (o := .cells #[.int .i64 a2, .int .i64 a3, .int .i64 a4, .int .i64 0] 75 (0, 0)) (bkP a7) hb); replace HB := bstep HB hb; clear hb))
     go_meet
     case rel => exact ⟨_, ((n7 == 0)), eqs, H', ⟨by have := n4.out; first | omega | exact Nat.le_refl _⟩, ⟨bk a0⟩, ⟨bk a6⟩, ⟨bk a1⟩, ⟨bk a7⟩, ⟨bb HB⟩⟩
    case rest =>
     clear p4
     try clear o4 o3 p1 p0 s1 s0 r9 r8 o9 o8 r0 q9 q8 q7
     obtain ⟨kq, g7, rfl, HA, o0, a0, a6, a1, a7, HB⟩ := hcut
     cases kq with
     | zero => exact absurd HA.out (by simp [scarfjointref18_Edge.j1])
     | succ v7 =>
      have H := HA.out
      clear HA
      simp only [scarfjointref18_Edge.j1] at H
      by_cases o2 : g7 = true
      ·subst o2
       replace H := ift H
       simp only [Option.some.injEq, Prod.mk.injEq] at H
       obtain ⟨rfl, rfl, rfl⟩ := H
       have R8 := b4.out
       have P1 := b5.out
       have R7 := a9.out
       have P0 := b0.out
       have R6 := c2.out
       have O9 := c1.out
       obtain ⟨G2, G1, E4, E3⟩ := cz2 a1
       go_wp2
       refine bodyPost_ret (results_ct rfl _ _ b7 46 #[.slice none 0 0, .slice none 0 0] (0, 0) _ rfl (by (with_reducible repeat (first | refine dN ?_ _ | refine dR ?_ | refine dA ?_ _)); refine blk_put (cs := #[.slice none 0 0, .slice none 0 0]) ?_ 1 _ rfl; refine blk_put (cs := #[.slice none 0 0, .slice none 0 0]) ?_ 0 _ rfl; (with_reducible repeat (first | refine dN ?_ _ | refine dR ?_ | refine dA ?_ _)); exact a1.out) Tryz.underlying46 rfl (by kernel_rfl)) rfl ?_
       exact ⟨_, _, erf, by first | exact Kd.R_nil _ _ _ _ _ | exact Kd.N_nil _ _ _ _ _ | exact Kd.V_nil _ _ _ _ _ | exact Kd.Q_nil _ _ _ _ _ | exact Kd.S_nil _ _ _ _ _, by first | exact Kd.R_nil _ _ _ _ _ | exact Kd.N_nil _ _ _ _ _ | exact Kd.V_nil _ _ _ _ _ | exact Kd.Q_nil _ _ _ _ _ | exact Kd.S_nil _ _ _ _ _, bb HB⟩
      replace o2 := Bool.eq_false_iff.mpr o2
      subst o2
      replace H := iff_ H
      have p3 := Aside0.mk H
      clear H
      go_upto_region 11 with (fail)
      go_cut [93] (fun H6 wc => ∃ (kq : Nat) (g6 : Bool), H6 = .bool g6 ∧ Aside0 (scarfjointref18_Edge.j2 kq a5 g6 b3 b1 a2 a3 a4 0 = some (r1, r2, r3)) ∧ Aside0 (kq ≤ v7) ∧ Aside0 (wc.heap[e5]? = some (.cells #[(.slice d7 a8.length d4), (.slice d6 b2.length d3)] 31 (0, 0))) ∧ Aside0 (wc.heap[e4]? = some (.cells #[(.slice d9 b3.length d8), (.slice d5 b1.length d2)] 46 (0, 0))) ∧ Aside0 (wc.heap[b7]? = some (.cells #[(.slice none 0 0), (.slice none 0 0)] 46 (0, 0))) ∧ Aside0 (wc.heap[e0]? = some (.cells #[.int .i64 a2, .int .i64 a3, .int .i64 a4, .int .i64 0] 75 (0, 0))) ∧ Aside0 (Below w.heap.size w wc))
      case first =>
       have H := p3.out
       clear p3
       by_cases m3 : a5 = 1
       rotate_left
       ·rw [if_neg m3] at H
        have h5 := beq_eq_false_iff_ne.mpr m3
        have t9 := bne_iff_ne.mpr m3
        (first | rw [h5] | (simp only [i64_w, i32_w]; rw [h5]) | skip)
        have H' := Aside0.mk H
        clear H
        go_wp2
        go_meet
        case rel => exact ⟨_, (false), eqs, H', ⟨by have := n4.out; have := o0.out; first | omega | exact Nat.le_refl _⟩, ⟨bk a0⟩, ⟨bk a6⟩, ⟨bk a1⟩, ⟨bk a7⟩, ⟨bb HB⟩⟩
       rw [if_pos m3] at H
       have h5 := beq_iff_eq.mpr m3
       have t9 := bne_eq_false_iff_eq.mpr m3
       clear m3
       (first | rw [h5] | (simp only [i64_w, i32_w]; rw [h5]) | skip)
       obtain ⟨n6, N2, H⟩ := obA H
       by_cases m2 : n6 = 0
       rw [if_pos m2] at H
       have t8 := beq_iff_eq.mpr m2
       have t7 := bne_eq_false_iff_eq.mpr m2
       clear m2
       have H' := Aside0.mk H
       clear H
       rotate_left
       rw [if_neg m2] at H
       have t8 := beq_eq_false_iff_ne.mpr m2
       have t7 := bne_iff_ne.mpr m2
       obtain ⟨p5, N1, H⟩ := obA H
       have H' := Aside0.mk H
       clear H
       all_goals
        have R5 := b9.out
        have O8 := c0.out
        have R4 := b0.out
        have O7 := a9.out
        have R3 := d0.out
        have O6 := c9.out
        obtain ⟨G0, F9, E2, E1⟩ := cz2 a6
        go_wp2_with (first | (go_at_call 66; (with_reducible refine (scarfjointref18_number.calls _ _ _ _ _ _ _ _ _ _ (cb h8 HB) h9.out N2.out).mono ?_); rintro e W5 ⟨rfl, hb⟩; replace a0 := bkb a0 hb; replace a6 := bkb a6 hb; replace a1 := bkb a1 hb; replace a7 := bkb a7 hb; replace HB := bstep HB hb; clear hb; obtain ⟨F8, F7, E0, D9⟩ := cz2 a6) | (go_at_call 66; (with_reducible refine (scarfjointref18_number.calls _ _ _ _ _ _ _ _ _ _ (cb h8 HB) h9.out N1.out).mono ?_); rintro e W4 ⟨rfl, hb⟩; replace a0 := bkb a0 hb; replace a6 := bkb a6 hb; replace a1 := bkb a1 hb; replace a7 := bkb a7 hb; replace HB := bstep HB hb; clear hb))
        go_meet
        case rel => exact ⟨_, _, eqs, H', ⟨by have := n4.out; have := o0.out; first | omega | exact Nat.le_refl _⟩, ⟨bk a0⟩, ⟨bk a6⟩, ⟨bk a1⟩, ⟨bk a7⟩, ⟨bb HB⟩⟩
      case rest =>
       clear p3
       try clear o2
       obtain ⟨kq, g6, rfl, HA, t1, a0, a6, a1, a7, HB⟩ := hcut
       cases kq with
       | zero => exact absurd HA.out (by simp [scarfjointref18_Edge.j2])
       | succ v6 =>
        have H := HA.out
        clear HA
        simp only [scarfjointref18_Edge.j2] at H
        by_cases o1 : g6 = true
        ·subst o1
         replace H := ift H
         simp only [Option.some.injEq, Prod.mk.injEq] at H
         obtain ⟨rfl, rfl, rfl⟩ := H
         have R2 := b4.out
         have O5 := b5.out
         have R1 := a9.out
         have O4 := b0.out
         have R0 := c2.out
         have O3 := c1.out
         obtain ⟨F6, F5, D8, D7⟩ := cz2 a1
         go_wp2
         refine bodyPost_ret (results_ct rfl _ _ b7 46 #[.slice none 0 0, .slice none 0 0] (0, 0) _ rfl (by (with_reducible repeat (first | refine dN ?_ _ | refine dR ?_ | refine dA ?_ _)); refine blk_put (cs := #[.slice none 0 0, .slice none 0 0]) ?_ 1 _ rfl; refine blk_put (cs := #[.slice none 0 0, .slice none 0 0]) ?_ 0 _ rfl; (with_reducible repeat (first | refine dN ?_ _ | refine dR ?_ | refine dA ?_ _)); exact a1.out) Tryz.underlying46 rfl (by kernel_rfl)) rfl ?_
         exact ⟨_, _, erf, by first | exact Kd.R_nil _ _ _ _ _ | exact Kd.N_nil _ _ _ _ _ | exact Kd.V_nil _ _ _ _ _ | exact Kd.Q_nil _ _ _ _ _ | exact Kd.S_nil _ _ _ _ _, by first | exact Kd.R_nil _ _ _ _ _ | exact Kd.N_nil _ _ _ _ _ | exact Kd.V_nil _ _ _ _ _ | exact Kd.Q_nil _ _ _ _ _ | exact Kd.S_nil _ _ _ _ _, bb HB⟩
        replace o1 := Bool.eq_false_iff.mpr o1
        subst o1
        replace H := iff_ H
        have p2 := Aside0.mk H
        clear H
        go_upto_region 13 with (fail)
        go_cut [102] (fun v5 wc => ∃ (kq : Nat) (g2 : Bool), v5 = .bool g2 ∧ Aside0 (scarfjointref18_Edge.j3 kq a5 g2 b3 b1 a2 a3 a4 0 = some (r1, r2, r3)) ∧ Aside0 (kq ≤ v6) ∧ Aside0 (wc.heap[e5]? = some (.cells #[(.slice d7 a8.length d4), (.slice d6 b2.length d3)] 31 (0, 0))) ∧ Aside0 (wc.heap[e4]? = some (.cells #[(.slice d9 b3.length d8), (.slice d5 b1.length d2)] 46 (0, 0))) ∧ Aside0 (wc.heap[b7]? = some (.cells #[(.slice none 0 0), (.slice none 0 0)] 46 (0, 0))) ∧ Aside0 (wc.heap[e0]? = some (.cells #[.int .i64 a2, .int .i64 a3, .int .i64 a4, .int .i64 0] 75 (0, 0))) ∧ Aside0 (Below w.heap.size w wc))
        case first =>
         have H := p2.out
         clear p2
         by_cases m1 : a5 = 1
         rotate_left
         ·rw [if_neg m1] at H
          have h4 := beq_eq_false_iff_ne.mpr m1
          have t6 := bne_iff_ne.mpr m1
          (first | rw [h4] | (simp only [i64_w, i32_w]; rw [h4]) | skip)
          have H' := Aside0.mk H
          clear H
          go_wp2
          go_meet
          case rel => exact ⟨_, (false), eqs, H', ⟨by have := n4.out; have := o0.out; have := t1.out; first | omega | exact Nat.le_refl _⟩, ⟨bk a0⟩, ⟨bk a6⟩, ⟨bk a1⟩, ⟨bk a7⟩, ⟨bb HB⟩⟩
         rw [if_pos m1] at H
         have h4 := beq_iff_eq.mpr m1
         have t6 := bne_eq_false_iff_eq.mpr m1
         clear m1
         (first | rw [h4] | (simp only [i64_w, i32_w]; rw [h4]) | skip)
         obtain ⟨n5, N0, H⟩ := obA H
         have H' := Aside0.mk H
         clear H
         have Q9 := b9.out
         have O2 := c0.out
         have Q8 := b0.out
         have O1 := a9.out
         have Q7 := d0.out
         have O0 := c9.out
         obtain ⟨D4, D3, y7, y6⟩ := cz2 a6
         go_wp2_with (first | (go_at_call 64; (with_reducible refine (scarfjointref18_total.calls _ _ _ _ _ _ (cb g3 HB) g4.out N0.out).mono ?_); rintro e w' ⟨rfl, ⟨nd, rfl⟩⟩))
         go_meet
         case rel => exact ⟨_, ((n5 == 80)), eqs, H', ⟨by have := n4.out; have := o0.out; have := t1.out; first | omega | exact Nat.le_refl _⟩, ⟨bk a0⟩, ⟨bk a6⟩, ⟨bk a1⟩, ⟨bk a7⟩, ⟨bb HB⟩⟩
        case rest =>
         clear p2
         try clear o1
         obtain ⟨kq, g2, rfl, HA, W3, a0, a6, a1, a7, HB⟩ := hcut
         cases kq with
         | zero => exact absurd HA.out (by simp [scarfjointref18_Edge.j3])
         | succ W2 =>
          have H := HA.out
          clear HA
          simp only [scarfjointref18_Edge.j3] at H
          by_cases n9 : g2 = true
          ·subst n9
           replace H := ift H
           simp only [Option.some.injEq, Prod.mk.injEq] at H
           obtain ⟨rfl, rfl, rfl⟩ := H
           have M7 := b4.out
           have J8 := b5.out
           have M6 := a9.out
           have J7 := b0.out
           have M5 := c2.out
           have J6 := c1.out
           obtain ⟨D2, D1, y5, y4⟩ := cz2 a1
           go_wp2
           refine bodyPost_ret (results_ct rfl _ _ b7 46 #[.slice none 0 0, .slice none 0 0] (0, 0) _ rfl (by (with_reducible repeat (first | refine dN ?_ _ | refine dR ?_ | refine dA ?_ _)); refine blk_put (cs := #[.slice none 0 0, .slice none 0 0]) ?_ 1 _ rfl; refine blk_put (cs := #[.slice none 0 0, .slice none 0 0]) ?_ 0 _ rfl; (with_reducible repeat (first | refine dN ?_ _ | refine dR ?_ | refine dA ?_ _)); exact a1.out) Tryz.underlying46 rfl (by kernel_rfl)) rfl ?_
           exact ⟨_, _, erf, by first | exact Kd.R_nil _ _ _ _ _ | exact Kd.N_nil _ _ _ _ _ | exact Kd.V_nil _ _ _ _ _ | exact Kd.Q_nil _ _ _ _ _ | exact Kd.S_nil _ _ _ _ _, by first | exact Kd.R_nil _ _ _ _ _ | exact Kd.N_nil _ _ _ _ _ | exact Kd.V_nil _ _ _ _ _ | exact Kd.Q_nil _ _ _ _ _ | exact Kd.S_nil _ _ _ _ _, bb HB⟩
          replace n9 := Bool.eq_false_iff.mpr n9
          subst n9
          replace H := iff_ H
          obtain ⟨⟨e1, g8⟩, D6, H⟩ := obA H
          try dsimp only at H
          obtain ⟨g0, D5, H⟩ := obA H
          simp only [Option.some.injEq, Prod.mk.injEq] at H
          obtain ⟨rfl, rfl, rfl⟩ := H
          have M4 := b9.out
          have J5 := c0.out
          have M3 := b0.out
          have J4 := a9.out
          have M2 := d0.out
          have J3 := c9.out
          obtain ⟨D0, C9, y3, y2⟩ := cz2 a6
          go_wp2_with (first | ((with_reducible refine gate_callee (f := 26) rfl ?_); refine gl 105 Tryz.func26 #[.agg #[.slice d9 b3.length d8, .slice d5 b1.length d2]] (h := ?_); (with_reducible refine (scarfjointref18_Copied.calls _ _ _ _ _ _ _ _ _ (cb h8 HB) h9.out (cb g3 HB) g4.out D6.out).mono ?_); rintro e W1 ⟨N9, N8, rfl, n3, v2, hb⟩; refine ⟨_, rfl, ?_⟩; have e6 := Aside0.mk (Kd.R_lower (Kd.R_newB n3 (g := e0) (o := .cells #[.int .i64 a2, .int .i64 a3, .int .i64 a4, .int .i64 0] 75 (0, 0)) (bk a7)) (below_size (bb HB))); have e9 := Aside0.mk (Kd.R_lower (Kd.R_newB v2 (g := e0) (o := .cells #[.int .i64 a2, .int .i64 a3, .int .i64 a4, .int .i64 0] 75 (0, 0)) (bk a7)) (below_size (bb HB))); replace a0 := bkb a0 hb; replace a6 := bkb a6 hb; replace a1 := bkb a1 hb; replace a7 := bkb a7 hb; replace HB := bstep HB hb; clear hb n3 v2) | ((with_reducible refine gate_dst (N := 16) rfl ?_); (try (refine gate_guard (by rfl) ?_; dsimp only)); refine be 16 #[.slice none 0 0, .slice none 0 0] 46 ?_; intro c7 hg W0 hbox hb; replace e6 := kRb e6 hb; replace e9 := kRb e9 hb; have d1 := Aside0.mk (hbox); have M8 := bsz HB hg; replace HB := bstep HB hb; have n2 := blt a0 hg; have m9 := bgt a0 hg; replace a0 := bkb a0 hb; have n1 := blt a6 hg; have m8 := bgt a6 hg; replace a6 := bkb a6 hb; have g5 := blt a1 hg; have m7 := bgt a1 hg; replace a1 := bkb a1 hb; have n0 := blt a7 hg; have m6 := bgt a7 hg; replace a7 := bkb a7 hb; clear hb hbox hg; obtain ⟨e3, e2, eo114⟩ := Kd.R_slice e6.out; subst eo114; have M1 := m9.out; have J2 := n2.out; have M0 := m8.out; have J1 := n1.out; have L9 := m7.out; have J0 := g5.out; have L8 := m6.out; have I9 := n0.out; obtain ⟨C8, C7, y1, y0⟩ := cz2 d1; obtain ⟨j5, h3, eo120⟩ := Kd.R_slice e9.out; subst eo120; obtain ⟨C6, C5, x9, x8⟩ := cz2 a6; have L7 := e7.out; have I8 := e8.out; have L6 := c1.out; have I7 := c2.out; obtain ⟨C4, C3, C2, C1, x7, x6, x1, x0⟩ := cz4 a7) | ((with_reducible refine gate_callee (f := 56) rfl ?_); refine gl 110 Tryz.func56 #[.slice d5 b1.length d2, .agg #[.int .i64 a2, .int .i64 a3, .int .i64 a4, .int .i64 0], .int .i64 a5] (h := ?_); (with_reducible refine (scarfjointref18_change.calls _ _ _ _ _ _ _ _ _ _ _ (Kd.C_below g3.out (bb HB)) g4.out D5.out).mono ?_); rintro e V9 ⟨N7, rfl, n3, hb⟩; refine ⟨_, rfl, ?_⟩; have o5 := Aside0.mk (Kd.R_lower (Kd.R_newB (Kd.R_new' (Kd.R_new' n3 (Kd.R_lt (by (with_reducible repeat (first | apply Kd.R_alloc | apply Kd.R_drewN | apply Kd.R_drew)); exact (Kd.R_mono (Kd.R_far (p := ⟨c7, 1, none⟩) (Kd.R_far (p := ⟨c7, 0, none⟩) (Kd.R_types e6.out d1.out (by decide)) (fun _ hk => hk.2) (.slice e3 e1.length e2)) (fun _ hk => hk.2) (.slice j5 g8.length h3)) (fun _ h_ => h_.1))))) (Kd.R_lt (by (with_reducible repeat (first | apply Kd.R_alloc | apply Kd.R_drewN | apply Kd.R_drew)); exact (Kd.R_mono (Kd.R_far (p := ⟨c7, 1, none⟩) (Kd.R_far (p := ⟨c7, 0, none⟩) (Kd.R_types e9.out d1.out (by decide)) (fun _ hk => hk.2) (.slice e3 e1.length e2)) (fun _ hk => hk.2) (.slice j5 g8.length h3)) (fun _ h_ => h_.1))))) (g := e0) (o := .cells #[.int .i64 a2, .int .i64 a3, .int .i64 a4, .int .i64 0] 75 (0, 0)) (bkF a7)) (below_size (bb HB))); replace e6 := Aside0.mk (Kd.R_elder' (by (with_reducible repeat (first | apply Kd.R_alloc | apply Kd.R_drewN | apply Kd.R_drew)); exact (Kd.R_mono (Kd.R_far (p := ⟨c7, 1, none⟩) (Kd.R_far (p := ⟨c7, 0, none⟩) (Kd.R_types e6.out d1.out (by decide)) (fun _ hk => hk.2) (.slice e3 e1.length e2)) (fun _ hk => hk.2) (.slice j5 g8.length h3)) (fun _ h_ => h_.1))) (Kd.R_base n3) hb); replace e9 := Aside0.mk (Kd.R_elder' (by (with_reducible repeat (first | apply Kd.R_alloc | apply Kd.R_drewN | apply Kd.R_drew)); exact (Kd.R_mono (Kd.R_far (p := ⟨c7, 1, none⟩) (Kd.R_far (p := ⟨c7, 0, none⟩) (Kd.R_types e9.out d1.out (by decide)) (fun _ hk => hk.2) (.slice e3 e1.length e2)) (fun _ hk => hk.2) (.slice j5 g8.length h3)) (fun _ h_ => h_.1))) (Kd.R_base n3) hb); replace a0 := Aside0.mk (blk_below (g := e5) (o := .cells #[.slice d7 a8.length d4, .slice d6 b2.length d3] 31 (0, 0)) (bkF a0) hb); replace a6 := Aside0.mk (blk_below (g := e4) (o := .cells #[.slice d9 b3.length d8, .slice d5 b1.length d2] 46 (0, 0)) (bkF a6) hb); replace a1 := Aside0.mk (blk_below (g := b7) (o := .cells #[.slice none 0 0, .slice none 0 0] 46 (0, 0)) (bkF a1) hb); replace a7 := Aside0.mk (blk_below (g := e0) (o := .cells #[.int .i64 a2, .int .i64 a3, .int .i64 a4, .int .i64 0] 75 (0, 0)) (bkF a7) hb); replace d1 := Aside0.mk (blk_below (g := c7) (o := .cells #[.slice e3 e1.length e2, .slice j5 g8.length h3] 46 (0, 0)) (bkP d1) hb); replace HB := bstep HB hb; obtain ⟨j4, h2, eo126⟩ := Kd.R_slice o5.out; subst eo126; obtain ⟨C0, A9, w9, w8⟩ := cz2 d1; have L5 := b4.out; have I6 := b5.out; obtain ⟨A8, A6, w7, w6⟩ := cz2 a1))
          refine bodyPost_ret (results_ct rfl _ _ b7 46 #[.slice e3 e1.length e2, .slice j4 g0.length h2] (0, 0) _ rfl (by (with_reducible repeat (first | refine dN ?_ _ | refine dR ?_ | refine dA ?_ _)); refine blk_put (cs := #[.slice e3 e1.length e2, .slice none 0 0]) ?_ 1 _ rfl; refine blk_put (cs := #[.slice none 0 0, .slice none 0 0]) ?_ 0 _ rfl; (with_reducible repeat (first | refine dN ?_ _ | refine dR ?_ | refine dA ?_ _)); refine blk_far ?_ g5.out _; (with_reducible repeat (first | refine dN ?_ _ | refine dR ?_ | refine dA ?_ _)); exact a1.out) Tryz.underlying46 rfl (by kernel_rfl)) rfl ?_
          exact ⟨_, _, erf, by (with_reducible repeat (first | apply Kd.R_alloc | apply Kd.R_drewN | apply Kd.R_drew)); exact Kd.R_mono (Kd.R_far (p := ⟨b7, 1, none⟩) (Kd.R_far (p := ⟨b7, 0, none⟩) (Kd.R_far (p := ⟨c7, 1, none⟩) (Kd.R_types (Kd.R_types e6.out d1.out (by decide)) a1.out (by decide)) (fun _ hk => hk.1.2) (.slice j4 g0.length h2)) (fun _ hk => hk.2) (.slice e3 e1.length e2)) (fun _ hk => hk.2) (.slice j4 g0.length h2)) (fun _ hk => hk.1.1.2), by (with_reducible repeat (first | apply Kd.R_alloc | apply Kd.R_drewN | apply Kd.R_drew)); exact Kd.R_mono (Kd.R_far (p := ⟨b7, 1, none⟩) (Kd.R_far (p := ⟨b7, 0, none⟩) (Kd.R_far (p := ⟨c7, 1, none⟩) (Kd.R_types (Kd.R_types o5.out d1.out (by decide)) a1.out (by decide)) (fun _ hk => hk.1.2) (.slice j4 g0.length h2)) (fun _ hk => hk.2) (.slice e3 e1.length e2)) (fun _ hk => hk.2) (.slice j4 g0.length h2)) (fun _ hk => hk.1.1.1.1.2), bb HB⟩
end Go.Proofs.YtfpianecohobjaaGreat.P
