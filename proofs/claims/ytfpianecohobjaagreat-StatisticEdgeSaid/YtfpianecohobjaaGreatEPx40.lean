/- StatisticOf: a part of its proof. No condition. -/
import Derived.Test.YtfpianecohobjaaGreatEPx0
import Derived.Test.YtfpianecohobjaaGreatEMh
import Derived.Test.YtfpianecohobjaaGreatEMk
import Derived.Test.YtfpianecohobjaaGreatEPx35
import Derived.Test.YtfpianecohobjaaGreatEPx36
import Derived.Test.YtfpianecohobjaaGreatEH2
namespace Go.Proofs.YtfpianecohobjaaGreat.P
open Go.RowKit Go.Proofs.YtfpianecohobjaaGreatW.PrintWords Go.Proofs.YtfpianecohobjaaGreatW.PrintLast Go.Proofs.YtfpianecohobjaaGreatW.PrintMore
set_option maxHeartbeats 8000000
set_option maxRecDepth 100000
set_option linter.unusedVariables false
set_option linter.unusedSimpArgs false
mutual
def statistic_Edge.j0 : Nat → Int → Int → Int → Int → Bool → List (S96) → List (S101) → List (S75) → List (S75) → Option ((List (S75)) × (List (S75)) × Int)
 | 0, _, _, _, _, _, _, _, _, _ => none
 | k + 1, x2, x3, x4, x5, H8, q3, q2, b5, b2 => if H8 = true then (some (([] : List (S75)), ([] : List (S75)), 6)) else ((types_Fits.f k q3 q2 x2 x3 x4).bind fun o1 => (if o1 = true then (if x5 = 1 then ((statistic_has.f b5 b2 x3).bind fun o0 => (if o0 = true then ((statistic_has.f b5 b2 x4).bind fun n9 => (if n9 = true then (if x5 = (-1) then ((statistic_number.f b2 x2 x3 x4 x5).bind fun s5 => (statistic_Edge.j1 k x5 (s5 == 0) b5 b2 x2 x3 x4 x5)) else (statistic_Edge.j1 k x5 false b5 b2 x2 x3 x4 x5)) else (statistic_Edge.j1 k x5 true b5 b2 x2 x3 x4 x5))) else (statistic_Edge.j1 k x5 true b5 b2 x2 x3 x4 x5))) else (if x5 = (-1) then ((statistic_number.f b2 x2 x3 x4 x5).bind fun n8 => (statistic_Edge.j1 k x5 (n8 == 0) b5 b2 x2 x3 x4 x5)) else (statistic_Edge.j1 k x5 false b5 b2 x2 x3 x4 x5))) else (some (([] : List (S75)), ([] : List (S75)), 13))))
def statistic_Edge.j1 : Nat → Int → Bool → List (S75) → List (S75) → Int → Int → Int → Int → Option ((List (S75)) × (List (S75)) × Int)
 | 0, _, _, _, _, _, _, _, _ => none
 | k + 1, x5, H7, b5, b2, g7, g6, g5, g4 => if H7 = true then (some (([] : List (S75)), ([] : List (S75)), 10)) else (if x5 = 1 then ((statistic_total.f k b2).bind fun n7 => (statistic_Edge.j2 k (n7 == 80) b5 b2 g7 g6 g5 g4)) else (statistic_Edge.j2 k false b5 b2 g7 g6 g5 g4))
def statistic_Edge.j2 : Nat → Bool → List (S75) → List (S75) → Int → Int → Int → Int → Option ((List (S75)) × (List (S75)) × Int)
 | 0, _, _, _, _, _, _, _ => none
 | k + 1, v4, b5, b2, g7, g6, g5, g4 => if v4 = true then (some (([] : List (S75)), ([] : List (S75)), 3)) else ((statistic_copied.f b5 b2).bind fun q0 => ((statistic_counted.f q0.2 g7 g6 g5 g4).bind fun g2 => (some (q0.1, g2, 0))))
end
def statistic_Edge.f (k : Nat) (a8 : List (S96)) (a9 : List (S101)) (b1 : List (S75)) (b0 : List (S75)) (a2 : Int) (a3 : Int) (a4 : Int) (a5 : Int) : Option ((List (S75)) × (List (S75)) × Int) := (statistic_Valid.f k a8 a9 b1 b0).bind fun g8 => (if g8 = 0 then ((statistic_is.f a2 (a9.length : Int)).bind fun j8 => (if j8 = true then ((statistic_is.f a3 (a8.length : Int)).bind fun j7 => (if j7 = true then ((statistic_is.f a4 (a8.length : Int)).bind fun j6 => (if j6 = true then (if a5 = 1 then (statistic_Edge.j0 k a2 a3 a4 a5 false a8 a9 b1 b0) else (statistic_Edge.j0 k a2 a3 a4 a5 (a5 != (-1)) a8 a9 b1 b0)) else (statistic_Edge.j0 k a2 a3 a4 a5 true a8 a9 b1 b0))) else (statistic_Edge.j0 k a2 a3 a4 a5 true a8 a9 b1 b0))) else (statistic_Edge.j0 k a2 a3 a4 a5 true a8 a9 b1 b0))) else (some (([] : List (S75)), ([] : List (S75)), g8)))
theorem statistic_Edge.calls (k : Nat) (d1 : Option Addr) (c6 : Nat) (a8 : List (S96)) (d0 : Option Addr) (c5 : Nat) (a9 : List (S101)) (d5 : Option Addr) (d3 : Nat) (b1 : List (S75)) (d4 : Option Addr) (d2 : Nat) (b0 : List (S75)) (a2 : Int) (a3 : Int) (a4 : Int) (a5 : Int) (r1 : List (S75)) (r2 : List (S75)) (r3 : Int) (w : World) (p0 : Kd.C k96 w d1 a8.length a8) (p4 : a8.length ≤ c6) (o9 : Kd.C k101 w d0 a9.length a9) (p3 : a9.length ≤ c5) (o8 : Kd.C k75 w d5 b1.length b1) (p2 : b1.length ≤ d3) (o7 : Kd.C k75 w d4 b0.length b0) (p1 : b0.length ≤ d2) (h : statistic_Edge.f k a8 a9 b1 b0 a2 a3 a4 a5 = some (r1, r2, r3)) :
  Calls Tryz.prog 19 #[.agg #[.slice d1 a8.length c6, .slice d0 a9.length c5], .agg #[.slice d5 b1.length d3, .slice d4 b0.length d2], .int .i64 a2, .int .i64 a3, .int .i64 a4, .int .i64 a5] w fun e w' => ∃ s4 s3 : Value, e = .returned (.tuple #[.agg #[s4, s3], .int .i64 r3]) ∧ Kd.R k75 75 w' w.heap.size (fun k_ => some k_ ≠ (s3 : Value).ownBlock) s4 r1 ∧ Kd.R k75 75 w' w.heap.size (fun k_ => some k_ ≠ (s4 : Value).ownBlock) s3 r2 ∧ Below w.heap.size w w' := by
 have hu31 := Tryz.underlying31
 have hu46 := Tryz.underlying46
 have hu75 := Tryz.underlying75
 have j3 := Aside0.mk p0
 have j5 := Aside0.mk p4
 clear p0 p4
 have h9 := Aside0.mk o9
 have j4 := Aside0.mk p3
 clear o9 p3
 have h4 := Aside0.mk o8
 have h5 := Aside0.mk p2
 clear o8 p2
 have e3 := Aside0.mk o7
 have e5 := Aside0.mk p1
 clear o7 p1
 have HB := Aside0.mk (Below.refl w.heap.size w)
 have H : ((statistic_Valid.f k a8 a9 b1 b0).bind fun g8 => (if g8 = 0 then ((statistic_is.f a2 (a9.length : Int)).bind fun j8 => (if j8 = true then ((statistic_is.f a3 (a8.length : Int)).bind fun j7 => (if j7 = true then ((statistic_is.f a4 (a8.length : Int)).bind fun j6 => (if j6 = true then (if a5 = 1 then (statistic_Edge.j0 k a2 a3 a4 a5 false a8 a9 b1 b0) else (statistic_Edge.j0 k a2 a3 a4 a5 (a5 != (-1)) a8 a9 b1 b0)) else (statistic_Edge.j0 k a2 a3 a4 a5 true a8 a9 b1 b0))) else (statistic_Edge.j0 k a2 a3 a4 a5 true a8 a9 b1 b0))) else (statistic_Edge.j0 k a2 a3 a4 a5 true a8 a9 b1 b0))) else (some (([] : List (S75)), ([] : List (S75)), g8)))) = some (r1, r2, r3) := h
 clear h
 obtain ⟨g8, A7, H⟩ := obA H
 by_cases c8 : g8 = 0
 rotate_left
 ·rw [if_neg c8] at H
  have s7 := beq_eq_false_iff_ne.mpr c8
  have s6 := bne_iff_ne.mpr c8
  simp only [Option.some.injEq, Prod.mk.injEq] at H
  obtain ⟨rfl, rfl, rfl⟩ := H
  go_enter Tryz.func19, Tryz.ntmps19
  go_wp2_with (first | ((with_reducible refine gate_dst (N := 6) rfl ?_); (try (refine gate_guard (by rfl) ?_; dsimp only)); refine be 6 #[.slice d1 a8.length c6, .slice d0 a9.length c5] 31 ?_; intro e9 hg V6 hbox hb; have a0 := Aside0.mk (hbox); have v1 := bsz HB hg; replace HB := bstep HB hb; clear hb hbox hg) | ((with_reducible refine gate_dst (N := 7) rfl ?_); (try (refine gate_guard (by rfl) ?_; dsimp only)); refine be 7 #[.slice d5 b1.length d3, .slice d4 b0.length d2] 46 ?_; intro e8 hg V5 hbox hb; have a1 := Aside0.mk (hbox); have v0 := bsz HB hg; replace HB := bstep HB hb; have c0 := blt a0 hg; have b8 := bgt a0 hg; replace a0 := bkb a0 hb; clear hb hbox hg) | ((with_reducible refine gate_dst (N := 12) rfl ?_); (try (refine gate_guard (by rfl) ?_; dsimp only)); refine be 12 #[.slice none 0 0, .slice none 0 0] 46 ?_; intro b6 hg V4 hbox hb; have a6 := Aside0.mk (hbox); have t9 := bsz HB hg; replace HB := bstep HB hb; have b9 := blt a0 hg; have b7 := bgt a0 hg; replace a0 := bkb a0 hb; have b4 := blt a1 hg; have b3 := bgt a1 hg; replace a1 := bkb a1 hb; clear hb hbox hg; have M1 := c0.out; have I4 := b8.out; have M0 := b9.out; have I3 := b7.out; obtain ⟨A9, A8, w2, w1⟩ := cz2 a0; have L9 := b4.out; have I2 := b3.out; obtain ⟨A6, A5, w0, v9⟩ := cz2 a1) | ((with_reducible refine gate_callee (f := 23) rfl ?_); refine gl 19 Tryz.func23 #[.agg #[.slice d1 a8.length c6, .slice d0 a9.length c5], .agg #[.slice d5 b1.length d3, .slice d4 b0.length d2]] (h := ?_); (with_reducible refine (statistic_Valid.calls _ _ _ _ _ _ _ _ _ _ _ _ _ _ _ (cb j3 HB) j5.out (cb h9 HB) j4.out (cb h4 HB) h5.out (cb e3 HB) e5.out A7.out).mono ?_); rintro e V3 ⟨rfl, hb⟩; refine ⟨_, rfl, ?_⟩; replace a0 := bkb a0 hb; replace a1 := bkb a1 hb; replace a6 := bkb a6 hb; replace HB := bstep HB hb; clear hb; obtain ⟨A4, A3, v8, v7⟩ := cz2 a6))
  refine bodyPost_ret (results_ct rfl _ _ b6 46 #[.slice none 0 0, .slice none 0 0] (0, 0) _ rfl (by (with_reducible repeat (first | refine dN ?_ _ | refine dR ?_ | refine dA ?_ _)); refine blk_put (cs := #[.slice none 0 0, .slice none 0 0]) ?_ 1 _ rfl; refine blk_put (cs := #[.slice none 0 0, .slice none 0 0]) ?_ 0 _ rfl; (with_reducible repeat (first | refine dN ?_ _ | refine dR ?_ | refine dA ?_ _)); exact a6.out) Tryz.underlying46 rfl (by kernel_rfl)) rfl ?_
  exact ⟨_, _, erf, by first | exact Kd.R_nil _ _ _ _ _ | exact Kd.N_nil _ _ _ _ _ | exact Kd.V_nil _ _ _ _ _ | exact Kd.Q_nil _ _ _ _ _ | exact Kd.S_nil _ _ _ _ _, by first | exact Kd.R_nil _ _ _ _ _ | exact Kd.N_nil _ _ _ _ _ | exact Kd.V_nil _ _ _ _ _ | exact Kd.Q_nil _ _ _ _ _ | exact Kd.S_nil _ _ _ _ _, bb HB⟩
 rw [if_pos c8] at H
 have s7 := beq_iff_eq.mpr c8
 have s6 := bne_eq_false_iff_eq.mpr c8
 clear c8
 have t0 := Aside0.mk H
 clear H
 go_enter Tryz.func19, Tryz.ntmps19
 go_upto_region 4 with (first | ((with_reducible refine gate_dst (N := 6) rfl ?_); (try (refine gate_guard (by rfl) ?_; dsimp only)); refine be 6 #[.slice d1 a8.length c6, .slice d0 a9.length c5] 31 ?_; intro e9 hg X4 hbox hb; have a0 := Aside0.mk (hbox); have v1 := bsz HB hg; replace HB := bstep HB hb; clear hb hbox hg) | ((with_reducible refine gate_dst (N := 7) rfl ?_); (try (refine gate_guard (by rfl) ?_; dsimp only)); refine be 7 #[.slice d5 b1.length d3, .slice d4 b0.length d2] 46 ?_; intro e8 hg X3 hbox hb; have a1 := Aside0.mk (hbox); have v0 := bsz HB hg; replace HB := bstep HB hb; have c0 := blt a0 hg; have b8 := bgt a0 hg; replace a0 := bkb a0 hb; clear hb hbox hg) | ((with_reducible refine gate_dst (N := 12) rfl ?_); (try (refine gate_guard (by rfl) ?_; dsimp only)); refine be 12 #[.slice none 0 0, .slice none 0 0] 46 ?_; intro b6 hg X2 hbox hb; have a6 := Aside0.mk (hbox); have t9 := bsz HB hg; replace HB := bstep HB hb; have b9 := blt a0 hg; have b7 := bgt a0 hg; replace a0 := bkb a0 hb; have b4 := blt a1 hg; have b3 := bgt a1 hg; replace a1 := bkb a1 hb; clear hb hbox hg; have U9 := c0.out; have R1 := b8.out; have U8 := b9.out; have R0 := b7.out; obtain ⟨s2, s1, r4, r0⟩ := cz2 a0; have U7 := b4.out; have Q9 := b3.out; obtain ⟨s0, r9, q9, q8⟩ := cz2 a1) | ((with_reducible refine gate_callee (f := 23) rfl ?_); refine gl 19 Tryz.func23 #[.agg #[.slice d1 a8.length c6, .slice d0 a9.length c5], .agg #[.slice d5 b1.length d3, .slice d4 b0.length d2]] (h := ?_); (with_reducible refine (statistic_Valid.calls _ _ _ _ _ _ _ _ _ _ _ _ _ _ _ (cb j3 HB) j5.out (cb h9 HB) j4.out (cb h4 HB) h5.out (cb e3 HB) e5.out A7.out).mono ?_); rintro e X1 ⟨rfl, hb⟩; refine ⟨_, rfl, ?_⟩; replace a0 := bkb a0 hb; replace a1 := bkb a1 hb; replace a6 := bkb a6 hb; replace HB := bstep HB hb; clear hb))
 (try simp only [Act.put, List.setIfInBounds_toArray, List.set_cons_zero, List.set_cons_succ])
 go_cut [53] (fun I0 wc => ∃ (kq : Nat) (h8 : Bool), I0 = .bool h8 ∧ Aside0 (statistic_Edge.j0 kq a2 a3 a4 a5 h8 a8 a9 b1 b0 = some (r1, r2, r3)) ∧ Aside0 (kq ≤ k) ∧ Aside0 (wc.heap[e9]? = some (.cells #[(.slice d1 a8.length c6), (.slice d0 a9.length c5)] 31 (0, 0))) ∧ Aside0 (wc.heap[e8]? = some (.cells #[(.slice d5 b1.length d3), (.slice d4 b0.length d2)] 46 (0, 0))) ∧ Aside0 (wc.heap[b6]? = some (.cells #[(.slice none 0 0), (.slice none 0 0)] 46 (0, 0))) ∧ Aside0 (Below w.heap.size w wc))
 case first =>
  have H := t0.out
  clear t0
  obtain ⟨j8, P2, H⟩ := obA H
  by_cases p9 : j8 = true
  subst p9
  replace H := ift H
  obtain ⟨j7, P1, H⟩ := obA H
  by_cases p8 : j7 = true
  subst p8
  replace H := ift H
  obtain ⟨j6, P0, H⟩ := obA H
  by_cases p7 : j6 = true
  subst p7
  replace H := ift H
  by_cases m2 : a5 = 1
  rw [if_pos m2] at H
  have h3 := beq_iff_eq.mpr m2
  have t8 := bne_eq_false_iff_eq.mpr m2
  clear m2
  (first | rw [h3] | (simp only [i64_w, i32_w]; rw [h3]) | skip)
  have H' := Aside0.mk H
  clear H
  rotate_left
  rw [if_neg m2] at H
  have h3 := beq_eq_false_iff_ne.mpr m2
  have t8 := bne_iff_ne.mpr m2
  (first | rw [h3] | (simp only [i64_w, i32_w]; rw [h3]) | skip)
  have H' := Aside0.mk H
  clear H
  rotate_left
  replace p7 := Bool.eq_false_iff.mpr p7
  subst p7
  replace H := iff_ H
  have H' := Aside0.mk H
  clear H
  rotate_left
  replace p8 := Bool.eq_false_iff.mpr p8
  subst p8
  replace H := iff_ H
  have H' := Aside0.mk H
  clear H
  rotate_left
  replace p9 := Bool.eq_false_iff.mpr p9
  subst p9
  replace H := iff_ H
  have H' := Aside0.mk H
  clear H
  all_goals
   have U6 := c0.out
   have Q8 := b8.out
   have U5 := b9.out
   have Q7 := b7.out
   obtain ⟨H6, H5, G2, G1⟩ := cz2 a0
   go_wp2_with (first | ((with_reducible refine gate_callee (f := 46) rfl ?_); refine gl 28 Tryz.func46 #[.int .i64 a2, .int .i64 (a9.length : Int)] (h := ?_); (with_reducible refine (statistic_is.calls _ _ _ _ P2.out).mono ?_); rintro e w' ⟨rfl, ⟨nd, rfl⟩⟩; refine ⟨_, rfl, ?_⟩) | (go_at_call 46; (with_reducible refine (statistic_is.calls _ _ _ _ P1.out).mono ?_); rintro e w' ⟨rfl, ⟨nd, rfl⟩⟩) | (go_at_call 46; (with_reducible refine (statistic_is.calls _ _ _ _ P0.out).mono ?_); rintro e w' ⟨rfl, ⟨nd, rfl⟩⟩))
   go_meet
   case rel => exact ⟨_, _, eqs, H', ⟨by first | omega | exact Nat.le_refl _⟩, ⟨bk a0⟩, ⟨bk a1⟩, ⟨bk a6⟩, ⟨bb HB⟩⟩
 case rest =>
  clear t0
  try clear s7 s6 s2 s1 s0 r9 r4 r0 q9 q8
  obtain ⟨kq, h8, rfl, HA, n6, a0, a1, a6, HB⟩ := hcut
  cases kq with
  | zero => exact absurd HA.out (by simp [statistic_Edge.j0])
  | succ I1 =>
   have H := HA.out
   clear HA
   simp only [statistic_Edge.j0] at H
   by_cases m8 : h8 = true
   ·subst m8
    replace H := ift H
    simp only [Option.some.injEq, Prod.mk.injEq] at H
    obtain ⟨rfl, rfl, rfl⟩ := H
    have U4 := b7.out
    have Q6 := b9.out
    have U3 := b3.out
    have Q5 := b4.out
    obtain ⟨H4, H3, G0, F9⟩ := cz2 a6
    go_wp2
    refine bodyPost_ret (results_ct rfl _ _ b6 46 #[.slice none 0 0, .slice none 0 0] (0, 0) _ rfl (by (with_reducible repeat (first | refine dN ?_ _ | refine dR ?_ | refine dA ?_ _)); refine blk_put (cs := #[.slice none 0 0, .slice none 0 0]) ?_ 1 _ rfl; refine blk_put (cs := #[.slice none 0 0, .slice none 0 0]) ?_ 0 _ rfl; (with_reducible repeat (first | refine dN ?_ _ | refine dR ?_ | refine dA ?_ _)); exact a6.out) Tryz.underlying46 rfl (by kernel_rfl)) rfl ?_
    exact ⟨_, _, erf, by first | exact Kd.R_nil _ _ _ _ _ | exact Kd.N_nil _ _ _ _ _ | exact Kd.V_nil _ _ _ _ _ | exact Kd.Q_nil _ _ _ _ _ | exact Kd.S_nil _ _ _ _ _, by first | exact Kd.R_nil _ _ _ _ _ | exact Kd.N_nil _ _ _ _ _ | exact Kd.V_nil _ _ _ _ _ | exact Kd.Q_nil _ _ _ _ _ | exact Kd.S_nil _ _ _ _ _, bb HB⟩
   replace m8 := Bool.eq_false_iff.mpr m8
   subst m8
   replace H := iff_ H
   obtain ⟨o1, v3, H⟩ := obA H
   by_cases m7 : o1 = true
   subst m7
   replace H := ift H
   have o6 := Aside0.mk H
   clear H
   rotate_left
   replace m7 := Bool.eq_false_iff.mpr m7
   subst m7
   replace H := iff_ H
   simp only [Option.some.injEq, Prod.mk.injEq] at H
   obtain ⟨rfl, rfl, rfl⟩ := H
   all_goals
    have M4 := c0.out
    have I7 := b8.out
    have M3 := b9.out
    have I6 := b7.out
    obtain ⟨o5, o4, o3, o2⟩ := cz2 a0
   ·go_wp2_with (first | ((with_reducible refine gate_callee (f := 53) rfl ?_); refine gl 59 Tryz.func53 #[.agg #[.slice d1 a8.length c6, .slice d0 a9.length c5], .int .i64 a2, .int .i64 a3, .int .i64 a4] (h := ?_); (with_reducible refine (types_Fits.calls _ _ _ _ _ _ _ _ _ _ _ _ (cb j3 HB) j5.out (cb h9 HB) j4.out v3.out).mono ?_); rintro e V7 ⟨rfl, hb⟩; refine ⟨_, rfl, ?_⟩; replace a0 := bkb a0 hb; replace a1 := bkb a1 hb; replace a6 := bkb a6 hb; replace HB := bstep HB hb; clear hb; have M2 := b3.out; have I5 := b4.out; obtain ⟨C1, C0, w4, w3⟩ := cz2 a6))
    refine bodyPost_ret (results_ct rfl _ _ b6 46 #[.slice none 0 0, .slice none 0 0] (0, 0) _ rfl (by (with_reducible repeat (first | refine dN ?_ _ | refine dR ?_ | refine dA ?_ _)); refine blk_put (cs := #[.slice none 0 0, .slice none 0 0]) ?_ 1 _ rfl; refine blk_put (cs := #[.slice none 0 0, .slice none 0 0]) ?_ 0 _ rfl; (with_reducible repeat (first | refine dN ?_ _ | refine dR ?_ | refine dA ?_ _)); exact a6.out) Tryz.underlying46 rfl (by kernel_rfl)) rfl ?_
    exact ⟨_, _, erf, by first | exact Kd.R_nil _ _ _ _ _ | exact Kd.N_nil _ _ _ _ _ | exact Kd.V_nil _ _ _ _ _ | exact Kd.Q_nil _ _ _ _ _ | exact Kd.S_nil _ _ _ _ _, by first | exact Kd.R_nil _ _ _ _ _ | exact Kd.N_nil _ _ _ _ _ | exact Kd.V_nil _ _ _ _ _ | exact Kd.Q_nil _ _ _ _ _ | exact Kd.S_nil _ _ _ _ _, bb HB⟩
   ·go_upto_region 9 with (first | ((with_reducible refine gate_callee (f := 53) rfl ?_); refine gl 59 Tryz.func53 #[.agg #[.slice d1 a8.length c6, .slice d0 a9.length c5], .int .i64 a2, .int .i64 a3, .int .i64 a4] (h := ?_); (with_reducible refine (types_Fits.calls _ _ _ _ _ _ _ _ _ _ _ _ (cb j3 HB) j5.out (cb h9 HB) j4.out v3.out).mono ?_); rintro e X0 ⟨rfl, hb⟩; refine ⟨_, rfl, ?_⟩; replace a0 := bkb a0 hb; replace a1 := bkb a1 hb; replace a6 := bkb a6 hb; replace HB := bstep HB hb; clear hb) | ((with_reducible refine gate_dst (N := 15) rfl ?_); (try (refine gate_guard (by rfl) ?_; dsimp only)); refine be 15 #[.int .i64 0, .int .i64 0, .int .i64 0, .int .i64 0] 75 ?_; intro d8 hg W9 hbox hb; have a7 := Aside0.mk (hbox); have V2 := bsz HB hg; replace HB := bstep HB hb; have e2 := blt a0 hg; have e1 := bgt a0 hg; replace a0 := bkb a0 hb; have d7 := blt a1 hg; have d6 := bgt a1 hg; replace a1 := bkb a1 hb; have c3 := blt a6 hg; have c2 := bgt a6 hg; replace a6 := bkb a6 hb; clear hb hbox hg; have U2 := e1.out; have Q4 := e2.out; have U1 := d6.out; have Q3 := d7.out; have U0 := c2.out; have Q2 := c3.out; obtain ⟨r8, r7, r6, r5, q7, q6, q5, q4⟩ := cz4 a7))
    (try simp only [Act.put, List.setIfInBounds_toArray, List.set_cons_zero, List.set_cons_succ])
    go_cut [91] (fun H9 wc => ∃ (kq : Nat) (h0 : Bool), H9 = .bool h0 ∧ Aside0 (statistic_Edge.j1 kq a5 h0 b1 b0 a2 a3 a4 a5 = some (r1, r2, r3)) ∧ Aside0 (kq ≤ I1) ∧ Aside0 (wc.heap[e9]? = some (.cells #[(.slice d1 a8.length c6), (.slice d0 a9.length c5)] 31 (0, 0))) ∧ Aside0 (wc.heap[e8]? = some (.cells #[(.slice d5 b1.length d3), (.slice d4 b0.length d2)] 46 (0, 0))) ∧ Aside0 (wc.heap[b6]? = some (.cells #[(.slice none 0 0), (.slice none 0 0)] 46 (0, 0))) ∧ Aside0 (wc.heap[d8]? = some (.cells #[.int .i64 a2, .int .i64 a3, .int .i64 a4, .int .i64 a5] 75 (0, 0))) ∧ Aside0 (Below w.heap.size w wc))
    case first =>
     have H := o6.out
     clear o6
     by_cases m1 : a5 = 1
     rotate_left
     ·rw [if_neg m1] at H
      have h2 := beq_eq_false_iff_ne.mpr m1
      have t7 := bne_iff_ne.mpr m1
      (first | rw [h2] | (simp only [i64_w, i32_w]; rw [h2]) | skip)
      by_cases j9 : a5 = (-1)
      rotate_left
      ·rw [if_neg j9] at H
       have t4 := beq_eq_false_iff_ne.mpr j9
       have t3 := bne_iff_ne.mpr j9
       have H' := Aside0.mk H
       clear H
       go_wp2
       go_meet
       case rel => exact ⟨_, (false), eqs, H', ⟨by have := n6.out; first | omega | exact Nat.le_refl _⟩, ⟨bkF a0⟩, ⟨bkF a1⟩, ⟨bkF a6⟩, ⟨bkP a7⟩, ⟨bb HB⟩⟩
      rw [if_pos j9] at H
      have t4 := beq_iff_eq.mpr j9
      have t3 := bne_eq_false_iff_eq.mpr j9
      clear j9
      obtain ⟨n8, O6, H⟩ := obA H
      have H' := Aside0.mk H
      clear H
      have R4 := b8.out
      have P6 := c0.out
      have R3 := b4.out
      have P5 := b3.out
      have R2 := d7.out
      have P4 := d6.out
      obtain ⟨E5, E4, A2, A1⟩ := cz2 a1
      have O5 := e1.out
      have L8 := e2.out
      have O4 := c2.out
      have L7 := c3.out
      obtain ⟨E3, E2, E1, E0, A0, y9, y8, y7⟩ := cz4 a7
      go_wp2_with (first | (go_at_call 48; (with_reducible refine (statistic_number.calls _ _ _ _ _ _ _ _ _ (Kd.C_below e3.out (bb HB)) e5.out O6.out).mono ?_); rintro e W2 ⟨rfl, hb⟩; replace a0 := Aside0.mk (blk_below (g := e9) (o := .cells #[.slice d1 a8.length c6, .slice d0 a9.length c5] 31 (0, 0)) (bkF a0) hb); replace a1 := Aside0.mk (blk_below (g := e8) (o := .cells #[.slice d5 b1.length d3, .slice d4 b0.length d2] 46 (0, 0)) (bkF a1) hb); replace a6 := Aside0.mk (blk_below (g := b6) (o := .cells #[.slice none 0 0, .slice none 0 0] 46 (0, 0)) (bkF a6) hb); replace a7 := Aside0.mk (blk_below (g := d8) (o := .cells #[.int .i64 a2, .int .i64 a3, .int .i64 a4, .int .i64 a5] 75 (0, 0)) (bkP a7) hb); replace HB := bstep HB hb; clear hb))
      go_meet
      case rel => exact ⟨_, ((n8 == 0)), eqs, H', ⟨by have := n6.out; first | omega | exact Nat.le_refl _⟩, ⟨bk a0⟩, ⟨bk a1⟩, ⟨bk a6⟩, ⟨bk a7⟩, ⟨bb HB⟩⟩
     rw [if_pos m1] at H
     have h2 := beq_iff_eq.mpr m1
     have t7 := bne_eq_false_iff_eq.mpr m1
     clear m1
     (first | rw [h2] | (simp only [i64_w, i32_w]; rw [h2]) | skip)
     obtain ⟨o0, O9, H⟩ := obA H
     by_cases p6 : o0 = true
     subst p6
     replace H := ift H
     obtain ⟨n9, O8, H⟩ := obA H
     by_cases p5 : n9 = true
     subst p5
     replace H := ift H
     by_cases m0 : a5 = (-1)
     rw [if_pos m0] at H
     have t6 := beq_iff_eq.mpr m0
     have t5 := bne_eq_false_iff_eq.mpr m0
     clear m0
     obtain ⟨s5, O7, H⟩ := obA H
     have H' := Aside0.mk H
     clear H
     rotate_left
     rw [if_neg m0] at H
     have t6 := beq_eq_false_iff_ne.mpr m0
     have t5 := bne_iff_ne.mpr m0
     have H' := Aside0.mk H
     clear H
     rotate_left
     replace p5 := Bool.eq_false_iff.mpr p5
     subst p5
     replace H := iff_ H
     have H' := Aside0.mk H
     clear H
     rotate_left
     replace p6 := Bool.eq_false_iff.mpr p6
     subst p6
     replace H := iff_ H
     have H' := Aside0.mk H
     clear H
     all_goals
      have R9 := b8.out
      have Q1 := c0.out
      have R8 := b4.out
      have Q0 := b3.out
      have R7 := d7.out
      have P9 := d6.out
      obtain ⟨H2, H1, F8, F7⟩ := cz2 a1
      go_wp2_with (first | (go_at_call 54; (with_reducible refine (statistic_has.calls _ _ _ _ _ _ _ _ _ (Kd.C_below h4.out (bb HB)) h5.out (Kd.C_below e3.out (bb HB)) e5.out O9.out).mono ?_); rintro e W8 ⟨rfl, hb⟩; replace a0 := Aside0.mk (blk_below (g := e9) (o := .cells #[.slice d1 a8.length c6, .slice d0 a9.length c5] 31 (0, 0)) (bkF a0) hb); replace a1 := Aside0.mk (blk_below (g := e8) (o := .cells #[.slice d5 b1.length d3, .slice d4 b0.length d2] 46 (0, 0)) (bkF a1) hb); replace a6 := Aside0.mk (blk_below (g := b6) (o := .cells #[.slice none 0 0, .slice none 0 0] 46 (0, 0)) (bkF a6) hb); replace a7 := Aside0.mk (blk_below (g := d8) (o := .cells #[.int .i64 a2, .int .i64 a3, .int .i64 a4, .int .i64 a5] 75 (0, 0)) (bkP a7) hb); replace HB := bstep HB hb; clear hb; obtain ⟨H0, G9, F6, F5⟩ := cz2 a1) | (go_at_call 54; (with_reducible refine (statistic_has.calls _ _ _ _ _ _ _ _ _ (cb h4 HB) h5.out (cb e3 HB) e5.out O8.out).mono ?_); rintro e W7 ⟨rfl, hb⟩; replace a0 := bkb a0 hb; replace a1 := bkb a1 hb; replace a6 := bkb a6 hb; replace a7 := bkb a7 hb; replace HB := bstep HB hb; clear hb; obtain ⟨G8, G7, F4, F3⟩ := cz2 a1; have R6 := e1.out; have P8 := e2.out; have R5 := c2.out; have P7 := c3.out; obtain ⟨G6, G5, G4, G3, F2, F1, F0, E9⟩ := cz4 a7) | (go_at_call 48; (with_reducible refine (statistic_number.calls _ _ _ _ _ _ _ _ _ (cb e3 HB) e5.out O7.out).mono ?_); rintro e W6 ⟨rfl, hb⟩; replace a0 := bkb a0 hb; replace a1 := bkb a1 hb; replace a6 := bkb a6 hb; replace a7 := bkb a7 hb; replace HB := bstep HB hb; clear hb))
      go_meet
      case rel => exact ⟨_, _, eqs, H', ⟨by have := n6.out; first | omega | exact Nat.le_refl _⟩, ⟨bk a0⟩, ⟨bk a1⟩, ⟨bk a6⟩, ⟨bk a7⟩, ⟨bb HB⟩⟩
    case rest =>
     clear o6
     try clear m8 m7 o5 o4 r8 r7 r6 r5 o3 o2 q7 q6 q5 q4
     obtain ⟨kq, h0, rfl, HA, s9, a0, a1, a6, a7, HB⟩ := hcut
     cases kq with
     | zero => exact absurd HA.out (by simp [statistic_Edge.j1])
     | succ v6 =>
      have H := HA.out
      clear HA
      simp only [statistic_Edge.j1] at H
      by_cases m3 : h0 = true
      ·subst m3
       replace H := ift H
       simp only [Option.some.injEq, Prod.mk.injEq] at H
       obtain ⟨rfl, rfl, rfl⟩ := H
       have O3 := b7.out
       have L6 := b9.out
       have O2 := b3.out
       have L5 := b4.out
       have O1 := c3.out
       have L4 := c2.out
       obtain ⟨D9, D8, y6, y5⟩ := cz2 a6
       go_wp2
       refine bodyPost_ret (results_ct rfl _ _ b6 46 #[.slice none 0 0, .slice none 0 0] (0, 0) _ rfl (by (with_reducible repeat (first | refine dN ?_ _ | refine dR ?_ | refine dA ?_ _)); refine blk_put (cs := #[.slice none 0 0, .slice none 0 0]) ?_ 1 _ rfl; refine blk_put (cs := #[.slice none 0 0, .slice none 0 0]) ?_ 0 _ rfl; (with_reducible repeat (first | refine dN ?_ _ | refine dR ?_ | refine dA ?_ _)); exact a6.out) Tryz.underlying46 rfl (by kernel_rfl)) rfl ?_
       exact ⟨_, _, erf, by first | exact Kd.R_nil _ _ _ _ _ | exact Kd.N_nil _ _ _ _ _ | exact Kd.V_nil _ _ _ _ _ | exact Kd.Q_nil _ _ _ _ _ | exact Kd.S_nil _ _ _ _ _, by first | exact Kd.R_nil _ _ _ _ _ | exact Kd.N_nil _ _ _ _ _ | exact Kd.V_nil _ _ _ _ _ | exact Kd.Q_nil _ _ _ _ _ | exact Kd.S_nil _ _ _ _ _, bb HB⟩
      replace m3 := Bool.eq_false_iff.mpr m3
      subst m3
      replace H := iff_ H
      have m6 := Aside0.mk H
      clear H
      go_upto_region 11 with (fail)
      go_cut [100] (fun v5 wc => ∃ (kq : Nat) (e6 : Bool), v5 = .bool e6 ∧ Aside0 (statistic_Edge.j2 kq e6 b1 b0 a2 a3 a4 a5 = some (r1, r2, r3)) ∧ Aside0 (kq ≤ v6) ∧ Aside0 (wc.heap[e9]? = some (.cells #[(.slice d1 a8.length c6), (.slice d0 a9.length c5)] 31 (0, 0))) ∧ Aside0 (wc.heap[e8]? = some (.cells #[(.slice d5 b1.length d3), (.slice d4 b0.length d2)] 46 (0, 0))) ∧ Aside0 (wc.heap[b6]? = some (.cells #[(.slice none 0 0), (.slice none 0 0)] 46 (0, 0))) ∧ Aside0 (wc.heap[d8]? = some (.cells #[.int .i64 a2, .int .i64 a3, .int .i64 a4, .int .i64 a5] 75 (0, 0))) ∧ Aside0 (Below w.heap.size w wc))
      case first =>
       have H := m6.out
       clear m6
       by_cases g9 : a5 = 1
       rotate_left
       ·rw [if_neg g9] at H
        have g3 := beq_eq_false_iff_ne.mpr g9
        have s8 := bne_iff_ne.mpr g9
        (first | rw [g3] | (simp only [i64_w, i32_w]; rw [g3]) | skip)
        have H' := Aside0.mk H
        clear H
        go_wp2
        go_meet
        case rel => exact ⟨_, (false), eqs, H', ⟨by have := n6.out; have := s9.out; first | omega | exact Nat.le_refl _⟩, ⟨bk a0⟩, ⟨bk a1⟩, ⟨bk a6⟩, ⟨bk a7⟩, ⟨bb HB⟩⟩
       rw [if_pos g9] at H
       have g3 := beq_iff_eq.mpr g9
       have s8 := bne_eq_false_iff_eq.mpr g9
       clear g9
       (first | rw [g3] | (simp only [i64_w, i32_w]; rw [g3]) | skip)
       obtain ⟨n7, E8, H⟩ := obA H
       have H' := Aside0.mk H
       clear H
       have O0 := b8.out
       have L3 := c0.out
       have N9 := b4.out
       have L2 := b3.out
       have N8 := d7.out
       have L1 := d6.out
       obtain ⟨D7, D6, y4, y3⟩ := cz2 a1
       go_wp2_with (first | (go_at_call 47; (with_reducible refine (statistic_total.calls _ _ _ _ _ _ (cb e3 HB) e5.out E8.out).mono ?_); rintro e W1 ⟨rfl, hb⟩; replace a0 := bkb a0 hb; replace a1 := bkb a1 hb; replace a6 := bkb a6 hb; replace a7 := bkb a7 hb; replace HB := bstep HB hb; clear hb))
       go_meet
       case rel => exact ⟨_, ((n7 == 80)), eqs, H', ⟨by have := n6.out; have := s9.out; first | omega | exact Nat.le_refl _⟩, ⟨bk a0⟩, ⟨bk a1⟩, ⟨bk a6⟩, ⟨bk a7⟩, ⟨bb HB⟩⟩
      case rest =>
       clear m6
       try clear m3
       obtain ⟨kq, e6, rfl, HA, V0, a0, a1, a6, a7, HB⟩ := hcut
       cases kq with
       | zero => exact absurd HA.out (by simp [statistic_Edge.j2])
       | succ P3 =>
        have H := HA.out
        clear HA
        simp only [statistic_Edge.j2] at H
        by_cases m5 : e6 = true
        ·subst m5
         replace H := ift H
         simp only [Option.some.injEq, Prod.mk.injEq] at H
         obtain ⟨rfl, rfl, rfl⟩ := H
         have N7 := b7.out
         have L0 := b9.out
         have N6 := b3.out
         have J9 := b4.out
         have N5 := c3.out
         have J8 := c2.out
         obtain ⟨D5, D4, y2, y1⟩ := cz2 a6
         go_wp2
         refine bodyPost_ret (results_ct rfl _ _ b6 46 #[.slice none 0 0, .slice none 0 0] (0, 0) _ rfl (by (with_reducible repeat (first | refine dN ?_ _ | refine dR ?_ | refine dA ?_ _)); refine blk_put (cs := #[.slice none 0 0, .slice none 0 0]) ?_ 1 _ rfl; refine blk_put (cs := #[.slice none 0 0, .slice none 0 0]) ?_ 0 _ rfl; (with_reducible repeat (first | refine dN ?_ _ | refine dR ?_ | refine dA ?_ _)); exact a6.out) Tryz.underlying46 rfl (by kernel_rfl)) rfl ?_
         exact ⟨_, _, erf, by first | exact Kd.R_nil _ _ _ _ _ | exact Kd.N_nil _ _ _ _ _ | exact Kd.V_nil _ _ _ _ _ | exact Kd.Q_nil _ _ _ _ _ | exact Kd.S_nil _ _ _ _ _, by first | exact Kd.R_nil _ _ _ _ _ | exact Kd.N_nil _ _ _ _ _ | exact Kd.V_nil _ _ _ _ _ | exact Kd.Q_nil _ _ _ _ _ | exact Kd.S_nil _ _ _ _ _, bb HB⟩
        replace m5 := Bool.eq_false_iff.mpr m5
        subst m5
        replace H := iff_ H
        obtain ⟨⟨d9, e7⟩, E7, H⟩ := obA H
        try dsimp only at H
        obtain ⟨g2, E6, H⟩ := obA H
        simp only [Option.some.injEq, Prod.mk.injEq] at H
        obtain ⟨rfl, rfl, rfl⟩ := H
        have N4 := b8.out
        have J7 := c0.out
        have N3 := b4.out
        have J6 := b3.out
        have N2 := d7.out
        have J5 := d6.out
        obtain ⟨D3, D2, y0, x9⟩ := cz2 a1
        go_wp2_with (first | ((with_reducible refine gate_callee (f := 51) rfl ?_); refine gl 103 Tryz.func51 #[.agg #[.slice d5 b1.length d3, .slice d4 b0.length d2]] (h := ?_); (with_reducible refine (statistic_copied.calls _ _ _ _ _ _ _ _ _ (cb h4 HB) h5.out (cb e3 HB) e5.out E7.out).mono ?_); rintro e W0 ⟨W5, W4, rfl, m4, v2, hb⟩; refine ⟨_, rfl, ?_⟩; have g0 := Aside0.mk (Kd.R_lower (Kd.R_newB m4 (g := d8) (o := .cells #[.int .i64 a2, .int .i64 a3, .int .i64 a4, .int .i64 a5] 75 (0, 0)) (bk a7)) (below_size (bb HB))); have e4 := Aside0.mk (Kd.R_lower (Kd.R_newB v2 (g := d8) (o := .cells #[.int .i64 a2, .int .i64 a3, .int .i64 a4, .int .i64 a5] 75 (0, 0)) (bk a7)) (below_size (bb HB))); replace a0 := bkb a0 hb; replace a1 := bkb a1 hb; replace a6 := bkb a6 hb; replace a7 := bkb a7 hb; replace HB := bstep HB hb; clear hb m4 v2) | ((with_reducible refine gate_dst (N := 16) rfl ?_); (try (refine gate_guard (by rfl) ?_; dsimp only)); refine be 16 #[.slice none 0 0, .slice none 0 0] 46 ?_; intro c1 hg V9 hbox hb; replace g0 := kRb g0 hb; replace e4 := kRb e4 hb; have c7 := Aside0.mk (hbox); have V1 := bsz HB hg; replace HB := bstep HB hb; have n5 := blt a0 hg; have n2 := bgt a0 hg; replace a0 := bkb a0 hb; have n4 := blt a1 hg; have n1 := bgt a1 hg; replace a1 := bkb a1 hb; have h7 := blt a6 hg; have n0 := bgt a6 hg; replace a6 := bkb a6 hb; have n3 := blt a7 hg; have m9 := bgt a7 hg; replace a7 := bkb a7 hb; clear hb hbox hg; obtain ⟨c9, c4, eo131⟩ := Kd.R_slice g0.out; subst eo131; have N1 := n2.out; have J4 := n5.out; have N0 := n1.out; have J3 := n4.out; have M9 := n0.out; have J2 := h7.out; have M8 := m9.out; have J1 := n3.out; obtain ⟨D1, D0, x8, x7⟩ := cz2 c7; obtain ⟨g1, e0, eo137⟩ := Kd.R_slice e4.out; subst eo137; have M7 := e1.out; have J0 := e2.out; have M6 := c2.out; have I9 := c3.out; obtain ⟨C9, C8, C7, C6, x6, x1, x0, w9⟩ := cz4 a7) | ((with_reducible refine gate_callee (f := 41) rfl ?_); refine gl 107 Tryz.func41 #[.slice g1 e7.length e0, .agg #[.int .i64 a2, .int .i64 a3, .int .i64 a4, .int .i64 a5]] (h := ?_); (with_reducible refine (statistic_counted.calls _ _ e7 a2 a3 a4 a5 g2 _ ?t2 ?t1 E6.out).mono ?_); (case t2 => refine (Kd.R_reads' (e := 75) (base := w.heap.size) (ok := fun k_ => (some k_ ≠ (.slice c9 d9.length c4 : Value).ownBlock ∧ k_ ≠ d8)) (n := e7.length) (c := e0) ?_).2.2; exact (by (with_reducible repeat (first | apply Kd.R_alloc | apply Kd.R_drewN | apply Kd.R_drew)); exact (Kd.R_mono (Kd.R_far (p := ⟨c1, 1, none⟩) (Kd.R_far (p := ⟨c1, 0, none⟩) (Kd.R_types e4.out c7.out (by decide)) (fun _ hk => hk.2) (.slice c9 d9.length c4)) (fun _ hk => hk.2) (.slice g1 e7.length e0)) (fun _ h_ => h_.1)))); (case t1 => exact (Kd.R_reads' e4.out).2.1); rintro e V8 ⟨W3, rfl, m4, hb⟩; refine ⟨_, rfl, ?_⟩; have q1 := Aside0.mk (Kd.R_lower (Kd.R_newB (Kd.R_new' (Kd.R_new' m4 (Kd.R_lt (by (with_reducible repeat (first | apply Kd.R_alloc | apply Kd.R_drewN | apply Kd.R_drew)); exact (Kd.R_mono (Kd.R_far (p := ⟨c1, 1, none⟩) (Kd.R_far (p := ⟨c1, 0, none⟩) (Kd.R_types g0.out c7.out (by decide)) (fun _ hk => hk.2) (.slice c9 d9.length c4)) (fun _ hk => hk.2) (.slice g1 e7.length e0)) (fun _ h_ => h_.1))))) (Kd.R_lt (by (with_reducible repeat (first | apply Kd.R_alloc | apply Kd.R_drewN | apply Kd.R_drew)); exact (Kd.R_mono (Kd.R_far (p := ⟨c1, 1, none⟩) (Kd.R_far (p := ⟨c1, 0, none⟩) (Kd.R_types e4.out c7.out (by decide)) (fun _ hk => hk.2) (.slice c9 d9.length c4)) (fun _ hk => hk.2) (.slice g1 e7.length e0)) (fun _ h_ => h_.1))))) (g := d8) (o := .cells #[.int .i64 a2, .int .i64 a3, .int .i64 a4, .int .i64 a5] 75 (0, 0)) (bkF a7)) (below_size (bb HB))); replace g0 := Aside0.mk (Kd.R_elder' (by (with_reducible repeat (first | apply Kd.R_alloc | apply Kd.R_drewN | apply Kd.R_drew)); exact (Kd.R_mono (Kd.R_far (p := ⟨c1, 1, none⟩) (Kd.R_far (p := ⟨c1, 0, none⟩) (Kd.R_types g0.out c7.out (by decide)) (fun _ hk => hk.2) (.slice c9 d9.length c4)) (fun _ hk => hk.2) (.slice g1 e7.length e0)) (fun _ h_ => h_.1))) (Kd.R_base m4) hb); replace e4 := Aside0.mk (Kd.R_elder' (by (with_reducible repeat (first | apply Kd.R_alloc | apply Kd.R_drewN | apply Kd.R_drew)); exact (Kd.R_mono (Kd.R_far (p := ⟨c1, 1, none⟩) (Kd.R_far (p := ⟨c1, 0, none⟩) (Kd.R_types e4.out c7.out (by decide)) (fun _ hk => hk.2) (.slice c9 d9.length c4)) (fun _ hk => hk.2) (.slice g1 e7.length e0)) (fun _ h_ => h_.1))) (Kd.R_base m4) hb); replace a0 := Aside0.mk (blk_below (g := e9) (o := .cells #[.slice d1 a8.length c6, .slice d0 a9.length c5] 31 (0, 0)) (bkF a0) hb); replace a1 := Aside0.mk (blk_below (g := e8) (o := .cells #[.slice d5 b1.length d3, .slice d4 b0.length d2] 46 (0, 0)) (bkF a1) hb); replace a6 := Aside0.mk (blk_below (g := b6) (o := .cells #[.slice none 0 0, .slice none 0 0] 46 (0, 0)) (bkF a6) hb); replace a7 := Aside0.mk (blk_below (g := d8) (o := .cells #[.int .i64 a2, .int .i64 a3, .int .i64 a4, .int .i64 a5] 75 (0, 0)) (bkF a7) hb); replace c7 := Aside0.mk (blk_below (g := c1) (o := .cells #[.slice c9 d9.length c4, .slice g1 e7.length e0] 46 (0, 0)) (bkP c7) hb); replace HB := bstep HB hb; obtain ⟨h6, h1, eo142⟩ := Kd.R_slice q1.out; subst eo142; obtain ⟨C5, C4, w8, w7⟩ := cz2 c7; have M5 := b7.out; have I8 := b9.out; obtain ⟨C3, C2, w6, w5⟩ := cz2 a6))
        refine bodyPost_ret (results_ct rfl _ _ b6 46 #[.slice c9 d9.length c4, .slice h6 g2.length h1] (0, 0) _ rfl (by (with_reducible repeat (first | refine dN ?_ _ | refine dR ?_ | refine dA ?_ _)); refine blk_put (cs := #[.slice c9 d9.length c4, .slice none 0 0]) ?_ 1 _ rfl; refine blk_put (cs := #[.slice none 0 0, .slice none 0 0]) ?_ 0 _ rfl; (with_reducible repeat (first | refine dN ?_ _ | refine dR ?_ | refine dA ?_ _)); refine blk_far ?_ h7.out _; (with_reducible repeat (first | refine dN ?_ _ | refine dR ?_ | refine dA ?_ _)); exact a6.out) Tryz.underlying46 rfl (by kernel_rfl)) rfl ?_
        exact ⟨_, _, erf, by (with_reducible repeat (first | apply Kd.R_alloc | apply Kd.R_drewN | apply Kd.R_drew)); exact Kd.R_mono (Kd.R_far (p := ⟨b6, 1, none⟩) (Kd.R_far (p := ⟨b6, 0, none⟩) (Kd.R_far (p := ⟨c1, 1, none⟩) (Kd.R_types (Kd.R_types g0.out c7.out (by decide)) a6.out (by decide)) (fun _ hk => hk.1.2) (.slice h6 g2.length h1)) (fun _ hk => hk.2) (.slice c9 d9.length c4)) (fun _ hk => hk.2) (.slice h6 g2.length h1)) (fun _ hk => hk.1.1.2), by (with_reducible repeat (first | apply Kd.R_alloc | apply Kd.R_drewN | apply Kd.R_drew)); exact Kd.R_mono (Kd.R_far (p := ⟨b6, 1, none⟩) (Kd.R_far (p := ⟨b6, 0, none⟩) (Kd.R_far (p := ⟨c1, 1, none⟩) (Kd.R_types (Kd.R_types q1.out c7.out (by decide)) a6.out (by decide)) (fun _ hk => hk.1.2) (.slice h6 g2.length h1)) (fun _ hk => hk.2) (.slice c9 d9.length c4)) (fun _ hk => hk.2) (.slice h6 g2.length h1)) (fun _ hk => hk.1.1.1.1.2), bb HB⟩
end Go.Proofs.YtfpianecohobjaaGreat.P
