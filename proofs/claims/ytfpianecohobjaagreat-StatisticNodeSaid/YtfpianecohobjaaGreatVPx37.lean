/- StatisticOf: a part of its proof. No condition. -/
import Derived.Test.YtfpianecohobjaaGreatVPx0
import Derived.Test.YtfpianecohobjaaGreatVMk
import Derived.Test.YtfpianecohobjaaGreatVPx35
import Derived.Test.YtfpianecohobjaaGreatVPx36
import Derived.Test.YtfpianecohobjaaGreatVH1
import Derived.Test.YtfpianecohobjaaGreatVH2
namespace Go.Proofs.YtfpianecohobjaaGreat.P
open Go.RowKit Go.Proofs.YtfpianecohobjaaGreatW.PrintWords Go.Proofs.YtfpianecohobjaaGreatW.PrintLast Go.Proofs.YtfpianecohobjaaGreatW.PrintMore
set_option maxHeartbeats 8000000
set_option maxRecDepth 100000
set_option linter.unusedVariables false
set_option linter.unusedSimpArgs false
mutual
def statistic_Node.j0 : Nat → Int → Bool → List (S75) → List (S75) → Int → Option ((List (S75)) × (List (S75)) × Int)
 | 0, _, _, _, _, _ => none
 | k + 1, x3, G0, c3, c5, c2 => if G0 = true then (some (([] : List (S75)), ([] : List (S75)), 6)) else (if x3 = 1 then ((statistic_total.f k c3).bind fun o8 => (statistic_Node.j1 k x3 (o8 == 40) c3 c5 c2)) else (statistic_Node.j1 k x3 false c3 c5 c2))
def statistic_Node.j1 : Nat → Int → Bool → List (S75) → List (S75) → Int → Option ((List (S75)) × (List (S75)) × Int)
 | 0, _, _, _, _, _ => none
 | k + 1, x3, F9, c3, c5, c2 => if F9 = true then (some (([] : List (S75)), ([] : List (S75)), 3)) else (if x3 = (-1) then ((statistic_number.f c3 c2 0 0 0).bind fun m1 => (if m1 = 0 then (some (([] : List (S75)), ([] : List (S75)), 10)) else (if m1 = 1 then ((any_used.f c5 c2).bind fun m8 => (statistic_Node.j2 k x3 m8 c3 c5 c2)) else (statistic_Node.j2 k x3 false c3 c5 c2)))) else ((statistic_copied.f c3 c5).bind fun q9 => ((statistic_counted.f q9.1 c2 0 0 x3).bind fun g0 => (some (g0, q9.2, 0)))))
def statistic_Node.j2 : Nat → Int → Bool → List (S75) → List (S75) → Int → Option ((List (S75)) × (List (S75)) × Int)
 | 0, _, _, _, _, _ => none
 | k + 1, x3, F8, c3, c5, c2 => if F8 = true then (some (([] : List (S75)), ([] : List (S75)), 14)) else ((statistic_copied.f c3 c5).bind fun r0 => ((statistic_counted.f r0.1 c2 0 0 x3).bind fun g2 => (some (g2, r0.2, 0))))
end
def statistic_Node.f (k : Nat) (b5 : List (S96)) (c4 : List (S101)) (a6 : List (S75)) (a7 : List (S75)) (a2 : Int) (a3 : Int) : Option ((List (S75)) × (List (S75)) × Int) := (statistic_Valid.f k b5 c4 a6 a7).bind fun h7 => (if h7 = 0 then ((statistic_is.f a2 (b5.length : Int)).bind fun m2 => (if m2 = true then (if a3 = 1 then (statistic_Node.j0 k a3 false a6 a7 a2) else (statistic_Node.j0 k a3 (a3 != (-1)) a6 a7 a2)) else (statistic_Node.j0 k a3 true a6 a7 a2))) else (some (([] : List (S75)), ([] : List (S75)), h7)))
theorem statistic_Node.calls (k : Nat) (e2 : Option Addr) (e0 : Nat) (b5 : List (S96)) (e1 : Option Addr) (d9 : Nat) (c4 : List (S101)) (d0 : Option Addr) (c9 : Nat) (a6 : List (S75)) (d4 : Option Addr) (d3 : Nat) (a7 : List (S75)) (a2 : Int) (a3 : Int) (r1 : List (S75)) (r2 : List (S75)) (r3 : Int) (w : World) (p8 : Kd.C k96 w e2 b5.length b5) (q2 : b5.length ≤ e0) (p7 : Kd.C k101 w e1 c4.length c4) (q1 : c4.length ≤ d9) (p6 : Kd.C k75 w d0 a6.length a6) (q0 : a6.length ≤ c9) (p5 : Kd.C k75 w d4 a7.length a7) (p9 : a7.length ≤ d3) (h : statistic_Node.f k b5 c4 a6 a7 a2 a3 = some (r1, r2, r3)) :
  Calls Tryz.prog 17 #[.agg #[.slice e2 b5.length e0, .slice e1 c4.length d9], .agg #[.slice d0 a6.length c9, .slice d4 a7.length d3], .int .i64 a2, .int .i64 a3] w fun e w' => ∃ t2 t1 : Value, e = .returned (.tuple #[.agg #[t2, t1], .int .i64 r3]) ∧ Kd.R k75 75 w' w.heap.size (fun k_ => some k_ ≠ (t1 : Value).ownBlock) t2 r1 ∧ Kd.R k75 75 w' w.heap.size (fun k_ => some k_ ≠ (t2 : Value).ownBlock) t1 r2 ∧ Below w.heap.size w w' := by
 have hu31 := Tryz.underlying31
 have hu46 := Tryz.underlying46
 have hu75 := Tryz.underlying75
 have r5 := Aside0.mk p8
 have s0 := Aside0.mk q2
 clear p8 q2
 have r4 := Aside0.mk p7
 have r9 := Aside0.mk q1
 clear p7 q1
 have g5 := Aside0.mk p6
 have g8 := Aside0.mk q0
 clear p6 q0
 have j6 := Aside0.mk p5
 have j7 := Aside0.mk p9
 clear p5 p9
 have HB := Aside0.mk (Below.refl w.heap.size w)
 have H : ((statistic_Valid.f k b5 c4 a6 a7).bind fun h7 => (if h7 = 0 then ((statistic_is.f a2 (b5.length : Int)).bind fun m2 => (if m2 = true then (if a3 = 1 then (statistic_Node.j0 k a3 false a6 a7 a2) else (statistic_Node.j0 k a3 (a3 != (-1)) a6 a7 a2)) else (statistic_Node.j0 k a3 true a6 a7 a2))) else (some (([] : List (S75)), ([] : List (S75)), h7)))) = some (r1, r2, r3) := h
 clear h
 obtain ⟨h7, A5, H⟩ := obA H
 by_cases c6 : h7 = 0
 rotate_left
 ·rw [if_neg c6] at H
  have t4 := beq_eq_false_iff_ne.mpr c6
  have t3 := bne_iff_ne.mpr c6
  simp only [Option.some.injEq, Prod.mk.injEq] at H
  obtain ⟨rfl, rfl, rfl⟩ := H
  go_enter Tryz.func17, Tryz.ntmps17
  go_wp2_with (first | ((with_reducible refine gate_dst (N := 4) rfl ?_); refine be 4 #[.slice e2 b5.length e0, .slice e1 c4.length d9] 31 ?_; intro h2 hg V8 hbox hb; have a0 := Aside0.mk (hbox); have v3 := bsz HB hg; replace HB := bstep HB hb; clear hb hbox hg) | ((with_reducible refine gate_dst (N := 5) rfl ?_); refine be 5 #[.slice d0 a6.length c9, .slice d4 a7.length d3] 46 ?_; intro h1 hg V7 hbox hb; have a1 := Aside0.mk (hbox); have v2 := bsz HB hg; replace HB := bstep HB hb; have c1 := blt a0 hg; have b9 := bgt a0 hg; replace a0 := bkb a0 hb; clear hb hbox hg) | ((with_reducible refine gate_dst (N := 6) rfl ?_); refine be 6 #[.int .i64 a2] 3 ?_; intro g4 hg V6 hbox hb; have a5 := Aside0.mk (hbox); have v1 := bsz HB hg; replace HB := bstep HB hb; have c0 := blt a0 hg; have b7 := bgt a0 hg; replace a0 := bkb a0 hb; have b8 := blt a1 hg; have b6 := bgt a1 hg; replace a1 := bkb a1 hb; clear hb hbox hg) | ((with_reducible refine gate_dst (N := 8) rfl ?_); refine be 8 #[.slice none 0 0, .slice none 0 0] 46 ?_; intro a8 hg V5 hbox hb; have a4 := Aside0.mk (hbox); have v0 := bsz HB hg; replace HB := bstep HB hb; have b4 := blt a0 hg; have b1 := bgt a0 hg; replace a0 := bkb a0 hb; have b3 := blt a1 hg; have b0 := bgt a1 hg; replace a1 := bkb a1 hb; have b2 := blt a5 hg; have a9 := bgt a5 hg; replace a5 := bkb a5 hb; clear hb hbox hg; have J4 := c1.out; have H0 := b9.out; have J3 := c0.out; have G9 := b7.out; have J2 := b4.out; have G8 := b1.out; obtain ⟨y6, y5, w1, w0⟩ := cz2 a0; have J1 := b8.out; have G7 := b6.out; have J0 := b3.out; have G6 := b0.out; obtain ⟨y4, y3, v9, v8⟩ := cz2 a1) | ((with_reducible refine gate_callee (f := 23) rfl ?_); refine gl 15 Tryz.func23 #[.agg #[.slice e2 b5.length e0, .slice e1 c4.length d9], .agg #[.slice d0 a6.length c9, .slice d4 a7.length d3]] (h := ?_); (with_reducible refine (statistic_Valid.calls _ _ _ _ _ _ _ _ _ _ _ _ _ _ _ (cb r5 HB) s0.out (cb r4 HB) r9.out (cb g5 HB) g8.out (cb j6 HB) j7.out A5.out).mono ?_); rintro e V4 ⟨rfl, hb⟩; refine ⟨_, rfl, ?_⟩; replace a0 := bkb a0 hb; replace a1 := bkb a1 hb; replace a5 := bkb a5 hb; replace a4 := bkb a4 hb; replace HB := bstep HB hb; clear hb; have I9 := a9.out; have G5 := b2.out; obtain ⟨y2, y1, v7, v6⟩ := cz2 a4))
  refine bodyPost_ret (results_ct rfl _ _ a8 46 #[.slice none 0 0, .slice none 0 0] (0, 0) _ rfl (by (with_reducible repeat (first | refine dN ?_ _ | refine dR ?_ | refine dA ?_ _)); refine blk_put (cs := #[.slice none 0 0, .slice none 0 0]) ?_ 1 _ rfl; refine blk_put (cs := #[.slice none 0 0, .slice none 0 0]) ?_ 0 _ rfl; (with_reducible repeat (first | refine dN ?_ _ | refine dR ?_ | refine dA ?_ _)); exact a4.out) Tryz.underlying46 rfl (by kernel_rfl)) rfl ?_
  exact ⟨_, _, erf, by first | exact Kd.R_nil _ _ _ _ _ | exact Kd.N_nil _ _ _ _ _ | exact Kd.V_nil _ _ _ _ _ | exact Kd.Q_nil _ _ _ _ _ | exact Kd.S_nil _ _ _ _ _, by first | exact Kd.R_nil _ _ _ _ _ | exact Kd.N_nil _ _ _ _ _ | exact Kd.V_nil _ _ _ _ _ | exact Kd.Q_nil _ _ _ _ _ | exact Kd.S_nil _ _ _ _ _, bb HB⟩
 rw [if_pos c6] at H
 have t4 := beq_iff_eq.mpr c6
 have t3 := bne_eq_false_iff_eq.mpr c6
 clear c6
 have t6 := Aside0.mk H
 clear H
 go_enter Tryz.func17, Tryz.ntmps17
 go_upto_region 4 with (first | ((with_reducible refine gate_dst (N := 4) rfl ?_); refine be 4 #[.slice e2 b5.length e0, .slice e1 c4.length d9] 31 ?_; intro h2 hg w8 hbox hb; have a0 := Aside0.mk (hbox); have v3 := bsz HB hg; replace HB := bstep HB hb; clear hb hbox hg) | ((with_reducible refine gate_dst (N := 5) rfl ?_); refine be 5 #[.slice d0 a6.length c9, .slice d4 a7.length d3] 46 ?_; intro h1 hg w9 hbox hb; have a1 := Aside0.mk (hbox); have v2 := bsz HB hg; replace HB := bstep HB hb; have c1 := blt a0 hg; have b9 := bgt a0 hg; replace a0 := bkb a0 hb; clear hb hbox hg) | ((with_reducible refine gate_dst (N := 6) rfl ?_); refine be 6 #[.int .i64 a2] 3 ?_; intro g4 hg X9 hbox hb; have a5 := Aside0.mk (hbox); have v1 := bsz HB hg; replace HB := bstep HB hb; have c0 := blt a0 hg; have b7 := bgt a0 hg; replace a0 := bkb a0 hb; have b8 := blt a1 hg; have b6 := bgt a1 hg; replace a1 := bkb a1 hb; clear hb hbox hg) | ((with_reducible refine gate_dst (N := 8) rfl ?_); refine be 8 #[.slice none 0 0, .slice none 0 0] 46 ?_; intro a8 hg X8 hbox hb; have a4 := Aside0.mk (hbox); have v0 := bsz HB hg; replace HB := bstep HB hb; have b4 := blt a0 hg; have b1 := bgt a0 hg; replace a0 := bkb a0 hb; have b3 := blt a1 hg; have b0 := bgt a1 hg; replace a1 := bkb a1 hb; have b2 := blt a5 hg; have a9 := bgt a5 hg; replace a5 := bkb a5 hb; clear hb hbox hg; have V1 := c1.out; have P9 := b9.out; have V0 := c0.out; have P8 := b7.out; have U9 := b4.out; have P7 := b1.out; obtain ⟨t0, s9, s5, s4⟩ := cz2 a0; have U8 := b8.out; have P6 := b6.out; have U7 := b3.out; have P5 := b0.out; obtain ⟨s8, s7, s3, s2⟩ := cz2 a1) | ((with_reducible refine gate_callee (f := 23) rfl ?_); refine gl 15 Tryz.func23 #[.agg #[.slice e2 b5.length e0, .slice e1 c4.length d9], .agg #[.slice d0 a6.length c9, .slice d4 a7.length d3]] (h := ?_); (with_reducible refine (statistic_Valid.calls _ _ _ _ _ _ _ _ _ _ _ _ _ _ _ (cb r5 HB) s0.out (cb r4 HB) r9.out (cb g5 HB) g8.out (cb j6 HB) j7.out A5.out).mono ?_); rintro e X7 ⟨rfl, hb⟩; refine ⟨_, rfl, ?_⟩; replace a0 := bkb a0 hb; replace a1 := bkb a1 hb; replace a5 := bkb a5 hb; replace a4 := bkb a4 hb; replace HB := bstep HB hb; clear hb))
 (try simp only [Act.put, List.setIfInBounds_toArray, List.set_cons_zero, List.set_cons_succ])
 go_cut [33] (fun G3 wc => ∃ (kq : Nat) (m0 : Bool), G3 = .bool m0 ∧ Aside0 (statistic_Node.j0 kq a3 m0 a6 a7 a2 = some (r1, r2, r3)) ∧ Aside0 (kq ≤ k) ∧ Aside0 (wc.heap[h2]? = some (.cells #[(.slice e2 b5.length e0), (.slice e1 c4.length d9)] 31 (0, 0))) ∧ Aside0 (wc.heap[h1]? = some (.cells #[(.slice d0 a6.length c9), (.slice d4 a7.length d3)] 46 (0, 0))) ∧ Aside0 (wc.heap[g4]? = some (.cells #[.int .i64 a2] 3 (0, 0))) ∧ Aside0 (wc.heap[a8]? = some (.cells #[(.slice none 0 0), (.slice none 0 0)] 46 (0, 0))) ∧ Aside0 (Below w.heap.size w wc))
 case first =>
  have H := t6.out
  clear t6
  obtain ⟨m2, M7, H⟩ := obA H
  by_cases q8 : m2 = true
  subst q8
  replace H := ift H
  by_cases m7 : a3 = 1
  rw [if_pos m7] at H
  have j5 := beq_iff_eq.mpr m7
  have t9 := bne_eq_false_iff_eq.mpr m7
  clear m7
  (first | rw [j5] | (simp only [i64_w, i32_w]; rw [j5]) | skip)
  have H' := Aside0.mk H
  clear H
  rotate_left
  rw [if_neg m7] at H
  have j5 := beq_eq_false_iff_ne.mpr m7
  have t9 := bne_iff_ne.mpr m7
  (first | rw [j5] | (simp only [i64_w, i32_w]; rw [j5]) | skip)
  have H' := Aside0.mk H
  clear H
  rotate_left
  replace q8 := Bool.eq_false_iff.mpr q8
  subst q8
  replace H := iff_ H
  have H' := Aside0.mk H
  clear H
  all_goals
   have U6 := b7.out
   have P4 := c0.out
   have U5 := b6.out
   have P3 := b8.out
   have U4 := b2.out
   have P2 := a9.out
   obtain ⟨F7, E1⟩ := cz1 a5
   have U3 := c1.out
   have P1 := b9.out
   have U2 := b4.out
   have P0 := b1.out
   obtain ⟨F6, F5, E0, D9⟩ := cz2 a0
   go_wp2_with (first | ((with_reducible refine gate_callee (f := 46) rfl ?_); refine gl 24 Tryz.func46 #[.int .i64 a2, .int .i64 (b5.length : Int)] (h := ?_); (with_reducible refine (statistic_is.calls _ _ _ _ M7.out).mono ?_); rintro e w' ⟨rfl, ⟨nd, rfl⟩⟩; refine ⟨_, rfl, ?_⟩))
   go_meet
   case rel => exact ⟨_, _, eqs, H', ⟨by first | omega | exact Nat.le_refl _⟩, ⟨bk a0⟩, ⟨bk a1⟩, ⟨bk a5⟩, ⟨bk a4⟩, ⟨bb HB⟩⟩
 case rest =>
  clear t6
  try clear t4 t3 t0 s9 s8 s7 s5 s4 s3 s2
  obtain ⟨kq, m0, rfl, HA, r8, a0, a1, a5, a4, HB⟩ := hcut
  cases kq with
  | zero => exact absurd HA.out (by simp [statistic_Node.j0])
  | succ G4 =>
   have H := HA.out
   clear HA
   simp only [statistic_Node.j0] at H
   by_cases n3 : m0 = true
   ·subst n3
    replace H := ift H
    simp only [Option.some.injEq, Prod.mk.injEq] at H
    obtain ⟨rfl, rfl, rfl⟩ := H
    have U1 := b1.out
    have O9 := b4.out
    have U0 := b0.out
    have O8 := b3.out
    have R9 := a9.out
    have O7 := b2.out
    obtain ⟨F4, F3, D8, D7⟩ := cz2 a4
    go_wp2
    refine bodyPost_ret (results_ct rfl _ _ a8 46 #[.slice none 0 0, .slice none 0 0] (0, 0) _ rfl (by (with_reducible repeat (first | refine dN ?_ _ | refine dR ?_ | refine dA ?_ _)); refine blk_put (cs := #[.slice none 0 0, .slice none 0 0]) ?_ 1 _ rfl; refine blk_put (cs := #[.slice none 0 0, .slice none 0 0]) ?_ 0 _ rfl; (with_reducible repeat (first | refine dN ?_ _ | refine dR ?_ | refine dA ?_ _)); exact a4.out) Tryz.underlying46 rfl (by kernel_rfl)) rfl ?_
    exact ⟨_, _, erf, by first | exact Kd.R_nil _ _ _ _ _ | exact Kd.N_nil _ _ _ _ _ | exact Kd.V_nil _ _ _ _ _ | exact Kd.Q_nil _ _ _ _ _ | exact Kd.S_nil _ _ _ _ _, by first | exact Kd.R_nil _ _ _ _ _ | exact Kd.N_nil _ _ _ _ _ | exact Kd.V_nil _ _ _ _ _ | exact Kd.Q_nil _ _ _ _ _ | exact Kd.S_nil _ _ _ _ _, bb HB⟩
   replace n3 := Bool.eq_false_iff.mpr n3
   subst n3
   replace H := iff_ H
   have p4 := Aside0.mk H
   clear H
   go_upto_region 6 with (fail)
   go_cut [42] (fun G2 wc => ∃ (kq : Nat) (h9 : Bool), G2 = .bool h9 ∧ Aside0 (statistic_Node.j1 kq a3 h9 a6 a7 a2 = some (r1, r2, r3)) ∧ Aside0 (kq ≤ G4) ∧ Aside0 (wc.heap[h2]? = some (.cells #[(.slice e2 b5.length e0), (.slice e1 c4.length d9)] 31 (0, 0))) ∧ Aside0 (wc.heap[h1]? = some (.cells #[(.slice d0 a6.length c9), (.slice d4 a7.length d3)] 46 (0, 0))) ∧ Aside0 (wc.heap[g4]? = some (.cells #[.int .i64 a2] 3 (0, 0))) ∧ Aside0 (wc.heap[a8]? = some (.cells #[(.slice none 0 0), (.slice none 0 0)] 46 (0, 0))) ∧ Aside0 (Below w.heap.size w wc))
   case first =>
    have H := p4.out
    clear p4
    by_cases m6 : a3 = 1
    rotate_left
    ·rw [if_neg m6] at H
     have j4 := beq_eq_false_iff_ne.mpr m6
     have t8 := bne_iff_ne.mpr m6
     (first | rw [j4] | (simp only [i64_w, i32_w]; rw [j4]) | skip)
     have H' := Aside0.mk H
     clear H
     go_wp2
     go_meet
     case rel => exact ⟨_, (false), eqs, H', ⟨by have := r8.out; first | omega | exact Nat.le_refl _⟩, ⟨bk a0⟩, ⟨bk a1⟩, ⟨bk a5⟩, ⟨bk a4⟩, ⟨bb HB⟩⟩
    rw [if_pos m6] at H
    have j4 := beq_iff_eq.mpr m6
    have t8 := bne_eq_false_iff_eq.mpr m6
    clear m6
    (first | rw [j4] | (simp only [i64_w, i32_w]; rw [j4]) | skip)
    obtain ⟨o8, M6, H⟩ := obA H
    have H' := Aside0.mk H
    clear H
    have R8 := b9.out
    have O6 := c1.out
    have R7 := b8.out
    have O5 := b6.out
    have R6 := b3.out
    have O4 := b0.out
    obtain ⟨F2, F1, D6, D5⟩ := cz2 a1
    go_wp2_with (first | (go_at_call 47; (with_reducible refine (statistic_total.calls _ _ _ _ _ _ (cb g5 HB) g8.out M6.out).mono ?_); rintro e X6 ⟨rfl, hb⟩; replace a0 := bkb a0 hb; replace a1 := bkb a1 hb; replace a5 := bkb a5 hb; replace a4 := bkb a4 hb; replace HB := bstep HB hb; clear hb))
    go_meet
    case rel => exact ⟨_, ((o8 == 40)), eqs, H', ⟨by have := r8.out; first | omega | exact Nat.le_refl _⟩, ⟨bk a0⟩, ⟨bk a1⟩, ⟨bk a5⟩, ⟨bk a4⟩, ⟨bb HB⟩⟩
   case rest =>
    clear p4
    try clear n3
    obtain ⟨kq, h9, rfl, HA, t5, a0, a1, a5, a4, HB⟩ := hcut
    cases kq with
    | zero => exact absurd HA.out (by simp [statistic_Node.j1])
    | succ v5 =>
     have H := HA.out
     clear HA
     simp only [statistic_Node.j1] at H
     by_cases n2 : h9 = true
     ·subst n2
      replace H := ift H
      simp only [Option.some.injEq, Prod.mk.injEq] at H
      obtain ⟨rfl, rfl, rfl⟩ := H
      have R5 := b1.out
      have O3 := b4.out
      have R4 := b0.out
      have O2 := b3.out
      have R3 := a9.out
      have O1 := b2.out
      obtain ⟨F0, E9, D4, D3⟩ := cz2 a4
      go_wp2
      refine bodyPost_ret (results_ct rfl _ _ a8 46 #[.slice none 0 0, .slice none 0 0] (0, 0) _ rfl (by (with_reducible repeat (first | refine dN ?_ _ | refine dR ?_ | refine dA ?_ _)); refine blk_put (cs := #[.slice none 0 0, .slice none 0 0]) ?_ 1 _ rfl; refine blk_put (cs := #[.slice none 0 0, .slice none 0 0]) ?_ 0 _ rfl; (with_reducible repeat (first | refine dN ?_ _ | refine dR ?_ | refine dA ?_ _)); exact a4.out) Tryz.underlying46 rfl (by kernel_rfl)) rfl ?_
      exact ⟨_, _, erf, by first | exact Kd.R_nil _ _ _ _ _ | exact Kd.N_nil _ _ _ _ _ | exact Kd.V_nil _ _ _ _ _ | exact Kd.Q_nil _ _ _ _ _ | exact Kd.S_nil _ _ _ _ _, by first | exact Kd.R_nil _ _ _ _ _ | exact Kd.N_nil _ _ _ _ _ | exact Kd.V_nil _ _ _ _ _ | exact Kd.Q_nil _ _ _ _ _ | exact Kd.S_nil _ _ _ _ _, bb HB⟩
     replace n2 := Bool.eq_false_iff.mpr n2
     subst n2
     replace H := iff_ H
     by_cases m5 : a3 = (-1)
     rw [if_pos m5] at H
     have q7 := beq_iff_eq.mpr m5
     have q6 := bne_eq_false_iff_eq.mpr m5
     clear m5
     obtain ⟨m1, v4, H⟩ := obA H
     by_cases m4 : m1 = 0
     rw [if_pos m4] at H
     have q5 := beq_iff_eq.mpr m4
     have q4 := bne_eq_false_iff_eq.mpr m4
     clear m4
     simp only [Option.some.injEq, Prod.mk.injEq] at H
     obtain ⟨rfl, rfl, rfl⟩ := H
     rotate_left
     rw [if_neg m4] at H
     have q5 := beq_eq_false_iff_ne.mpr m4
     have q4 := bne_iff_ne.mpr m4
     have p3 := Aside0.mk H
     clear H
     rotate_left
     rw [if_neg m5] at H
     have q7 := beq_eq_false_iff_ne.mpr m5
     have q6 := bne_iff_ne.mpr m5
     obtain ⟨⟨g1, e7⟩, C5, H⟩ := obA H
     try dsimp only at H
     obtain ⟨g0, C4, H⟩ := obA H
     simp only [Option.some.injEq, Prod.mk.injEq] at H
     obtain ⟨rfl, rfl, rfl⟩ := H
     all_goals
      have L4 := b9.out
      have I0 := c1.out
      have L3 := b8.out
      have H9 := b6.out
      have L2 := b3.out
      have H8 := b0.out
      obtain ⟨p2, p1, p0, o9⟩ := cz2 a1
     ·go_wp2_with (first | ((with_reducible refine gate_callee (f := 51) rfl ?_); refine gl 64 Tryz.func51 #[.agg #[.slice d0 a6.length c9, .slice d4 a7.length d3]] (h := ?_); (with_reducible refine (statistic_copied.calls _ _ _ _ _ _ _ _ _ (cb g5 HB) g8.out (cb j6 HB) j7.out C5.out).mono ?_); rintro e W1 ⟨W7, W6, rfl, e9, n1, hb⟩; refine ⟨_, rfl, ?_⟩; have e5 := Aside0.mk (Kd.R_lower e9 (below_size (bb HB))); have g6 := Aside0.mk (Kd.R_lower n1 (below_size (bb HB))); replace a0 := bkb a0 hb; replace a1 := bkb a1 hb; replace a5 := bkb a5 hb; replace a4 := bkb a4 hb; replace HB := bstep HB hb; clear hb e9 n1) | ((with_reducible refine gate_dst (N := 12) rfl ?_); refine be 12 #[.slice none 0 0, .slice none 0 0] 46 ?_; intro c7 hg W0 hbox hb; replace e5 := kRb e5 hb; replace g6 := kRb g6 hb; have d1 := Aside0.mk (hbox); have V2 := bsz HB hg; replace HB := bstep HB hb; have o6 := blt a0 hg; have n7 := bgt a0 hg; replace a0 := bkb a0 hb; have o4 := blt a1 hg; have n6 := bgt a1 hg; replace a1 := bkb a1 hb; have o2 := blt a5 hg; have n5 := bgt a5 hg; replace a5 := bkb a5 hb; have j8 := blt a4 hg; have n4 := bgt a4 hg; replace a4 := bkb a4 hb; clear hb hbox hg; obtain ⟨g9, e3, eo127⟩ := Kd.R_slice e5.out; subst eo127; have L1 := n7.out; have H7 := o6.out; have L0 := n6.out; have H6 := o4.out; have J9 := n5.out; have H5 := o2.out; have J8 := n4.out; have H4 := j8.out; obtain ⟨A3, A2, x0, w7⟩ := cz2 d1; obtain ⟨d7, d5, eo133⟩ := Kd.R_slice g6.out; subst eo133; have J7 := b7.out; have H3 := c0.out; have J6 := b2.out; have H2 := a9.out; obtain ⟨A1, w6⟩ := cz1 a5) | ((with_reducible refine gate_callee (f := 41) rfl ?_); refine gl 70 Tryz.func41 #[.slice g9 g1.length e3, .agg #[.int .i64 a2, .int .i64 0, .int .i64 0, .int .i64 a3]] (h := ?_); (with_reducible refine (statistic_counted.calls _ _ g1 a2 0 0 a3 g0 _ ?n0 ?m9 C4.out).mono ?_); (case n0 => refine (Kd.R_reads' (e := 75) (base := w.heap.size) (ok := fun k_ => some k_ ≠ (.slice d7 e7.length d5 : Value).ownBlock) (n := g1.length) (c := e3) ?_).2.2; exact (by (with_reducible repeat (first | apply Kd.R_alloc | apply Kd.R_drewN | apply Kd.R_drew)); exact (Kd.R_mono (Kd.R_far (p := ⟨c7, 1, none⟩) (Kd.R_far (p := ⟨c7, 0, none⟩) (Kd.R_types e5.out d1.out (by decide)) (fun _ hk => hk.2) (.slice g9 g1.length e3)) (fun _ hk => hk.2) (.slice d7 e7.length d5)) (fun _ h_ => h_.1)))); (case m9 => exact (Kd.R_reads' e5.out).2.1); rintro e V9 ⟨W5, rfl, e9, hb⟩; refine ⟨_, rfl, ?_⟩; have r6 := Aside0.mk (Kd.R_lower (Kd.R_new' (Kd.R_new' e9 (Kd.R_lt (by (with_reducible repeat (first | apply Kd.R_alloc | apply Kd.R_drewN | apply Kd.R_drew)); exact (Kd.R_mono (Kd.R_far (p := ⟨c7, 1, none⟩) (Kd.R_far (p := ⟨c7, 0, none⟩) (Kd.R_types e5.out d1.out (by decide)) (fun _ hk => hk.2) (.slice g9 g1.length e3)) (fun _ hk => hk.2) (.slice d7 e7.length d5)) (fun _ h_ => h_.1))))) (Kd.R_lt (by (with_reducible repeat (first | apply Kd.R_alloc | apply Kd.R_drewN | apply Kd.R_drew)); exact (Kd.R_mono (Kd.R_far (p := ⟨c7, 1, none⟩) (Kd.R_far (p := ⟨c7, 0, none⟩) (Kd.R_types g6.out d1.out (by decide)) (fun _ hk => hk.2) (.slice g9 g1.length e3)) (fun _ hk => hk.2) (.slice d7 e7.length d5)) (fun _ h_ => h_.1))))) (below_size (bb HB))); replace e5 := Aside0.mk (Kd.R_elder' (by (with_reducible repeat (first | apply Kd.R_alloc | apply Kd.R_drewN | apply Kd.R_drew)); exact (Kd.R_mono (Kd.R_far (p := ⟨c7, 1, none⟩) (Kd.R_far (p := ⟨c7, 0, none⟩) (Kd.R_types e5.out d1.out (by decide)) (fun _ hk => hk.2) (.slice g9 g1.length e3)) (fun _ hk => hk.2) (.slice d7 e7.length d5)) (fun _ h_ => h_.1))) (Kd.R_base e9) hb); replace g6 := Aside0.mk (Kd.R_elder' (by (with_reducible repeat (first | apply Kd.R_alloc | apply Kd.R_drewN | apply Kd.R_drew)); exact (Kd.R_mono (Kd.R_far (p := ⟨c7, 1, none⟩) (Kd.R_far (p := ⟨c7, 0, none⟩) (Kd.R_types g6.out d1.out (by decide)) (fun _ hk => hk.2) (.slice g9 g1.length e3)) (fun _ hk => hk.2) (.slice d7 e7.length d5)) (fun _ h_ => h_.1))) (Kd.R_base e9) hb); replace a0 := Aside0.mk (blk_below (g := h2) (o := .cells #[.slice e2 b5.length e0, .slice e1 c4.length d9] 31 (0, 0)) (bkF a0) hb); replace a1 := Aside0.mk (blk_below (g := h1) (o := .cells #[.slice d0 a6.length c9, .slice d4 a7.length d3] 46 (0, 0)) (bkF a1) hb); replace a5 := Aside0.mk (blk_below (g := g4) (o := .cells #[.int .i64 a2] 3 (0, 0)) (bkF a5) hb); replace a4 := Aside0.mk (blk_below (g := a8) (o := .cells #[.slice none 0 0, .slice none 0 0] 46 (0, 0)) (bkF a4) hb); replace d1 := Aside0.mk (blk_below (g := c7) (o := .cells #[.slice g9 g1.length e3, .slice d7 e7.length d5] 46 (0, 0)) (bkP d1) hb); replace HB := bstep HB hb; obtain ⟨h5, h3, eo138⟩ := Kd.R_slice r6.out; subst eo138; obtain ⟨A0, y9, w5, w4⟩ := cz2 d1; have J5 := b1.out; have H1 := b4.out; obtain ⟨y8, y7, w3, w2⟩ := cz2 a4))
      refine bodyPost_ret (results_ct rfl _ _ a8 46 #[.slice h5 g0.length h3, .slice d7 e7.length d5] (0, 0) _ rfl (by (with_reducible repeat (first | refine dN ?_ _ | refine dR ?_ | refine dA ?_ _)); refine blk_put (cs := #[.slice h5 g0.length h3, .slice none 0 0]) ?_ 1 _ rfl; refine blk_put (cs := #[.slice none 0 0, .slice none 0 0]) ?_ 0 _ rfl; (with_reducible repeat (first | refine dN ?_ _ | refine dR ?_ | refine dA ?_ _)); refine blk_far ?_ j8.out _; (with_reducible repeat (first | refine dN ?_ _ | refine dR ?_ | refine dA ?_ _)); exact a4.out) Tryz.underlying46 rfl (by kernel_rfl)) rfl ?_
      exact ⟨_, _, erf, by (with_reducible repeat (first | apply Kd.R_alloc | apply Kd.R_drewN | apply Kd.R_drew)); exact Kd.R_mono (Kd.R_far (p := ⟨a8, 1, none⟩) (Kd.R_far (p := ⟨a8, 0, none⟩) (Kd.R_far (p := ⟨c7, 0, none⟩) (Kd.R_types (Kd.R_types r6.out d1.out (by decide)) a4.out (by decide)) (fun _ hk => hk.1.2) (.slice h5 g0.length h3)) (fun _ hk => hk.2) (.slice h5 g0.length h3)) (fun _ hk => hk.2) (.slice d7 e7.length d5)) (fun _ hk => hk.1.1.2), by (with_reducible repeat (first | apply Kd.R_alloc | apply Kd.R_drewN | apply Kd.R_drew)); exact Kd.R_mono (Kd.R_far (p := ⟨a8, 1, none⟩) (Kd.R_far (p := ⟨a8, 0, none⟩) (Kd.R_far (p := ⟨c7, 0, none⟩) (Kd.R_types (Kd.R_types g6.out d1.out (by decide)) a4.out (by decide)) (fun _ hk => hk.1.2) (.slice h5 g0.length h3)) (fun _ hk => hk.2) (.slice h5 g0.length h3)) (fun _ hk => hk.2) (.slice d7 e7.length d5)) (fun _ hk => hk.1.1.2), bb HB⟩
     ·have R2 := b7.out
      have O0 := c0.out
      have R1 := b2.out
      have N9 := a9.out
      obtain ⟨E8, D2⟩ := cz1 a5
      go_wp2_with (first | ((with_reducible refine gate_callee (f := 48) rfl ?_); refine gl 50 Tryz.func48 #[.slice d0 a6.length c9, .agg #[.int .i64 a2, .int .i64 0, .int .i64 0, .int .i64 0]] (h := ?_); (with_reducible refine (statistic_number.calls _ _ _ _ _ _ _ _ _ (cb g5 HB) g8.out v4.out).mono ?_); rintro e X5 ⟨rfl, hb⟩; refine ⟨_, rfl, ?_⟩; replace a0 := bkb a0 hb; replace a1 := bkb a1 hb; replace a5 := bkb a5 hb; replace a4 := bkb a4 hb; replace HB := bstep HB hb; clear hb; have R0 := b1.out; have N8 := b4.out; obtain ⟨E7, E6, D1, D0⟩ := cz2 a4))
      refine bodyPost_ret (results_ct rfl _ _ a8 46 #[.slice none 0 0, .slice none 0 0] (0, 0) _ rfl (by (with_reducible repeat (first | refine dN ?_ _ | refine dR ?_ | refine dA ?_ _)); refine blk_put (cs := #[.slice none 0 0, .slice none 0 0]) ?_ 1 _ rfl; refine blk_put (cs := #[.slice none 0 0, .slice none 0 0]) ?_ 0 _ rfl; (with_reducible repeat (first | refine dN ?_ _ | refine dR ?_ | refine dA ?_ _)); exact a4.out) Tryz.underlying46 rfl (by kernel_rfl)) rfl ?_
      exact ⟨_, _, erf, by first | exact Kd.R_nil _ _ _ _ _ | exact Kd.N_nil _ _ _ _ _ | exact Kd.V_nil _ _ _ _ _ | exact Kd.Q_nil _ _ _ _ _ | exact Kd.S_nil _ _ _ _ _, by first | exact Kd.R_nil _ _ _ _ _ | exact Kd.N_nil _ _ _ _ _ | exact Kd.V_nil _ _ _ _ _ | exact Kd.Q_nil _ _ _ _ _ | exact Kd.S_nil _ _ _ _ _, bb HB⟩
     ·have Q9 := b7.out
      have N7 := c0.out
      have Q8 := b2.out
      have N6 := a9.out
      obtain ⟨s6, s1⟩ := cz1 a5
      go_upto_region 12 with (first | ((with_reducible refine gate_callee (f := 48) rfl ?_); refine gl 50 Tryz.func48 #[.slice d0 a6.length c9, .agg #[.int .i64 a2, .int .i64 0, .int .i64 0, .int .i64 0]] (h := ?_); (with_reducible refine (statistic_number.calls _ _ _ _ _ _ _ _ _ (cb g5 HB) g8.out v4.out).mono ?_); rintro e X4 ⟨rfl, hb⟩; refine ⟨_, rfl, ?_⟩; replace a0 := bkb a0 hb; replace a1 := bkb a1 hb; replace a5 := bkb a5 hb; replace a4 := bkb a4 hb; replace HB := bstep HB hb; clear hb))
      (try simp only [Act.put, List.setIfInBounds_toArray, List.set_cons_zero, List.set_cons_succ])
      go_cut [61] (fun G1 wc => ∃ (kq : Nat) (h8 : Bool), G1 = .bool h8 ∧ Aside0 (statistic_Node.j2 kq a3 h8 a6 a7 a2 = some (r1, r2, r3)) ∧ Aside0 (kq ≤ v5) ∧ Aside0 (wc.heap[h2]? = some (.cells #[(.slice e2 b5.length e0), (.slice e1 c4.length d9)] 31 (0, 0))) ∧ Aside0 (wc.heap[h1]? = some (.cells #[(.slice d0 a6.length c9), (.slice d4 a7.length d3)] 46 (0, 0))) ∧ Aside0 (wc.heap[g4]? = some (.cells #[.int .i64 a2] 3 (0, 0))) ∧ Aside0 (wc.heap[a8]? = some (.cells #[(.slice none 0 0), (.slice none 0 0)] 46 (0, 0))) ∧ Aside0 (Below w.heap.size w wc))
      case first =>
       have H := p3.out
       clear p3
       by_cases m3 : m1 = 1
       rotate_left
       ·rw [if_neg m3] at H
        have j3 := beq_eq_false_iff_ne.mpr m3
        have t7 := bne_iff_ne.mpr m3
        (first | rw [j3] | (simp only [i64_w, i32_w]; rw [j3]) | skip)
        have H' := Aside0.mk H
        clear H
        go_wp2
        go_meet
        case rel => exact ⟨_, (false), eqs, H', ⟨by have := r8.out; have := t5.out; first | omega | exact Nat.le_refl _⟩, ⟨bk a0⟩, ⟨bk a1⟩, ⟨bk a5⟩, ⟨bk a4⟩, ⟨bb HB⟩⟩
       rw [if_pos m3] at H
       have j3 := beq_iff_eq.mpr m3
       have t7 := bne_eq_false_iff_eq.mpr m3
       clear m3
       (first | rw [j3] | (simp only [i64_w, i32_w]; rw [j3]) | skip)
       obtain ⟨m8, M5, H⟩ := obA H
       have H' := Aside0.mk H
       clear H
       have Q7 := b9.out
       have N5 := c1.out
       have Q6 := b8.out
       have N4 := b6.out
       have Q5 := b3.out
       have N3 := b0.out
       obtain ⟨E5, E4, C9, C8⟩ := cz2 a1
       go_wp2_with (first | (go_at_call 49; (with_reducible refine (any_used.calls _ _ a7 g4 a2 m8 _ (cb j6 HB) j7.out (bk a5) M5.out).mono ?_); rintro e X3 ⟨rfl, hb⟩; replace a0 := bkb a0 hb; replace a1 := bkb a1 hb; replace a5 := bkb a5 hb; replace a4 := bkb a4 hb; replace HB := bstep HB hb; clear hb))
       go_meet
       case rel => exact ⟨_, (m8), eqs, H', ⟨by have := r8.out; have := t5.out; first | omega | exact Nat.le_refl _⟩, ⟨bk a0⟩, ⟨bk a1⟩, ⟨bk a5⟩, ⟨bk a4⟩, ⟨bb HB⟩⟩
      case rest =>
       clear p3
       try clear n2 q7 q6 q5 q4 p2 p1 s6 p0 o9 s1
       obtain ⟨kq, h8, rfl, HA, X2, a0, a1, a5, a4, HB⟩ := hcut
       cases kq with
       | zero => exact absurd HA.out (by simp [statistic_Node.j2])
       | succ X1 =>
        have H := HA.out
        clear HA
        simp only [statistic_Node.j2] at H
        by_cases q3 : h8 = true
        ·subst q3
         replace H := ift H
         simp only [Option.some.injEq, Prod.mk.injEq] at H
         obtain ⟨rfl, rfl, rfl⟩ := H
         have Q4 := b1.out
         have N2 := b4.out
         have Q3 := b0.out
         have N1 := b3.out
         have Q2 := a9.out
         have N0 := b2.out
         obtain ⟨E3, E2, C7, C6⟩ := cz2 a4
         go_wp2
         refine bodyPost_ret (results_ct rfl _ _ a8 46 #[.slice none 0 0, .slice none 0 0] (0, 0) _ rfl (by (with_reducible repeat (first | refine dN ?_ _ | refine dR ?_ | refine dA ?_ _)); refine blk_put (cs := #[.slice none 0 0, .slice none 0 0]) ?_ 1 _ rfl; refine blk_put (cs := #[.slice none 0 0, .slice none 0 0]) ?_ 0 _ rfl; (with_reducible repeat (first | refine dN ?_ _ | refine dR ?_ | refine dA ?_ _)); exact a4.out) Tryz.underlying46 rfl (by kernel_rfl)) rfl ?_
         exact ⟨_, _, erf, by first | exact Kd.R_nil _ _ _ _ _ | exact Kd.N_nil _ _ _ _ _ | exact Kd.V_nil _ _ _ _ _ | exact Kd.Q_nil _ _ _ _ _ | exact Kd.S_nil _ _ _ _ _, by first | exact Kd.R_nil _ _ _ _ _ | exact Kd.N_nil _ _ _ _ _ | exact Kd.V_nil _ _ _ _ _ | exact Kd.Q_nil _ _ _ _ _ | exact Kd.S_nil _ _ _ _ _, bb HB⟩
        replace q3 := Bool.eq_false_iff.mpr q3
        subst q3
        replace H := iff_ H
        obtain ⟨⟨g3, e8⟩, M4, H⟩ := obA H
        try dsimp only at H
        obtain ⟨g2, M3, H⟩ := obA H
        simp only [Option.some.injEq, Prod.mk.injEq] at H
        obtain ⟨rfl, rfl, rfl⟩ := H
        have Q1 := b9.out
        have M9 := c1.out
        have Q0 := b8.out
        have M8 := b6.out
        have M2 := b3.out
        have I8 := b0.out
        obtain ⟨C3, C2, y0, x9⟩ := cz2 a1
        go_wp2_with (first | ((with_reducible refine gate_callee (f := 51) rfl ?_); refine gl 64 Tryz.func51 #[.agg #[.slice d0 a6.length c9, .slice d4 a7.length d3]] (h := ?_); (with_reducible refine (statistic_copied.calls _ _ _ _ _ _ _ _ _ (cb g5 HB) g8.out (cb j6 HB) j7.out M4.out).mono ?_); rintro e W4 ⟨X0, W9, rfl, e9, n1, hb⟩; refine ⟨_, rfl, ?_⟩; have e6 := Aside0.mk (Kd.R_lower e9 (below_size (bb HB))); have g7 := Aside0.mk (Kd.R_lower n1 (below_size (bb HB))); replace a0 := bkb a0 hb; replace a1 := bkb a1 hb; replace a5 := bkb a5 hb; replace a4 := bkb a4 hb; replace HB := bstep HB hb; clear hb e9 n1) | ((with_reducible refine gate_dst (N := 12) rfl ?_); refine be 12 #[.slice none 0 0, .slice none 0 0] 46 ?_; intro c8 hg W3 hbox hb; replace e6 := kRb e6 hb; replace g7 := kRb g7 hb; have d2 := Aside0.mk (hbox); have V3 := bsz HB hg; replace HB := bstep HB hb; have o7 := blt a0 hg; have o1 := bgt a0 hg; replace a0 := bkb a0 hb; have o5 := blt a1 hg; have o0 := bgt a1 hg; replace a1 := bkb a1 hb; have o3 := blt a5 hg; have n9 := bgt a5 hg; replace a5 := bkb a5 hb; have j9 := blt a4 hg; have n8 := bgt a4 hg; replace a4 := bkb a4 hb; clear hb hbox hg; obtain ⟨h0, e4, eo104⟩ := Kd.R_slice e6.out; subst eo104; have M1 := o1.out; have I7 := o7.out; have M0 := o0.out; have I6 := o5.out; have L9 := n9.out; have I5 := o3.out; have L8 := n8.out; have I4 := j9.out; obtain ⟨C1, C0, x8, x7⟩ := cz2 d2; obtain ⟨d8, d6, eo110⟩ := Kd.R_slice g7.out; subst eo110; have L7 := b7.out; have I3 := c0.out; have L6 := b2.out; have I2 := a9.out; obtain ⟨A9, x6⟩ := cz1 a5) | ((with_reducible refine gate_callee (f := 41) rfl ?_); refine gl 70 Tryz.func41 #[.slice h0 g3.length e4, .agg #[.int .i64 a2, .int .i64 0, .int .i64 0, .int .i64 a3]] (h := ?_); (with_reducible refine (statistic_counted.calls _ _ g3 a2 0 0 a3 g2 _ ?n0 ?m9 M3.out).mono ?_); (case n0 => refine (Kd.R_reads' (e := 75) (base := w.heap.size) (ok := fun k_ => some k_ ≠ (.slice d8 e8.length d6 : Value).ownBlock) (n := g3.length) (c := e4) ?_).2.2; exact (by (with_reducible repeat (first | apply Kd.R_alloc | apply Kd.R_drewN | apply Kd.R_drew)); exact (Kd.R_mono (Kd.R_far (p := ⟨c8, 1, none⟩) (Kd.R_far (p := ⟨c8, 0, none⟩) (Kd.R_types e6.out d2.out (by decide)) (fun _ hk => hk.2) (.slice h0 g3.length e4)) (fun _ hk => hk.2) (.slice d8 e8.length d6)) (fun _ h_ => h_.1)))); (case m9 => exact (Kd.R_reads' e6.out).2.1); rintro e W2 ⟨W8, rfl, e9, hb⟩; refine ⟨_, rfl, ?_⟩; have r7 := Aside0.mk (Kd.R_lower (Kd.R_new' (Kd.R_new' e9 (Kd.R_lt (by (with_reducible repeat (first | apply Kd.R_alloc | apply Kd.R_drewN | apply Kd.R_drew)); exact (Kd.R_mono (Kd.R_far (p := ⟨c8, 1, none⟩) (Kd.R_far (p := ⟨c8, 0, none⟩) (Kd.R_types e6.out d2.out (by decide)) (fun _ hk => hk.2) (.slice h0 g3.length e4)) (fun _ hk => hk.2) (.slice d8 e8.length d6)) (fun _ h_ => h_.1))))) (Kd.R_lt (by (with_reducible repeat (first | apply Kd.R_alloc | apply Kd.R_drewN | apply Kd.R_drew)); exact (Kd.R_mono (Kd.R_far (p := ⟨c8, 1, none⟩) (Kd.R_far (p := ⟨c8, 0, none⟩) (Kd.R_types g7.out d2.out (by decide)) (fun _ hk => hk.2) (.slice h0 g3.length e4)) (fun _ hk => hk.2) (.slice d8 e8.length d6)) (fun _ h_ => h_.1))))) (below_size (bb HB))); replace e6 := Aside0.mk (Kd.R_elder' (by (with_reducible repeat (first | apply Kd.R_alloc | apply Kd.R_drewN | apply Kd.R_drew)); exact (Kd.R_mono (Kd.R_far (p := ⟨c8, 1, none⟩) (Kd.R_far (p := ⟨c8, 0, none⟩) (Kd.R_types e6.out d2.out (by decide)) (fun _ hk => hk.2) (.slice h0 g3.length e4)) (fun _ hk => hk.2) (.slice d8 e8.length d6)) (fun _ h_ => h_.1))) (Kd.R_base e9) hb); replace g7 := Aside0.mk (Kd.R_elder' (by (with_reducible repeat (first | apply Kd.R_alloc | apply Kd.R_drewN | apply Kd.R_drew)); exact (Kd.R_mono (Kd.R_far (p := ⟨c8, 1, none⟩) (Kd.R_far (p := ⟨c8, 0, none⟩) (Kd.R_types g7.out d2.out (by decide)) (fun _ hk => hk.2) (.slice h0 g3.length e4)) (fun _ hk => hk.2) (.slice d8 e8.length d6)) (fun _ h_ => h_.1))) (Kd.R_base e9) hb); replace a0 := Aside0.mk (blk_below (g := h2) (o := .cells #[.slice e2 b5.length e0, .slice e1 c4.length d9] 31 (0, 0)) (bkF a0) hb); replace a1 := Aside0.mk (blk_below (g := h1) (o := .cells #[.slice d0 a6.length c9, .slice d4 a7.length d3] 46 (0, 0)) (bkF a1) hb); replace a5 := Aside0.mk (blk_below (g := g4) (o := .cells #[.int .i64 a2] 3 (0, 0)) (bkF a5) hb); replace a4 := Aside0.mk (blk_below (g := a8) (o := .cells #[.slice none 0 0, .slice none 0 0] 46 (0, 0)) (bkF a4) hb); replace d2 := Aside0.mk (blk_below (g := c8) (o := .cells #[.slice h0 g3.length e4, .slice d8 e8.length d6] 46 (0, 0)) (bkP d2) hb); replace HB := bstep HB hb; obtain ⟨h6, h4, eo115⟩ := Kd.R_slice r7.out; subst eo115; obtain ⟨A8, A7, x5, x4⟩ := cz2 d2; have L5 := b1.out; have I1 := b4.out; obtain ⟨A6, A4, x2, x1⟩ := cz2 a4))
        refine bodyPost_ret (results_ct rfl _ _ a8 46 #[.slice h6 g2.length h4, .slice d8 e8.length d6] (0, 0) _ rfl (by (with_reducible repeat (first | refine dN ?_ _ | refine dR ?_ | refine dA ?_ _)); refine blk_put (cs := #[.slice h6 g2.length h4, .slice none 0 0]) ?_ 1 _ rfl; refine blk_put (cs := #[.slice none 0 0, .slice none 0 0]) ?_ 0 _ rfl; (with_reducible repeat (first | refine dN ?_ _ | refine dR ?_ | refine dA ?_ _)); refine blk_far ?_ j9.out _; (with_reducible repeat (first | refine dN ?_ _ | refine dR ?_ | refine dA ?_ _)); exact a4.out) Tryz.underlying46 rfl (by kernel_rfl)) rfl ?_
        exact ⟨_, _, erf, by (with_reducible repeat (first | apply Kd.R_alloc | apply Kd.R_drewN | apply Kd.R_drew)); exact Kd.R_mono (Kd.R_far (p := ⟨a8, 1, none⟩) (Kd.R_far (p := ⟨a8, 0, none⟩) (Kd.R_far (p := ⟨c8, 0, none⟩) (Kd.R_types (Kd.R_types r7.out d2.out (by decide)) a4.out (by decide)) (fun _ hk => hk.1.2) (.slice h6 g2.length h4)) (fun _ hk => hk.2) (.slice h6 g2.length h4)) (fun _ hk => hk.2) (.slice d8 e8.length d6)) (fun _ hk => hk.1.1.2), by (with_reducible repeat (first | apply Kd.R_alloc | apply Kd.R_drewN | apply Kd.R_drew)); exact Kd.R_mono (Kd.R_far (p := ⟨a8, 1, none⟩) (Kd.R_far (p := ⟨a8, 0, none⟩) (Kd.R_far (p := ⟨c8, 0, none⟩) (Kd.R_types (Kd.R_types g7.out d2.out (by decide)) a4.out (by decide)) (fun _ hk => hk.1.2) (.slice h6 g2.length h4)) (fun _ hk => hk.2) (.slice h6 g2.length h4)) (fun _ hk => hk.2) (.slice d8 e8.length d6)) (fun _ hk => hk.1.1.2), bb HB⟩
end Go.Proofs.YtfpianecohobjaaGreat.P
