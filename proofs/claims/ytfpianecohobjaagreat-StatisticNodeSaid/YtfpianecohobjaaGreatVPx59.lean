/- StatisticOf: a part of its proof. No condition. -/
import Derived.Test.YtfpianecohobjaaGreatVPx0
import Derived.Test.YtfpianecohobjaaGreatVPx46
import Derived.Test.YtfpianecohobjaaGreatVMi
namespace Go.Proofs.YtfpianecohobjaaGreat.P
open Go.RowKit Go.Proofs.YtfpianecohobjaaGreatW.PrintWords Go.Proofs.YtfpianecohobjaaGreatW.PrintLast Go.Proofs.YtfpianecohobjaaGreatW.PrintMore
set_option maxHeartbeats 8000000
set_option maxRecDepth 100000
set_option linter.unusedVariables false
set_option linter.unusedSimpArgs false
mutual
def scarfjointref18_Node.j0 : Nat → Int → Int → Bool → List (S75) → List (S75) → Option ((List (S75)) × (List (S75)) × Int)
 | 0, _, _, _, _, _ => none
 | k + 1, x2, x3, H8, a8, a6 => if H8 = true then (some (([] : List (S75)), ([] : List (S75)), 6)) else ((scarfjointref18_number.f k a8 x2 0 0 0).bind fun g2 => (if x3 = 1 then ((scarfjointref18_total.f k a8).bind fun o3 => (scarfjointref18_Node.j1 k x2 x3 g2 (o3 == 40) a8 a6 x2 0 0 0)) else (scarfjointref18_Node.j1 k x2 x3 g2 false a8 a6 x2 0 0 0)))
def scarfjointref18_Node.j1 : Nat → Int → Int → Int → Bool → List (S75) → List (S75) → Int → Int → Int → Int → Option ((List (S75)) × (List (S75)) × Int)
 | 0, _, _, _, _, _, _, _, _, _, _ => none
 | k + 1, x2, x3, g6, H7, a8, a6, c0, b9, b8, b7 => if H7 = true then (some (([] : List (S75)), ([] : List (S75)), 3)) else (if x3 = (-1) then (scarfjointref18_Node.j2 k x2 x3 g6 (g6 == 0) a8 a6 c0 b9 b8 b7) else (scarfjointref18_Node.j2 k x2 x3 g6 false a8 a6 c0 b9 b8 b7))
def scarfjointref18_Node.j2 : Nat → Int → Int → Int → Bool → List (S75) → List (S75) → Int → Int → Int → Int → Option ((List (S75)) × (List (S75)) × Int)
 | 0, _, _, _, _, _, _, _, _, _, _ => none
 | k + 1, x2, x3, g6, H6, a8, a6, c0, b9, b8, b7 => if H6 = true then (some (([] : List (S75)), ([] : List (S75)), 10)) else (scarfjointref18_Node.l0 k x2 x3 g6 0 a8 a6 c0 b9 b8 b7)
def scarfjointref18_Node.l0 : Nat → Int → Int → Int → Int → List (S75) → List (S75) → Int → Int → Int → Int → Option ((List (S75)) × (List (S75)) × Int)
 | 0, _, _, _, _, _, _, _, _, _, _ => none
 | k + 1, x2, x3, g6, h2, a8, a6, c0, b9, b8, b7 => if h2 < (a6.length : Int) then (if x3 = (-1) then (scarfjointref18_Node.j4 k x2 x3 g6 h2 (g6 == 1) a8 a6 c0 b9 b8 b7) else (scarfjointref18_Node.j4 k x2 x3 g6 h2 false a8 a6 c0 b9 b8 b7)) else (scarfjointref18_Node.j4 k x2 x3 g6 h2 false a8 a6 c0 b9 b8 b7)
def scarfjointref18_Node.j4 : Nat → Int → Int → Int → Int → Bool → List (S75) → List (S75) → Int → Int → Int → Int → Option ((List (S75)) × (List (S75)) × Int)
 | 0, _, _, _, _, _, _, _, _, _, _, _ => none
 | k + 1, x2, x3, g6, h2, H5, a8, a6, c0, b9, b8, b7 => if H5 = true then (if 0 ≤ h2 then (if h2 < (a6.length : Int) then (if ((rd_T75 a6 h2).f1) = x2 then (some (([] : List (S75)), ([] : List (S75)), 14)) else (if ((rd_T75 a6 h2).f2) = x2 then (some (([] : List (S75)), ([] : List (S75)), 14)) else (scarfjointref18_Node.l0 k x2 x3 g6 (wrap64 (h2 + 1)) a8 a6 c0 b9 b8 b7))) else (none)) else (none)) else ((scarfjointref18_Copied.f a8 a6).bind fun v0 => ((scarfjointref18_change.f k a8 c0 b9 b8 b7 x3).bind fun e7 => (some (e7, v0.2, 0))))
end
def scarfjointref18_Node.f (k : Nat) (c1 : List (S96)) (c3 : List (S101)) (a9 : List (S75)) (a7 : List (S75)) (a2 : Int) (a3 : Int) : Option ((List (S75)) × (List (S75)) × Int) := (scarfjointref18_Valid.f k c1 c3 a9 a7).bind fun g3 => (if g3 = 0 then ((scarfjointref18_is.f a2 (c1.length : Int)).bind fun j3 => (if j3 = true then (if a3 = 1 then (scarfjointref18_Node.j0 k a2 a3 false a9 a7) else (scarfjointref18_Node.j0 k a2 a3 (a3 != (-1)) a9 a7)) else (scarfjointref18_Node.j0 k a2 a3 true a9 a7))) else (some (([] : List (S75)), ([] : List (S75)), g3)))
theorem scarfjointref18_Node.calls (k : Nat) (d9 : Option Addr) (d7 : Nat) (c1 : List (S96)) (d8 : Option Addr) (d6 : Nat) (c3 : List (S101)) (c9 : Option Addr) (c8 : Nat) (a9 : List (S75)) (d5 : Option Addr) (d4 : Nat) (a7 : List (S75)) (a2 : Int) (a3 : Int) (r1 : List (S75)) (r2 : List (S75)) (r3 : Int) (w : World) (q1 : Kd.C k96 w d9 c1.length c1) (q5 : c1.length ≤ d7) (q0 : Kd.C k101 w d8 c3.length c3) (q4 : c3.length ≤ d6) (p9 : Kd.C k75 w c9 a9.length a9) (q3 : a9.length ≤ c8) (p8 : Kd.C k75 w d5 a7.length a7) (q2 : a7.length ≤ d4) (h : scarfjointref18_Node.f k c1 c3 a9 a7 a2 a3 = some (r1, r2, r3)) :
  Calls Tryz.prog 33 #[.agg #[.slice d9 c1.length d7, .slice d8 c3.length d6], .agg #[.slice c9 a9.length c8, .slice d5 a7.length d4], .int .i64 a2, .int .i64 a3] w fun e w' => ∃ t6 t5 : Value, e = .returned (.tuple #[.agg #[t6, t5], .int .i64 r3]) ∧ Kd.R k75 75 w' w.heap.size (fun k_ => some k_ ≠ (t5 : Value).ownBlock) t6 r1 ∧ Kd.R k75 75 w' w.heap.size (fun k_ => some k_ ≠ (t6 : Value).ownBlock) t5 r2 ∧ Below w.heap.size w w' := by
 have hu31 := Tryz.underlying31
 have hu46 := Tryz.underlying46
 have hu75 := Tryz.underlying75
 have q9 := Aside0.mk q1
 have r4 := Aside0.mk q5
 clear q1 q5
 have q8 := Aside0.mk q0
 have r0 := Aside0.mk q4
 clear q0 q4
 have g9 := Aside0.mk p9
 have h0 := Aside0.mk q3
 clear p9 q3
 have g8 := Aside0.mk p8
 have o8 := Aside0.mk q2
 clear p8 q2
 have HB := Aside0.mk (Below.refl w.heap.size w)
 have H : ((scarfjointref18_Valid.f k c1 c3 a9 a7).bind fun g3 => (if g3 = 0 then ((scarfjointref18_is.f a2 (c1.length : Int)).bind fun j3 => (if j3 = true then (if a3 = 1 then (scarfjointref18_Node.j0 k a2 a3 false a9 a7) else (scarfjointref18_Node.j0 k a2 a3 (a3 != (-1)) a9 a7)) else (scarfjointref18_Node.j0 k a2 a3 true a9 a7))) else (some (([] : List (S75)), ([] : List (S75)), g3)))) = some (r1, r2, r3) := h
 clear h
 obtain ⟨g3, A5, H⟩ := obA H
 by_cases c6 : g3 = 0
 rotate_left
 ·rw [if_neg c6] at H
  have t9 := beq_eq_false_iff_ne.mpr c6
  have t8 := bne_iff_ne.mpr c6
  simp only [Option.some.injEq, Prod.mk.injEq] at H
  obtain ⟨rfl, rfl, rfl⟩ := H
  go_enter Tryz.func33, Tryz.ntmps33
  go_wp2_with (first | ((with_reducible refine gate_dst (N := 4) rfl ?_); refine be 4 #[.slice d9 c1.length d7, .slice d8 c3.length d6] 31 ?_; intro e1 hg V6 hbox hb; have a0 := Aside0.mk (hbox); have v6 := bsz HB hg; replace HB := bstep HB hb; clear hb hbox hg) | ((with_reducible refine gate_dst (N := 5) rfl ?_); refine be 5 #[.slice c9 a9.length c8, .slice d5 a7.length d4] 46 ?_; intro e0 hg V5 hbox hb; have a4 := Aside0.mk (hbox); have v5 := bsz HB hg; replace HB := bstep HB hb; have b6 := blt a0 hg; have b5 := bgt a0 hg; replace a0 := bkb a0 hb; clear hb hbox hg) | ((with_reducible refine gate_dst (N := 8) rfl ?_); refine be 8 #[.slice none 0 0, .slice none 0 0] 46 ?_; intro b4 hg V4 hbox hb; have a1 := Aside0.mk (hbox); have v4 := bsz HB hg; replace HB := bstep HB hb; have b3 := blt a0 hg; have b2 := bgt a0 hg; replace a0 := bkb a0 hb; have b1 := blt a4 hg; have b0 := bgt a4 hg; replace a4 := bkb a4 hb; clear hb hbox hg; have L0 := b6.out; have I7 := b5.out; have J9 := b3.out; have I6 := b2.out; obtain ⟨C2, C1, y1, y0⟩ := cz2 a0; have J8 := b1.out; have I5 := b0.out; obtain ⟨C0, A9, x9, x8⟩ := cz2 a4) | ((with_reducible refine gate_callee (f := 30) rfl ?_); refine gl 17 Tryz.func30 #[.agg #[.slice d9 c1.length d7, .slice d8 c3.length d6], .agg #[.slice c9 a9.length c8, .slice d5 a7.length d4]] (h := ?_); (with_reducible refine (scarfjointref18_Valid.calls _ _ _ _ _ _ _ _ _ _ _ _ _ _ _ (cb q9 HB) r4.out (cb q8 HB) r0.out (cb g9 HB) h0.out (cb g8 HB) o8.out A5.out).mono ?_); rintro e V3 ⟨rfl, hb⟩; refine ⟨_, rfl, ?_⟩; replace a0 := bkb a0 hb; replace a4 := bkb a4 hb; replace a1 := bkb a1 hb; replace HB := bstep HB hb; clear hb; obtain ⟨A8, A7, x7, x6⟩ := cz2 a1))
  refine bodyPost_ret (results_ct rfl _ _ b4 46 #[.slice none 0 0, .slice none 0 0] (0, 0) _ rfl (by (with_reducible repeat (first | refine dN ?_ _ | refine dR ?_ | refine dA ?_ _)); refine blk_put (cs := #[.slice none 0 0, .slice none 0 0]) ?_ 1 _ rfl; refine blk_put (cs := #[.slice none 0 0, .slice none 0 0]) ?_ 0 _ rfl; (with_reducible repeat (first | refine dN ?_ _ | refine dR ?_ | refine dA ?_ _)); exact a1.out) Tryz.underlying46 rfl (by kernel_rfl)) rfl ?_
  exact ⟨_, _, erf, by first | exact Kd.R_nil _ _ _ _ _ | exact Kd.N_nil _ _ _ _ _ | exact Kd.V_nil _ _ _ _ _ | exact Kd.Q_nil _ _ _ _ _ | exact Kd.S_nil _ _ _ _ _, by first | exact Kd.R_nil _ _ _ _ _ | exact Kd.N_nil _ _ _ _ _ | exact Kd.V_nil _ _ _ _ _ | exact Kd.Q_nil _ _ _ _ _ | exact Kd.S_nil _ _ _ _ _, bb HB⟩
 rw [if_pos c6] at H
 have t9 := beq_iff_eq.mpr c6
 have t8 := bne_eq_false_iff_eq.mpr c6
 clear c6
 have v3 := Aside0.mk H
 clear H
 go_enter Tryz.func33, Tryz.ntmps33
 go_upto_region 4 with (first | ((with_reducible refine gate_dst (N := 4) rfl ?_); refine be 4 #[.slice d9 c1.length d7, .slice d8 c3.length d6] 31 ?_; intro e1 hg w8 hbox hb; have a0 := Aside0.mk (hbox); have v6 := bsz HB hg; replace HB := bstep HB hb; clear hb hbox hg) | ((with_reducible refine gate_dst (N := 5) rfl ?_); refine be 5 #[.slice c9 a9.length c8, .slice d5 a7.length d4] 46 ?_; intro e0 hg w9 hbox hb; have a4 := Aside0.mk (hbox); have v5 := bsz HB hg; replace HB := bstep HB hb; have b6 := blt a0 hg; have b5 := bgt a0 hg; replace a0 := bkb a0 hb; clear hb hbox hg) | ((with_reducible refine gate_dst (N := 8) rfl ?_); refine be 8 #[.slice none 0 0, .slice none 0 0] 46 ?_; intro b4 hg W3 hbox hb; have a1 := Aside0.mk (hbox); have v4 := bsz HB hg; replace HB := bstep HB hb; have b3 := blt a0 hg; have b2 := bgt a0 hg; replace a0 := bkb a0 hb; have b1 := blt a4 hg; have b0 := bgt a4 hg; replace a4 := bkb a4 hb; clear hb hbox hg; have V0 := b6.out; have P9 := b5.out; have U9 := b3.out; have P8 := b2.out; obtain ⟨t4, t3, s4, s3⟩ := cz2 a0; have U8 := b1.out; have P7 := b0.out; obtain ⟨t2, t1, s2, s1⟩ := cz2 a4) | ((with_reducible refine gate_callee (f := 30) rfl ?_); refine gl 17 Tryz.func30 #[.agg #[.slice d9 c1.length d7, .slice d8 c3.length d6], .agg #[.slice c9 a9.length c8, .slice d5 a7.length d4]] (h := ?_); (with_reducible refine (scarfjointref18_Valid.calls _ _ _ _ _ _ _ _ _ _ _ _ _ _ _ (cb q9 HB) r4.out (cb q8 HB) r0.out (cb g9 HB) h0.out (cb g8 HB) o8.out A5.out).mono ?_); rintro e W2 ⟨rfl, hb⟩; refine ⟨_, rfl, ?_⟩; replace a0 := bkb a0 hb; replace a4 := bkb a4 hb; replace a1 := bkb a1 hb; replace HB := bstep HB hb; clear hb))
 (try simp only [Act.put, List.setIfInBounds_toArray, List.set_cons_zero, List.set_cons_succ])
 go_cut [35] (fun I2 wc => ∃ (kq : Nat) (m1 : Bool), I2 = .bool m1 ∧ Aside0 (scarfjointref18_Node.j0 kq a2 a3 m1 a9 a7 = some (r1, r2, r3)) ∧ Aside0 (kq ≤ k) ∧ Aside0 (wc.heap[e1]? = some (.cells #[(.slice d9 c1.length d7), (.slice d8 c3.length d6)] 31 (0, 0))) ∧ Aside0 (wc.heap[e0]? = some (.cells #[(.slice c9 a9.length c8), (.slice d5 a7.length d4)] 46 (0, 0))) ∧ Aside0 (wc.heap[b4]? = some (.cells #[(.slice none 0 0), (.slice none 0 0)] 46 (0, 0))) ∧ Aside0 (Below w.heap.size w wc))
 case first =>
  have H := v3.out
  clear v3
  obtain ⟨j3, M5, H⟩ := obA H
  by_cases q7 : j3 = true
  subst q7
  replace H := ift H
  by_cases n1 : a3 = 1
  rw [if_pos n1] at H
  have j9 := beq_iff_eq.mpr n1
  have w6 := bne_eq_false_iff_eq.mpr n1
  clear n1
  (first | rw [j9] | (simp only [i64_w, i32_w]; rw [j9]) | skip)
  have H' := Aside0.mk H
  clear H
  rotate_left
  rw [if_neg n1] at H
  have j9 := beq_eq_false_iff_ne.mpr n1
  have w6 := bne_iff_ne.mpr n1
  (first | rw [j9] | (simp only [i64_w, i32_w]; rw [j9]) | skip)
  have H' := Aside0.mk H
  clear H
  rotate_left
  replace q7 := Bool.eq_false_iff.mpr q7
  subst q7
  replace H := iff_ H
  have H' := Aside0.mk H
  clear H
  all_goals
   have U7 := b6.out
   have P6 := b5.out
   have U6 := b3.out
   have P5 := b2.out
   obtain ⟨H4, H3, F6, F5⟩ := cz2 a0
   go_wp2_with (first | ((with_reducible refine gate_callee (f := 60) rfl ?_); refine gl 26 Tryz.func60 #[.int .i64 a2, .int .i64 (c1.length : Int)] (h := ?_); (with_reducible refine (scarfjointref18_is.calls _ _ _ _ M5.out).mono ?_); rintro e w' ⟨rfl, ⟨nd, rfl⟩⟩; refine ⟨_, rfl, ?_⟩))
   go_meet
   case rel => exact ⟨_, _, eqs, H', ⟨by first | omega | exact Nat.le_refl _⟩, ⟨bk a0⟩, ⟨bk a4⟩, ⟨bk a1⟩, ⟨bb HB⟩⟩
 case rest =>
  clear v3
  try clear t9 t8 t4 t3 t2 t1 s4 s3 s2 s1
  obtain ⟨kq, m1, rfl, HA, o2, a0, a4, a1, HB⟩ := hcut
  cases kq with
  | zero => exact absurd HA.out (by simp [scarfjointref18_Node.j0])
  | succ I4 =>
   have H := HA.out
   clear HA
   simp only [scarfjointref18_Node.j0] at H
   by_cases p1 : m1 = true
   ·subst p1
    replace H := ift H
    simp only [Option.some.injEq, Prod.mk.injEq] at H
    obtain ⟨rfl, rfl, rfl⟩ := H
    have U5 := b2.out
    have P4 := b3.out
    have U4 := b0.out
    have P3 := b1.out
    obtain ⟨H2, H1, F4, F3⟩ := cz2 a1
    go_wp2
    refine bodyPost_ret (results_ct rfl _ _ b4 46 #[.slice none 0 0, .slice none 0 0] (0, 0) _ rfl (by (with_reducible repeat (first | refine dN ?_ _ | refine dR ?_ | refine dA ?_ _)); refine blk_put (cs := #[.slice none 0 0, .slice none 0 0]) ?_ 1 _ rfl; refine blk_put (cs := #[.slice none 0 0, .slice none 0 0]) ?_ 0 _ rfl; (with_reducible repeat (first | refine dN ?_ _ | refine dR ?_ | refine dA ?_ _)); exact a1.out) Tryz.underlying46 rfl (by kernel_rfl)) rfl ?_
    exact ⟨_, _, erf, by first | exact Kd.R_nil _ _ _ _ _ | exact Kd.N_nil _ _ _ _ _ | exact Kd.V_nil _ _ _ _ _ | exact Kd.Q_nil _ _ _ _ _ | exact Kd.S_nil _ _ _ _ _, by first | exact Kd.R_nil _ _ _ _ _ | exact Kd.N_nil _ _ _ _ _ | exact Kd.V_nil _ _ _ _ _ | exact Kd.Q_nil _ _ _ _ _ | exact Kd.S_nil _ _ _ _ _, bb HB⟩
   replace p1 := Bool.eq_false_iff.mpr p1
   subst p1
   replace H := iff_ H
   obtain ⟨g2, M4, H⟩ := obA H
   have p7 := Aside0.mk H
   clear H
   go_upto_region 8 with (first | ((with_reducible refine gate_dst (N := 11) rfl ?_); refine be 11 #[.int .i64 0, .int .i64 0, .int .i64 0, .int .i64 0] 75 ?_; intro d3 hg W1 hbox hb; have a5 := Aside0.mk (hbox); have M2 := bsz HB hg; replace HB := bstep HB hb; have h5 := blt a0 hg; have h3 := bgt a0 hg; replace a0 := bkb a0 hb; have d1 := blt a4 hg; have d0 := bgt a4 hg; replace a4 := bkb a4 hb; have c5 := blt a1 hg; have c4 := bgt a1 hg; replace a1 := bkb a1 hb; clear hb hbox hg; have U3 := h3.out; have P2 := h5.out; have U2 := d0.out; have P1 := d1.out; have U1 := c4.out; have P0 := c5.out; obtain ⟨t0, s9, s8, s7, s0, r9, r8, r7⟩ := cz4 a5; have U0 := b5.out; have O9 := b6.out; have R9 := b1.out; have O8 := b0.out; obtain ⟨s6, s5, r6, r5⟩ := cz2 a4) | ((with_reducible refine gate_callee (f := 66) rfl ?_); refine gl 42 Tryz.func66 #[.slice c9 a9.length c8, .agg #[.int .i64 a2, .int .i64 0, .int .i64 0, .int .i64 0]] (h := ?_); (with_reducible refine (scarfjointref18_number.calls _ _ _ _ _ _ _ _ _ _ (Kd.C_below g9.out (bb HB)) h0.out M4.out).mono ?_); rintro e W0 ⟨rfl, hb⟩; refine ⟨_, rfl, ?_⟩; replace a0 := Aside0.mk (blk_below (g := e1) (o := .cells #[.slice d9 c1.length d7, .slice d8 c3.length d6] 31 (0, 0)) (bkF a0) hb); replace a4 := Aside0.mk (blk_below (g := e0) (o := .cells #[.slice c9 a9.length c8, .slice d5 a7.length d4] 46 (0, 0)) (bkF a4) hb); replace a1 := Aside0.mk (blk_below (g := b4) (o := .cells #[.slice none 0 0, .slice none 0 0] 46 (0, 0)) (bkF a1) hb); replace a5 := Aside0.mk (blk_below (g := d3) (o := .cells #[.int .i64 a2, .int .i64 0, .int .i64 0, .int .i64 0] 75 (0, 0)) (bkP a5) hb); replace HB := bstep HB hb; clear hb))
   (try simp only [Act.put, List.setIfInBounds_toArray, List.set_cons_zero, List.set_cons_succ])
   go_cut [50] (fun I1 wc => ∃ (kq : Nat) (h8 : Bool), I1 = .bool h8 ∧ Aside0 (scarfjointref18_Node.j1 kq a2 a3 g2 h8 a9 a7 a2 0 0 0 = some (r1, r2, r3)) ∧ Aside0 (kq ≤ I4) ∧ Aside0 (wc.heap[e1]? = some (.cells #[(.slice d9 c1.length d7), (.slice d8 c3.length d6)] 31 (0, 0))) ∧ Aside0 (wc.heap[e0]? = some (.cells #[(.slice c9 a9.length c8), (.slice d5 a7.length d4)] 46 (0, 0))) ∧ Aside0 (wc.heap[b4]? = some (.cells #[(.slice none 0 0), (.slice none 0 0)] 46 (0, 0))) ∧ Aside0 (wc.heap[d3]? = some (.cells #[.int .i64 a2, .int .i64 0, .int .i64 0, .int .i64 0] 75 (0, 0))) ∧ Aside0 (Below w.heap.size w wc))
   case first =>
    have H := p7.out
    clear p7
    by_cases n0 : a3 = 1
    rotate_left
    ·rw [if_neg n0] at H
     have j8 := beq_eq_false_iff_ne.mpr n0
     have w5 := bne_iff_ne.mpr n0
     (first | rw [j8] | (simp only [i64_w, i32_w]; rw [j8]) | skip)
     have H' := Aside0.mk H
     clear H
     go_wp2
     go_meet
     case rel => exact ⟨_, (false), eqs, H', ⟨by have := o2.out; first | omega | exact Nat.le_refl _⟩, ⟨bk a0⟩, ⟨bk a4⟩, ⟨bk a1⟩, ⟨bk a5⟩, ⟨bb HB⟩⟩
    rw [if_pos n0] at H
    have j8 := beq_iff_eq.mpr n0
    have w5 := bne_eq_false_iff_eq.mpr n0
    clear n0
    (first | rw [j8] | (simp only [i64_w, i32_w]; rw [j8]) | skip)
    obtain ⟨o3, M3, H⟩ := obA H
    have H' := Aside0.mk H
    clear H
    have R8 := b5.out
    have O7 := b6.out
    have R7 := b1.out
    have O6 := b0.out
    have R6 := d1.out
    have O5 := d0.out
    obtain ⟨H0, G9, F2, F1⟩ := cz2 a4
    go_wp2_with (first | (go_at_call 64; (with_reducible refine (scarfjointref18_total.calls _ _ _ _ _ _ (cb g9 HB) h0.out M3.out).mono ?_); rintro e w' ⟨rfl, ⟨nd, rfl⟩⟩))
    go_meet
    case rel => exact ⟨_, ((o3 == 40)), eqs, H', ⟨by have := o2.out; first | omega | exact Nat.le_refl _⟩, ⟨bk a0⟩, ⟨bk a4⟩, ⟨bk a1⟩, ⟨bk a5⟩, ⟨bb HB⟩⟩
   case rest =>
    clear p7
    try clear p1 t0 s9 s8 s7 s6 s5 s0 r9 r8 r7 r6 r5
    obtain ⟨kq, h8, rfl, HA, o7, a0, a4, a1, a5, HB⟩ := hcut
    cases kq with
    | zero => exact absurd HA.out (by simp [scarfjointref18_Node.j1])
    | succ x5 =>
     have H := HA.out
     clear HA
     simp only [scarfjointref18_Node.j1] at H
     by_cases p0 : h8 = true
     ·subst p0
      replace H := ift H
      simp only [Option.some.injEq, Prod.mk.injEq] at H
      obtain ⟨rfl, rfl, rfl⟩ := H
      have R5 := b2.out
      have O4 := b3.out
      have R4 := b0.out
      have O3 := b1.out
      have R3 := c5.out
      have O2 := c4.out
      obtain ⟨G8, G7, F0, E9⟩ := cz2 a1
      go_wp2
      refine bodyPost_ret (results_ct rfl _ _ b4 46 #[.slice none 0 0, .slice none 0 0] (0, 0) _ rfl (by (with_reducible repeat (first | refine dN ?_ _ | refine dR ?_ | refine dA ?_ _)); refine blk_put (cs := #[.slice none 0 0, .slice none 0 0]) ?_ 1 _ rfl; refine blk_put (cs := #[.slice none 0 0, .slice none 0 0]) ?_ 0 _ rfl; (with_reducible repeat (first | refine dN ?_ _ | refine dR ?_ | refine dA ?_ _)); exact a1.out) Tryz.underlying46 rfl (by kernel_rfl)) rfl ?_
      exact ⟨_, _, erf, by first | exact Kd.R_nil _ _ _ _ _ | exact Kd.N_nil _ _ _ _ _ | exact Kd.V_nil _ _ _ _ _ | exact Kd.Q_nil _ _ _ _ _ | exact Kd.S_nil _ _ _ _ _, by first | exact Kd.R_nil _ _ _ _ _ | exact Kd.N_nil _ _ _ _ _ | exact Kd.V_nil _ _ _ _ _ | exact Kd.Q_nil _ _ _ _ _ | exact Kd.S_nil _ _ _ _ _, bb HB⟩
     replace p0 := Bool.eq_false_iff.mpr p0
     subst p0
     replace H := iff_ H
     have p6 := Aside0.mk H
     clear H
     go_upto_region 10 with (fail)
     go_cut [57] (fun I0 wc => ∃ (kq : Nat) (h7 : Bool), I0 = .bool h7 ∧ Aside0 (scarfjointref18_Node.j2 kq a2 a3 g2 h7 a9 a7 a2 0 0 0 = some (r1, r2, r3)) ∧ Aside0 (kq ≤ x5) ∧ Aside0 (wc.heap[e1]? = some (.cells #[(.slice d9 c1.length d7), (.slice d8 c3.length d6)] 31 (0, 0))) ∧ Aside0 (wc.heap[e0]? = some (.cells #[(.slice c9 a9.length c8), (.slice d5 a7.length d4)] 46 (0, 0))) ∧ Aside0 (wc.heap[b4]? = some (.cells #[(.slice none 0 0), (.slice none 0 0)] 46 (0, 0))) ∧ Aside0 (wc.heap[d3]? = some (.cells #[.int .i64 a2, .int .i64 0, .int .i64 0, .int .i64 0] 75 (0, 0))) ∧ Aside0 (Below w.heap.size w wc))
     case first =>
      have H := p6.out
      clear p6
      by_cases m9 : a3 = (-1)
      rw [if_pos m9] at H
      have j7 := beq_iff_eq.mpr m9
      have w4 := bne_eq_false_iff_eq.mpr m9
      clear m9
      (first | rw [j7] | (simp only [i64_w, i32_w]; rw [j7]) | skip)
      have H' := Aside0.mk H
      clear H
      rotate_left
      rw [if_neg m9] at H
      have j7 := beq_eq_false_iff_ne.mpr m9
      have w4 := bne_iff_ne.mpr m9
      (first | rw [j7] | (simp only [i64_w, i32_w]; rw [j7]) | skip)
      have H' := Aside0.mk H
      clear H
      all_goals
       go_wp2
       go_meet
       case rel => exact ⟨_, _, eqs, H', ⟨by have := o2.out; have := o7.out; first | omega | exact Nat.le_refl _⟩, ⟨bk a0⟩, ⟨bk a4⟩, ⟨bk a1⟩, ⟨bk a5⟩, ⟨bb HB⟩⟩
     case rest =>
      clear p6
      try clear p0
      obtain ⟨kq, h7, rfl, HA, p4, a0, a4, a1, a5, HB⟩ := hcut
      cases kq with
      | zero => exact absurd HA.out (by simp [scarfjointref18_Node.j2])
      | succ t7 =>
       have H := HA.out
       clear HA
       simp only [scarfjointref18_Node.j2] at H
       by_cases o9 : h7 = true
       ·subst o9
        replace H := ift H
        simp only [Option.some.injEq, Prod.mk.injEq] at H
        obtain ⟨rfl, rfl, rfl⟩ := H
        have R2 := b2.out
        have O1 := b3.out
        have R1 := b0.out
        have O0 := b1.out
        have R0 := c5.out
        have N9 := c4.out
        obtain ⟨G6, G5, E8, E7⟩ := cz2 a1
        go_wp2
        refine bodyPost_ret (results_ct rfl _ _ b4 46 #[.slice none 0 0, .slice none 0 0] (0, 0) _ rfl (by (with_reducible repeat (first | refine dN ?_ _ | refine dR ?_ | refine dA ?_ _)); refine blk_put (cs := #[.slice none 0 0, .slice none 0 0]) ?_ 1 _ rfl; refine blk_put (cs := #[.slice none 0 0, .slice none 0 0]) ?_ 0 _ rfl; (with_reducible repeat (first | refine dN ?_ _ | refine dR ?_ | refine dA ?_ _)); exact a1.out) Tryz.underlying46 rfl (by kernel_rfl)) rfl ?_
        exact ⟨_, _, erf, by first | exact Kd.R_nil _ _ _ _ _ | exact Kd.N_nil _ _ _ _ _ | exact Kd.V_nil _ _ _ _ _ | exact Kd.Q_nil _ _ _ _ _ | exact Kd.S_nil _ _ _ _ _, by first | exact Kd.R_nil _ _ _ _ _ | exact Kd.N_nil _ _ _ _ _ | exact Kd.V_nil _ _ _ _ _ | exact Kd.Q_nil _ _ _ _ _ | exact Kd.S_nil _ _ _ _ _, bb HB⟩
       replace o9 := Bool.eq_false_iff.mpr o9
       subst o9
       replace H := iff_ H
       have H' := Aside0.mk H
       clear H
       go_wp2
       go_loopg [13] t7 (fun kq I3 w' => ∃ (c2 : Int), I3 = .int .i64 c2 ∧ Aside0 (scarfjointref18_Node.l0 kq a2 a3 g2 c2 a9 a7 a2 0 0 0 = some (r1, r2, r3)) ∧ Aside0 (kq ≤ t7) ∧ Aside0 (w'.heap[e1]? = some (.cells #[(.slice d9 c1.length d7), (.slice d8 c3.length d6)] 31 (0, 0))) ∧ Aside0 (w'.heap[e0]? = some (.cells #[(.slice c9 a9.length c8), (.slice d5 a7.length d4)] 46 (0, 0))) ∧ Aside0 (w'.heap[b4]? = some (.cells #[(.slice none 0 0), (.slice none 0 0)] 46 (0, 0))) ∧ Aside0 (w'.heap[d3]? = some (.cells #[.int .i64 a2, .int .i64 0, .int .i64 0, .int .i64 0] 75 (0, 0))) ∧ Aside0 (Below w.heap.size w w'))
       case atStart => exact ⟨(0), eqs, H', ⟨Nat.le_refl _⟩, ⟨bk a0⟩, ⟨bk a4⟩, ⟨bk a1⟩, ⟨bk a5⟩, ⟨bb HB⟩⟩
       case round =>
        clear H'
        try clear o9
        obtain ⟨c2, rfl, HA, v1, a0, a4, a1, a5, HB⟩ := hrel
        cases gk with
        | zero => exact absurd HA.out (by simp [scarfjointref18_Node.l0])
        | succ k4 =>
         have H := HA.out
         clear HA
         simp only [scarfjointref18_Node.l0] at H
         have p5 := Aside0.mk H
         clear H
         go_upto_region 13 with (fail)
         go_cut [71] (fun H9 wc => ∃ (kq : Nat) (h6 : Bool), H9 = .bool h6 ∧ Aside0 (scarfjointref18_Node.j4 kq a2 a3 g2 c2 h6 a9 a7 a2 0 0 0 = some (r1, r2, r3)) ∧ Aside0 (kq ≤ k4) ∧ Aside0 (wc.heap[e1]? = some (.cells #[(.slice d9 c1.length d7), (.slice d8 c3.length d6)] 31 (0, 0))) ∧ Aside0 (wc.heap[e0]? = some (.cells #[(.slice c9 a9.length c8), (.slice d5 a7.length d4)] 46 (0, 0))) ∧ Aside0 (wc.heap[b4]? = some (.cells #[(.slice none 0 0), (.slice none 0 0)] 46 (0, 0))) ∧ Aside0 (wc.heap[d3]? = some (.cells #[.int .i64 a2, .int .i64 0, .int .i64 0, .int .i64 0] 75 (0, 0))) ∧ Aside0 (Below w.heap.size w wc))
         case first =>
          have H := p5.out
          clear p5
          by_cases o1 : c2 < (a7.length : Int)
          rw [if_pos o1] at H
          have j6 := decide_eq_true o1
          clear o1
          (first | rw [j6] | (simp only [i64_w, i32_w]; rw [j6]) | skip)
          by_cases m8 : a3 = (-1)
          rw [if_pos m8] at H
          have w3 := beq_iff_eq.mpr m8
          have w2 := bne_eq_false_iff_eq.mpr m8
          clear m8
          have H' := Aside0.mk H
          clear H
          rotate_left
          rw [if_neg m8] at H
          have w3 := beq_eq_false_iff_ne.mpr m8
          have w2 := bne_iff_ne.mpr m8
          have H' := Aside0.mk H
          clear H
          rotate_left
          rw [if_neg o1] at H
          have j6 := decide_eq_false o1
          clear o1
          (first | rw [j6] | (simp only [i64_w, i32_w]; rw [j6]) | skip)
          have H' := Aside0.mk H
          clear H
          all_goals
           have Q9 := b5.out
           have N8 := b6.out
           have Q8 := b1.out
           have N7 := b0.out
           have Q7 := d1.out
           have N6 := d0.out
           obtain ⟨G4, G3, E6, E5⟩ := cz2 a4
           go_wp2
           go_meet
           case rel => exact ⟨_, _, eqs, H', ⟨by have := o2.out; have := o7.out; have := p4.out; have := v1.out; first | omega | exact Nat.le_refl _⟩, ⟨bk a0⟩, ⟨bk a4⟩, ⟨bk a1⟩, ⟨bk a5⟩, ⟨bb HB⟩⟩
         case rest =>
          clear p5
          obtain ⟨kq, h6, rfl, HA, v2, a0, a4, a1, a5, HB⟩ := hcut
          cases kq with
          | zero => exact absurd HA.out (by simp [scarfjointref18_Node.j4])
          | succ x4 =>
           have H := HA.out
           clear HA
           simp only [scarfjointref18_Node.j4] at H
           by_cases q6 : h6 = true
           rotate_left
           ·replace q6 := Bool.eq_false_iff.mpr q6
            subst q6
            replace H := iff_ H
            obtain ⟨⟨h9, e8⟩, D8, H⟩ := obA H
            try dsimp only at H
            obtain ⟨e7, D7, H⟩ := obA H
            simp only [Option.some.injEq, Prod.mk.injEq] at H
            obtain ⟨rfl, rfl, rfl⟩ := H
            have M0 := b5.out
            have J7 := b6.out
            have L9 := b1.out
            have J6 := b0.out
            have L8 := d1.out
            have J5 := d0.out
            obtain ⟨D6, D5, A6, A4⟩ := cz2 a4
            go_wp2_with (first | ((with_reducible refine gate_callee (f := 26) rfl ?_); refine gl 94 Tryz.func26 #[.agg #[.slice c9 a9.length c8, .slice d5 a7.length d4]] (h := ?_); (with_reducible refine (scarfjointref18_Copied.calls _ _ _ _ _ _ _ _ _ (cb g9 HB) h0.out (cb g8 HB) o8.out D8.out).mono ?_); rintro e V9 ⟨M8, M7, rfl, o0, w7, hb⟩; refine ⟨_, rfl, ?_⟩; have g1 := Aside0.mk (Kd.R_lower (Kd.R_newB o0 (g := d3) (o := .cells #[.int .i64 a2, .int .i64 0, .int .i64 0, .int .i64 0] 75 (0, 0)) (bk a5)) (below_size (bb HB))); have e6 := Aside0.mk (Kd.R_lower (Kd.R_newB w7 (g := d3) (o := .cells #[.int .i64 a2, .int .i64 0, .int .i64 0, .int .i64 0] 75 (0, 0)) (bk a5)) (below_size (bb HB))); replace a0 := bkb a0 hb; replace a4 := bkb a4 hb; replace a1 := bkb a1 hb; replace a5 := bkb a5 hb; replace HB := bstep HB hb; clear hb o0 w7) | ((with_reducible refine gate_dst (N := 14) rfl ?_); refine be 14 #[.slice none 0 0, .slice none 0 0] 46 ?_; intro c7 hg V8 hbox hb; replace g1 := kRb g1 hb; replace e6 := kRb e6 hb; have d2 := Aside0.mk (hbox); have M1 := bsz HB hg; replace HB := bstep HB hb; have n9 := blt a0 hg; have n6 := bgt a0 hg; replace a0 := bkb a0 hb; have n8 := blt a4 hg; have n5 := bgt a4 hg; replace a4 := bkb a4 hb; have h4 := blt a1 hg; have n4 := bgt a1 hg; replace a1 := bkb a1 hb; have n7 := blt a5 hg; have n3 := bgt a5 hg; replace a5 := bkb a5 hb; clear hb hbox hg; obtain ⟨m0, j5, eo108⟩ := Kd.R_slice g1.out; subst eo108; have L7 := n6.out; have J4 := n9.out; have L6 := n5.out; have J3 := n8.out; have L5 := n4.out; have J2 := h4.out; have L4 := n3.out; have J1 := n7.out; obtain ⟨D4, D3, A3, A2⟩ := cz2 d2; obtain ⟨g0, e9, eo114⟩ := Kd.R_slice e6.out; subst eo114; obtain ⟨D2, D1, A1, A0⟩ := cz2 a4; have L3 := h3.out; have J0 := h5.out; have L2 := c4.out; have I9 := c5.out; obtain ⟨D0, C9, C8, C7, y9, y8, y7, y6⟩ := cz4 a5) | ((with_reducible refine gate_callee (f := 56) rfl ?_); refine gl 99 Tryz.func56 #[.slice c9 a9.length c8, .agg #[.int .i64 a2, .int .i64 0, .int .i64 0, .int .i64 0], .int .i64 a3] (h := ?_); (with_reducible refine (scarfjointref18_change.calls _ _ _ _ _ _ _ _ _ _ _ (Kd.C_below g9.out (bb HB)) h0.out D7.out).mono ?_); rintro e V7 ⟨M6, rfl, o0, hb⟩; refine ⟨_, rfl, ?_⟩; have p3 := Aside0.mk (Kd.R_lower (Kd.R_newB (Kd.R_new' (Kd.R_new' o0 (Kd.R_lt (by (with_reducible repeat (first | apply Kd.R_alloc | apply Kd.R_drewN | apply Kd.R_drew)); exact (Kd.R_mono (Kd.R_far (p := ⟨c7, 1, none⟩) (Kd.R_far (p := ⟨c7, 0, none⟩) (Kd.R_types g1.out d2.out (by decide)) (fun _ hk => hk.2) (.slice m0 h9.length j5)) (fun _ hk => hk.2) (.slice g0 e8.length e9)) (fun _ h_ => h_.1))))) (Kd.R_lt (by (with_reducible repeat (first | apply Kd.R_alloc | apply Kd.R_drewN | apply Kd.R_drew)); exact (Kd.R_mono (Kd.R_far (p := ⟨c7, 1, none⟩) (Kd.R_far (p := ⟨c7, 0, none⟩) (Kd.R_types e6.out d2.out (by decide)) (fun _ hk => hk.2) (.slice m0 h9.length j5)) (fun _ hk => hk.2) (.slice g0 e8.length e9)) (fun _ h_ => h_.1))))) (g := d3) (o := .cells #[.int .i64 a2, .int .i64 0, .int .i64 0, .int .i64 0] 75 (0, 0)) (bkF a5)) (below_size (bb HB))); replace g1 := Aside0.mk (Kd.R_elder' (by (with_reducible repeat (first | apply Kd.R_alloc | apply Kd.R_drewN | apply Kd.R_drew)); exact (Kd.R_mono (Kd.R_far (p := ⟨c7, 1, none⟩) (Kd.R_far (p := ⟨c7, 0, none⟩) (Kd.R_types g1.out d2.out (by decide)) (fun _ hk => hk.2) (.slice m0 h9.length j5)) (fun _ hk => hk.2) (.slice g0 e8.length e9)) (fun _ h_ => h_.1))) (Kd.R_base o0) hb); replace e6 := Aside0.mk (Kd.R_elder' (by (with_reducible repeat (first | apply Kd.R_alloc | apply Kd.R_drewN | apply Kd.R_drew)); exact (Kd.R_mono (Kd.R_far (p := ⟨c7, 1, none⟩) (Kd.R_far (p := ⟨c7, 0, none⟩) (Kd.R_types e6.out d2.out (by decide)) (fun _ hk => hk.2) (.slice m0 h9.length j5)) (fun _ hk => hk.2) (.slice g0 e8.length e9)) (fun _ h_ => h_.1))) (Kd.R_base o0) hb); replace a0 := Aside0.mk (blk_below (g := e1) (o := .cells #[.slice d9 c1.length d7, .slice d8 c3.length d6] 31 (0, 0)) (bkF a0) hb); replace a4 := Aside0.mk (blk_below (g := e0) (o := .cells #[.slice c9 a9.length c8, .slice d5 a7.length d4] 46 (0, 0)) (bkF a4) hb); replace a1 := Aside0.mk (blk_below (g := b4) (o := .cells #[.slice none 0 0, .slice none 0 0] 46 (0, 0)) (bkF a1) hb); replace a5 := Aside0.mk (blk_below (g := d3) (o := .cells #[.int .i64 a2, .int .i64 0, .int .i64 0, .int .i64 0] 75 (0, 0)) (bkF a5) hb); replace d2 := Aside0.mk (blk_below (g := c7) (o := .cells #[.slice m0 h9.length j5, .slice g0 e8.length e9] 46 (0, 0)) (bkP d2) hb); replace HB := bstep HB hb; obtain ⟨h1, g7, eo120⟩ := Kd.R_slice p3.out; subst eo120; obtain ⟨C6, C5, y5, y4⟩ := cz2 d2; have L1 := b2.out; have I8 := b3.out; obtain ⟨C4, C3, y3, y2⟩ := cz2 a1))
            refine bodyPost_ret (results_ct rfl _ _ b4 46 #[.slice h1 e7.length g7, .slice g0 e8.length e9] (0, 0) _ rfl (by (with_reducible repeat (first | refine dN ?_ _ | refine dR ?_ | refine dA ?_ _)); refine blk_put (cs := #[.slice h1 e7.length g7, .slice none 0 0]) ?_ 1 _ rfl; refine blk_put (cs := #[.slice none 0 0, .slice none 0 0]) ?_ 0 _ rfl; (with_reducible repeat (first | refine dN ?_ _ | refine dR ?_ | refine dA ?_ _)); refine blk_far ?_ h4.out _; (with_reducible repeat (first | refine dN ?_ _ | refine dR ?_ | refine dA ?_ _)); exact a1.out) Tryz.underlying46 rfl (by kernel_rfl)) rfl ?_
            exact ⟨_, _, erf, by (with_reducible repeat (first | apply Kd.R_alloc | apply Kd.R_drewN | apply Kd.R_drew)); exact Kd.R_mono (Kd.R_far (p := ⟨b4, 1, none⟩) (Kd.R_far (p := ⟨b4, 0, none⟩) (Kd.R_far (p := ⟨c7, 0, none⟩) (Kd.R_types (Kd.R_types p3.out d2.out (by decide)) a1.out (by decide)) (fun _ hk => hk.1.2) (.slice h1 e7.length g7)) (fun _ hk => hk.2) (.slice h1 e7.length g7)) (fun _ hk => hk.2) (.slice g0 e8.length e9)) (fun _ hk => hk.1.1.1.2), by (with_reducible repeat (first | apply Kd.R_alloc | apply Kd.R_drewN | apply Kd.R_drew)); exact Kd.R_mono (Kd.R_far (p := ⟨b4, 1, none⟩) (Kd.R_far (p := ⟨b4, 0, none⟩) (Kd.R_far (p := ⟨c7, 0, none⟩) (Kd.R_types (Kd.R_types e6.out d2.out (by decide)) a1.out (by decide)) (fun _ hk => hk.1.2) (.slice h1 e7.length g7)) (fun _ hk => hk.2) (.slice h1 e7.length g7)) (fun _ hk => hk.2) (.slice g0 e8.length e9)) (fun _ hk => hk.1.1.2), bb HB⟩
           subst q6
           replace H := ift H
           obtain ⟨x1, H⟩ := itn H
           have V2 := decide_eq_true x1
           clear x1
           obtain ⟨x0, H⟩ := itn H
           have V1 := decide_eq_true x0
           clear x0
           by_cases m7 : ((rd_T75 a7 c2).f1) = a2
           rw [if_pos m7] at H
           have w1 := beq_iff_eq.mpr m7
           have w0 := bne_eq_false_iff_eq.mpr m7
           clear m7
           simp only [Option.some.injEq, Prod.mk.injEq] at H
           obtain ⟨rfl, rfl, rfl⟩ := H
           rotate_left
           rw [if_neg m7] at H
           have w1 := beq_eq_false_iff_ne.mpr m7
           have w0 := bne_iff_ne.mpr m7
           by_cases m6 : ((rd_T75 a7 c2).f2) = a2
           rw [if_pos m6] at H
           have v9 := beq_iff_eq.mpr m6
           have v8 := bne_eq_false_iff_eq.mpr m6
           clear m6
           simp only [Option.some.injEq, Prod.mk.injEq] at H
           obtain ⟨rfl, rfl, rfl⟩ := H
           rotate_left
           rw [if_neg m6] at H
           have v9 := beq_eq_false_iff_ne.mpr m6
           have v8 := bne_iff_ne.mpr m6
           have H' := Aside0.mk H
           clear H
           all_goals
            have Q6 := b5.out
            have N5 := b6.out
            have Q5 := b1.out
            have N4 := b0.out
            have Q4 := d1.out
            have N3 := d0.out
            obtain ⟨G2, G1, E4, E3⟩ := cz2 a4
            have o5 : 0 ≤ c2 := odt
            have o4 : c2 < (a7.length : Int) := odt
            obtain ⟨p2, v7, m5, m4, m3, m2⟩ := at_T75 g8.out c2 o5 o4
            cases v7
            replace m5 := hxc HB m5
            replace m4 := hxc HB m4
            replace m3 := hxc HB m3
            replace m2 := hxc HB m2
            replace o5 := eq_true o5
            replace o4 := eq_true o4
           ·have g5 : 0 ≤ c2 := odt
            have g4 : c2 < (a7.length : Int) := odt
            obtain ⟨n2, o6, e5, e4, e3, e2⟩ := at_T75 g8.out c2 g5 g4
            obtain rfl : p2 = n2 := (by injection o6)
            replace e5 := hxc HB e5
            replace e4 := hxc HB e4
            replace e3 := hxc HB e3
            replace e2 := hxc HB e2
            replace g5 := eq_true g5
            replace g4 := eq_true g4
            go_wp2
            go_roundg x4
            case measure => have := o2.out; have := o7.out; have := p4.out; have := v1.out; have := v2.out; omega
            case rel => exact ⟨(wrap64 (c2 + 1)), eqs, H', ⟨by have := o2.out; have := o7.out; have := p4.out; have := v1.out; have := v2.out; omega⟩, ⟨bk a0⟩, ⟨bk a4⟩, ⟨bk a1⟩, ⟨bk a5⟩, ⟨bb HB⟩⟩
           ·have Q3 := b2.out
            have N2 := b3.out
            have Q2 := c5.out
            have N1 := c4.out
            obtain ⟨G0, F9, E2, E1⟩ := cz2 a1
            go_wp2
            refine bodyPost_ret (results_ct rfl _ _ b4 46 #[.slice none 0 0, .slice none 0 0] (0, 0) _ rfl (by (with_reducible repeat (first | refine dN ?_ _ | refine dR ?_ | refine dA ?_ _)); refine blk_put (cs := #[.slice none 0 0, .slice none 0 0]) ?_ 1 _ rfl; refine blk_put (cs := #[.slice none 0 0, .slice none 0 0]) ?_ 0 _ rfl; (with_reducible repeat (first | refine dN ?_ _ | refine dR ?_ | refine dA ?_ _)); exact a1.out) Tryz.underlying46 rfl (by kernel_rfl)) rfl ?_
            exact ⟨_, _, erf, by first | exact Kd.R_nil _ _ _ _ _ | exact Kd.N_nil _ _ _ _ _ | exact Kd.V_nil _ _ _ _ _ | exact Kd.Q_nil _ _ _ _ _ | exact Kd.S_nil _ _ _ _ _, by first | exact Kd.R_nil _ _ _ _ _ | exact Kd.N_nil _ _ _ _ _ | exact Kd.V_nil _ _ _ _ _ | exact Kd.Q_nil _ _ _ _ _ | exact Kd.S_nil _ _ _ _ _, bb HB⟩
           ·have g5 : 0 ≤ c2 := odt
            have g4 : c2 < (a7.length : Int) := odt
            obtain ⟨n2, o6, e5, e4, e3, e2⟩ := at_T75 g8.out c2 g5 g4
            obtain rfl : p2 = n2 := (by injection o6)
            replace e5 := hxc HB e5
            replace e4 := hxc HB e4
            replace e3 := hxc HB e3
            replace e2 := hxc HB e2
            replace g5 := eq_true g5
            replace g4 := eq_true g4
            have Q1 := b2.out
            have N0 := b3.out
            have Q0 := c5.out
            have M9 := c4.out
            obtain ⟨F8, F7, E0, D9⟩ := cz2 a1
            go_wp2
            refine bodyPost_ret (results_ct rfl _ _ b4 46 #[.slice none 0 0, .slice none 0 0] (0, 0) _ rfl (by (with_reducible repeat (first | refine dN ?_ _ | refine dR ?_ | refine dA ?_ _)); refine blk_put (cs := #[.slice none 0 0, .slice none 0 0]) ?_ 1 _ rfl; refine blk_put (cs := #[.slice none 0 0, .slice none 0 0]) ?_ 0 _ rfl; (with_reducible repeat (first | refine dN ?_ _ | refine dR ?_ | refine dA ?_ _)); exact a1.out) Tryz.underlying46 rfl (by kernel_rfl)) rfl ?_
            exact ⟨_, _, erf, by first | exact Kd.R_nil _ _ _ _ _ | exact Kd.N_nil _ _ _ _ _ | exact Kd.V_nil _ _ _ _ _ | exact Kd.Q_nil _ _ _ _ _ | exact Kd.S_nil _ _ _ _ _, by first | exact Kd.R_nil _ _ _ _ _ | exact Kd.N_nil _ _ _ _ _ | exact Kd.V_nil _ _ _ _ _ | exact Kd.Q_nil _ _ _ _ _ | exact Kd.S_nil _ _ _ _ _, bb HB⟩
end Go.Proofs.YtfpianecohobjaaGreat.P
