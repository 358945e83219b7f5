/- StatisticOf: a part of its proof. No condition. -/
import Derived.Test.YtfpianecohobjaaVPx0
import Derived.Test.YtfpianecohobjaaVPx27
import Derived.Test.YtfpianecohobjaaVPx35
import Derived.Test.YtfpianecohobjaaVPx7
namespace Go.Proofs.Ytfpianecohobjaa.P
open Go.RowKit Go.Proofs.YtfpianecohobjaaW.PrintWords Go.Proofs.YtfpianecohobjaaW.PrintLast Go.Proofs.YtfpianecohobjaaW.PrintMore
set_option maxHeartbeats 8000000
set_option maxRecDepth 100000
set_option linter.unusedVariables false
set_option linter.unusedSimpArgs false
mutual
def statistic_typed.l0 : Nat → List Int → Int → Int → List (S68) → List (S71) → List Int → List (S39) → Option (Int)
 | 0, _, _, _, _, _, _, _ => none
 | k + 1, n9, q0, g8, b9, b8, b3, b7 => if g8 < q0 then (if 0 ≤ g8 then (if g8 < (n9.length : Int) then (if (rd n9 g8) ≥ (b9.length : Int) then (some 6) else (statistic_typed.l0 k n9 q0 (wrap64 (g8 + 1)) b9 b8 b3 b7)) else (none)) else (none)) else (statistic_typed.l1 k b7 (b7.length : Int) 0 b9 b8 b3 b7)
def statistic_typed.l1 : Nat → List (S39) → Int → Int → List (S68) → List (S71) → List Int → List (S39) → Option (Int)
 | 0, _, _, _, _, _, _, _ => none
 | k + 1, d8, p9, c9, b9, b8, b3, b7 => if c9 < p9 then (if 0 ≤ c9 then (if c9 < (d8.length : Int) then (if ((rd_T39 d8 c9).f0) ≥ (b8.length : Int) then (some 6) else (if 0 ≤ ((rd_T39 d8 c9).f1) then (if ((rd_T39 d8 c9).f1) < (b3.length : Int) then (if 0 ≤ ((rd_T39 d8 c9).f2) then (if ((rd_T39 d8 c9).f2) < (b3.length : Int) then ((types_Fits.f k b9 b8 ((rd_T39 d8 c9).f0) (rd b3 ((rd_T39 d8 c9).f1)) (rd b3 ((rd_T39 d8 c9).f2))).bind fun h0 => (if h0 = true then (statistic_typed.l1 k d8 p9 (wrap64 (c9 + 1)) b9 b8 b3 b7) else (some 13))) else (none)) else (none)) else (none)) else (none))) else (none)) else (none)) else (some 0)
end
def statistic_typed.f (k : Nat) (b1 : List (S68)) (b0 : List (S71)) (a8 : List Int) (a5 : List (S39)) : Option (Int) := (types_Valid.f k b1 b0).bind fun e5 => (if e5.2 = 0 then ((graph_Valid.f k a8 a5).bind fun d9 => (if d9 = 0 then (statistic_typed.l0 k a8 (a8.length : Int) 0 b1 b0 a8 a5) else (some d9))) else (some e5.2))
theorem statistic_typed.mono_l : ∀ k, (∀ y0 y1 y2 y3 y4 y5 y6, LeO (statistic_typed.l0 k y0 y1 y2 y3 y4 y5 y6) (statistic_typed.l0 (k + 1) y0 y1 y2 y3 y4 y5 y6)) ∧ (∀ y0 y1 y2 y3 y4 y5 y6, LeO (statistic_typed.l1 k y0 y1 y2 y3 y4 y5 y6) (statistic_typed.l1 (k + 1) y0 y1 y2 y3 y4 y5 y6))
 | 0 => by refine ⟨?_, ?_⟩ <;> (intros; intro r h; simp [statistic_typed.l0, statistic_typed.l1] at h)
 | k + 1 => by
  obtain ⟨ih0, ih1⟩ := statistic_typed.mono_l k
  refine ⟨?_, ?_⟩ <;> (intros; first | unfold statistic_typed.l0 | unfold statistic_typed.l1)
  all_goals with_reducible repeat' first | exact ih0 .. | exact ih1 .. | exact graph_Valid.mono .. | exact types_Fits.mono .. | exact types_Valid.mono .. | exact LeO.refl _ | exact LeO.none _ | refine LeO.ite ?_ ?_ | refine LeO.bind ?_ fun _ => ?_
theorem statistic_typed.mono : ∀ a0 a1 a2 a3 k, LeO (statistic_typed.f k a0 a1 a2 a3) (statistic_typed.f (k + 1) a0 a1 a2 a3) := by
 intro a0 a1 a2 a3 k
 obtain ⟨ih0, ih1⟩ := statistic_typed.mono_l k
 unfold statistic_typed.f
 with_reducible repeat' first | exact ih0 .. | exact ih1 .. | exact graph_Valid.mono .. | exact types_Fits.mono .. | exact types_Valid.mono .. | exact LeO.refl _ | exact LeO.none _ | refine LeO.ite ?_ ?_ | refine LeO.bind ?_ fun _ => ?_
def statistic_typed.T18 : Bool × List (List Nat × List Nat) := (true, [([], []), ([], []), ([1], [1]), ([], []), ([3], [3]), ([], []), ([5], [5]), ([4, 6], [4, 6]), ([7], [7]), ([], []), ([9], [9]), ([], []), ([11], [11]), ([10, 12], [10, 12]), ([13], [13]), ([0, 2, 8, 14], [0, 2, 8, 14]), ([15], [15])])
def statistic_typed.B18 : List Nat := [0, 0, 2, 0, 8, 0, 32, 120, 248, 0, 512, 0, 2048, 7680, 15872, 32767, 65535]
theorem statistic_typed.tab18 : rtab .any (opsOf Try.f55 18) = statistic_typed.T18 := by kernel_rfl
theorem statistic_typed.bits18 : waitsOk statistic_typed.T18.2 statistic_typed.B18 = true := by kernel_rfl
theorem statistic_typed.calls (k : Nat) (c8 : Option Addr) (c5 : Nat) (b1 : List (S68)) (c7 : Option Addr) (c3 : Nat) (b0 : List (S71)) (e2 : Option Addr) (d1 : Nat) (a8 : List Int) (e6 : Option Addr) (d0 : Nat) (a5 : List (S39)) (r : Int) (w : World) (j1 : Kd.C k68 w c8 b1.length b1) (j5 : b1.length ≤ c5) (j0 : Kd.C k71 w c7 b0.length b0) (j4 : b0.length ≤ c3) (h9 : Kd.C (Kd.int .i64) w e2 a8.length a8) (j3 : a8.length ≤ d1) (h8 : Kd.C k39 w e6 a5.length a5) (j2 : a5.length ≤ d0) (h : statistic_typed.f k b1 b0 a8 a5 = some r) :
  Calls Try.prog 55 #[.agg #[.slice c8 b1.length c5, .slice c7 b0.length c3], .agg #[.slice e2 a8.length d1, .slice e6 a5.length d0]] w fun e w' => e = .returned (.int .i64 r) ∧ Below w.heap.size w w' := by
 have hu25 := Try.underlying25
 have hu59 := Try.underlying59
 have hu39 := Try.underlying39
 have j9 := Aside0.mk j1
 have m2 := Aside0.mk j5
 clear j1 j5
 have j8 := Aside0.mk j0
 have m1 := Aside0.mk j4
 clear j0 j4
 have e8 := Aside0.mk h9
 have p7 := Aside0.mk j3
 clear h9 j3
 have g7 := Aside0.mk h8
 have p6 := Aside0.mk j2
 clear h8 j2
 have HB := Aside0.mk (Below.refl w.heap.size w)
 have H : ((types_Valid.f k b1 b0).bind fun e5 => (if e5.2 = 0 then ((graph_Valid.f k a8 a5).bind fun d9 => (if d9 = 0 then (statistic_typed.l0 k a8 (a8.length : Int) 0 b1 b0 a8 a5) else (some d9))) else (some e5.2))) = some r := h
 clear h
 obtain ⟨⟨C0, r0⟩, A3, H⟩ := obA H
 try dsimp only at H
 by_cases c4 : r0 = 0
 rw [if_pos c4] at H
 have o7 := beq_iff_eq.mpr c4
 have o6 := bne_eq_false_iff_eq.mpr c4
 clear c4
 obtain ⟨d9, A5, H⟩ := obA H
 by_cases c6 : d9 = 0
 rw [if_pos c6] at H
 have o5 := beq_iff_eq.mpr c6
 have o4 := bne_eq_false_iff_eq.mpr c6
 clear c6
 have H' := Aside0.mk H
 clear H
 rotate_left
 rw [if_neg c6] at H
 have o5 := beq_eq_false_iff_ne.mpr c6
 have o4 := bne_iff_ne.mpr c6
 obtain rfl := Option.some.inj H
 rotate_left
 rw [if_neg c4] at H
 have o7 := beq_eq_false_iff_ne.mpr c4
 have o6 := bne_iff_ne.mpr c4
 obtain rfl := Option.some.inj H
 all_goals
  go_enter Try.func55, Try.ntmps55
  go_wp2_with (first | ((with_reducible refine gate_dst (N := 2) rfl ?_); refine be 2 #[.slice c8 b1.length c5, .slice c7 b0.length c3] 25 ?_; intro e4 hg C4 hbox hb; have a6 := Aside0.mk (hbox); have A9 := bsz HB hg; replace HB := bstep HB hb; clear hb hbox hg) | ((with_reducible refine gate_dst (N := 3) rfl ?_); refine be 3 #[.slice e2 a8.length d1, .slice e6 a5.length d0] 59 ?_; intro e3 hg C3 hbox hb; have a7 := Aside0.mk (hbox); have A8 := bsz HB hg; replace HB := bstep HB hb; have b6 := blt a6 hg; have b5 := bgt a6 hg; replace a6 := bkb a6 hb; clear hb hbox hg; have x0 := b6.out; have w1 := b5.out; obtain ⟨n4, n3, m6, m5⟩ := cz2 a6) | ((with_reducible refine gate_callee (f := 14) rfl ?_); refine gl 14 Try.func14 #[.agg #[.slice c8 b1.length c5, .slice c7 b0.length c3]] (h := ?_); (with_reducible refine (types_Valid.calls _ _ _ _ _ _ _ _ _ _ (cb j9 HB) m2.out (cb j8 HB) m1.out A3.out).mono ?_); rintro e C2 ⟨rfl, hb⟩; refine ⟨_, rfl, ?_⟩; replace a6 := bkb a6 hb; replace a7 := bkb a7 hb; replace HB := bstep HB hb; clear hb; obtain ⟨n2, n1, m4, m3⟩ := cz2 a7) | ((with_reducible refine gate_callee (f := 75) rfl ?_); refine gl 21 Try.func75 #[.agg #[.slice e2 a8.length d1, .slice e6 a5.length d0]] (h := ?_); (with_reducible refine (graph_Valid.calls _ _ _ _ _ _ _ _ _ (cb e8 HB) p7.out (cb g7 HB) p6.out A5.out).mono ?_); rintro e C1 ⟨rfl, hb⟩; refine ⟨_, rfl, ?_⟩; replace a6 := bkb a6 hb; replace a7 := bkb a7 hb; replace HB := bstep HB hb; clear hb; obtain ⟨n8, n7, n0, m9⟩ := cz2 a7))
 ·go_ret
  exact ⟨erf, bb HB⟩
 ·go_loopg [28] k (fun kq v9 w' => ∃ (b4 : Int), v9 = .int .i64 b4 ∧ Aside0 (statistic_typed.l0 kq a8 (a8.length : Int) b4 b1 b0 a8 a5 = some r) ∧ Aside0 (kq ≤ k) ∧ Aside0 (w'.heap[e4]? = some (.cells #[(.slice c8 b1.length c5), (.slice c7 b0.length c3)] 25 (0, 0))) ∧ Aside0 (w'.heap[e3]? = some (.cells #[(.slice e2 a8.length d1), (.slice e6 a5.length d0)] 59 (0, 0))) ∧ Aside0 (Below w.heap.size w w'))
  case atStart => exact ⟨(0), eqs, H', ⟨Nat.le_refl _⟩, ⟨bk a6⟩, ⟨bk a7⟩, ⟨bb HB⟩⟩
  case round =>
   clear H'
   try clear o7 o6 o5 o4 n4 n3 n2 n1 n8 n7 m6 m5 m4 m3 n0 m9
   obtain ⟨b4, rfl, HA, m0, a6, a7, HB⟩ := hrel
   cases gk with
   | zero => exact absurd HA.out (by simp [statistic_typed.l0])
   | succ k1 =>
    have H := HA.out
    clear HA
    simp only [statistic_typed.l0] at H
    by_cases g5 : b4 < (a8.length : Int)
    ·rw [if_pos g5] at H
     have j7 := decide_eq_true g5
     clear g5
     obtain ⟨q8, H⟩ := itn H
     have A6 := decide_eq_true q8
     clear q8
     obtain ⟨q7, H⟩ := itn H
     have A4 := decide_eq_true q7
     clear q7
     by_cases g4 : (rd a8 b4) ≥ (b1.length : Int)
     rw [if_pos g4] at H
     have p4 : decide ((b1.length : Int) ≤ (rd a8 b4)) = true := decide_eq_true g4
     clear g4
     obtain rfl := Option.some.inj H
     rotate_left
     rw [if_neg g4] at H
     have p4 : decide ((b1.length : Int) ≤ (rd a8 b4)) = false := decide_eq_false g4
     clear g4
     have H' := Aside0.mk H
     clear H
     all_goals
      have h6 : 0 ≤ b4 := odt
      have h3 : b4 < (a8.length : Int) := odt
      obtain ⟨A7, r3, e9⟩ := Kd.at_int e8.out b4 h6 h3
      cases r3
      replace e9 := hxc HB e9
      replace h6 := eq_true h6
      replace h3 := eq_true h3
      have x9 := b6.out
      have w9 := b5.out
      obtain ⟨v6, v5, t4, t3⟩ := cz2 a6
      go_wp2
     ·go_roundg k1
      case measure => have := m0.out; omega
      case rel => exact ⟨(wrap64 (b4 + 1)), eqs, H', ⟨by have := m0.out; omega⟩, ⟨bk a6⟩, ⟨bk a7⟩, ⟨bb HB⟩⟩
     ·go_ret
      exact ⟨erf, bb HB⟩
    rw [if_neg g5] at H
    have j7 := decide_eq_false g5
    clear g5
    have H' := Aside0.mk H
    clear H
    have x8 := b5.out
    have w8 := b6.out
    obtain ⟨n6, n5, m8, m7⟩ := cz2 a7
    go_wp2
    go_loopg [41] k1 (fun kq v8 w' => ∃ (a4 : Int), v8 = .int .i64 a4 ∧ Aside0 (statistic_typed.l1 kq a5 (a5.length : Int) a4 b1 b0 a8 a5 = some r) ∧ Aside0 (kq ≤ k1) ∧ Aside0 (w'.heap[e4]? = some (.cells #[(.slice c8 b1.length c5), (.slice c7 b0.length c3)] 25 (0, 0))) ∧ Aside0 (w'.heap[e3]? = some (.cells #[(.slice e2 a8.length d1), (.slice e6 a5.length d0)] 59 (0, 0))) ∧ Aside0 (Below w.heap.size w w'))
    case atStart => exact ⟨(0), eqs, H', ⟨Nat.le_refl _⟩, ⟨bk a6⟩, ⟨bk a7⟩, ⟨bb HB⟩⟩
    case round =>
     clear H'
     try clear j7 n6 n5 m8 m7
     obtain ⟨a4, rfl, HA, q9, a6, a7, HB⟩ := hrel
     cases gk with
     | zero => exact absurd HA.out (by simp [statistic_typed.l1])
     | succ k2 =>
      have H := HA.out
      clear HA
      simp only [statistic_typed.l1] at H
      by_cases g3 : a4 < (a5.length : Int)
      rotate_left
      ·rw [if_neg g3] at H
       have p3 := decide_eq_false g3
       clear g3
       obtain rfl := Option.some.inj H
       go_wp2
       go_ret
       exact ⟨erf, bb HB⟩
      rw [if_pos g3] at H
      have p3 := decide_eq_true g3
      clear g3
      obtain ⟨q6, H⟩ := itn H
      have A2 := decide_eq_true q6
      clear q6
      obtain ⟨q5, H⟩ := itn H
      have A1 := decide_eq_true q5
      clear q5
      by_cases g2 : ((rd_T39 a5 a4).f0) ≥ (b0.length : Int)
      ·rw [if_pos g2] at H
       have p2 : decide ((b0.length : Int) ≤ ((rd_T39 a5 a4).f0)) = true := decide_eq_true g2
       clear g2
       obtain rfl := Option.some.inj H
       have e1 : 0 ≤ a4 := odt
       have e0 : a4 < (a5.length : Int) := odt
       obtain ⟨g6, h7, c2, c1, c0⟩ := at_T39 g7.out a4 e1 e0
       cases h7
       replace c2 := hxc HB c2
       replace c1 := hxc HB c1
       replace c0 := hxc HB c0
       replace e1 := eq_true e1
       replace e0 := eq_true e0
       go_wp2_with (first | ((with_reducible refine gate_dst (N := 11) rfl ?_); refine be 11 #[.int .i64 0, .int .i64 0, .int .i64 0] 39 ?_; intro a9 hg C7 hbox hb; have b2 := Aside0.mk (hbox); have p8 := bsz HB hg; replace HB := bstep HB hb; have d5 := blt a6 hg; have d3 := bgt a6 hg; replace a6 := bkb a6 hb; have d4 := blt a7 hg; have d2 := bgt a7 hg; replace a7 := bkb a7 hb; clear hb hbox hg; have x7 := d3.out; have w7 := d5.out; have x6 := d2.out; have w6 := d4.out; obtain ⟨v4, v3, v2, t2, t1, t0⟩ := cz3 b2; have x5 := b6.out; have w5 := b5.out; obtain ⟨v1, v0, s9, r9⟩ := cz2 a6))
       go_ret
       exact ⟨erf, bb HB⟩
      rw [if_neg g2] at H
      have p2 : decide ((b0.length : Int) ≤ ((rd_T39 a5 a4).f0)) = false := decide_eq_false g2
      clear g2
      obtain ⟨q4, H⟩ := itn H
      have A0 := decide_eq_true q4
      clear q4
      obtain ⟨q3, H⟩ := itn H
      have y9 := decide_eq_true q3
      clear q3
      obtain ⟨q2, H⟩ := itn H
      have y8 := decide_eq_true q2
      clear q2
      obtain ⟨q1, H⟩ := itn H
      have y7 := decide_eq_true q1
      clear q1
      obtain ⟨h0, w0, H⟩ := obA H
      by_cases j6 : h0 = true
      subst j6
      replace H := ift H
      have H' := Aside0.mk H
      clear H
      rotate_left
      replace j6 := Bool.eq_false_iff.mpr j6
      subst j6
      replace H := iff_ H
      obtain rfl := Option.some.inj H
      all_goals
       have e1 : 0 ≤ a4 := odt
       have e0 : a4 < (a5.length : Int) := odt
       obtain ⟨g6, h7, c2, c1, c0⟩ := at_T39 g7.out a4 e1 e0
       cases h7
       replace c2 := hxc HB c2
       replace c1 := hxc HB c1
       replace c0 := hxc HB c0
       replace e1 := eq_true e1
       replace e0 := eq_true e0
       try go_wp2_with (first | ((with_reducible refine gate_dst (N := 11) rfl ?_); refine be 11 #[.int .i64 0, .int .i64 0, .int .i64 0] 39 ?_; intro a9 hg g9 hbox hb; have b2 := Aside0.mk (hbox); have p8 := bsz HB hg; replace HB := bstep HB hb; have d5 := blt a6 hg; have d3 := bgt a6 hg; replace a6 := bkb a6 hb; have d4 := blt a7 hg; have d2 := bgt a7 hg; replace a7 := bkb a7 hb; clear hb hbox hg; have x4 := d3.out; have w4 := d5.out; have x3 := d2.out; have w3 := d4.out; obtain ⟨t9, t8, t7, r8, r7, r6⟩ := cz3 b2; have x1 := b6.out; have w2 := b5.out; obtain ⟨t6, t5, r5, r4⟩ := cz2 a6))
       have o3 : Aside0 ((((g9.setCell ⟨a9, 0, none⟩ (.int .i64 ((rd_T39 a5 a4).f0))).setCell ⟨a9, 1, none⟩ (.int .i64 ((rd_T39 a5 a4).f1))).setCell ⟨a9, 2, none⟩ (.int .i64 ((rd_T39 a5 a4).f2))).heap[e4]? = some (.cells #[.slice c8 b1.length c5, .slice c7 b0.length c3] 25 (0, 0))) := ⟨bkF a6⟩
       have o2 : Aside0 ((((g9.setCell ⟨a9, 0, none⟩ (.int .i64 ((rd_T39 a5 a4).f0))).setCell ⟨a9, 1, none⟩ (.int .i64 ((rd_T39 a5 a4).f1))).setCell ⟨a9, 2, none⟩ (.int .i64 ((rd_T39 a5 a4).f2))).heap[e3]? = some (.cells #[.slice e2 a8.length d1, .slice (some g6) a5.length d0] 59 (0, 0))) := ⟨bkF a7⟩
       have o1 : Aside0 ((((g9.setCell ⟨a9, 0, none⟩ (.int .i64 ((rd_T39 a5 a4).f0))).setCell ⟨a9, 1, none⟩ (.int .i64 ((rd_T39 a5 a4).f1))).setCell ⟨a9, 2, none⟩ (.int .i64 ((rd_T39 a5 a4).f2))).heap[a9]? = some (.cells #[.int .i64 ((rd_T39 a5 a4).f0), .int .i64 ((rd_T39 a5 a4).f1), .int .i64 ((rd_T39 a5 a4).f2)] 39 (0, 0))) := ⟨bkP b2⟩
       have o0 : Aside0 (Below w.heap.size w (((g9.setCell ⟨a9, 0, none⟩ (.int .i64 ((rd_T39 a5 a4).f0))).setCell ⟨a9, 1, none⟩ (.int .i64 ((rd_T39 a5 a4).f1))).setCell ⟨a9, 2, none⟩ (.int .i64 ((rd_T39 a5 a4).f2)))) := ⟨bb HB⟩
       (try clear a6)
       (try clear a7)
       (try clear b2)
       (try clear HB)
       generalize (((g9.setCell ⟨a9, 0, none⟩ (.int .i64 ((rd_T39 a5 a4).f0))).setCell ⟨a9, 1, none⟩ (.int .i64 ((rd_T39 a5 a4).f1))).setCell ⟨a9, 2, none⟩ (.int .i64 ((rd_T39 a5 a4).f2))) = v7 at o3 o2 o1 o0 ⊢
       have a6 := o3
       have a7 := o2
       have b2 := o1
       have HB := o0
       clear o3 o2 o1 o0
       replace a6 := Aside0.mk (blk_drew a6.out)
       replace a7 := Aside0.mk (blk_drew a7.out)
       replace b2 := Aside0.mk (blk_drew b2.out)
       replace HB := Aside0.mk (below_drew1 HB.out)
       have h5 : 0 ≤ (((rd_T39 a5 a4).f1) : Int) := odt
       have h2 : ((rd_T39 a5 a4).f1) < (a8.length : Int) := odt
       obtain ⟨e7, r2, d7⟩ := Kd.at_int e8.out ((rd_T39 a5 a4).f1) h5 h2
       have g1 := d7
       cases r2
       replace d7 := hxc HB d7
       replace h5 := eq_true h5
       replace h2 := eq_true h2
       have h4 : 0 ≤ (((rd_T39 a5 a4).f2) : Int) := odt
       have h1 : ((rd_T39 a5 a4).f2) < (a8.length : Int) := odt
       obtain ⟨p5, r1, d6⟩ := Kd.at_int e8.out ((rd_T39 a5 a4).f2) h4 h1
       have g0 := d6
       obtain rfl : e7 = p5 := (by injection r1)
       replace d6 := hxc HB d6
       replace h4 := eq_true h4
       replace h1 := eq_true h1
       refine start_ (n := 17) (S := fun w' => w'.cell? ⟨e4, 0, none⟩ = some (.slice c8 b1.length c5) ∧ w'.cell? ⟨e4, 1, none⟩ = some (.slice c7 b0.length c3) ∧ w'.cell? ⟨a9, 0, none⟩ = some (.int .i64 ((rd_T39 a5 a4).f0)) ∧ w'.cell? ⟨a9, 1, none⟩ = some (.int .i64 ((rd_T39 a5 a4).f1)) ∧ w'.cell? ⟨a9, 2, none⟩ = some (.int .i64 ((rd_T39 a5 a4).f2)) ∧ w'.cell? ⟨e3, 0, none⟩ = some (.slice (some e7) a8.length d1) ∧ w'.cell? ⟨e3, 1, none⟩ = some (.slice (some g6) a5.length d0) ∧ w'.cell? (e7.add (((rd_T39 a5 a4).f1)).toNat) = some (.int .i64 (rd a8 ((rd_T39 a5 a4).f1))) ∧ w'.cell? (e7.add (((rd_T39 a5 a4).f2)).toNat) = some (.int .i64 (rd a8 ((rd_T39 a5 a4).f2)))) (ds := []) #[false, false, false, false, false, false, false, false, false, false, false, false, false, false, false, false, false] (by kernel_rfl) rfl rfl ⟨bc a6 0, bc a6 1, bc b2 0, bc b2 1, bc b2 2, bc a7 0, bc a7 1, (hxc HB g1), (hxc HB g0)⟩ (fun hHeld => ?_); refine with_tabW statistic_typed.tab18 statistic_typed.bits18 (fun HT_ HW_ => ?_)
       generalize v7.drew = C6 at a6 a7 b2 HB d7 d6 hHeld ⊢
       refine pu 1 52 (bits 17 0x2) HT_ (h := ?_)
       refine pu 3 54 (bits 17 0xa) HT_ (h := ?_)
       refine pu 5 56 (bits 17 0x2a) HT_ (h := ?_)
       refine pu 9 60 (bits 17 0x22a) HT_ (h := ?_)
       refine pu 11 62 (bits 17 0xa2a) HT_ (h := ?_)
       refine tk 0 51 (bits 17 0xa2b) HT_ HW_ hHeld (hy := by rintro w' ⟨s0, s1, s2, s3, s4, s5, s6, s7, s8⟩; go_simp; with_reducible rfl) (h := ?_)
       refine tk 2 53 (bits 17 0xa2f) HT_ HW_ hHeld (hy := by rintro w' ⟨s0, s1, s2, s3, s4, s5, s6, s7, s8⟩; go_simp; with_reducible rfl) (h := ?_)
       refine tk 4 55 (bits 17 0xa3f) HT_ HW_ hHeld (hy := by rintro w' ⟨s0, s1, s2, s3, s4, s5, s6, s7, s8⟩; go_simp; with_reducible rfl) (h := ?_)
       refine tk 6 57 (bits 17 0xa7f) HT_ HW_ hHeld (hy := by rintro w' ⟨s0, s1, s2, s3, s4, s5, s6, s7, s8⟩; go_simp; with_reducible rfl) (h := ?_)
       refine pu 7 58 (bits 17 0xaff) HT_ (h := ?_)
       refine tk 8 59 (bits 17 0xbff) HT_ HW_ hHeld (hy := by rintro w' ⟨s0, s1, s2, s3, s4, s5, s6, s7, s8⟩; go_simp; with_reducible rfl) (h := ?_)
       refine tk 10 61 (bits 17 0xfff) HT_ HW_ hHeld (hy := by rintro w' ⟨s0, s1, s2, s3, s4, s5, s6, s7, s8⟩; go_simp; with_reducible rfl) (h := ?_)
       refine tk 12 63 (bits 17 0x1fff) HT_ HW_ hHeld (hy := by rintro w' ⟨s0, s1, s2, s3, s4, s5, s6, s7, s8⟩; go_simp; with_reducible rfl) (h := ?_)
       refine pu 13 64 (bits 17 0x3fff) HT_ (h := ?_)
       refine tk 14 65 (bits 17 0x7fff) HT_ HW_ hHeld (hy := by rintro w' ⟨s0, s1, s2, s3, s4, s5, s6, s7, s8⟩; go_simp; with_reducible rfl) (h := ?_)
       refine one_ (i := 15) (N := some 66) #[true, true, true, true, true, true, true, true, true, true, true, true, true, true, true, true, false] rfl rfl (one_of HT_.out (by kernel_rfl)) (by decide) (fun K hK => ?_)
       refine goes_ Try.func23 (by kernel_rfl) rfl #[.agg #[.slice c8 b1.length c5, .slice c7 b0.length c3], .int .i64 ((rd_T39 a5 a4).f0), .int .i64 (rd a8 ((rd_T39 a5 a4).f1)), .int .i64 (rd a8 ((rd_T39 a5 a4).f2))] (by rfl) rfl rfl (by (try simp only [List.map_toArray, List.map_cons, List.map_nil]); first | done | rfl | (simp only [List.length_drop, List.length_take]; rfl)) ?_
       with_reducible refine (types_Fits.calls _ _ _ _ _ _ _ _ _ _ _ _ ?p1 ?p0 ?o9 ?o8 w0.out).mono ?_
       (case p1 => exact cb j9 HB)
       (case p0 => exact m2.out)
       (case o9 => exact cb j8 HB)
       (case o8 => exact m1.out)
       rintro e C5 ⟨rfl, hb⟩
       refine ⟨_, rfl, ?_⟩
       replace a6 := bkb a6 hb
       replace a7 := bkb a7 hb
       replace b2 := bkb b2 hb
       replace HB := bstep HB hb
       (try clear hb)
       (try clear hb2)
       (try clear hk)
       (try clear hi)
       refine hK.out _ _ ⟨bc a6 0, bc a6 1, bc b2 0, bc b2 1, bc b2 2, bc a7 0, bc a7 1, (hxc HB g1), (hxc HB g0)⟩ (fun hHeld => ?_)
       clear hK K
       refine norm_ (a' := ?_) ?_ ?_
       rotate_left
       ·show Act.put _ (some 66) _ = _
        simp only [Act.put, List.setIfInBounds_toArray, List.set_cons_zero, List.set_cons_succ, i64_w, i32_w]
        rfl
       refine pu 16 67 (bits 17 0x1ffff) HT_ (h := ?_)
       refine done_ (done_of HT_.out (by kernel_rfl)) ?_
       try go_wp2
      ·go_ret
       exact ⟨erf, bb HB⟩
      ·go_roundg k2
       case measure => have := m0.out; have := q9.out; omega
       case rel => exact ⟨(wrap64 (a4 + 1)), eqs, H', ⟨by have := m0.out; have := q9.out; omega⟩, ⟨bk a6⟩, ⟨bk a7⟩, ⟨bb HB⟩⟩
 ·go_ret
  exact ⟨erf, bb HB⟩
end Go.Proofs.Ytfpianecohobjaa.P
