/- StatisticOf: a part of its proof. No condition. -/
import Derived.Test.YtfpianecohobjaaVPx0
import Derived.Test.YtfpianecohobjaaVPx27
import Derived.Test.YtfpianecohobjaaVPx37
import Derived.Test.YtfpianecohobjaaVPx39
import Derived.Test.YtfpianecohobjaaVPx7
namespace Go.Proofs.Ytfpianecohobjaa.P
open Go.RowKit Go.Proofs.YtfpianecohobjaaW.PrintWords Go.Proofs.YtfpianecohobjaaW.PrintLast Go.Proofs.YtfpianecohobjaaW.PrintMore
set_option maxHeartbeats 8000000
set_option maxRecDepth 100000
set_option linter.unusedVariables false
set_option linter.unusedSimpArgs false
mutual
def statistic_Valid.l0 : Nat → List (S88) → Int → Int → List (S68) → List (S71) → List (S88) → List (S88) → Option (Int)
 | 0, _, _, _, _, _, _, _ => none
 | k + 1, c1, h3, b7, b2, b4, b0, a9 => if b7 < h3 then (if 0 ≤ b7 then (if b7 < (c1.length : Int) then ((statistic_is.f ((rd_T88 c1 b7).f0) (b2.length : Int)).bind fun r9 => (if r9 = true then (if ((rd_T88 c1 b7).f1) = 0 then (if ((rd_T88 c1 b7).f2) = 0 then (if ((rd_T88 c1 b7).f3) < 1 then (statistic_Valid.j1 k b7 c1 h3 b7 true b2 b4 b0 a9 ((rd_T88 c1 b7).f0) ((rd_T88 c1 b7).f1) ((rd_T88 c1 b7).f2) ((rd_T88 c1 b7).f3)) else (statistic_Valid.j1 k b7 c1 h3 b7 (decide (((rd_T88 c1 b7).f3) > 40)) b2 b4 b0 a9 ((rd_T88 c1 b7).f0) ((rd_T88 c1 b7).f1) ((rd_T88 c1 b7).f2) ((rd_T88 c1 b7).f3))) else (statistic_Valid.j1 k b7 c1 h3 b7 true b2 b4 b0 a9 ((rd_T88 c1 b7).f0) ((rd_T88 c1 b7).f1) ((rd_T88 c1 b7).f2) ((rd_T88 c1 b7).f3))) else (statistic_Valid.j1 k b7 c1 h3 b7 true b2 b4 b0 a9 ((rd_T88 c1 b7).f0) ((rd_T88 c1 b7).f1) ((rd_T88 c1 b7).f2) ((rd_T88 c1 b7).f3))) else (statistic_Valid.j1 k b7 c1 h3 b7 true b2 b4 b0 a9 ((rd_T88 c1 b7).f0) ((rd_T88 c1 b7).f1) ((rd_T88 c1 b7).f2) ((rd_T88 c1 b7).f3)))) else (none)) else (none)) else ((statistic_total.f k b0).bind fun n6 => (if n6 > 40 then (some 3) else (statistic_Valid.l1 k a9 (a9.length : Int) 0 b2 b4 b0 a9)))
def statistic_Valid.j1 : Nat → Int → List (S88) → Int → Int → Bool → List (S68) → List (S71) → List (S88) → List (S88) → Int → Int → Int → Int → Option (Int)
 | 0, _, _, _, _, _, _, _, _, _, _, _, _, _ => none
 | k + 1, x7, c1, h3, b7, O6, b2, b4, b0, a9, A5, A4, A2, A1 => if O6 = true then (some 6) else (if x7 > 0 then (if 0 ≤ (wrap64 (x7 - 1)) then (if (wrap64 (x7 - 1)) < (b0.length : Int) then ((statistic_compare.f k ((rd_T88 b0 (wrap64 (x7 - 1))).f0) ((rd_T88 b0 (wrap64 (x7 - 1))).f1) ((rd_T88 b0 (wrap64 (x7 - 1))).f2) ((rd_T88 b0 (wrap64 (x7 - 1))).f3) A5 A4 A2 A1).bind fun h0 => (if h0 ≥ 0 then (some 12) else (statistic_Valid.l0 k c1 h3 (wrap64 (b7 + 1)) b2 b4 b0 a9))) else (none)) else (none)) else (statistic_Valid.l0 k c1 h3 (wrap64 (b7 + 1)) b2 b4 b0 a9))
def statistic_Valid.l1 : Nat → List (S88) → Int → Int → List (S68) → List (S71) → List (S88) → List (S88) → Option (Int)
 | 0, _, _, _, _, _, _, _ => none
 | k + 1, b8, e5, b5, b2, b4, b0, a9 => if b5 < e5 then (if 0 ≤ b5 then (if b5 < (b8.length : Int) then ((statistic_is.f ((rd_T88 b8 b5).f0) (b4.length : Int)).bind fun r8 => (if r8 = true then ((statistic_is.f ((rd_T88 b8 b5).f1) (b2.length : Int)).bind fun r7 => (if r7 = true then ((statistic_is.f ((rd_T88 b8 b5).f2) (b2.length : Int)).bind fun r6 => (if r6 = true then (if ((rd_T88 b8 b5).f3) < 1 then (statistic_Valid.j3 k b5 b8 e5 b5 true b2 b4 b0 a9 ((rd_T88 b8 b5).f0) ((rd_T88 b8 b5).f1) ((rd_T88 b8 b5).f2) ((rd_T88 b8 b5).f3)) else (statistic_Valid.j3 k b5 b8 e5 b5 (decide (((rd_T88 b8 b5).f3) > 80)) b2 b4 b0 a9 ((rd_T88 b8 b5).f0) ((rd_T88 b8 b5).f1) ((rd_T88 b8 b5).f2) ((rd_T88 b8 b5).f3))) else (statistic_Valid.j3 k b5 b8 e5 b5 true b2 b4 b0 a9 ((rd_T88 b8 b5).f0) ((rd_T88 b8 b5).f1) ((rd_T88 b8 b5).f2) ((rd_T88 b8 b5).f3)))) else (statistic_Valid.j3 k b5 b8 e5 b5 true b2 b4 b0 a9 ((rd_T88 b8 b5).f0) ((rd_T88 b8 b5).f1) ((rd_T88 b8 b5).f2) ((rd_T88 b8 b5).f3)))) else (statistic_Valid.j3 k b5 b8 e5 b5 true b2 b4 b0 a9 ((rd_T88 b8 b5).f0) ((rd_T88 b8 b5).f1) ((rd_T88 b8 b5).f2) ((rd_T88 b8 b5).f3)))) else (none)) else (none)) else ((statistic_total.f k a9).bind fun n5 => (if n5 > 80 then (some 3) else (some 0)))
def statistic_Valid.j3 : Nat → Int → List (S88) → Int → Int → Bool → List (S68) → List (S71) → List (S88) → List (S88) → Int → Int → Int → Int → Option (Int)
 | 0, _, _, _, _, _, _, _, _, _, _, _, _, _ => none
 | k + 1, x9, b8, e5, b5, O5, b2, b4, b0, a9, e3, d3, d2, e9 => if O5 = true then (some 6) else ((types_Fits.f k b2 b4 e3 d3 d2).bind fun r5 => (if r5 = true then ((statistic_has.f b0 a9 d3).bind fun r4 => (if r4 = true then ((statistic_has.f b0 a9 d2).bind fun E4 => (statistic_Valid.j4 k x9 b8 e5 b5 (!E4) b2 b4 b0 a9 e3 d3 d2 e9)) else (statistic_Valid.j4 k x9 b8 e5 b5 true b2 b4 b0 a9 e3 d3 d2 e9))) else (some 13)))
def statistic_Valid.j4 : Nat → Int → List (S88) → Int → Int → Bool → List (S68) → List (S71) → List (S88) → List (S88) → Int → Int → Int → Int → Option (Int)
 | 0, _, _, _, _, _, _, _, _, _, _, _, _, _ => none
 | k + 1, x9, b8, e5, b5, H1, b2, b4, b0, a9, e3, d3, d2, e9 => if H1 = true then (some 10) else (if x9 > 0 then (if 0 ≤ (wrap64 (x9 - 1)) then (if (wrap64 (x9 - 1)) < (a9.length : Int) then ((statistic_compare.f k ((rd_T88 a9 (wrap64 (x9 - 1))).f0) ((rd_T88 a9 (wrap64 (x9 - 1))).f1) ((rd_T88 a9 (wrap64 (x9 - 1))).f2) ((rd_T88 a9 (wrap64 (x9 - 1))).f3) e3 d3 d2 e9).bind fun g9 => (if g9 ≥ 0 then (some 12) else (statistic_Valid.l1 k b8 e5 (wrap64 (b5 + 1)) b2 b4 b0 a9))) else (none)) else (none)) else (statistic_Valid.l1 k b8 e5 (wrap64 (b5 + 1)) b2 b4 b0 a9))
end
def statistic_Valid.f (k : Nat) (c0 : List (S68)) (b9 : List (S71)) (a7 : List (S88)) (a4 : List (S88)) : Option (Int) := (types_Valid.f k c0 b9).bind fun h9 => (if h9.2 = 0 then (statistic_Valid.l0 k a7 (a7.length : Int) 0 c0 b9 a7 a4) else (some h9.2))
theorem statistic_Valid.mono_l : ∀ k, (∀ y0 y1 y2 y3 y4 y5 y6, LeO (statistic_Valid.l0 k y0 y1 y2 y3 y4 y5 y6) (statistic_Valid.l0 (k + 1) y0 y1 y2 y3 y4 y5 y6)) ∧ (∀ y0 y1 y2 y3 y4 y5 y6 y7 y8 y9 m8 m7 m6, LeO (statistic_Valid.j1 k y0 y1 y2 y3 y4 y5 y6 y7 y8 y9 m8 m7 m6) (statistic_Valid.j1 (k + 1) y0 y1 y2 y3 y4 y5 y6 y7 y8 y9 m8 m7 m6)) ∧ (∀ y0 y1 y2 y3 y4 y5 y6, LeO (statistic_Valid.l1 k y0 y1 y2 y3 y4 y5 y6) (statistic_Valid.l1 (k + 1) y0 y1 y2 y3 y4 y5 y6)) ∧ (∀ y0 y1 y2 y3 y4 y5 y6 y7 y8 y9 m8 m7 m6, LeO (statistic_Valid.j3 k y0 y1 y2 y3 y4 y5 y6 y7 y8 y9 m8 m7 m6) (statistic_Valid.j3 (k + 1) y0 y1 y2 y3 y4 y5 y6 y7 y8 y9 m8 m7 m6)) ∧ (∀ y0 y1 y2 y3 y4 y5 y6 y7 y8 y9 m8 m7 m6, LeO (statistic_Valid.j4 k y0 y1 y2 y3 y4 y5 y6 y7 y8 y9 m8 m7 m6) (statistic_Valid.j4 (k + 1) y0 y1 y2 y3 y4 y5 y6 y7 y8 y9 m8 m7 m6))
 | 0 => by refine ⟨?_, ?_, ?_, ?_, ?_⟩ <;> (intros; intro r h; simp [statistic_Valid.l0, statistic_Valid.j1, statistic_Valid.l1, statistic_Valid.j3, statistic_Valid.j4] at h)
 | k + 1 => by
  obtain ⟨ih0, ih1, ih2, ih3, ih4⟩ := statistic_Valid.mono_l k
  refine ⟨?_, ?_, ?_, ?_, ?_⟩ <;> (intros; first | unfold statistic_Valid.l0 | unfold statistic_Valid.j1 | unfold statistic_Valid.l1 | unfold statistic_Valid.j3 | unfold statistic_Valid.j4)
  all_goals with_reducible repeat' first | exact ih0 .. | exact ih1 .. | exact ih2 .. | exact ih3 .. | exact ih4 .. | exact statistic_compare.mono .. | exact statistic_total.mono .. | exact types_Fits.mono .. | exact types_Valid.mono .. | exact LeO.refl _ | exact LeO.none _ | refine LeO.ite ?_ ?_ | refine LeO.bind ?_ fun _ => ?_
theorem statistic_Valid.mono : ∀ a0 a1 a2 a3 k, LeO (statistic_Valid.f k a0 a1 a2 a3) (statistic_Valid.f (k + 1) a0 a1 a2 a3) := by
 intro a0 a1 a2 a3 k
 obtain ⟨ih0, ih1, ih2, ih3, ih4⟩ := statistic_Valid.mono_l k
 unfold statistic_Valid.f
 with_reducible repeat' first | exact ih0 .. | exact ih1 .. | exact ih2 .. | exact ih3 .. | exact ih4 .. | exact statistic_compare.mono .. | exact statistic_total.mono .. | exact types_Fits.mono .. | exact types_Valid.mono .. | exact LeO.refl _ | exact LeO.none _ | refine LeO.ite ?_ ?_ | refine LeO.bind ?_ fun _ => ?_
def statistic_Valid.T9 : Bool × List (List Nat × List Nat) := (true, [([], []), ([0], [0]), ([1], [1]), ([2], [2]), ([3, 2], [2, 3]), ([2], [2]), ([5, 2], [2, 5]), ([4, 6, 2], [2, 4, 6]), ([7, 2], [2, 7]), ([2], [2]), ([8, 9, 2, 2], [2, 8, 9]), ([10, 2], [2, 10]), ([2, 11], [2, 11])])
def statistic_Valid.B9 : List Nat := [0, 1, 3, 7, 15, 7, 39, 127, 255, 7, 1023, 2047, 4095]
theorem statistic_Valid.tab9 : rtab .any (opsOf Try.f57 9) = statistic_Valid.T9 := by kernel_rfl
theorem statistic_Valid.bits9 : waitsOk statistic_Valid.T9.2 statistic_Valid.B9 = true := by kernel_rfl
def statistic_Valid.T23 : Bool × List (List Nat × List Nat) := (true, [([], []), ([0], [0]), ([1], [1]), ([2], [2]), ([3, 2], [2, 3]), ([2], [2]), ([5, 2], [2, 5]), ([4, 6, 2], [2, 4, 6]), ([7, 2], [2, 7]), ([2], [2]), ([8, 9, 2, 2], [2, 8, 9]), ([10, 2], [2, 10]), ([2, 11], [2, 11]), ([12, 10], [12])])
def statistic_Valid.B23 : List Nat := [0, 1, 3, 7, 15, 7, 39, 127, 255, 7, 1023, 2047, 4095, 8191]
theorem statistic_Valid.tab23 : rtab .any (opsOf Try.f57 23) = statistic_Valid.T23 := by kernel_rfl
theorem statistic_Valid.bits23 : waitsOk statistic_Valid.T23.2 statistic_Valid.B23 = true := by kernel_rfl
theorem statistic_Valid.calls (k : Nat) (d7 : Option Addr) (d5 : Nat) (c0 : List (S68)) (d6 : Option Addr) (d4 : Nat) (b9 : List (S71)) (e2 : Option Addr) (d0 : Nat) (a7 : List (S88)) (e8 : Option Addr) (c9 : Nat) (a4 : List (S88)) (r : Int) (w : World) (w5 : Kd.C k68 w d7 c0.length c0) (w9 : c0.length ≤ d5) (w4 : Kd.C k71 w d6 b9.length b9) (w8 : b9.length ≤ d4) (w3 : Kd.C k88 w e2 a7.length a7) (w7 : a7.length ≤ d0) (w2 : Kd.C k88 w e8 a4.length a4) (w6 : a4.length ≤ c9) (h : statistic_Valid.f k c0 b9 a7 a4 = some r) :
  Calls Try.prog 57 #[.agg #[.slice d7 c0.length d5, .slice d6 b9.length d4], .agg #[.slice e2 a7.length d0, .slice e8 a4.length c9]] w fun e w' => e = .returned (.int .i64 r) ∧ Below w.heap.size w w' := by
 have hu25 := Try.underlying25
 have hu64 := Try.underlying64
 have hu88 := Try.underlying88
 have q7 := Aside0.mk w5
 have r3 := Aside0.mk w9
 clear w5 w9
 have q6 := Aside0.mk w4
 have r2 := Aside0.mk w8
 clear w4 w8
 have j2 := Aside0.mk w3
 have r0 := Aside0.mk w7
 clear w3 w7
 have j0 := Aside0.mk w2
 have q9 := Aside0.mk w6
 clear w2 w6
 have HB := Aside0.mk (Below.refl w.heap.size w)
 have H : ((types_Valid.f k c0 b9).bind fun h9 => (if h9.2 = 0 then (statistic_Valid.l0 k a7 (a7.length : Int) 0 c0 b9 a7 a4) else (some h9.2))) = some r := h
 clear h
 obtain ⟨⟨X4, H3⟩, A3, H⟩ := obA H
 try dsimp only at H
 by_cases c4 : H3 = 0
 rw [if_pos c4] at H
 have E6 := beq_iff_eq.mpr c4
 have E5 := bne_eq_false_iff_eq.mpr c4
 clear c4
 have H' := Aside0.mk H
 clear H
 rotate_left
 rw [if_neg c4] at H
 have E6 := beq_eq_false_iff_ne.mpr c4
 have E5 := bne_iff_ne.mpr c4
 obtain rfl := Option.some.inj H
 all_goals
  go_enter Try.func57, Try.ntmps57
  go_wp2_with (first | ((with_reducible refine gate_dst (N := 2) rfl ?_); (try (refine gate_guard (by rfl) ?_; dsimp only)); refine be 2 #[.slice d7 c0.length d5, .slice d6 b9.length d4] 25 ?_; intro h6 hg W5 hbox hb; have a6 := Aside0.mk (hbox); have W2 := bsz HB hg; replace HB := bstep HB hb; clear hb hbox hg) | ((with_reducible refine gate_dst (N := 3) rfl ?_); (try (refine gate_guard (by rfl) ?_; dsimp only)); refine be 3 #[.slice e2 a7.length d0, .slice e8 a4.length c9] 64 ?_; intro d1 hg W4 hbox hb; have a5 := Aside0.mk (hbox); have W1 := bsz HB hg; replace HB := bstep HB hb; have c6 := blt a6 hg; have c5 := bgt a6 hg; replace a6 := bkb a6 hb; clear hb hbox hg; have Q2 := c6.out; have P1 := c5.out; obtain ⟨v3, v2, t5, t4⟩ := cz2 a6) | ((with_reducible refine gate_callee (f := 14) rfl ?_); refine gl 13 Try.func14 #[.agg #[.slice d7 c0.length d5, .slice d6 b9.length d4]] (h := ?_); (with_reducible refine (types_Valid.calls _ _ _ _ _ _ _ _ _ _ (cb q7 HB) r3.out (cb q6 HB) r2.out A3.out).mono ?_); rintro e W3 ⟨rfl, hb⟩; refine ⟨_, rfl, ?_⟩; replace a6 := bkb a6 hb; replace a5 := bkb a5 hb; replace HB := bstep HB hb; clear hb; obtain ⟨E3, E2, C9, C8⟩ := cz2 a5))
 ·go_ret
  exact ⟨erf, bb HB⟩
 ·go_loopg [22] k (fun kq P0 w' => ∃ (b1 : Int), P0 = .int .i64 b1 ∧ Aside0 (statistic_Valid.l0 kq a7 (a7.length : Int) b1 c0 b9 a7 a4 = some r) ∧ Aside0 (kq ≤ k) ∧ Aside0 (w'.heap[h6]? = some (.cells #[(.slice d7 c0.length d5), (.slice d6 b9.length d4)] 25 (0, 0))) ∧ Aside0 (w'.heap[d1]? = some (.cells #[(.slice e2 a7.length d0), (.slice e8 a4.length c9)] 64 (0, 0))) ∧ Aside0 (Below w.heap.size w w'))
  case atStart => exact ⟨(0), eqs, H', ⟨Nat.le_refl _⟩, ⟨bk a6⟩, ⟨bk a5⟩, ⟨bb HB⟩⟩
  case round =>
   clear H'
   try clear E6 E5 E3 E2 v3 v2 C9 C8 t5 t4
   obtain ⟨b1, rfl, HA, e7, a6, a5, HB⟩ := hrel
   cases gk with
   | zero => exact absurd HA.out (by simp [statistic_Valid.l0])
   | succ k1 =>
    have H := HA.out
    clear HA
    simp only [statistic_Valid.l0] at H
    by_cases p6 : b1 < (a7.length : Int)
    ·rw [if_pos p6] at H
     have q5 := decide_eq_true p6
     clear p6
     obtain ⟨H0, H⟩ := itn H
     have G2 := decide_eq_true H0
     clear H0
     obtain ⟨G9, H⟩ := itn H
     have G1 := decide_eq_true G9
     clear G9
     have w1 := Aside0.mk H
     clear H
     have q1 : 0 ≤ b1 := odt
     have p9 : b1 < (a7.length : Int) := odt
     obtain ⟨c8, M8, m2, m1, m0, j9⟩ := at_T88 j2.out b1 q1 p9
     cases M8
     replace m2 := hxc HB m2
     replace m1 := hxc HB m1
     replace m0 := hxc HB m0
     replace j9 := hxc HB j9
     replace q1 := eq_true q1
     replace p9 := eq_true p9
     go_upto_region 7 with (first | ((with_reducible refine gate_dst (N := 8) rfl ?_); (try (refine gate_guard (by rfl) ?_; dsimp only)); refine be 8 #[.int .i64 0, .int .i64 0, .int .i64 0, .int .i64 0] 88 ?_; intro h5 hg Y0 hbox hb; have c2 := Aside0.mk (hbox); have W0 := bsz HB hg; replace HB := bstep HB hb; have n2 := blt a6 hg; have n0 := bgt a6 hg; replace a6 := bkb a6 hb; have n1 := blt a5 hg; have m9 := bgt a5 hg; replace a5 := bkb a5 hb; clear hb hbox hg; have V6 := n0.out; have U8 := n2.out; have V5 := m9.out; have U7 := n1.out; obtain ⟨E1, E0, D9, D8, C7, C6, C5, C4⟩ := cz4 c2))
     (try simp only [Act.put, List.setIfInBounds_toArray, List.set_cons_zero, List.set_cons_succ])
     go_cut [53] (fun O9 wc => ∃ (kq : Nat) (h2 : Bool), O9 = .bool h2 ∧ Aside0 (statistic_Valid.j1 kq b1 a7 (a7.length : Int) b1 h2 c0 b9 a7 a4 ((rd_T88 a7 b1).f0) ((rd_T88 a7 b1).f1) ((rd_T88 a7 b1).f2) ((rd_T88 a7 b1).f3) = some r) ∧ Aside0 (kq ≤ k1) ∧ Aside0 (wc.heap[h6]? = some (.cells #[(.slice d7 c0.length d5), (.slice d6 b9.length d4)] 25 (0, 0))) ∧ Aside0 (wc.heap[d1]? = some (.cells #[(.slice (some c8) a7.length d0), (.slice e8 a4.length c9)] 64 (0, 0))) ∧ Aside0 (wc.heap[h5]? = some (.cells #[.int .i64 ((rd_T88 a7 b1).f0), .int .i64 ((rd_T88 a7 b1).f1), .int .i64 ((rd_T88 a7 b1).f2), .int .i64 ((rd_T88 a7 b1).f3)] 88 (0, 0))) ∧ Aside0 (Below w.heap.size w wc))
     case first =>
      have H := w1.out
      clear w1
      obtain ⟨r9, U0, H⟩ := obA H
      by_cases A0 : r9 = true
      subst A0
      replace H := ift H
      by_cases n8 : ((rd_T88 a7 b1).f1) = 0
      rw [if_pos n8] at H
      have h8 := beq_iff_eq.mpr n8
      have G0 := bne_eq_false_iff_eq.mpr n8
      clear n8
      (first | rw [h8] | (simp only [i64_w, i32_w]; rw [h8]) | skip)
      by_cases n7 : ((rd_T88 a7 b1).f2) = 0
      rw [if_pos n7] at H
      have F9 := beq_iff_eq.mpr n7
      have F8 := bne_eq_false_iff_eq.mpr n7
      clear n7
      by_cases p5 : ((rd_T88 a7 b1).f3) < 1
      rw [if_pos p5] at H
      have F7 := decide_eq_true p5
      clear p5
      have H' := Aside0.mk H
      clear H
      rotate_left
      rw [if_neg p5] at H
      have F7 := decide_eq_false p5
      clear p5
      have H' := Aside0.mk H
      clear H
      rotate_left
      rw [if_neg n7] at H
      have F9 := beq_eq_false_iff_ne.mpr n7
      have F8 := bne_iff_ne.mpr n7
      have H' := Aside0.mk H
      clear H
      rotate_left
      rw [if_neg n8] at H
      have h8 := beq_eq_false_iff_ne.mpr n8
      have G0 := bne_iff_ne.mpr n8
      (first | rw [h8] | (simp only [i64_w, i32_w]; rw [h8]) | skip)
      have H' := Aside0.mk H
      clear H
      rotate_left
      replace A0 := Bool.eq_false_iff.mpr A0
      subst A0
      replace H := iff_ H
      have H' := Aside0.mk H
      clear H
      all_goals
       have V4 := n0.out
       have U6 := n2.out
       have V3 := m9.out
       have U5 := n1.out
       obtain ⟨O4, O3, O2, O1, N8, N7, N6, N5⟩ := cz4 c2
       have V2 := c6.out
       have U4 := c5.out
       obtain ⟨O0, N9, N4, N3⟩ := cz2 a6
       go_wp2_with (first | ((with_reducible refine gate_callee (f := 58) rfl ?_); refine gl 32 Try.func58 #[.int .i64 ((rd_T88 a7 b1).f0), .int .i64 (c0.length : Int)] (h := ?_); (with_reducible refine (statistic_is.calls _ _ _ _ U0.out).mono ?_); rintro e w' ⟨rfl, ⟨nd, rfl⟩⟩; refine ⟨_, rfl, ?_⟩))
       go_meet
       case rel => exact ⟨_, _, eqs, H', ⟨by have := e7.out; first | omega | exact Nat.le_refl _⟩, ⟨bkF a6⟩, ⟨bkF a5⟩, ⟨bkP c2⟩, ⟨bb HB⟩⟩
     case rest =>
      clear w1
      try clear q5 G2 G1 E1 E0 D9 D8 C7 C6 C5 C4 m2 m1 m0 j9 q1 p9
      obtain ⟨kq, h2, rfl, HA, q8, a6, a5, c2, HB⟩ := hcut
      cases kq with
      | zero => exact absurd HA.out (by simp [statistic_Valid.j1])
      | succ q2 =>
       have H := HA.out
       clear HA
       simp only [statistic_Valid.j1] at H
       by_cases x8 : h2 = true
       ·subst x8
        replace H := ift H
        obtain rfl := Option.some.inj H
        go_wp2
        go_ret
        exact ⟨erf, bb HB⟩
       replace x8 := Bool.eq_false_iff.mpr x8
       subst x8
       replace H := iff_ H
       by_cases p4 : b1 > 0
       rotate_left
       ·rw [if_neg p4] at H
        have F6 : decide (0 < b1) = false := decide_eq_false p4
        clear p4
        have H' := Aside0.mk H
        clear H
        try go_wp2
        replace a6 := Aside0.mk (blk_drew a6.out)
        replace a5 := Aside0.mk (blk_drew a5.out)
        replace c2 := Aside0.mk (blk_drew c2.out)
        replace HB := Aside0.mk (below_drew1 HB.out)
        refine start_ (n := 13) (S := fun w' => True) (ds := []) #[false, false, false, false, false, false, false, false, false, false, false, false, false] (by kernel_rfl) rfl rfl trivial (fun hHeld => ?_); refine with_tabW statistic_Valid.tab9 statistic_Valid.bits9 (fun HT_ HW_ => ?_)
        generalize wc.drew = X7 at a6 a5 c2 HB hHeld ⊢
        refine pu 0 54 (bits 13 0x1) HT_ (h := ?_)
        refine pu 1 55 (bits 13 0x3) HT_ (h := ?_)
        refine pu 2 56 (bits 13 0x7) HT_ (h := ?_)
        refine pn 3 57 (bits 13 0xf) HT_ (h := ?_)
        refine pn 4 58 (bits 13 0x1f) HT_ (h := ?_)
        refine pn 5 59 (bits 13 0x3f) HT_ (h := ?_)
        refine pn 6 60 (bits 13 0x7f) HT_ (h := ?_)
        refine pn 7 61 (bits 13 0xff) HT_ (h := ?_)
        refine pn 8 62 (bits 13 0x1ff) HT_ (h := ?_)
        refine pn 9 63 (bits 13 0x3ff) HT_ (h := ?_)
        refine pn 10 64 (bits 13 0x7ff) HT_ (h := ?_)
        refine pn 11 65 (bits 13 0xfff) HT_ (h := ?_)
        refine pu 12 66 (bits 13 0x1fff) HT_ (h := ?_)
        refine done_ (done_of HT_.out (by kernel_rfl)) ?_
        try go_wp2
        go_roundg q2
        case measure => have := e7.out; have := q8.out; omega
        case rel => exact ⟨(wrap64 (b1 + 1)), eqs, H', ⟨by have := e7.out; have := q8.out; omega⟩, ⟨bk a6⟩, ⟨bk a5⟩, ⟨bb HB⟩⟩
       rw [if_pos p4] at H
       have F6 : decide (0 < b1) = true := decide_eq_true p4
       clear p4
       obtain ⟨c3, h4⟩ : ∃ j_ : Int, (wrap64 (b1 - 1)) = j_ := ⟨_, rfl⟩
       replace H : (if 0 ≤ (c3) then (if (c3) < (a7.length : Int) then ((statistic_compare.f q2 ((rd_T88 a7 (c3)).f0) ((rd_T88 a7 (c3)).f1) ((rd_T88 a7 (c3)).f2) ((rd_T88 a7 (c3)).f3) ((rd_T88 a7 b1).f0) ((rd_T88 a7 b1).f1) ((rd_T88 a7 b1).f2) ((rd_T88 a7 b1).f3)).bind fun h0 => (if h0 ≥ 0 then (some 12) else (statistic_Valid.l0 q2 a7 (a7.length : Int) (wrap64 (b1 + 1)) c0 b9 a7 a4))) else (none)) else (none)) = some r := by first | (rw [h4] at H; exact H) | (simp only [h4] at H ⊢; exact H)
       have hji51w : (IntKind.i64.wrap (b1 - 1)) = c3 := (i64_w _).trans h4
       obtain ⟨G8, H⟩ := itn H
       have V8 := decide_eq_true G8
       clear G8
       obtain ⟨G7, H⟩ := itn H
       have V7 := decide_eq_true G7
       clear G7
       obtain ⟨h0, R9, H⟩ := obA H
       by_cases p3 : h0 ≥ 0
       rw [if_pos p3] at H
       have F5 : decide (0 ≤ h0) = true := decide_eq_true p3
       clear p3
       obtain rfl := Option.some.inj H
       rotate_left
       rw [if_neg p3] at H
       have F5 : decide (0 ≤ h0) = false := decide_eq_false p3
       clear p3
       have H' := Aside0.mk H
       clear H
       all_goals
        try go_wp2
        replace a6 := Aside0.mk (blk_drew a6.out)
        replace a5 := Aside0.mk (blk_drew a5.out)
        replace c2 := Aside0.mk (blk_drew c2.out)
        replace HB := Aside0.mk (below_drew1 HB.out)
        have t3 : 0 ≤ ((c3) : Int) := odt
        have t1 : (c3) < (a7.length : Int) := odt
        obtain ⟨G4, M7, g7, g6, g5, g4⟩ := at_T88 j2.out (c3) t3 t1
        have o6 := g4
        have o7 := g5
        have o8 := g6
        have o9 := g7
        obtain rfl : c8 = G4 := (by injection M7)
        replace g7 := hxc HB g7
        replace g6 := hxc HB g6
        replace g5 := hxc HB g5
        replace g4 := hxc HB g4
        replace t3 := eq_true t3
        replace t1 := eq_true t1
        refine start_ (n := 13) (S := fun w' => w'.cell? ⟨d1, 0, none⟩ = some (.slice (some c8) a7.length d0) ∧ w'.cell? ⟨d1, 1, none⟩ = some (.slice e8 a4.length c9) ∧ w'.cell? ⟨h5, 0, none⟩ = some (.int .i64 ((rd_T88 a7 b1).f0)) ∧ w'.cell? ⟨h5, 1, none⟩ = some (.int .i64 ((rd_T88 a7 b1).f1)) ∧ w'.cell? ⟨h5, 2, none⟩ = some (.int .i64 ((rd_T88 a7 b1).f2)) ∧ w'.cell? ⟨h5, 3, none⟩ = some (.int .i64 ((rd_T88 a7 b1).f3)) ∧ w'.cell? (c8.add (((c3)).toNat * 4)) = some (.int .i64 ((rd_T88 a7 (c3)).f0)) ∧ w'.cell? ⟨(c8.add (((c3)).toNat * 4)).block, (c8.add (((c3)).toNat * 4)).off + 1, none⟩ = some (.int .i64 ((rd_T88 a7 (c3)).f1)) ∧ w'.cell? ⟨(c8.add (((c3)).toNat * 4)).block, (c8.add (((c3)).toNat * 4)).off + 2, none⟩ = some (.int .i64 ((rd_T88 a7 (c3)).f2)) ∧ w'.cell? ⟨(c8.add (((c3)).toNat * 4)).block, (c8.add (((c3)).toNat * 4)).off + 3, none⟩ = some (.int .i64 ((rd_T88 a7 (c3)).f3))) (ds := []) #[false, false, false, false, false, false, false, false, false, false, false, false, false] (by kernel_rfl) rfl rfl ⟨bc a5 0, bc a5 1, bc c2 0, bc c2 1, bc c2 2, bc c2 3, (hxc HB o9), (hxc HB o8), (hxc HB o7), (hxc HB o6)⟩ (fun hHeld => ?_); refine with_tabW statistic_Valid.tab9 statistic_Valid.bits9 (fun HT_ HW_ => ?_)
        generalize wc.drew = X9 at a6 a5 c2 HB g7 g6 g5 g4 hHeld ⊢
        refine pu 0 54 (bits 13 0x1) HT_ (h := ?_)
        refine pu 1 55 (bits 13 0x3) HT_ (h := ?_)
        refine pu 2 56 (bits 13 0x7) HT_ (h := ?_)
        refine pu 3 57 (bits 13 0xf) HT_ (h := ?_)
        refine pu 5 59 (bits 13 0x2f) HT_ (h := ?_)
        refine pu 6 60 (bits 13 0x6f) HT_ (h := ?_)
        refine tk 4 58 (bits 13 0x7f) HT_ HW_ hHeld (hy := by rintro w' ⟨s0, s1, s2, s3, s4, s5, s6, s7, s8, s9⟩; go_simp; with_reducible rfl) (h := ?_)
        refine pu 7 61 (bits 13 0xff) HT_ (h := ?_)
        refine tk 8 62 (bits 13 0x1ff) HT_ HW_ hHeld (hy := by rintro w' ⟨s0, s1, s2, s3, s4, s5, s6, s7, s8, s9⟩; go_simp; with_reducible rfl) (h := ?_)
        refine tk 9 63 (bits 13 0x3ff) HT_ HW_ hHeld (hy := by rintro w' ⟨s0, s1, s2, s3, s4, s5, s6, s7, s8, s9⟩; go_simp; with_reducible rfl) (h := ?_)
        refine one_ (i := 10) (N := some 64) #[true, true, true, true, true, true, true, true, true, true, true, false, false] rfl rfl (one_of HT_.out (by kernel_rfl)) (by decide) (fun K hK => ?_)
        refine goes_ Try.func78 (by kernel_rfl) rfl #[.agg #[.int .i64 ((rd_T88 a7 (c3)).f0), .int .i64 ((rd_T88 a7 (c3)).f1), .int .i64 ((rd_T88 a7 (c3)).f2), .int .i64 ((rd_T88 a7 (c3)).f3)], .agg #[.int .i64 ((rd_T88 a7 b1).f0), .int .i64 ((rd_T88 a7 b1).f1), .int .i64 ((rd_T88 a7 b1).f2), .int .i64 ((rd_T88 a7 b1).f3)]] (by rfl) rfl rfl (by (try simp only [List.map_toArray, List.map_cons, List.map_nil]); first | done | (simp only [h4]; rfl) | rfl | (simp only [List.length_drop, List.length_take]; rfl)) ?_
        with_reducible refine (statistic_compare.calls _ _ _ _ _ _ _ _ _ _ _ R9.out).mono ?_
        rintro e X8 ⟨rfl, hb⟩
        refine ⟨_, rfl, ?_⟩
        replace a6 := bkb a6 hb
        replace a5 := bkb a5 hb
        replace c2 := bkb c2 hb
        replace HB := bstep HB hb
        (try clear hb)
        (try clear hb2)
        (try clear hk)
        (try clear hi)
        refine hK.out _ _ ⟨bc a5 0, bc a5 1, bc c2 0, bc c2 1, bc c2 2, bc c2 3, (hxc HB o9), (hxc HB o8), (hxc HB o7), (hxc HB o6)⟩ (fun hHeld => ?_)
        clear hK K
        refine norm_ (a' := ?_) ?_ ?_
        rotate_left
        ·show Act.put _ (some 64) _ = _
         simp only [Act.put, List.setIfInBounds_toArray, List.set_cons_zero, List.set_cons_succ, i64_w, i32_w]
         rfl
        refine pu 11 65 (bits 13 0xfff) HT_ (h := ?_)
        refine pu 12 66 (bits 13 0x1fff) HT_ (h := ?_)
        refine done_ (done_of HT_.out (by kernel_rfl)) ?_
        try go_wp2
       ·go_roundg q2
        case measure => have := e7.out; have := q8.out; omega
        case rel => exact ⟨(wrap64 (b1 + 1)), eqs, H', ⟨by have := e7.out; have := q8.out; omega⟩, ⟨bk a6⟩, ⟨bk a5⟩, ⟨bb HB⟩⟩
       ·go_ret
        exact ⟨by first | rfl | (simp [errW_none, errW_some] <;> rfl) | (simp only [← h4]; first | rfl | (simp [errW_none, errW_some] <;> rfl)) | (simp [*, errW_none, errW_some] <;> rfl), bb HB⟩
    rw [if_neg p6] at H
    have q5 := decide_eq_false p6
    clear p6
    obtain ⟨n6, R8, H⟩ := obA H
    by_cases p2 : n6 > 40
    rw [if_pos p2] at H
    have x6 : decide (40 < n6) = true := decide_eq_true p2
    clear p2
    obtain rfl := Option.some.inj H
    rotate_left
    rw [if_neg p2] at H
    have x6 : decide (40 < n6) = false := decide_eq_false p2
    clear p2
    have H' := Aside0.mk H
    clear H
    all_goals
     have V1 := c5.out
     have U3 := c6.out
     obtain ⟨D7, D6, C3, C2⟩ := cz2 a5
     go_wp2_with ((with_reducible refine gate_callee (f := 81) rfl ?_); refine gl 70 Try.func81 #[.slice e2 a7.length d0] (h := ?_); (with_reducible refine (statistic_total.calls _ _ _ _ _ _ (cb j2 HB) r0.out R8.out).mono ?_); rintro e X6 ⟨rfl, hb⟩; refine ⟨_, rfl, ?_⟩; replace a6 := bkb a6 hb; replace a5 := bkb a5 hb; replace HB := bstep HB hb; clear hb; obtain ⟨D5, D4, C1, C0⟩ := cz2 a5)
    ·go_loopg [75] k1 (fun kq O8 w' => ∃ (a8 : Int), O8 = .int .i64 a8 ∧ Aside0 (statistic_Valid.l1 kq a4 (a4.length : Int) a8 c0 b9 a7 a4 = some r) ∧ Aside0 (kq ≤ k1) ∧ Aside0 (w'.heap[h6]? = some (.cells #[(.slice d7 c0.length d5), (.slice d6 b9.length d4)] 25 (0, 0))) ∧ Aside0 (w'.heap[d1]? = some (.cells #[(.slice e2 a7.length d0), (.slice e8 a4.length c9)] 64 (0, 0))) ∧ Aside0 (Below w.heap.size w w'))
     case atStart => exact ⟨(0), eqs, H', ⟨Nat.le_refl _⟩, ⟨bk a6⟩, ⟨bk a5⟩, ⟨bb HB⟩⟩
     case round =>
      clear H'
      try clear q5 x6 D7 D6 D5 D4 C3 C2 C1 C0
      obtain ⟨a8, rfl, HA, p7, a6, a5, HB⟩ := hrel
      cases gk with
      | zero => exact absurd HA.out (by simp [statistic_Valid.l1])
      | succ k2 =>
       have H := HA.out
       clear HA
       simp only [statistic_Valid.l1] at H
       by_cases p1 : a8 < (a4.length : Int)
       rotate_left
       ·rw [if_neg p1] at H
        have x5 := decide_eq_false p1
        clear p1
        obtain ⟨n5, M9, H⟩ := obA H
        by_cases m3 : n5 > 80
        rw [if_pos m3] at H
        have E7 : decide (80 < n5) = true := decide_eq_true m3
        clear m3
        obtain rfl := Option.some.inj H
        rotate_left
        rw [if_neg m3] at H
        have E7 : decide (80 < n5) = false := decide_eq_false m3
        clear m3
        obtain rfl := Option.some.inj H
        all_goals
         have Q3 := c5.out
         have P2 := c6.out
         obtain ⟨J6, J5, H6, H5⟩ := cz2 a5
         go_wp2_with (first | ((with_reducible refine gate_callee (f := 81) rfl ?_); refine gl 156 Try.func81 #[.slice e8 a4.length c9] (h := ?_); (with_reducible refine (statistic_total.calls _ _ _ _ _ _ (cb j0 HB) q9.out M9.out).mono ?_); rintro e W6 ⟨rfl, hb⟩; refine ⟨_, rfl, ?_⟩; replace a6 := bkb a6 hb; replace a5 := bkb a5 hb; replace HB := bstep HB hb; clear hb))
         go_ret
         exact ⟨erf, bb HB⟩
       rw [if_pos p1] at H
       have x5 := decide_eq_true p1
       clear p1
       obtain ⟨G6, H⟩ := itn H
       have F4 := decide_eq_true G6
       clear G6
       obtain ⟨G5, H⟩ := itn H
       have F3 := decide_eq_true G5
       clear G5
       have w0 := Aside0.mk H
       clear H
       have q0 : 0 ≤ a8 := odt
       have p8 : a8 < (a4.length : Int) := odt
       obtain ⟨c7, M6, j8, j7, j6, j5⟩ := at_T88 j0.out a8 q0 p8
       cases M6
       replace j8 := hxc HB j8
       replace j7 := hxc HB j7
       replace j6 := hxc HB j6
       replace j5 := hxc HB j5
       replace q0 := eq_true q0
       replace p8 := eq_true p8
       go_upto_region 17 with (first | ((with_reducible refine gate_dst (N := 10) rfl ?_); (try (refine gate_guard (by rfl) ?_; dsimp only)); refine be 10 #[.int .i64 0, .int .i64 0, .int .i64 0, .int .i64 0] 88 ?_; intro g8 hg X5 hbox hb; have b3 := Aside0.mk (hbox); have V9 := bsz HB hg; replace HB := bstep HB hb; have e1 := blt a6 hg; have d9 := bgt a6 hg; replace a6 := bkb a6 hb; have e0 := blt a5 hg; have d8 := bgt a5 hg; replace a5 := bkb a5 hb; clear hb hbox hg; have V0 := d9.out; have U2 := e1.out; have U9 := d8.out; have U1 := e0.out; obtain ⟨D3, D2, D1, D0, A9, A8, A7, A6⟩ := cz4 b3))
       (try simp only [Act.put, List.setIfInBounds_toArray, List.set_cons_zero, List.set_cons_succ])
       go_cut [80] (fun O7 wc => ∃ (kq : Nat) (h1 : Bool), O7 = .bool h1 ∧ Aside0 (statistic_Valid.j3 kq a8 a4 (a4.length : Int) a8 h1 c0 b9 a7 a4 ((rd_T88 a4 a8).f0) ((rd_T88 a4 a8).f1) ((rd_T88 a4 a8).f2) ((rd_T88 a4 a8).f3) = some r) ∧ Aside0 (kq ≤ k2) ∧ Aside0 (wc.heap[h6]? = some (.cells #[(.slice d7 c0.length d5), (.slice d6 b9.length d4)] 25 (0, 0))) ∧ Aside0 (wc.heap[d1]? = some (.cells #[(.slice e2 a7.length d0), (.slice (some c7) a4.length c9)] 64 (0, 0))) ∧ Aside0 (wc.heap[g8]? = some (.cells #[.int .i64 ((rd_T88 a4 a8).f0), .int .i64 ((rd_T88 a4 a8).f1), .int .i64 ((rd_T88 a4 a8).f2), .int .i64 ((rd_T88 a4 a8).f3)] 88 (0, 0))) ∧ Aside0 (Below w.heap.size w wc))
       case first =>
        have H := w0.out
        clear w0
        obtain ⟨r8, R7, H⟩ := obA H
        by_cases x4 : r8 = true
        subst x4
        replace H := ift H
        obtain ⟨r7, R6, H⟩ := obA H
        by_cases x2 : r7 = true
        subst x2
        replace H := ift H
        obtain ⟨r6, R5, H⟩ := obA H
        by_cases x0 : r6 = true
        subst x0
        replace H := ift H
        by_cases p0 : ((rd_T88 a4 a8).f3) < 1
        rw [if_pos p0] at H
        have h7 := decide_eq_true p0
        clear p0
        (first | rw [h7] | (simp only [i64_w, i32_w]; rw [h7]) | skip)
        have H' := Aside0.mk H
        clear H
        rotate_left
        rw [if_neg p0] at H
        have h7 := decide_eq_false p0
        clear p0
        (first | rw [h7] | (simp only [i64_w, i32_w]; rw [h7]) | skip)
        have H' := Aside0.mk H
        clear H
        rotate_left
        replace x0 := Bool.eq_false_iff.mpr x0
        subst x0
        replace H := iff_ H
        have H' := Aside0.mk H
        clear H
        rotate_left
        replace x2 := Bool.eq_false_iff.mpr x2
        subst x2
        replace H := iff_ H
        have H' := Aside0.mk H
        clear H
        rotate_left
        replace x4 := Bool.eq_false_iff.mpr x4
        subst x4
        replace H := iff_ H
        have H' := Aside0.mk H
        clear H
        all_goals
         have R2 := d9.out
         have Q1 := e1.out
         have R1 := d8.out
         have Q0 := e0.out
         obtain ⟨M4, M3, M2, M1, J4, J3, J2, J1⟩ := cz4 b3
         have R0 := c6.out
         have P9 := c5.out
         obtain ⟨M0, L9, J0, I9⟩ := cz2 a6
         go_wp2_with (first | ((with_reducible refine gate_callee (f := 58) rfl ?_); refine gl 86 Try.func58 #[.int .i64 ((rd_T88 a4 a8).f0), .int .i64 (b9.length : Int)] (h := ?_); (with_reducible refine (statistic_is.calls _ _ _ _ R7.out).mono ?_); rintro e w' ⟨rfl, ⟨nd, rfl⟩⟩; refine ⟨_, rfl, ?_⟩) | (go_at_call 58; (with_reducible refine (statistic_is.calls _ _ _ _ R6.out).mono ?_); rintro e w' ⟨rfl, ⟨nd, rfl⟩⟩) | (go_at_call 58; (with_reducible refine (statistic_is.calls _ _ _ _ R5.out).mono ?_); rintro e w' ⟨rfl, ⟨nd, rfl⟩⟩))
         go_meet
         case rel => exact ⟨_, _, eqs, H', ⟨by have := e7.out; have := p7.out; first | omega | exact Nat.le_refl _⟩, ⟨bkF a6⟩, ⟨bkF a5⟩, ⟨bkP b3⟩, ⟨bb HB⟩⟩
       case rest =>
        clear w0
        try clear x5 F4 F3 D3 D2 D1 D0 A9 A8 A7 A6 j8 j7 j6 j5 q0 p8
        obtain ⟨kq, h1, rfl, HA, o1, a6, a5, b3, HB⟩ := hcut
        cases kq with
        | zero => exact absurd HA.out (by simp [statistic_Valid.j3])
        | succ H4 =>
         have H := HA.out
         clear HA
         simp only [statistic_Valid.j3] at H
         by_cases o0 : h1 = true
         ·subst o0
          replace H := ift H
          obtain rfl := Option.some.inj H
          go_wp2
          go_ret
          exact ⟨erf, bb HB⟩
         replace o0 := Bool.eq_false_iff.mpr o0
         subst o0
         replace H := iff_ H
         obtain ⟨r5, F2, H⟩ := obA H
         by_cases n9 : r5 = true
         subst n9
         replace H := ift H
         have r1 := Aside0.mk H
         clear H
         rotate_left
         replace n9 := Bool.eq_false_iff.mpr n9
         subst n9
         replace H := iff_ H
         obtain rfl := Option.some.inj H
         all_goals
          have Q9 := c6.out
          have P8 := c5.out
          have Q8 := e1.out
          have P7 := d9.out
          obtain ⟨v9, v8, v1, v0⟩ := cz2 a6
          have Q7 := d8.out
          have P6 := e0.out
          obtain ⟨v7, v6, v5, v4, t9, t8, t7, t6⟩ := cz4 b3
         ·go_wp2_with (first | ((with_reducible refine gate_callee (f := 23) rfl ?_); refine gl 124 Try.func23 #[.agg #[.slice d7 c0.length d5, .slice d6 b9.length d4], .int .i64 ((rd_T88 a4 a8).f0), .int .i64 ((rd_T88 a4 a8).f1), .int .i64 ((rd_T88 a4 a8).f2)] (h := ?_); (with_reducible refine (types_Fits.calls _ _ _ _ _ _ _ _ _ _ _ _ (cb q7 HB) r3.out (cb q6 HB) r2.out F2.out).mono ?_); rintro e W7 ⟨rfl, hb⟩; refine ⟨_, rfl, ?_⟩; replace a6 := bkb a6 hb; replace a5 := bkb a5 hb; replace b3 := bkb b3 hb; replace HB := bstep HB hb; clear hb))
          go_ret
          exact ⟨erf, bb HB⟩
         ·go_upto_region 21 with (first | ((with_reducible refine gate_callee (f := 23) rfl ?_); refine gl 124 Try.func23 #[.agg #[.slice d7 c0.length d5, .slice d6 b9.length d4], .int .i64 ((rd_T88 a4 a8).f0), .int .i64 ((rd_T88 a4 a8).f1), .int .i64 ((rd_T88 a4 a8).f2)] (h := ?_); (with_reducible refine (types_Fits.calls _ _ _ _ _ _ _ _ _ _ _ _ (cb q7 HB) r3.out (cb q6 HB) r2.out F2.out).mono ?_); rintro e X3 ⟨rfl, hb⟩; refine ⟨_, rfl, ?_⟩; replace a6 := bkb a6 hb; replace a5 := bkb a5 hb; replace b3 := bkb b3 hb; replace HB := bstep HB hb; clear hb))
          (try simp only [Act.put, List.setIfInBounds_toArray, List.set_cons_zero, List.set_cons_succ])
          go_cut [126] (fun H2 wc => ∃ (kq : Nat) (e4 : Bool), H2 = .bool e4 ∧ Aside0 (statistic_Valid.j4 kq a8 a4 (a4.length : Int) a8 e4 c0 b9 a7 a4 ((rd_T88 a4 a8).f0) ((rd_T88 a4 a8).f1) ((rd_T88 a4 a8).f2) ((rd_T88 a4 a8).f3) = some r) ∧ Aside0 (kq ≤ H4) ∧ Aside0 (wc.heap[h6]? = some (.cells #[(.slice d7 c0.length d5), (.slice d6 b9.length d4)] 25 (0, 0))) ∧ Aside0 (wc.heap[d1]? = some (.cells #[(.slice e2 a7.length d0), (.slice (some c7) a4.length c9)] 64 (0, 0))) ∧ Aside0 (wc.heap[g8]? = some (.cells #[.int .i64 ((rd_T88 a4 a8).f0), .int .i64 ((rd_T88 a4 a8).f1), .int .i64 ((rd_T88 a4 a8).f2), .int .i64 ((rd_T88 a4 a8).f3)] 88 (0, 0))) ∧ Aside0 (Below w.heap.size w wc))
          case first =>
           have H := r1.out
           clear r1
           obtain ⟨r4, N2, H⟩ := obA H
           by_cases q4 : r4 = true
           subst q4
           replace H := ift H
           obtain ⟨E4, N1, H⟩ := obA H
           have H' := Aside0.mk H
           clear H
           rotate_left
           replace q4 := Bool.eq_false_iff.mpr q4
           subst q4
           replace H := iff_ H
           have H' := Aside0.mk H
           clear H
           all_goals
            have Q6 := c5.out
            have P5 := c6.out
            have Q5 := e0.out
            have P4 := d8.out
            obtain ⟨L8, L7, I8, I7⟩ := cz2 a5
            have Q4 := d9.out
            have P3 := e1.out
            obtain ⟨L6, L5, L4, L3, I6, I5, I4, I3⟩ := cz4 b3
            go_wp2_with (first | ((with_reducible refine gate_callee (f := 82) rfl ?_); refine gl 130 Try.func82 #[.agg #[.slice e2 a7.length d0, .slice (some c7) a4.length c9], .int .i64 ((rd_T88 a4 a8).f1)] (h := ?_); (with_reducible refine (statistic_has.calls _ _ _ _ _ _ _ _ _ (cb j2 HB) r0.out (cb j0 HB) q9.out N2.out).mono ?_); rintro e X2 ⟨rfl, hb⟩; refine ⟨_, rfl, ?_⟩; replace a6 := bkb a6 hb; replace a5 := bkb a5 hb; replace b3 := bkb b3 hb; replace HB := bstep HB hb; clear hb; obtain ⟨L2, L1, I2, I1⟩ := cz2 a5; obtain ⟨L0, J9, J8, J7, I0, H9, H8, H7⟩ := cz4 b3) | (go_at_call 82; (with_reducible refine (statistic_has.calls _ _ _ _ _ _ _ _ _ (cb j2 HB) r0.out (cb j0 HB) q9.out N1.out).mono ?_); rintro e X1 ⟨rfl, hb⟩; replace a6 := bkb a6 hb; replace a5 := bkb a5 hb; replace b3 := bkb b3 hb; replace HB := bstep HB hb; clear hb))
            go_meet
            case rel => exact ⟨_, _, eqs, H', ⟨by have := e7.out; have := p7.out; have := o1.out; first | omega | exact Nat.le_refl _⟩, ⟨bk a6⟩, ⟨bk a5⟩, ⟨bk b3⟩, ⟨bb HB⟩⟩
          case rest =>
           clear r1
           try clear o0 n9 v9 v8 v7 v6 v5 v4 v1 v0 t9 t8 t7 t6
           obtain ⟨kq, e4, rfl, HA, n4, a6, a5, b3, HB⟩ := hcut
           cases kq with
           | zero => exact absurd HA.out (by simp [statistic_Valid.j4])
           | succ n3 =>
            have H := HA.out
            clear HA
            simp only [statistic_Valid.j4] at H
            by_cases q3 : e4 = true
            ·subst q3
             replace H := ift H
             obtain rfl := Option.some.inj H
             go_wp2
             go_ret
             exact ⟨erf, bb HB⟩
            replace q3 := Bool.eq_false_iff.mpr q3
            subst q3
            replace H := iff_ H
            by_cases m5 : a8 > 0
            rotate_left
            ·rw [if_neg m5] at H
             have F1 : decide (0 < a8) = false := decide_eq_false m5
             clear m5
             have H' := Aside0.mk H
             clear H
             try go_wp2
             replace a6 := Aside0.mk (blk_drew a6.out)
             replace a5 := Aside0.mk (blk_drew a5.out)
             replace b3 := Aside0.mk (blk_drew b3.out)
             replace HB := Aside0.mk (below_drew1 HB.out)
             refine start_ (n := 14) (S := fun w' => True) (ds := []) #[false, false, false, false, false, false, false, false, false, false, false, false, false, false] (by kernel_rfl) rfl rfl trivial (fun hHeld => ?_); refine with_tabW statistic_Valid.tab23 statistic_Valid.bits23 (fun HT_ HW_ => ?_)
             generalize wc.drew = W8 at a6 a5 b3 HB hHeld ⊢
             refine pu 0 140 (bits 14 0x1) HT_ (h := ?_)
             refine pu 1 141 (bits 14 0x3) HT_ (h := ?_)
             refine pu 2 142 (bits 14 0x7) HT_ (h := ?_)
             refine pn 3 143 (bits 14 0xf) HT_ (h := ?_)
             refine pn 4 144 (bits 14 0x1f) HT_ (h := ?_)
             refine pn 5 145 (bits 14 0x3f) HT_ (h := ?_)
             refine pn 6 146 (bits 14 0x7f) HT_ (h := ?_)
             refine pn 7 147 (bits 14 0xff) HT_ (h := ?_)
             refine pn 8 148 (bits 14 0x1ff) HT_ (h := ?_)
             refine pn 9 149 (bits 14 0x3ff) HT_ (h := ?_)
             refine pn 10 150 (bits 14 0x7ff) HT_ (h := ?_)
             refine pn 11 151 (bits 14 0xfff) HT_ (h := ?_)
             refine pu 12 152 (bits 14 0x1fff) HT_ (h := ?_)
             refine pu 13 139 (bits 14 0x3fff) HT_ (h := ?_)
             refine done_ (done_of HT_.out (by kernel_rfl)) ?_
             try go_wp2
             go_roundg n3
             case measure => have := e7.out; have := p7.out; have := o1.out; have := n4.out; omega
             case rel => exact ⟨(wrap64 (a8 + 1)), eqs, H', ⟨by have := e7.out; have := p7.out; have := o1.out; have := n4.out; omega⟩, ⟨bk a6⟩, ⟨bk a5⟩, ⟨bb HB⟩⟩
            rw [if_pos m5] at H
            have F1 : decide (0 < a8) = true := decide_eq_true m5
            clear m5
            obtain ⟨b6, e6⟩ : ∃ j_ : Int, (wrap64 (a8 - 1)) = j_ := ⟨_, rfl⟩
            replace H : (if 0 ≤ (b6) then (if (b6) < (a4.length : Int) then ((statistic_compare.f n3 ((rd_T88 a4 (b6)).f0) ((rd_T88 a4 (b6)).f1) ((rd_T88 a4 (b6)).f2) ((rd_T88 a4 (b6)).f3) ((rd_T88 a4 a8).f0) ((rd_T88 a4 a8).f1) ((rd_T88 a4 a8).f2) ((rd_T88 a4 a8).f3)).bind fun g9 => (if g9 ≥ 0 then (some 12) else (statistic_Valid.l1 n3 a4 (a4.length : Int) (wrap64 (a8 + 1)) c0 b9 a7 a4))) else (none)) else (none)) = some r := by first | (rw [e6] at H; exact H) | (simp only [e6] at H ⊢; exact H)
            have hji140w : (IntKind.i64.wrap (a8 - 1)) = b6 := (i64_w _).trans e6
            obtain ⟨F0, H⟩ := itn H
            have R4 := decide_eq_true F0
            clear F0
            obtain ⟨E9, H⟩ := itn H
            have R3 := decide_eq_true E9
            clear E9
            obtain ⟨g9, N0, H⟩ := obA H
            by_cases m4 : g9 ≥ 0
            rw [if_pos m4] at H
            have E8 : decide (0 ≤ g9) = true := decide_eq_true m4
            clear m4
            obtain rfl := Option.some.inj H
            rotate_left
            rw [if_neg m4] at H
            have E8 : decide (0 ≤ g9) = false := decide_eq_false m4
            clear m4
            have H' := Aside0.mk H
            clear H
            all_goals
             try go_wp2
             replace a6 := Aside0.mk (blk_drew a6.out)
             replace a5 := Aside0.mk (blk_drew a5.out)
             replace b3 := Aside0.mk (blk_drew b3.out)
             replace HB := Aside0.mk (below_drew1 HB.out)
             have t2 : 0 ≤ ((b6) : Int) := odt
             have t0 : (b6) < (a4.length : Int) := odt
             obtain ⟨G3, M5, g3, g2, g1, g0⟩ := at_T88 j0.out (b6) t2 t0
             have o2 := g0
             have o3 := g1
             have o4 := g2
             have o5 := g3
             obtain rfl : c7 = G3 := (by injection M5)
             replace g3 := hxc HB g3
             replace g2 := hxc HB g2
             replace g1 := hxc HB g1
             replace g0 := hxc HB g0
             replace t2 := eq_true t2
             replace t0 := eq_true t0
             refine start_ (n := 14) (S := fun w' => w'.cell? ⟨d1, 0, none⟩ = some (.slice e2 a7.length d0) ∧ w'.cell? ⟨d1, 1, none⟩ = some (.slice (some c7) a4.length c9) ∧ w'.cell? ⟨g8, 0, none⟩ = some (.int .i64 ((rd_T88 a4 a8).f0)) ∧ w'.cell? ⟨g8, 1, none⟩ = some (.int .i64 ((rd_T88 a4 a8).f1)) ∧ w'.cell? ⟨g8, 2, none⟩ = some (.int .i64 ((rd_T88 a4 a8).f2)) ∧ w'.cell? ⟨g8, 3, none⟩ = some (.int .i64 ((rd_T88 a4 a8).f3)) ∧ w'.cell? (c7.add (((b6)).toNat * 4)) = some (.int .i64 ((rd_T88 a4 (b6)).f0)) ∧ w'.cell? ⟨(c7.add (((b6)).toNat * 4)).block, (c7.add (((b6)).toNat * 4)).off + 1, none⟩ = some (.int .i64 ((rd_T88 a4 (b6)).f1)) ∧ w'.cell? ⟨(c7.add (((b6)).toNat * 4)).block, (c7.add (((b6)).toNat * 4)).off + 2, none⟩ = some (.int .i64 ((rd_T88 a4 (b6)).f2)) ∧ w'.cell? ⟨(c7.add (((b6)).toNat * 4)).block, (c7.add (((b6)).toNat * 4)).off + 3, none⟩ = some (.int .i64 ((rd_T88 a4 (b6)).f3))) (ds := []) #[false, false, false, false, false, false, false, false, false, false, false, false, false, false] (by kernel_rfl) rfl rfl ⟨bc a5 0, bc a5 1, bc b3 0, bc b3 1, bc b3 2, bc b3 3, (hxc HB o5), (hxc HB o4), (hxc HB o3), (hxc HB o2)⟩ (fun hHeld => ?_); refine with_tabW statistic_Valid.tab23 statistic_Valid.bits23 (fun HT_ HW_ => ?_)
             generalize wc.drew = X0 at a6 a5 b3 HB g3 g2 g1 g0 hHeld ⊢
             refine pu 0 140 (bits 14 0x1) HT_ (h := ?_)
             refine pu 1 141 (bits 14 0x3) HT_ (h := ?_)
             refine pu 2 142 (bits 14 0x7) HT_ (h := ?_)
             refine pu 3 143 (bits 14 0xf) HT_ (h := ?_)
             refine pu 5 145 (bits 14 0x2f) HT_ (h := ?_)
             refine pu 6 146 (bits 14 0x6f) HT_ (h := ?_)
             refine tk 4 144 (bits 14 0x7f) HT_ HW_ hHeld (hy := by rintro w' ⟨s0, s1, s2, s3, s4, s5, s6, s7, s8, s9⟩; go_simp; with_reducible rfl) (h := ?_)
             refine pu 7 147 (bits 14 0xff) HT_ (h := ?_)
             refine tk 8 148 (bits 14 0x1ff) HT_ HW_ hHeld (hy := by rintro w' ⟨s0, s1, s2, s3, s4, s5, s6, s7, s8, s9⟩; go_simp; with_reducible rfl) (h := ?_)
             refine tk 9 149 (bits 14 0x3ff) HT_ HW_ hHeld (hy := by rintro w' ⟨s0, s1, s2, s3, s4, s5, s6, s7, s8, s9⟩; go_simp; with_reducible rfl) (h := ?_)
             refine one_ (i := 10) (N := some 150) #[true, true, true, true, true, true, true, true, true, true, true, false, false, false] rfl rfl (one_of HT_.out (by kernel_rfl)) (by decide) (fun K hK => ?_)
             refine goes_ Try.func78 (by kernel_rfl) rfl #[.agg #[.int .i64 ((rd_T88 a4 (b6)).f0), .int .i64 ((rd_T88 a4 (b6)).f1), .int .i64 ((rd_T88 a4 (b6)).f2), .int .i64 ((rd_T88 a4 (b6)).f3)], .agg #[.int .i64 ((rd_T88 a4 a8).f0), .int .i64 ((rd_T88 a4 a8).f1), .int .i64 ((rd_T88 a4 a8).f2), .int .i64 ((rd_T88 a4 a8).f3)]] (by rfl) rfl rfl (by (try simp only [List.map_toArray, List.map_cons, List.map_nil]); first | done | (simp only [e6]; rfl) | rfl | (simp only [List.length_drop, List.length_take]; rfl)) ?_
             with_reducible refine (statistic_compare.calls _ _ _ _ _ _ _ _ _ _ _ N0.out).mono ?_
             rintro e W9 ⟨rfl, hb⟩
             refine ⟨_, rfl, ?_⟩
             replace a6 := bkb a6 hb
             replace a5 := bkb a5 hb
             replace b3 := bkb b3 hb
             replace HB := bstep HB hb
             (try clear hb)
             (try clear hb2)
             (try clear hk)
             (try clear hi)
             refine hK.out _ _ ⟨bc a5 0, bc a5 1, bc b3 0, bc b3 1, bc b3 2, bc b3 3, (hxc HB o5), (hxc HB o4), (hxc HB o3), (hxc HB o2)⟩ (fun hHeld => ?_)
             clear hK K
             refine norm_ (a' := ?_) ?_ ?_
             rotate_left
             ·show Act.put _ (some 150) _ = _
              simp only [Act.put, List.setIfInBounds_toArray, List.set_cons_zero, List.set_cons_succ, i64_w, i32_w]
              rfl
             refine pu 11 151 (bits 14 0xfff) HT_ (h := ?_)
             refine pu 12 152 (bits 14 0x1fff) HT_ (h := ?_)
             refine pu 13 139 (bits 14 0x3fff) HT_ (h := ?_)
             refine done_ (done_of HT_.out (by kernel_rfl)) ?_
             try go_wp2
            ·go_roundg n3
             case measure => have := e7.out; have := p7.out; have := o1.out; have := n4.out; omega
             case rel => exact ⟨(wrap64 (a8 + 1)), eqs, H', ⟨by have := e7.out; have := p7.out; have := o1.out; have := n4.out; omega⟩, ⟨bk a6⟩, ⟨bk a5⟩, ⟨bb HB⟩⟩
            ·go_ret
             exact ⟨by first | rfl | (simp [errW_none, errW_some] <;> rfl) | (simp only [← e6]; first | rfl | (simp [errW_none, errW_some] <;> rfl)) | (simp [*, errW_none, errW_some] <;> rfl), bb HB⟩
    ·go_ret
     exact ⟨erf, bb HB⟩
end Go.Proofs.Ytfpianecohobjaa.P
