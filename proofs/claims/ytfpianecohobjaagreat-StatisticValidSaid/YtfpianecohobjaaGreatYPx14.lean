/- StatisticOf: a part of its proof. No condition. -/
import Derived.Test.YtfpianecohobjaaGreatYPx0
import Derived.Test.YtfpianecohobjaaGreatYPx12
import Derived.Test.YtfpianecohobjaaGreatYH2
namespace Go.Proofs.YtfpianecohobjaaGreat.P
open Go.RowKit Go.Proofs.YtfpianecohobjaaGreatW.PrintWords Go.Proofs.YtfpianecohobjaaGreatW.PrintLast Go.Proofs.YtfpianecohobjaaGreatW.PrintMore
set_option linter.unusedVariables false
set_option linter.unusedSimpArgs false
mutual
def statistic_Of.l0 : Nat → List Int → Int → Int → List Int → List (S56) → List (S75) → Option ((List (S75)) × (List (S75)) × Int)
 | 0, _, _, _, _, _, _ => none
 | k + 1, s9, w3, m3, b8, c8, d5 => if m3 < w3 then (if 0 ≤ m3 then (if m3 < (s9.length : Int) then ((statistic_counted.f d5 (rd s9 m3) 0 0 1).bind fun g7 => (statistic_Of.l0 k s9 w3 (wrap64 (m3 + 1)) b8 c8 g7)) else (none)) else (none)) else (statistic_Of.l1 k c8 (c8.length : Int) 0 b8 c8 d5 ([] : List (S75)))
def statistic_Of.l1 : Nat → List (S56) → Int → Int → List Int → List (S56) → List (S75) → List (S75) → Option ((List (S75)) × (List (S75)) × Int)
 | 0, _, _, _, _, _, _, _ => none
 | k + 1, g4, w2, e4, b8, c8, d5, h3 => if e4 < w2 then (if 0 ≤ e4 then (if e4 < (g4.length : Int) then (if 0 ≤ ((rd_T56 g4 e4).f1) then (if ((rd_T56 g4 e4).f1) < (b8.length : Int) then (if 0 ≤ ((rd_T56 g4 e4).f2) then (if ((rd_T56 g4 e4).f2) < (b8.length : Int) then ((statistic_counted.f h3 ((rd_T56 g4 e4).f0) (rd b8 ((rd_T56 g4 e4).f1)) (rd b8 ((rd_T56 g4 e4).f2)) 1).bind fun g3 => (statistic_Of.l1 k g4 w2 (wrap64 (e4 + 1)) b8 c8 d5 g3)) else (none)) else (none)) else (none)) else (none)) else (none)) else (none)) else (some (d5, h3, 0))
end
def statistic_Of.f (k : Nat) (b7 : List (S96)) (b6 : List (S101)) (b1 : List Int) (a4 : List (S56)) : Option ((List (S75)) × (List (S75)) × Int) := (statistic_typed.f k b7 b6 b1 a4).bind fun d6 => (if d6 = 0 then (statistic_Of.l0 k b1 (b1.length : Int) 0 b1 a4 ([] : List (S75))) else (some (([] : List (S75)), ([] : List (S75)), d6)))
theorem statistic_Of.mono_l : ∀ k, (∀ y0 y1 y2 y3 y4 y5, LeO (statistic_Of.l0 k y0 y1 y2 y3 y4 y5) (statistic_Of.l0 (k + 1) y0 y1 y2 y3 y4 y5)) ∧ (∀ y0 y1 y2 y3 y4 y5 y6, LeO (statistic_Of.l1 k y0 y1 y2 y3 y4 y5 y6) (statistic_Of.l1 (k + 1) y0 y1 y2 y3 y4 y5 y6))
 | 0 => ⟨fun _ _ _ _ _ _ r h => by simp [statistic_Of.l0] at h, fun _ _ _ _ _ _ _ r h => by simp [statistic_Of.l1] at h⟩
 | k + 1 => by
  obtain ⟨ih0, ih1⟩ := statistic_Of.mono_l k
  refine ⟨?_, ?_⟩
  ·intro y0 y1 y2 y3 y4 y5
   unfold statistic_Of.l0
   repeat' first
   | (with_reducible exact ih0 _ _ _ _ _ _)
   | (with_reducible exact ih1 _ _ _ _ _ _ _)
   | (with_reducible exact statistic_typed.mono _ _ _ _ _)
   | (with_reducible exact LeO.refl _)
   | (with_reducible exact LeO.none _)
   | (with_reducible refine LeO.ite ?_ ?_)
   | (with_reducible refine LeO.bind ?_ (fun _ => ?_))
  ·intro y0 y1 y2 y3 y4 y5 y6
   unfold statistic_Of.l1
   repeat' first
   | (with_reducible exact ih0 _ _ _ _ _ _)
   | (with_reducible exact ih1 _ _ _ _ _ _ _)
   | (with_reducible exact statistic_typed.mono _ _ _ _ _)
   | (with_reducible exact LeO.refl _)
   | (with_reducible exact LeO.none _)
   | (with_reducible refine LeO.ite ?_ ?_)
   | (with_reducible refine LeO.bind ?_ (fun _ => ?_))
theorem statistic_Of.mono : ∀ a0 a1 a2 a3 k, LeO (statistic_Of.f k a0 a1 a2 a3) (statistic_Of.f (k + 1) a0 a1 a2 a3) := by
 intro a0 a1 a2 a3 k
 obtain ⟨ih0, ih1⟩ := statistic_Of.mono_l k
 unfold statistic_Of.f
 repeat' first
   | (with_reducible exact ih0 _ _ _ _ _ _)
   | (with_reducible exact ih1 _ _ _ _ _ _ _)
   | (with_reducible exact statistic_typed.mono _ _ _ _ _)
   | (with_reducible exact LeO.refl _)
   | (with_reducible exact LeO.none _)
   | (with_reducible refine LeO.ite ?_ ?_)
   | (with_reducible refine LeO.bind ?_ (fun _ => ?_))
def statistic_Of.T13 : Bool × List (List Nat × List Nat) := (true, [([], []), ([0], [0]), ([], []), ([2], [2]), ([], []), ([4], [4]), ([], []), ([6], [6]), ([5, 7], [5, 7]), ([8], [8]), ([], []), ([10], [10]), ([], []), ([12], [12]), ([11, 13], [11, 13]), ([14], [14]), ([3, 9, 15], [3, 9, 15]), ([1, 16], [1, 16]), ([0, 1, 2, 3, 4, 5, 6, 7, 8, 9, 10, 11, 12, 13, 14, 15, 16, 17], []), ([18, 17, 17, 0, 1, 2, 3, 4, 5, 6, 7, 8, 9, 10, 11, 12, 13, 14, 15, 16, 17], [17, 18])])
def statistic_Of.B13 : List Nat := [0, 1, 0, 4, 0, 16, 0, 64, 240, 496, 0, 1024, 0, 4096, 15360, 31744, 65532, 131071, 262143, 524287]
theorem statistic_Of.tab13 : rtab .any (opsOf Tryz.f14 13) = statistic_Of.T13 := by kernel_rfl
theorem statistic_Of.bits13 : waitsOk statistic_Of.T13.2 statistic_Of.B13 = true := by kernel_rfl
set_option maxHeartbeats 8000000 in
set_option maxRecDepth 100000 in
theorem statistic_Of.calls (k : Nat) (e3 : Option Addr) (e0 : Nat) (b7 : List (S96)) (e2 : Option Addr) (d9 : Nat) (b6 : List (S101)) (e1 : Option Addr) (d4 : Nat) (b1 : List Int) (e9 : Option Addr) (d3 : Nat) (a4 : List (S56)) (r1 : List (S75)) (r2 : List (S75)) (r3 : Int) (w : World) (o5 : Kd.C k96 w e3 b7.length b7) (o9 : b7.length ≤ e0) (o4 : Kd.C k101 w e2 b6.length b6) (o8 : b6.length ≤ d9) (o3 : Kd.C (Kd.int .i64) w e1 b1.length b1) (o7 : b1.length ≤ d4) (o2 : Kd.C k56 w e9 a4.length a4) (o6 : a4.length ≤ d3) (h : statistic_Of.f k b7 b6 b1 a4 = some (r1, r2, r3)) :
  Calls Tryz.prog 14 #[.agg #[.slice e3 b7.length e0, .slice e2 b6.length d9], .agg #[.slice e1 b1.length d4, .slice e9 a4.length d3]] w fun e w' => ∃ t1 t0 : Value, e = .returned (.tuple #[.agg #[t1, t0], .int .i64 r3]) ∧ Kd.R k75 75 w' w.heap.size (fun k_ => some k_ ≠ (t0 : Value).ownBlock) t1 r1 ∧ Kd.R k75 75 w' w.heap.size (fun k_ => some k_ ≠ (t1 : Value).ownBlock) t0 r2 ∧ Below w.heap.size w w' := by
 have hu31 := Tryz.underlying31
 have hu35 := Tryz.underlying35
 have hu46 := Tryz.underlying46
 have hu75 := Tryz.underlying75
 have hu56 := Tryz.underlying56
 have p3 := Aside0.mk o5
 have q0 := Aside0.mk o9
 clear o5 o9
 have p2 := Aside0.mk o4
 have p9 := Aside0.mk o8
 clear o4 o8
 have g6 := Aside0.mk o3
 have p8 := Aside0.mk o7
 clear o3 o7
 have m0 := Aside0.mk o2
 have p7 := Aside0.mk o6
 clear o2 o6
 have HB := Aside0.mk (Below.refl w.heap.size w)
 have H : ((statistic_typed.f k b7 b6 b1 a4).bind fun d6 => (if d6 = 0 then (statistic_Of.l0 k b1 (b1.length : Int) 0 b1 a4 ([] : List (S75))) else (some (([] : List (S75)), ([] : List (S75)), d6)))) = some (r1, r2, r3) := h
 clear h
 obtain ⟨d6, A3, H⟩ := obA H
 by_cases c4 : d6 = 0
 rotate_left
 ·rw [if_neg c4] at H
  have v3 := beq_eq_false_iff_ne.mpr c4
  have v2 := bne_iff_ne.mpr c4
  simp only [Option.some.injEq, Prod.mk.injEq] at H
  obtain ⟨rfl, rfl, rfl⟩ := H
  go_enter Tryz.func14, Tryz.ntmps14
  go_wp2_with (first | ((with_reducible refine gate_dst (N := 2) rfl ?_); refine be 2 #[.slice e3 b7.length e0, .slice e2 b6.length d9] 31 ?_; intro h1 hg N0 hbox hb; have a6 := Aside0.mk (hbox); have w0 := bsz HB hg; replace HB := bstep HB hb; clear hb hbox hg) | ((with_reducible refine gate_dst (N := 3) rfl ?_); refine be 3 #[.slice e1 b1.length d4, .slice e9 a4.length d3] 35 ?_; intro g2 hg M9 hbox hb; have a7 := Aside0.mk (hbox); have v9 := bsz HB hg; replace HB := bstep HB hb; have d2 := blt a6 hg; have d0 := bgt a6 hg; replace a6 := bkb a6 hb; clear hb hbox hg) | ((with_reducible refine gate_dst (N := 4) rfl ?_); refine be 4 #[.slice none 0 0, .slice none 0 0] 46 ?_; intro c1 hg M8 hbox hb; have a9 := Aside0.mk (hbox); have v8 := bsz HB hg; replace HB := bstep HB hb; have d1 := blt a6 hg; have c9 := bgt a6 hg; replace a6 := bkb a6 hb; have c6 := blt a7 hg; have c3 := bgt a7 hg; replace a7 := bkb a7 hb; clear hb hbox hg; have I0 := d2.out; have G0 := d0.out; have H9 := d1.out; have F9 := c9.out; obtain ⟨E0, D9, C3, C2⟩ := cz2 a6; have H8 := c6.out; have F8 := c3.out; obtain ⟨D8, D7, C1, C0⟩ := cz2 a7) | ((with_reducible refine gate_callee (f := 40) rfl ?_); refine gl 14 Tryz.func40 #[.agg #[.slice e3 b7.length e0, .slice e2 b6.length d9], .agg #[.slice e1 b1.length d4, .slice e9 a4.length d3]] (h := ?_); (with_reducible refine (statistic_typed.calls k _ _ b7 _ _ b6 _ _ b1 _ _ a4 d6 _ ?d8 ?d7 ?j7 ?j6 ?j5 ?j4 ?j3 ?j2 A3.out).mono ?_); (case d8 => exact cb p3 HB); (case d7 => exact q0.out); (case j7 => exact cb p2 HB); (case j6 => exact p9.out); (case j5 => exact cb g6 HB); (case j4 => exact p8.out); (case j3 => exact cb m0 HB); (case j2 => exact p7.out); rintro e M7 ⟨rfl, hb⟩; refine ⟨_, rfl, ?_⟩; replace a6 := bkb a6 hb; replace a7 := bkb a7 hb; replace a9 := bkb a9 hb; replace HB := bstep HB hb; (try clear hb); (try clear hb2); (try clear hk); (try clear hi); obtain ⟨D6, D5, A9, A8⟩ := cz2 a9))
  refine bodyPost_ret (results_ct rfl _ _ c1 46 #[.slice none 0 0, .slice none 0 0] (0, 0) _ rfl (by (with_reducible repeat (first | refine dN ?_ _ | refine dR ?_ | refine dA ?_ _)); refine blk_put (cs := #[.slice none 0 0, .slice none 0 0]) ?_ 1 _ rfl; refine blk_put (cs := #[.slice none 0 0, .slice none 0 0]) ?_ 0 _ rfl; (with_reducible repeat (first | refine dN ?_ _ | refine dR ?_ | refine dA ?_ _)); exact a9.out) Tryz.underlying46 rfl (by kernel_rfl)) rfl ?_
  exact ⟨_, _, erf, by first | exact Kd.R_nil _ _ _ _ _ | exact Kd.N_nil _ _ _ _ _ | exact Kd.V_nil _ _ _ _ _ | exact Kd.Q_nil _ _ _ _ _ | exact Kd.S_nil _ _ _ _ _, by first | exact Kd.R_nil _ _ _ _ _ | exact Kd.N_nil _ _ _ _ _ | exact Kd.V_nil _ _ _ _ _ | exact Kd.Q_nil _ _ _ _ _ | exact Kd.S_nil _ _ _ _ _, bb HB⟩
 rw [if_pos c4] at H
 have v3 := beq_iff_eq.mpr c4
 have v2 := bne_eq_false_iff_eq.mpr c4
 clear c4
 have H' := Aside0.mk H
 clear H
 go_enter Tryz.func14, Tryz.ntmps14
 go_wp2_with (first | ((with_reducible refine gate_dst (N := 2) rfl ?_); refine be 2 #[.slice e3 b7.length e0, .slice e2 b6.length d9] 31 ?_; intro h1 hg w5 hbox hb; have a6 := Aside0.mk (hbox); have w0 := bsz HB hg; replace HB := bstep HB hb; clear hb hbox hg) | ((with_reducible refine gate_dst (N := 3) rfl ?_); refine be 3 #[.slice e1 b1.length d4, .slice e9 a4.length d3] 35 ?_; intro g2 hg w6 hbox hb; have a7 := Aside0.mk (hbox); have v9 := bsz HB hg; replace HB := bstep HB hb; have d2 := blt a6 hg; have d0 := bgt a6 hg; replace a6 := bkb a6 hb; clear hb hbox hg) | ((with_reducible refine gate_dst (N := 4) rfl ?_); refine be 4 #[.slice none 0 0, .slice none 0 0] 46 ?_; intro c1 hg w7 hbox hb; have a9 := Aside0.mk (hbox); have v8 := bsz HB hg; replace HB := bstep HB hb; have d1 := blt a6 hg; have c9 := bgt a6 hg; replace a6 := bkb a6 hb; have c6 := blt a7 hg; have c3 := bgt a7 hg; replace a7 := bkb a7 hb; clear hb hbox hg; have M6 := d2.out; have M4 := d0.out; have M5 := d1.out; have M3 := c9.out; obtain ⟨r9, r8, q8, q7⟩ := cz2 a6; have J7 := c6.out; have H7 := c3.out; obtain ⟨r7, r6, q6, q5⟩ := cz2 a7) | ((with_reducible refine gate_callee (f := 40) rfl ?_); refine gl 14 Tryz.func40 #[.agg #[.slice e3 b7.length e0, .slice e2 b6.length d9], .agg #[.slice e1 b1.length d4, .slice e9 a4.length d3]] (h := ?_); (with_reducible refine (statistic_typed.calls k _ _ b7 _ _ b6 _ _ b1 _ _ a4 d6 _ ?d8 ?d7 ?j7 ?j6 ?j5 ?j4 ?j3 ?j2 A3.out).mono ?_); (case d8 => exact cb p3 HB); (case d7 => exact q0.out); (case j7 => exact cb p2 HB); (case j6 => exact p9.out); (case j5 => exact cb g6 HB); (case j4 => exact p8.out); (case j3 => exact cb m0 HB); (case j2 => exact p7.out); rintro e N4 ⟨rfl, hb⟩; refine ⟨_, rfl, ?_⟩; replace a6 := bkb a6 hb; replace a7 := bkb a7 hb; replace a9 := bkb a9 hb; replace HB := bstep HB hb; (try clear hb); (try clear hb2); (try clear hk); (try clear hi)) | ((with_reducible refine gate_dst (N := 7) rfl ?_); refine be 7 #[.slice none 0 0, .slice none 0 0] 46 ?_; intro c7 hg N3 hbox hb; have b0 := Aside0.mk (hbox); have L9 := bsz HB hg; replace HB := bstep HB hb; have e8 := blt a6 hg; have e6 := bgt a6 hg; replace a6 := bkb a6 hb; have c5 := blt a7 hg; have c2 := bgt a7 hg; replace a7 := bkb a7 hb; have e7 := blt a9 hg; have e5 := bgt a9 hg; replace a9 := bkb a9 hb; clear hb hbox hg; have J6 := c5.out; have H6 := c2.out; obtain ⟨r5, r4, q4, q3⟩ := cz2 a7))
 go_loopg [22] k (fun kq F5 w' => ∃ (c0 : Int) (b2 : List (S75)) (b5 : Value), F5 = .int .i64 c0 ∧ Aside0 (statistic_Of.l0 kq b1 (b1.length : Int) c0 b1 a4 b2 = some (r1, r2, r3)) ∧ Aside0 (kq ≤ k) ∧ Aside0 (Kd.R k75 75 w' w.heap.size (fun _ => True) b5 b2) ∧ Aside0 (w'.heap[h1]? = some (.cells #[(.slice e3 b7.length e0), (.slice e2 b6.length d9)] 31 (0, 0))) ∧ Aside0 (w'.heap[g2]? = some (.cells #[(.slice e1 b1.length d4), (.slice e9 a4.length d3)] 35 (0, 0))) ∧ Aside0 (w'.heap[c1]? = some (.cells #[(.slice none 0 0), (.slice none 0 0)] 46 (0, 0))) ∧ Aside0 (w'.heap[c7]? = some (.cells #[b5, (.slice none 0 0)] 46 (0, 0))) ∧ Aside0 (Below w.heap.size w w'))
 case atStart => exact ⟨(0), (([] : List (S75))), (.slice none 0 0), eqs, H', ⟨Nat.le_refl _⟩, ⟨by first | exact Kd.R_nil _ _ _ _ _ | exact Kd.N_nil _ _ _ _ _ | exact Kd.V_nil _ _ _ _ _ | exact Kd.Q_nil _ _ _ _ _ | exact Kd.S_nil _ _ _ _ _⟩, ⟨bk a6⟩, ⟨bk a7⟩, ⟨bk a9⟩, ⟨bk b0⟩, ⟨bb HB⟩⟩
 case round =>
  clear H'
  clear v3
  clear v2
  clear r9
  clear r8
  clear r7
  clear r6
  clear r5
  clear r4
  clear q8
  clear q7
  clear q6
  clear q5
  clear q4
  clear q3
  obtain ⟨c0, b2, b5, rfl, HA, p6, HO_255000, a6, a7, a9, b0, HB⟩ := hrel
  cases gk with
  | zero => exact absurd HA.out (by simp [statistic_Of.l0])
  | succ k1 =>
   have H := HA.out
   clear HA
   simp only [statistic_Of.l0] at H
   by_cases j1 : c0 < (b1.length : Int)
   ·rw [if_pos j1] at H
    have p0 := decide_eq_true j1
    clear j1
    obtain ⟨x6, H⟩ := itn H
    have L6 := decide_eq_true x6
    clear x6
    obtain ⟨x4, H⟩ := itn H
    have L5 := decide_eq_true x4
    clear x4
    obtain ⟨g7, F7, H⟩ := obA H
    have H' := Aside0.mk H
    clear H
    have n7 : 0 ≤ c0 := odt
    have n3 : c0 < (b1.length : Int) := odt
    obtain ⟨L7, y8, h7⟩ := Kd.at_int g6.out c0 n7 n3
    cases y8
    replace h7 := hxc HB h7
    replace n7 := eq_true n7
    replace n3 := eq_true n3
    have J5 := e6.out
    have H5 := e8.out
    have J4 := c2.out
    have H4 := c5.out
    have J3 := e5.out
    have H3 := e7.out
    obtain ⟨F1, F0, D4, D3⟩ := cz2 b0
    obtain ⟨v5, v1, eo25⟩ := Kd.R_slice HO_255000.out
    subst eo25
    go_wp2_with ((with_reducible refine gate_callee (f := 41) rfl ?_); refine gl 30 Tryz.func41 #[.slice v5 b2.length v1, .agg #[.int .i64 (rd b1 c0), .int .i64 0, .int .i64 0, .int .i64 1]] (h := ?_); (with_reducible refine (statistic_counted.calls _ _ b2 (rd b1 c0) 0 0 1 g7 _ ?d8 ?d7 F7.out).mono ?_); (case d8 => repeat (first | exact (Kd.R_reads' HO_255000.out).2.2 | (with_reducible refine Kd.C_alloc ?_ _) | (with_reducible refine Kd.C_drewN ?_ _) | (with_reducible refine Kd.C_drew ?_))); (case d7 => exact (Kd.R_reads' HO_255000.out).2.1); rintro e N2 ⟨M1, rfl, g8, hb⟩; refine ⟨_, rfl, ?_⟩; have p5 := Aside0.mk (Kd.R_lower (Kd.R_new' g8 (Kd.R_lt (kR HO_255000))) (below_size (bb HB))); replace HO_255000 := Aside0.mk (Kd.R_elder' (kR HO_255000) (Kd.R_base g8) hb); replace a6 := bkb a6 hb; replace a7 := bkb a7 hb; replace a9 := bkb a9 hb; replace b0 := bkb b0 hb; replace HB := bstep HB hb; (try clear hb); (try clear hb2); (try clear hk); (try clear hi); (try clear g8); obtain ⟨v4, v0, eo27⟩ := Kd.R_slice p5.out; subst eo27; obtain ⟨E9, E8, D2, D1⟩ := cz2 b0)
    go_roundg k1
    case measure => have := p6.out; omega
    case rel => exact ⟨(wrap64 (c0 + 1)), (g7), (.slice v4 g7.length v0), eqs, H', ⟨by have := p6.out; omega⟩, ⟨by (with_reducible repeat (first | apply Kd.R_alloc | apply Kd.R_drewN | apply Kd.R_drew)); exact Kd.R_mono (Kd.R_far (p := ⟨c7, 0, none⟩) (Kd.R_types p5.out b0.out (by decide)) (fun _ hk => hk.2) (.slice v4 g7.length v0)) (fun _ hk => trivial)⟩, ⟨bkF a6⟩, ⟨bkF a7⟩, ⟨bkF a9⟩, ⟨by (with_reducible repeat (first | refine dN ?_ _ | refine dR ?_ | refine dA ?_ _)); refine blk_put (cs := #[.slice v5 b2.length v1, .slice none 0 0]) ?_ 0 _ rfl; (with_reducible repeat (first | refine dN ?_ _ | refine dR ?_ | refine dA ?_ _)); exact b0.out⟩, ⟨bb HB⟩⟩
   rw [if_neg j1] at H
   have p0 := decide_eq_false j1
   clear j1
   have H' := Aside0.mk H
   clear H
   have J2 := d0.out
   have H2 := d2.out
   have J1 := c6.out
   have H1 := c3.out
   have J0 := c5.out
   have H0 := c2.out
   obtain ⟨r0, q9, q2, q1⟩ := cz2 a7
   go_wp2
   go_loopg [36] k1 (fun kq F4 w' => ∃ (a5 : Int) (b3 : List (S75)) (b9 : Value), F4 = .int .i64 a5 ∧ Aside0 (statistic_Of.l1 kq a4 (a4.length : Int) a5 b1 a4 b2 b3 = some (r1, r2, r3)) ∧ Aside0 (kq ≤ k1) ∧ Aside0 (Kd.R k75 75 w' w.heap.size (fun k_ => some k_ ≠ (b9 : Value).ownBlock) b5 b2) ∧ Aside0 (Kd.R k75 75 w' w.heap.size (fun k_ => some k_ ≠ (b5 : Value).ownBlock) b9 b3) ∧ Aside0 (w'.heap[h1]? = some (.cells #[(.slice e3 b7.length e0), (.slice e2 b6.length d9)] 31 (0, 0))) ∧ Aside0 (w'.heap[g2]? = some (.cells #[(.slice e1 b1.length d4), (.slice e9 a4.length d3)] 35 (0, 0))) ∧ Aside0 (w'.heap[c1]? = some (.cells #[(.slice none 0 0), (.slice none 0 0)] 46 (0, 0))) ∧ Aside0 (w'.heap[c7]? = some (.cells #[b5, b9] 46 (0, 0))) ∧ Aside0 (Below w.heap.size w w'))
   case atStart => exact ⟨(0), (([] : List (S75))), (.slice none 0 0), eqs, H', ⟨Nat.le_refl _⟩, ⟨by (with_reducible repeat (first | apply Kd.R_alloc | apply Kd.R_drewN | apply Kd.R_drew)); exact Kd.R_mono HO_255000.out (fun _ hk => (by simp [Value.ownBlock]))⟩, ⟨by first | exact Kd.R_nil _ _ _ _ _ | exact Kd.N_nil _ _ _ _ _ | exact Kd.V_nil _ _ _ _ _ | exact Kd.Q_nil _ _ _ _ _ | exact Kd.S_nil _ _ _ _ _⟩, ⟨bk a6⟩, ⟨bk a7⟩, ⟨bk a9⟩, ⟨bk b0⟩, ⟨bb HB⟩⟩
   case round =>
    clear H'
    clear p0
    clear r0
    clear q9
    clear q2
    clear q1
    obtain ⟨a5, b3, b9, rfl, HA, x7, HO_255000, HO_255001, a6, a7, a9, b0, HB⟩ := hrel
    cases gk with
    | zero => exact absurd HA.out (by simp [statistic_Of.l1])
    | succ k2 =>
     have H := HA.out
     clear HA
     simp only [statistic_Of.l1] at H
     by_cases j0 : a5 < (a4.length : Int)
     rotate_left
     ·rw [if_neg j0] at H
      have v6 := decide_eq_false j0
      clear j0
      simp only [Option.some.injEq, Prod.mk.injEq] at H
      obtain ⟨rfl, rfl, rfl⟩ := H
      have I5 := e6.out
      have G5 := e8.out
      have I4 := c2.out
      have G4 := c5.out
      have I3 := e5.out
      have G3 := e7.out
      obtain ⟨E4, E3, C7, C6⟩ := cz2 b0
      obtain ⟨m1, j8, eo57⟩ := Kd.R_slice HO_255000.out
      subst eo57
      have I2 := c9.out
      have G2 := d1.out
      have I1 := c3.out
      have G1 := c6.out
      obtain ⟨E2, E1, C5, C4⟩ := cz2 a9
      obtain ⟨o0, n8, eo61⟩ := Kd.R_slice HO_255001.out
      subst eo61
      go_wp2
      refine bodyPost_ret (results_ct rfl _ _ c1 46 #[.slice m1 b2.length j8, .slice o0 b3.length n8] (0, 0) _ rfl (by (with_reducible repeat (first | refine dN ?_ _ | refine dR ?_ | refine dA ?_ _)); refine blk_put (cs := #[.slice m1 b2.length j8, .slice none 0 0]) ?_ 1 _ rfl; refine blk_put (cs := #[.slice none 0 0, .slice none 0 0]) ?_ 0 _ rfl; (with_reducible repeat (first | refine dN ?_ _ | refine dR ?_ | refine dA ?_ _)); exact a9.out) Tryz.underlying46 rfl (by kernel_rfl)) rfl ?_
      exact ⟨_, _, erf, by (with_reducible repeat (first | apply Kd.R_alloc | apply Kd.R_drewN | apply Kd.R_drew)); exact Kd.R_mono (Kd.R_far (p := ⟨c1, 1, none⟩) (Kd.R_far (p := ⟨c1, 0, none⟩) (Kd.R_types HO_255000.out a9.out (by decide)) (fun _ hk => hk.2) (.slice m1 b2.length j8)) (fun _ hk => hk.2) (.slice o0 b3.length n8)) (fun _ hk => hk.1), by (with_reducible repeat (first | apply Kd.R_alloc | apply Kd.R_drewN | apply Kd.R_drew)); exact Kd.R_mono (Kd.R_far (p := ⟨c1, 1, none⟩) (Kd.R_far (p := ⟨c1, 0, none⟩) (Kd.R_types HO_255001.out a9.out (by decide)) (fun _ hk => hk.2) (.slice m1 b2.length j8)) (fun _ hk => hk.2) (.slice o0 b3.length n8)) (fun _ hk => hk.1), bb HB⟩
     rw [if_pos j0] at H
     have v6 := decide_eq_true j0
     clear j0
     obtain ⟨x3, H⟩ := itn H
     have L4 := decide_eq_true x3
     clear x3
     obtain ⟨x2, H⟩ := itn H
     have L3 := decide_eq_true x2
     clear x2
     obtain ⟨x0, H⟩ := itn H
     have L2 := decide_eq_true x0
     clear x0
     obtain ⟨w9, H⟩ := itn H
     have L1 := decide_eq_true w9
     clear w9
     obtain ⟨w8, H⟩ := itn H
     have L0 := decide_eq_true w8
     clear w8
     obtain ⟨w4, H⟩ := itn H
     have J9 := decide_eq_true w4
     clear w4
     obtain ⟨g3, F6, H⟩ := obA H
     have H' := Aside0.mk H
     clear H
     have n6 : 0 ≤ a5 := odt
     have n2 : a5 < (a4.length : Int) := odt
     obtain ⟨p1, y7, h6, h5, h4⟩ := at_T56 m0.out a5 n6 n2
     cases y7
     replace h6 := hxc HB h6
     replace h5 := hxc HB h5
     replace h4 := hxc HB h4
     replace n6 := eq_true n6
     replace n2 := eq_true n2
     try go_wp2_with ((with_reducible refine gate_dst (N := 11) rfl ?_); refine be 11 #[.int .i64 0, .int .i64 0, .int .i64 0] 56 ?_; intro a8 hg g5 hbox hb; replace HO_255000 := kRb HO_255000 hb; replace HO_255001 := kRb HO_255001 hb; have b4 := Aside0.mk (hbox); have L8 := bsz HB hg; replace HB := bstep HB hb; have m9 := blt a6 hg; have m6 := bgt a6 hg; replace a6 := bkb a6 hb; have m8 := blt a7 hg; have m5 := bgt a7 hg; replace a7 := bkb a7 hb; have m7 := blt a9 hg; have m4 := bgt a9 hg; replace a9 := bkb a9 hb; have h0 := blt b0 hg; have g9 := bgt b0 hg; replace b0 := bkb b0 hb; clear hb hbox hg; have I9 := m6.out; have G9 := m9.out; have I8 := m5.out; have G8 := m8.out; have I7 := m4.out; have G7 := m7.out; have I6 := g9.out; have G6 := h0.out; obtain ⟨E7, E6, E5, D0, C9, C8⟩ := cz3 b4)
     have t9 : Aside0 (Kd.R k75 75 (((g5.setCell ⟨a8, 0, none⟩ (.int .i64 ((rd_T56 a4 a5).f0))).setCell ⟨a8, 1, none⟩ (.int .i64 ((rd_T56 a4 a5).f1))).setCell ⟨a8, 2, none⟩ (.int .i64 ((rd_T56 a4 a5).f2))) w.heap.size (fun k_ => some k_ ≠ (b9 : Value).ownBlock) b5 b2) := ⟨by (with_reducible repeat (first | apply Kd.R_alloc | apply Kd.R_drewN | apply Kd.R_drew)); exact Kd.R_mono (Kd.R_far (p := ⟨a8, 2, none⟩) (Kd.R_far (p := ⟨a8, 1, none⟩) (Kd.R_far (p := ⟨a8, 0, none⟩) (Kd.R_types HO_255000.out b4.out (by decide)) (fun _ hk => hk.2) (.int .i64 ((rd_T56 a4 a5).f0))) (fun _ hk => hk.2) (.int .i64 ((rd_T56 a4 a5).f1))) (fun _ hk => hk.2) (.int .i64 ((rd_T56 a4 a5).f2))) (fun _ hk => hk.1)⟩
     have t8 : Aside0 (Kd.R k75 75 (((g5.setCell ⟨a8, 0, none⟩ (.int .i64 ((rd_T56 a4 a5).f0))).setCell ⟨a8, 1, none⟩ (.int .i64 ((rd_T56 a4 a5).f1))).setCell ⟨a8, 2, none⟩ (.int .i64 ((rd_T56 a4 a5).f2))) w.heap.size (fun k_ => some k_ ≠ (b5 : Value).ownBlock) b9 b3) := ⟨by (with_reducible repeat (first | apply Kd.R_alloc | apply Kd.R_drewN | apply Kd.R_drew)); exact Kd.R_mono (Kd.R_far (p := ⟨a8, 2, none⟩) (Kd.R_far (p := ⟨a8, 1, none⟩) (Kd.R_far (p := ⟨a8, 0, none⟩) (Kd.R_types HO_255001.out b4.out (by decide)) (fun _ hk => hk.2) (.int .i64 ((rd_T56 a4 a5).f0))) (fun _ hk => hk.2) (.int .i64 ((rd_T56 a4 a5).f1))) (fun _ hk => hk.2) (.int .i64 ((rd_T56 a4 a5).f2))) (fun _ hk => hk.1)⟩
     have t7 : Aside0 ((((g5.setCell ⟨a8, 0, none⟩ (.int .i64 ((rd_T56 a4 a5).f0))).setCell ⟨a8, 1, none⟩ (.int .i64 ((rd_T56 a4 a5).f1))).setCell ⟨a8, 2, none⟩ (.int .i64 ((rd_T56 a4 a5).f2))).heap[h1]? = some (.cells #[.slice e3 b7.length e0, .slice e2 b6.length d9] 31 (0, 0))) := ⟨bkF a6⟩
     have t6 : Aside0 ((((g5.setCell ⟨a8, 0, none⟩ (.int .i64 ((rd_T56 a4 a5).f0))).setCell ⟨a8, 1, none⟩ (.int .i64 ((rd_T56 a4 a5).f1))).setCell ⟨a8, 2, none⟩ (.int .i64 ((rd_T56 a4 a5).f2))).heap[g2]? = some (.cells #[.slice e1 b1.length d4, .slice (some p1) a4.length d3] 35 (0, 0))) := ⟨bkF a7⟩
     have t5 : Aside0 ((((g5.setCell ⟨a8, 0, none⟩ (.int .i64 ((rd_T56 a4 a5).f0))).setCell ⟨a8, 1, none⟩ (.int .i64 ((rd_T56 a4 a5).f1))).setCell ⟨a8, 2, none⟩ (.int .i64 ((rd_T56 a4 a5).f2))).heap[c1]? = some (.cells #[.slice none 0 0, .slice none 0 0] 46 (0, 0))) := ⟨bkF a9⟩
     have t4 : Aside0 ((((g5.setCell ⟨a8, 0, none⟩ (.int .i64 ((rd_T56 a4 a5).f0))).setCell ⟨a8, 1, none⟩ (.int .i64 ((rd_T56 a4 a5).f1))).setCell ⟨a8, 2, none⟩ (.int .i64 ((rd_T56 a4 a5).f2))).heap[c7]? = some (.cells #[b5, b9] 46 (0, 0))) := ⟨bkF b0⟩
     have t3 : Aside0 ((((g5.setCell ⟨a8, 0, none⟩ (.int .i64 ((rd_T56 a4 a5).f0))).setCell ⟨a8, 1, none⟩ (.int .i64 ((rd_T56 a4 a5).f1))).setCell ⟨a8, 2, none⟩ (.int .i64 ((rd_T56 a4 a5).f2))).heap[a8]? = some (.cells #[.int .i64 ((rd_T56 a4 a5).f0), .int .i64 ((rd_T56 a4 a5).f1), .int .i64 ((rd_T56 a4 a5).f2)] 56 (0, 0))) := ⟨by (with_reducible repeat (first | refine dN ?_ _ | refine dR ?_ | refine dA ?_ _)); refine blk_put (cs := #[.int .i64 ((rd_T56 a4 a5).f0), .int .i64 ((rd_T56 a4 a5).f1), .int .i64 0]) ?_ 2 _ rfl; refine blk_put (cs := #[.int .i64 ((rd_T56 a4 a5).f0), .int .i64 0, .int .i64 0]) ?_ 1 _ rfl; refine blk_put (cs := #[.int .i64 0, .int .i64 0, .int .i64 0]) ?_ 0 _ rfl; (with_reducible repeat (first | refine dN ?_ _ | refine dR ?_ | refine dA ?_ _)); exact b4.out⟩
     have t2 : Aside0 (Below w.heap.size w (((g5.setCell ⟨a8, 0, none⟩ (.int .i64 ((rd_T56 a4 a5).f0))).setCell ⟨a8, 1, none⟩ (.int .i64 ((rd_T56 a4 a5).f1))).setCell ⟨a8, 2, none⟩ (.int .i64 ((rd_T56 a4 a5).f2)))) := ⟨bb HB⟩
     clear HO_255000
     clear HO_255001
     clear a6
     clear a7
     clear a9
     clear b0
     clear b4
     clear HB
     generalize (((g5.setCell ⟨a8, 0, none⟩ (.int .i64 ((rd_T56 a4 a5).f0))).setCell ⟨a8, 1, none⟩ (.int .i64 ((rd_T56 a4 a5).f1))).setCell ⟨a8, 2, none⟩ (.int .i64 ((rd_T56 a4 a5).f2))) = F3 at t9 t8 t7 t6 t5 t4 t3 t2 ⊢
     have HO_255000 := t9
     have HO_255001 := t8
     have a6 := t7
     have a7 := t6
     have a9 := t5
     have b0 := t4
     have b4 := t3
     have HB := t2
     clear t9 t8 t7 t6 t5 t4 t3 t2
     replace HO_255000 := Aside0.mk (Kd.R_drew HO_255000.out)
     replace HO_255001 := Aside0.mk (Kd.R_drew HO_255001.out)
     replace a6 := Aside0.mk (blk_drew a6.out)
     replace a7 := Aside0.mk (blk_drew a7.out)
     replace a9 := Aside0.mk (blk_drew a9.out)
     replace b0 := Aside0.mk (blk_drew b0.out)
     replace b4 := Aside0.mk (blk_drew b4.out)
     replace HB := Aside0.mk (below_drew1 HB.out)
     have n5 : 0 ≤ (((rd_T56 a4 a5).f1) : Int) := odt
     have n1 : ((rd_T56 a4 a5).f1) < (b1.length : Int) := odt
     obtain ⟨h2, x9, g1⟩ := Kd.at_int g6.out ((rd_T56 a4 a5).f1) n5 n1
     have h9 := g1
     cases x9
     replace g1 := hxc HB g1
     replace n5 := eq_true n5
     replace n1 := eq_true n1
     have n4 : 0 ≤ (((rd_T56 a4 a5).f2) : Int) := odt
     have n0 : ((rd_T56 a4 a5).f2) < (b1.length : Int) := odt
     obtain ⟨v7, x8, g0⟩ := Kd.at_int g6.out ((rd_T56 a4 a5).f2) n4 n0
     have h8 := g0
     obtain rfl : h2 = v7 := (by injection x8)
     replace g0 := hxc HB g0
     replace n4 := eq_true n4
     replace n0 := eq_true n0
     obtain ⟨m2, j9, eo49⟩ := Kd.R_slice HO_255001.out
     (first | subst eo49 | (injection eo49 with f1_ f2_ f3_; have f4_ := f1_.symm; have f5_ := f3_.symm; clear f1_ f2_ f3_; subst f4_; subst f5_))
     refine start_ (n := 20) (S := fun w' => w'.cell? ⟨c7, 0, none⟩ = some (b5) ∧ w'.cell? ⟨c7, 1, none⟩ = some (.slice m2 b3.length j9) ∧ w'.cell? ⟨a8, 0, none⟩ = some (.int .i64 ((rd_T56 a4 a5).f0)) ∧ w'.cell? ⟨a8, 1, none⟩ = some (.int .i64 ((rd_T56 a4 a5).f1)) ∧ w'.cell? ⟨a8, 2, none⟩ = some (.int .i64 ((rd_T56 a4 a5).f2)) ∧ w'.cell? ⟨g2, 0, none⟩ = some (.slice (some h2) b1.length d4) ∧ w'.cell? ⟨g2, 1, none⟩ = some (.slice (some p1) a4.length d3) ∧ w'.cell? (h2.add (((rd_T56 a4 a5).f1)).toNat) = some (.int .i64 (rd b1 ((rd_T56 a4 a5).f1))) ∧ w'.cell? (h2.add (((rd_T56 a4 a5).f2)).toNat) = some (.int .i64 (rd b1 ((rd_T56 a4 a5).f2)))) (ds := [19]) #[false, false, false, false, false, false, false, false, false, false, false, false, false, false, false, false, false, false, false, false] (by kernel_rfl) rfl rfl ⟨bc b0 0, bc b0 1, bc b4 0, bc b4 1, bc b4 2, bc a7 0, bc a7 1, (hxc HB h9), (hxc HB h8)⟩ (fun hHeld => ?_); refine with_tabW statistic_Of.tab13 statistic_Of.bits13 (fun HT_ HW_ => ?_)
     generalize F3.drew = N1 at HO_255000 HO_255001 a6 a7 a9 b0 b4 HB g1 g0 hHeld ⊢
     refine pu 0 40 (bits 20 0x1) HT_ (h := ?_)
     refine pu 2 42 (bits 20 0x5) HT_ (h := ?_)
     refine pu 4 44 (bits 20 0x15) HT_ (h := ?_)
     refine pu 6 46 (bits 20 0x55) HT_ (h := ?_)
     refine pu 10 50 (bits 20 0x455) HT_ (h := ?_)
     refine pu 12 52 (bits 20 0x1455) HT_ (h := ?_)
     refine tk 1 41 (bits 20 0x1457) HT_ HW_ hHeld (hy := by rintro w' ⟨s0, s1, s2, s3, s4, s5, s6, s7, s8⟩; go_simp; with_reducible rfl) (h := ?_)
     refine tk 3 43 (bits 20 0x145f) HT_ HW_ hHeld (hy := by rintro w' ⟨s0, s1, s2, s3, s4, s5, s6, s7, s8⟩; go_simp; with_reducible rfl) (h := ?_)
     refine tk 5 45 (bits 20 0x147f) HT_ HW_ hHeld (hy := by rintro w' ⟨s0, s1, s2, s3, s4, s5, s6, s7, s8⟩; go_simp; with_reducible rfl) (h := ?_)
     refine tk 7 47 (bits 20 0x14ff) HT_ HW_ hHeld (hy := by rintro w' ⟨s0, s1, s2, s3, s4, s5, s6, s7, s8⟩; go_simp; with_reducible rfl) (h := ?_)
     refine pu 8 48 (bits 20 0x15ff) HT_ (h := ?_)
     refine tk 9 49 (bits 20 0x17ff) HT_ HW_ hHeld (hy := by rintro w' ⟨s0, s1, s2, s3, s4, s5, s6, s7, s8⟩; go_simp; with_reducible rfl) (h := ?_)
     refine tk 11 51 (bits 20 0x1fff) HT_ HW_ hHeld (hy := by rintro w' ⟨s0, s1, s2, s3, s4, s5, s6, s7, s8⟩; go_simp; with_reducible rfl) (h := ?_)
     refine tk 13 53 (bits 20 0x3fff) HT_ HW_ hHeld (hy := by rintro w' ⟨s0, s1, s2, s3, s4, s5, s6, s7, s8⟩; go_simp; with_reducible rfl) (h := ?_)
     refine pu 14 54 (bits 20 0x7fff) HT_ (h := ?_)
     refine tk 15 55 (bits 20 0xffff) HT_ HW_ hHeld (hy := by rintro w' ⟨s0, s1, s2, s3, s4, s5, s6, s7, s8⟩; go_simp; with_reducible rfl) (h := ?_)
     refine pu 16 56 (bits 20 0x1ffff) HT_ (h := ?_)
     refine one_ (i := 17) (N := some 57) #[true, true, true, true, true, true, true, true, true, true, true, true, true, true, true, true, true, true, false, false] rfl rfl (one_of HT_.out (by kernel_rfl)) (by decide) (fun K hK => ?_)
     refine goes_ Tryz.func41 (by kernel_rfl) rfl #[.slice m2 b3.length j9, .agg #[.int .i64 ((rd_T56 a4 a5).f0), .int .i64 (rd b1 ((rd_T56 a4 a5).f1)), .int .i64 (rd b1 ((rd_T56 a4 a5).f2)), .int .i64 1]] (by rfl) rfl rfl (by (try simp only [List.map_toArray, List.map_cons, List.map_nil]); first | done | rfl | (simp only [List.length_drop, List.length_take]; rfl)) ?_
     with_reducible refine (statistic_counted.calls _ _ b3 ((rd_T56 a4 a5).f0) (rd b1 ((rd_T56 a4 a5).f1)) (rd b1 ((rd_T56 a4 a5).f2)) 1 g3 _ ?d8 ?d7 F6.out).mono ?_
     (case d8 => repeat (first | exact (Kd.R_reads' HO_255001.out).2.2 | (with_reducible refine Kd.C_alloc ?_ _) | (with_reducible refine Kd.C_drewN ?_ _) | (with_reducible refine Kd.C_drew ?_)))
     (case d7 => exact (Kd.R_reads' HO_255001.out).2.1)
     rintro e F2 ⟨M0, rfl, g8, hb⟩
     refine ⟨_, rfl, ?_⟩
     have p4 := Aside0.mk (Kd.R_lower (Kd.R_new' (Kd.R_new' g8 (Kd.R_lt (kR HO_255000))) (Kd.R_lt (kR HO_255001))) (below_size (bb HB)))
     replace HO_255000 := Aside0.mk (Kd.R_elder' (kR HO_255000) (Kd.R_base g8) hb)
     replace HO_255001 := Aside0.mk (Kd.R_elder' (kR HO_255001) (Kd.R_base g8) hb)
     replace a6 := bkb a6 hb
     replace a7 := bkb a7 hb
     replace a9 := bkb a9 hb
     replace b0 := bkb b0 hb
     replace b4 := bkb b4 hb
     replace HB := bstep HB hb
     clear hb
     clear g8
     obtain ⟨o1, n9, eo51⟩ := Kd.R_slice p4.out
     (first | subst eo51 | (injection eo51 with f1_ f2_ f3_; have f4_ := f1_.symm; have f5_ := f3_.symm; clear f1_ f2_ f3_; subst f4_; subst f5_))
     refine hK.out _ _ ⟨bc b0 0, bc b0 1, bc b4 0, bc b4 1, bc b4 2, bc a7 0, bc a7 1, (hxc HB h9), (hxc HB h8)⟩ (fun hHeld => ?_)
     clear hK K
     refine norm_ (a' := ?_) ?_ ?_
     rotate_left
     ·show Act.put _ (some 57) _ = _
      simp only [Act.put, List.setIfInBounds_toArray, List.set_cons_zero, List.set_cons_succ, i64_w, i32_w]
      rfl
     refine pu 18 58 (bits 20 0x7ffff) HT_ (h := ?_)
     refine last_ (i := 19) (N := none) #[true, true, true, true, true, true, true, true, true, true, true, true, true, true, true, true, true, true, true, true] rfl rfl (one_of HT_.out (by kernel_rfl)) (by decide) (fun K hK => ?_)
     have M2 : F2.cell? ⟨c7, 1, none⟩ = some (.slice m2 b3.length j9) := bc b0 1
     have J8 := blk_frozen b0.out 1
     have A2 := e8.out
     have A1 := c5.out
     have A0 := e7.out
     have y9 := g9.out
     have A7 := e6.out
     have A6 := c2.out
     have A5 := e5.out
     have A4 := h0.out
     refine skip_ (w1 := ?_) (by rfl) rfl ?_ ?_
     rotate_left
     ·go_simp
      rfl
     refine hK.out _ _ ?_
     clear hK K
     refine done_ (done_of HT_.out (by kernel_rfl)) ?_
     try go_wp2
     go_roundg k2
     case measure => have := p6.out; have := x7.out; omega
     case rel => exact ⟨(wrap64 (a5 + 1)), (g3), (.slice o1 g3.length n9), eqs, H', ⟨by have := p6.out; have := x7.out; omega⟩, ⟨by (with_reducible repeat (first | apply Kd.R_alloc | apply Kd.R_drewN | apply Kd.R_drew)); exact Kd.R_mono (Kd.R_far (p := ⟨c7, 1, none⟩) (Kd.R_types HO_255000.out b0.out (by decide)) (fun _ hk => hk.2) (.slice o1 g3.length n9)) (fun _ hk => hk.1.2)⟩, ⟨by (with_reducible repeat (first | apply Kd.R_alloc | apply Kd.R_drewN | apply Kd.R_drew)); exact Kd.R_mono (Kd.R_far (p := ⟨c7, 1, none⟩) (Kd.R_types p4.out b0.out (by decide)) (fun _ hk => hk.2) (.slice o1 g3.length n9)) (fun _ hk => hk.1.1.2)⟩, ⟨bkF a6⟩, ⟨bkF a7⟩, ⟨bkF a9⟩, ⟨by (with_reducible repeat (first | refine dN ?_ _ | refine dR ?_ | refine dA ?_ _)); refine blk_put (cs := #[b5, .slice m2 b3.length j9]) ?_ 1 _ rfl; (with_reducible repeat (first | refine dN ?_ _ | refine dR ?_ | refine dA ?_ _)); exact b0.out⟩, ⟨bb HB⟩⟩
end Go.Proofs.YtfpianecohobjaaGreat.P
