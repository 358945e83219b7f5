/- StatisticOf: a part of its proof. No condition. -/
import Derived.Test.YtfpianecohobjaaVPx0
import Derived.Test.YtfpianecohobjaaVPx36
import Derived.Test.YtfpianecohobjaaVH2
namespace Go.Proofs.Ytfpianecohobjaa.P
open Go.RowKit Go.Proofs.YtfpianecohobjaaW.PrintWords Go.Proofs.YtfpianecohobjaaW.PrintLast Go.Proofs.YtfpianecohobjaaW.PrintMore
set_option maxHeartbeats 8000000
set_option maxRecDepth 100000
set_option linter.unusedVariables false
set_option linter.unusedSimpArgs false
mutual
def statistic_Of.l0 : Nat → List Int → Int → Int → List Int → List (S39) → List (S88) → Option ((List (S88)) × (List (S88)) × Int)
 | 0, _, _, _, _, _, _ => none
 | k + 1, p9, t5, j2, b6, c3, c5 => if j2 < t5 then (if 0 ≤ j2 then (if j2 < (p9.length : Int) then ((statistic_counted.f c5 (rd p9 j2) 0 0 1).bind fun g8 => (statistic_Of.l0 k p9 t5 (wrap64 (j2 + 1)) b6 c3 g8)) else (none)) else (none)) else (statistic_Of.l1 k c3 (c3.length : Int) 0 b6 c3 c5 ([] : List (S88)))
def statistic_Of.l1 : Nat → List (S39) → Int → Int → List Int → List (S39) → List (S88) → List (S88) → Option ((List (S88)) × (List (S88)) × Int)
 | 0, _, _, _, _, _, _, _ => none
 | k + 1, e4, t4, c6, b6, c3, c5, h0 => if c6 < t4 then (if 0 ≤ c6 then (if c6 < (e4.length : Int) then (if 0 ≤ ((rd_T39 e4 c6).f1) then (if ((rd_T39 e4 c6).f1) < (b6.length : Int) then (if 0 ≤ ((rd_T39 e4 c6).f2) then (if ((rd_T39 e4 c6).f2) < (b6.length : Int) then ((statistic_counted.f h0 ((rd_T39 e4 c6).f0) (rd b6 ((rd_T39 e4 c6).f1)) (rd b6 ((rd_T39 e4 c6).f2)) 1).bind fun g7 => (statistic_Of.l1 k e4 t4 (wrap64 (c6 + 1)) b6 c3 c5 g7)) else (none)) else (none)) else (none)) else (none)) else (none)) else (none)) else (some (c5, h0, 0))
end
def statistic_Of.f (k : Nat) (b9 : List (S68)) (b8 : List (S71)) (b1 : List Int) (a5 : List (S39)) : Option ((List (S88)) × (List (S88)) × Int) := (statistic_typed.f k b9 b8 b1 a5).bind fun d8 => (if d8 = 0 then (statistic_Of.l0 k b1 (b1.length : Int) 0 b1 a5 ([] : List (S88))) else (some (([] : List (S88)), ([] : List (S88)), d8)))
theorem statistic_Of.mono_l : ∀ k, (∀ y0 y1 y2 y3 y4 y5, LeO (statistic_Of.l0 k y0 y1 y2 y3 y4 y5) (statistic_Of.l0 (k + 1) y0 y1 y2 y3 y4 y5)) ∧ (∀ y0 y1 y2 y3 y4 y5 y6, LeO (statistic_Of.l1 k y0 y1 y2 y3 y4 y5 y6) (statistic_Of.l1 (k + 1) y0 y1 y2 y3 y4 y5 y6))
 | 0 => by refine ⟨?_, ?_⟩ <;> (intros; intro r h; simp [statistic_Of.l0, statistic_Of.l1] at h)
 | k + 1 => by
  obtain ⟨ih0, ih1⟩ := statistic_Of.mono_l k
  refine ⟨?_, ?_⟩ <;> (intros; first | unfold statistic_Of.l0 | unfold statistic_Of.l1)
  all_goals with_reducible repeat' first | exact ih0 .. | exact ih1 .. | exact statistic_typed.mono .. | exact LeO.refl _ | exact LeO.none _ | refine LeO.ite ?_ ?_ | refine LeO.bind ?_ fun _ => ?_
theorem statistic_Of.mono : ∀ a0 a1 a2 a3 k, LeO (statistic_Of.f k a0 a1 a2 a3) (statistic_Of.f (k + 1) a0 a1 a2 a3) := by
 intro a0 a1 a2 a3 k
 obtain ⟨ih0, ih1⟩ := statistic_Of.mono_l k
 unfold statistic_Of.f
 with_reducible repeat' first | exact ih0 .. | exact ih1 .. | exact statistic_typed.mono .. | exact LeO.refl _ | exact LeO.none _ | refine LeO.ite ?_ ?_ | refine LeO.bind ?_ fun _ => ?_
def statistic_Of.T13 : Bool × List (List Nat × List Nat) := (true, [([], []), ([0], [0]), ([], []), ([2], [2]), ([], []), ([4], [4]), ([], []), ([6], [6]), ([5, 7], [5, 7]), ([8], [8]), ([], []), ([10], [10]), ([], []), ([12], [12]), ([11, 13], [11, 13]), ([14], [14]), ([3, 9, 15], [3, 9, 15]), ([1, 16], [1, 16]), ([0, 1, 2, 3, 4, 5, 6, 7, 8, 9, 10, 11, 12, 13, 14, 15, 16, 17], []), ([18, 17, 17, 0, 1, 2, 3, 4, 5, 6, 7, 8, 9, 10, 11, 12, 13, 14, 15, 16, 17], [17, 18])])
def statistic_Of.B13 : List Nat := [0, 1, 0, 4, 0, 16, 0, 64, 240, 496, 0, 1024, 0, 4096, 15360, 31744, 65532, 131071, 262143, 524287]
theorem statistic_Of.tab13 : rtab .any (opsOf Try.f35 13) = statistic_Of.T13 := by kernel_rfl
theorem statistic_Of.bits13 : waitsOk statistic_Of.T13.2 statistic_Of.B13 = true := by kernel_rfl
theorem statistic_Of.calls (k : Nat) (e3 : Option Addr) (e0 : Nat) (b9 : List (S68)) (e2 : Option Addr) (d9 : Nat) (b8 : List (S71)) (e1 : Option Addr) (c8 : Nat) (b1 : List Int) (e8 : Option Addr) (c7 : Nat) (a5 : List (S39)) (r1 : List (S88)) (r2 : List (S88)) (r3 : Int) (w : World) (n2 : Kd.C k68 w e3 b9.length b9) (n6 : b9.length ≤ e0) (n1 : Kd.C k71 w e2 b8.length b8) (n5 : b8.length ≤ d9) (n0 : Kd.C (Kd.int .i64) w e1 b1.length b1) (n4 : b1.length ≤ c8) (m9 : Kd.C k39 w e8 a5.length a5) (n3 : a5.length ≤ c7) (h : statistic_Of.f k b9 b8 b1 a5 = some (r1, r2, r3)) :
  Calls Try.prog 35 #[.agg #[.slice e3 b9.length e0, .slice e2 b8.length d9], .agg #[.slice e1 b1.length c8, .slice e8 a5.length c7]] w fun e w' => ∃ q1 q0 : Value, e = .returned (.tuple #[.agg #[q1, q0], .int .i64 r3]) ∧ Kd.R k88 88 w' w.heap.size (fun k_ => some k_ ≠ (q0 : Value).ownBlock) q1 r1 ∧ Kd.R k88 88 w' w.heap.size (fun k_ => some k_ ≠ (q1 : Value).ownBlock) q0 r2 ∧ Below w.heap.size w w' := by
 have hu25 := Try.underlying25
 have hu59 := Try.underlying59
 have hu64 := Try.underlying64
 have hu88 := Try.underlying88
 have hu39 := Try.underlying39
 have s9 := Aside0.mk n2
 have t3 := Aside0.mk n6
 clear n2 n6
 have r9 := Aside0.mk n1
 have t2 := Aside0.mk n5
 clear n1 n5
 have g6 := Aside0.mk n0
 have t1 := Aside0.mk n4
 clear n0 n4
 have n9 := Aside0.mk m9
 have t0 := Aside0.mk n3
 clear m9 n3
 have HB := Aside0.mk (Below.refl w.heap.size w)
 have H : ((statistic_typed.f k b9 b8 b1 a5).bind fun d8 => (if d8 = 0 then (statistic_Of.l0 k b1 (b1.length : Int) 0 b1 a5 ([] : List (S88))) else (some (([] : List (S88)), ([] : List (S88)), d8)))) = some (r1, r2, r3) := h
 clear h
 obtain ⟨d8, A3, H⟩ := obA H
 by_cases c4 : d8 = 0
 rw [if_pos c4] at H
 have r5 := beq_iff_eq.mpr c4
 have r4 := bne_eq_false_iff_eq.mpr c4
 clear c4
 have H' := Aside0.mk H
 clear H
 rotate_left
 rw [if_neg c4] at H
 have r5 := beq_eq_false_iff_ne.mpr c4
 have r4 := bne_iff_ne.mpr c4
 simp only [Option.some.injEq, Prod.mk.injEq] at H
 obtain ⟨rfl, rfl, rfl⟩ := H
 all_goals
  go_enter Try.func35, Try.ntmps35
  go_wp2_with (first | ((with_reducible refine gate_dst (N := 2) rfl ?_); refine be 2 #[.slice e3 b9.length e0, .slice e2 b8.length d9] 25 ?_; intro j1 hg J7 hbox hb; have a7 := Aside0.mk (hbox); have J0 := bsz HB hg; replace HB := bstep HB hb; clear hb hbox hg) | ((with_reducible refine gate_dst (N := 3) rfl ?_); refine be 3 #[.slice e1 b1.length c8, .slice e8 a5.length c7] 59 ?_; intro e7 hg J6 hbox hb; have a6 := Aside0.mk (hbox); have I9 := bsz HB hg; replace HB := bstep HB hb; have g4 := blt a7 hg; have g2 := bgt a7 hg; replace a7 := bkb a7 hb; clear hb hbox hg) | ((with_reducible refine gate_dst (N := 4) rfl ?_); refine be 4 #[.slice none 0 0, .slice none 0 0] 64 ?_; intro e6 hg J5 hbox hb; have a9 := Aside0.mk (hbox); have I8 := bsz HB hg; replace HB := bstep HB hb; have g3 := blt a7 hg; have g1 := bgt a7 hg; replace a7 := bkb a7 hb; have d3 := blt a6 hg; have d2 := bgt a6 hg; replace a6 := bkb a6 hb; clear hb hbox hg; have F9 := g4.out; have E0 := g2.out; have F8 := g3.out; have D9 := g1.out; obtain ⟨p4, p3, o6, o5⟩ := cz2 a7; have F7 := d3.out; have D8 := d2.out; obtain ⟨p2, p1, o4, o3⟩ := cz2 a6) | ((with_reducible refine gate_callee (f := 55) rfl ?_); refine gl 14 Try.func55 #[.agg #[.slice e3 b9.length e0, .slice e2 b8.length d9], .agg #[.slice e1 b1.length c8, .slice e8 a5.length c7]] (h := ?_); (with_reducible refine (statistic_typed.calls _ _ _ _ _ _ _ _ _ _ _ _ _ _ _ (cb s9 HB) t3.out (cb r9 HB) t2.out (cb g6 HB) t1.out (cb n9 HB) t0.out A3.out).mono ?_); rintro e J4 ⟨rfl, hb⟩; refine ⟨_, rfl, ?_⟩; replace a7 := bkb a7 hb; replace a6 := bkb a6 hb; replace a9 := bkb a9 hb; replace HB := bstep HB hb; clear hb; obtain ⟨C0, A9, x9, x8⟩ := cz2 a9) | ((with_reducible refine gate_dst (N := 7) rfl ?_); refine be 7 #[.slice none 0 0, .slice none 0 0] 64 ?_; intro d7 hg L0 hbox hb; have a8 := Aside0.mk (hbox); have I7 := bsz HB hg; replace HB := bstep HB hb; have d4 := blt a7 hg; have d0 := bgt a7 hg; replace a7 := bkb a7 hb; have c2 := blt a6 hg; have c1 := bgt a6 hg; replace a6 := bkb a6 hb; have d1 := blt a9 hg; have c9 := bgt a9 hg; replace a9 := bkb a9 hb; clear hb hbox hg; have H5 := c2.out; have F6 := c1.out; obtain ⟨p8, p7, p0, o9⟩ := cz2 a6))
 ·refine bodyPost_ret (results_ct rfl _ _ e6 64 #[.slice none 0 0, .slice none 0 0] (0, 0) _ rfl (by (with_reducible repeat (first | refine dN ?_ _ | refine dR ?_ | refine dA ?_ _)); refine blk_put (cs := #[.slice none 0 0, .slice none 0 0]) ?_ 1 _ rfl; refine blk_put (cs := #[.slice none 0 0, .slice none 0 0]) ?_ 0 _ rfl; (with_reducible repeat (first | refine dN ?_ _ | refine dR ?_ | refine dA ?_ _)); exact a9.out) Try.underlying64 rfl (by kernel_rfl)) rfl ?_
  exact ⟨_, _, erf, by first | exact Kd.R_nil _ _ _ _ _ | exact Kd.N_nil _ _ _ _ _ | exact Kd.V_nil _ _ _ _ _ | exact Kd.Q_nil _ _ _ _ _ | exact Kd.S_nil _ _ _ _ _, by first | exact Kd.R_nil _ _ _ _ _ | exact Kd.N_nil _ _ _ _ _ | exact Kd.V_nil _ _ _ _ _ | exact Kd.Q_nil _ _ _ _ _ | exact Kd.S_nil _ _ _ _ _, bb HB⟩
 ·go_loopg [22] k (fun kq D5 w' => ∃ (c0 : Int) (b2 : List (S88)) (b5 : Value), D5 = .int .i64 c0 ∧ Aside0 (statistic_Of.l0 kq b1 (b1.length : Int) c0 b1 a5 b2 = some (r1, r2, r3)) ∧ Aside0 (kq ≤ k) ∧ Aside0 (Kd.R k88 88 w' w.heap.size (fun _ => True) b5 b2) ∧ Aside0 (w'.heap[j1]? = some (.cells #[(.slice e3 b9.length e0), (.slice e2 b8.length d9)] 25 (0, 0))) ∧ Aside0 (w'.heap[e7]? = some (.cells #[(.slice e1 b1.length c8), (.slice e8 a5.length c7)] 59 (0, 0))) ∧ Aside0 (w'.heap[e6]? = some (.cells #[(.slice none 0 0), (.slice none 0 0)] 64 (0, 0))) ∧ Aside0 (w'.heap[d7]? = some (.cells #[b5, (.slice none 0 0)] 64 (0, 0))) ∧ Aside0 (Below w.heap.size w w'))
  case atStart => exact ⟨(0), (([] : List (S88))), (.slice none 0 0), eqs, H', ⟨Nat.le_refl _⟩, ⟨by first | exact Kd.R_nil _ _ _ _ _ | exact Kd.N_nil _ _ _ _ _ | exact Kd.V_nil _ _ _ _ _ | exact Kd.Q_nil _ _ _ _ _ | exact Kd.S_nil _ _ _ _ _⟩, ⟨bk a7⟩, ⟨bk a6⟩, ⟨bk a9⟩, ⟨bk a8⟩, ⟨bb HB⟩⟩
  case round =>
   clear H'
   try clear r5 r4 p4 p3 p2 p1 p8 p7 o6 o5 o4 o3 p0 o9
   obtain ⟨c0, b2, b5, rfl, HA, o2, HO_662000, a7, a6, a9, a8, HB⟩ := hrel
   cases gk with
   | zero => exact absurd HA.out (by simp [statistic_Of.l0])
   | succ k1 =>
    have H := HA.out
    clear HA
    simp only [statistic_Of.l0] at H
    by_cases h8 : c0 < (b1.length : Int)
    ·rw [if_pos h8] at H
     have n7 := decide_eq_true h8
     clear h8
     obtain ⟨v3, H⟩ := itn H
     have I4 := decide_eq_true v3
     clear v3
     obtain ⟨v2, H⟩ := itn H
     have I3 := decide_eq_true v2
     clear v2
     obtain ⟨g8, D7, H⟩ := obA H
     have H' := Aside0.mk H
     clear H
     have m6 : 0 ≤ c0 := odt
     have m2 : c0 < (b1.length : Int) := odt
     obtain ⟨I5, v8, h4⟩ := Kd.at_int g6.out c0 m6 m2
     cases v8
     replace h4 := hxc HB h4
     replace m6 := eq_true m6
     replace m2 := eq_true m2
     have H4 := d0.out
     have F5 := d4.out
     have H3 := c1.out
     have F4 := c2.out
     have H2 := c9.out
     have F3 := d1.out
     obtain ⟨D1, D0, A8, A7⟩ := cz2 a8
     obtain ⟨w7, w3, eo25⟩ := Kd.R_slice HO_662000.out
     subst eo25
     go_wp2_with (first | ((with_reducible refine gate_callee (f := 56) rfl ?_); refine gl 30 Try.func56 #[.slice w7 b2.length w3, .agg #[.int .i64 (rd b1 c0), .int .i64 0, .int .i64 0, .int .i64 1]] (h := ?_); (with_reducible refine (statistic_counted.calls _ _ b2 (rd b1 c0) 0 0 1 g8 _ ?j0 ?h9 D7.out).mono ?_); (case j0 => repeat (first | exact (Kd.R_reads' HO_662000.out).2.2 | (with_reducible refine Kd.C_alloc ?_ _) | (with_reducible refine Kd.C_drewN ?_ _) | (with_reducible refine Kd.C_drew ?_))); (case h9 => exact (Kd.R_reads' HO_662000.out).2.1); rintro e J9 ⟨J2, rfl, g9, hb⟩; refine ⟨_, rfl, ?_⟩; have o1 := Aside0.mk (Kd.R_lower (Kd.R_new' g9 (Kd.R_lt (kR HO_662000))) (below_size (bb HB))); replace HO_662000 := Aside0.mk (Kd.R_elder' (kR HO_662000) (Kd.R_base g9) hb); replace a7 := bkb a7 hb; replace a6 := bkb a6 hb; replace a9 := bkb a9 hb; replace a8 := bkb a8 hb; replace HB := bstep HB hb; clear hb g9; obtain ⟨w6, w2, eo27⟩ := Kd.R_slice o1.out; subst eo27; obtain ⟨C9, C8, A6, A5⟩ := cz2 a8))
     go_roundg k1
     case measure => have := o2.out; omega
     case rel => exact ⟨(wrap64 (c0 + 1)), (g8), (.slice w6 g8.length w2), eqs, H', ⟨by have := o2.out; omega⟩, ⟨ktm o1 a8 (fun _ hk => trivial)⟩, ⟨bkF a7⟩, ⟨bkF a6⟩, ⟨bkF a9⟩, ⟨bkP a8⟩, ⟨bb HB⟩⟩
    rw [if_neg h8] at H
    have n7 := decide_eq_false h8
    clear h8
    have H' := Aside0.mk H
    clear H
    have H1 := g2.out
    have F2 := g4.out
    have H0 := d3.out
    have F1 := d2.out
    have G9 := c2.out
    have F0 := c1.out
    obtain ⟨p6, p5, o8, o7⟩ := cz2 a6
    go_wp2
    go_loopg [36] k1 (fun kq D4 w' => ∃ (a4 : Int) (b3 : List (S88)) (b7 : Value), D4 = .int .i64 a4 ∧ Aside0 (statistic_Of.l1 kq a5 (a5.length : Int) a4 b1 a5 b2 b3 = some (r1, r2, r3)) ∧ Aside0 (kq ≤ k1) ∧ Aside0 (Kd.R k88 88 w' w.heap.size (fun k_ => some k_ ≠ (b7 : Value).ownBlock) b5 b2) ∧ Aside0 (Kd.R k88 88 w' w.heap.size (fun k_ => some k_ ≠ (b5 : Value).ownBlock) b7 b3) ∧ Aside0 (w'.heap[j1]? = some (.cells #[(.slice e3 b9.length e0), (.slice e2 b8.length d9)] 25 (0, 0))) ∧ Aside0 (w'.heap[e7]? = some (.cells #[(.slice e1 b1.length c8), (.slice e8 a5.length c7)] 59 (0, 0))) ∧ Aside0 (w'.heap[e6]? = some (.cells #[(.slice none 0 0), (.slice none 0 0)] 64 (0, 0))) ∧ Aside0 (w'.heap[d7]? = some (.cells #[b5, b7] 64 (0, 0))) ∧ Aside0 (Below w.heap.size w w'))
    case atStart => exact ⟨(0), (([] : List (S88))), (.slice none 0 0), eqs, H', ⟨Nat.le_refl _⟩, ⟨kmm HO_662000 (fun _ hk => (by simp [Value.ownBlock]))⟩, ⟨by first | exact Kd.R_nil _ _ _ _ _ | exact Kd.N_nil _ _ _ _ _ | exact Kd.V_nil _ _ _ _ _ | exact Kd.Q_nil _ _ _ _ _ | exact Kd.S_nil _ _ _ _ _⟩, ⟨bk a7⟩, ⟨bk a6⟩, ⟨bk a9⟩, ⟨bk a8⟩, ⟨bb HB⟩⟩
    case round =>
     clear H'
     try clear n7 p6 p5 o8 o7
     obtain ⟨a4, b3, b7, rfl, HA, v4, HO_662000, HO_662001, a7, a6, a9, a8, HB⟩ := hrel
     cases gk with
     | zero => exact absurd HA.out (by simp [statistic_Of.l1])
     | succ k2 =>
      have H := HA.out
      clear HA
      simp only [statistic_Of.l1] at H
      by_cases h7 : a4 < (a5.length : Int)
      rotate_left
      ·rw [if_neg h7] at H
       have r7 := decide_eq_false h7
       clear h7
       simp only [Option.some.injEq, Prod.mk.injEq] at H
       obtain ⟨rfl, rfl, rfl⟩ := H
       have G4 := d0.out
       have E5 := d4.out
       have G3 := c1.out
       have E4 := c2.out
       have G2 := c9.out
       have E3 := d1.out
       obtain ⟨C4, C3, A0, y9⟩ := cz2 a8
       obtain ⟨r6, r0, eo57⟩ := Kd.R_slice HO_662000.out
       subst eo57
       have G1 := g1.out
       have E2 := g3.out
       have G0 := d2.out
       have E1 := d3.out
       obtain ⟨C2, C1, y8, y7⟩ := cz2 a9
       obtain ⟨w4, v9, eo61⟩ := Kd.R_slice HO_662001.out
       subst eo61
       go_wp2
       refine bodyPost_ret (results_ct rfl _ _ e6 64 #[.slice r6 b2.length r0, .slice w4 b3.length v9] (0, 0) _ rfl (by (with_reducible repeat (first | refine dN ?_ _ | refine dR ?_ | refine dA ?_ _)); refine blk_put (cs := #[.slice r6 b2.length r0, .slice none 0 0]) ?_ 1 _ rfl; refine blk_put (cs := #[.slice none 0 0, .slice none 0 0]) ?_ 0 _ rfl; (with_reducible repeat (first | refine dN ?_ _ | refine dR ?_ | refine dA ?_ _)); exact a9.out) Try.underlying64 rfl (by kernel_rfl)) rfl ?_
       exact ⟨_, _, erf, ktm HO_662000 a9 (fun _ hk => hk.1), ktm HO_662001 a9 (fun _ hk => hk.1), bb HB⟩
      rw [if_pos h7] at H
      have r7 := decide_eq_true h7
      clear h7
      obtain ⟨v1, H⟩ := itn H
      have I2 := decide_eq_true v1
      clear v1
      obtain ⟨v0, H⟩ := itn H
      have I1 := decide_eq_true v0
      clear v0
      obtain ⟨t9, H⟩ := itn H
      have I0 := decide_eq_true t9
      clear t9
      obtain ⟨t8, H⟩ := itn H
      have H9 := decide_eq_true t8
      clear t8
      obtain ⟨t7, H⟩ := itn H
      have H8 := decide_eq_true t7
      clear t7
      obtain ⟨t6, H⟩ := itn H
      have H7 := decide_eq_true t6
      clear t6
      obtain ⟨g7, D6, H⟩ := obA H
      have H' := Aside0.mk H
      clear H
      have m5 : 0 ≤ a4 := odt
      have m1 : a4 < (a5.length : Int) := odt
      obtain ⟨n8, v7, h3, h2, h1⟩ := at_T39 n9.out a4 m5 m1
      cases v7
      replace h3 := hxc HB h3
      replace h2 := hxc HB h2
      replace h1 := hxc HB h1
      replace m5 := eq_true m5
      replace m1 := eq_true m1
      try go_wp2_with (first | ((with_reducible refine gate_dst (N := 11) rfl ?_); refine be 11 #[.int .i64 0, .int .i64 0, .int .i64 0] 39 ?_; intro b0 hg e5 hbox hb; replace HO_662000 := kRb HO_662000 hb; replace HO_662001 := kRb HO_662001 hb; have b4 := Aside0.mk (hbox); have I6 := bsz HB hg; replace HB := bstep HB hb; have j8 := blt a7 hg; have j5 := bgt a7 hg; replace a7 := bkb a7 hb; have j7 := blt a6 hg; have j4 := bgt a6 hg; replace a6 := bkb a6 hb; have j6 := blt a9 hg; have j3 := bgt a9 hg; replace a9 := bkb a9 hb; have g0 := blt a8 hg; have e9 := bgt a8 hg; replace a8 := bkb a8 hb; clear hb hbox hg; have G8 := j5.out; have E9 := j8.out; have G7 := j4.out; have E8 := j7.out; have G6 := j3.out; have E7 := j6.out; have G5 := e9.out; have E6 := g0.out; obtain ⟨C7, C6, C5, A4, A2, A1⟩ := cz3 b4))
      have q9 : Aside0 (Kd.R k88 88 (((e5.setCell ⟨b0, 0, none⟩ (.int .i64 ((rd_T39 a5 a4).f0))).setCell ⟨b0, 1, none⟩ (.int .i64 ((rd_T39 a5 a4).f1))).setCell ⟨b0, 2, none⟩ (.int .i64 ((rd_T39 a5 a4).f2))) w.heap.size (fun k_ => some k_ ≠ (b7 : Value).ownBlock) b5 b2) := ⟨ktm HO_662000 b4 (fun _ hk => hk.1)⟩
      have q8 : Aside0 (Kd.R k88 88 (((e5.setCell ⟨b0, 0, none⟩ (.int .i64 ((rd_T39 a5 a4).f0))).setCell ⟨b0, 1, none⟩ (.int .i64 ((rd_T39 a5 a4).f1))).setCell ⟨b0, 2, none⟩ (.int .i64 ((rd_T39 a5 a4).f2))) w.heap.size (fun k_ => some k_ ≠ (b5 : Value).ownBlock) b7 b3) := ⟨ktm HO_662001 b4 (fun _ hk => hk.1)⟩
      have q7 : Aside0 ((((e5.setCell ⟨b0, 0, none⟩ (.int .i64 ((rd_T39 a5 a4).f0))).setCell ⟨b0, 1, none⟩ (.int .i64 ((rd_T39 a5 a4).f1))).setCell ⟨b0, 2, none⟩ (.int .i64 ((rd_T39 a5 a4).f2))).heap[j1]? = some (.cells #[.slice e3 b9.length e0, .slice e2 b8.length d9] 25 (0, 0))) := ⟨bkF a7⟩
      have q6 : Aside0 ((((e5.setCell ⟨b0, 0, none⟩ (.int .i64 ((rd_T39 a5 a4).f0))).setCell ⟨b0, 1, none⟩ (.int .i64 ((rd_T39 a5 a4).f1))).setCell ⟨b0, 2, none⟩ (.int .i64 ((rd_T39 a5 a4).f2))).heap[e7]? = some (.cells #[.slice e1 b1.length c8, .slice (some n8) a5.length c7] 59 (0, 0))) := ⟨bkF a6⟩
      have q5 : Aside0 ((((e5.setCell ⟨b0, 0, none⟩ (.int .i64 ((rd_T39 a5 a4).f0))).setCell ⟨b0, 1, none⟩ (.int .i64 ((rd_T39 a5 a4).f1))).setCell ⟨b0, 2, none⟩ (.int .i64 ((rd_T39 a5 a4).f2))).heap[e6]? = some (.cells #[.slice none 0 0, .slice none 0 0] 64 (0, 0))) := ⟨bkF a9⟩
      have q4 : Aside0 ((((e5.setCell ⟨b0, 0, none⟩ (.int .i64 ((rd_T39 a5 a4).f0))).setCell ⟨b0, 1, none⟩ (.int .i64 ((rd_T39 a5 a4).f1))).setCell ⟨b0, 2, none⟩ (.int .i64 ((rd_T39 a5 a4).f2))).heap[d7]? = some (.cells #[b5, b7] 64 (0, 0))) := ⟨bkF a8⟩
      have q3 : Aside0 ((((e5.setCell ⟨b0, 0, none⟩ (.int .i64 ((rd_T39 a5 a4).f0))).setCell ⟨b0, 1, none⟩ (.int .i64 ((rd_T39 a5 a4).f1))).setCell ⟨b0, 2, none⟩ (.int .i64 ((rd_T39 a5 a4).f2))).heap[b0]? = some (.cells #[.int .i64 ((rd_T39 a5 a4).f0), .int .i64 ((rd_T39 a5 a4).f1), .int .i64 ((rd_T39 a5 a4).f2)] 39 (0, 0))) := ⟨bkP b4⟩
      have q2 : Aside0 (Below w.heap.size w (((e5.setCell ⟨b0, 0, none⟩ (.int .i64 ((rd_T39 a5 a4).f0))).setCell ⟨b0, 1, none⟩ (.int .i64 ((rd_T39 a5 a4).f1))).setCell ⟨b0, 2, none⟩ (.int .i64 ((rd_T39 a5 a4).f2)))) := ⟨bb HB⟩
      (try clear HO_662000)
      (try clear HO_662001)
      (try clear a7)
      (try clear a6)
      (try clear a9)
      (try clear a8)
      (try clear b4)
      (try clear HB)
      generalize (((e5.setCell ⟨b0, 0, none⟩ (.int .i64 ((rd_T39 a5 a4).f0))).setCell ⟨b0, 1, none⟩ (.int .i64 ((rd_T39 a5 a4).f1))).setCell ⟨b0, 2, none⟩ (.int .i64 ((rd_T39 a5 a4).f2))) = D3 at q9 q8 q7 q6 q5 q4 q3 q2 ⊢
      have HO_662000 := q9
      have HO_662001 := q8
      have a7 := q7
      have a6 := q6
      have a9 := q5
      have a8 := q4
      have b4 := q3
      have HB := q2
      clear q9 q8 q7 q6 q5 q4 q3 q2
      replace HO_662000 := Aside0.mk (Kd.R_drew HO_662000.out)
      replace HO_662001 := Aside0.mk (Kd.R_drew HO_662001.out)
      replace a7 := Aside0.mk (blk_drew a7.out)
      replace a6 := Aside0.mk (blk_drew a6.out)
      replace a9 := Aside0.mk (blk_drew a9.out)
      replace a8 := Aside0.mk (blk_drew a8.out)
      replace b4 := Aside0.mk (blk_drew b4.out)
      replace HB := Aside0.mk (below_drew1 HB.out)
      have m4 : 0 ≤ (((rd_T39 a5 a4).f1) : Int) := odt
      have m0 : ((rd_T39 a5 a4).f1) < (b1.length : Int) := odt
      obtain ⟨g5, v6, d6⟩ := Kd.at_int g6.out ((rd_T39 a5 a4).f1) m4 m0
      have h6 := d6
      cases v6
      replace d6 := hxc HB d6
      replace m4 := eq_true m4
      replace m0 := eq_true m0
      have m3 : 0 ≤ (((rd_T39 a5 a4).f2) : Int) := odt
      have j9 : ((rd_T39 a5 a4).f2) < (b1.length : Int) := odt
      obtain ⟨r8, v5, d5⟩ := Kd.at_int g6.out ((rd_T39 a5 a4).f2) m3 j9
      have h5 := d5
      obtain rfl : g5 = r8 := (by injection v5)
      replace d5 := hxc HB d5
      replace m3 := eq_true m3
      replace j9 := eq_true j9
      obtain ⟨m8, m7, eo49⟩ := Kd.R_slice HO_662001.out
      (first | subst eo49 | (injection eo49 with f1_ f2_ f3_; have f4_ := f1_.symm; have f5_ := f3_.symm; clear f1_ f2_ f3_; subst f4_; subst f5_))
      refine start_ (n := 20) (S := fun w' => w'.cell? ⟨d7, 0, none⟩ = some (b5) ∧ w'.cell? ⟨d7, 1, none⟩ = some (.slice m8 b3.length m7) ∧ w'.cell? ⟨b0, 0, none⟩ = some (.int .i64 ((rd_T39 a5 a4).f0)) ∧ w'.cell? ⟨b0, 1, none⟩ = some (.int .i64 ((rd_T39 a5 a4).f1)) ∧ w'.cell? ⟨b0, 2, none⟩ = some (.int .i64 ((rd_T39 a5 a4).f2)) ∧ w'.cell? ⟨e7, 0, none⟩ = some (.slice (some g5) b1.length c8) ∧ w'.cell? ⟨e7, 1, none⟩ = some (.slice (some n8) a5.length c7) ∧ w'.cell? (g5.add (((rd_T39 a5 a4).f1)).toNat) = some (.int .i64 (rd b1 ((rd_T39 a5 a4).f1))) ∧ w'.cell? (g5.add (((rd_T39 a5 a4).f2)).toNat) = some (.int .i64 (rd b1 ((rd_T39 a5 a4).f2)))) (ds := [19]) #[false, false, false, false, false, false, false, false, false, false, false, false, false, false, false, false, false, false, false, false] (by kernel_rfl) rfl rfl ⟨bc a8 0, bc a8 1, bc b4 0, bc b4 1, bc b4 2, bc a6 0, bc a6 1, (hxc HB h6), (hxc HB h5)⟩ (fun hHeld => ?_); refine with_tabW statistic_Of.tab13 statistic_Of.bits13 (fun HT_ HW_ => ?_)
      generalize D3.drew = J8 at HO_662000 HO_662001 a7 a6 a9 a8 b4 HB d6 d5 hHeld ⊢
      refine pu 0 40 (bits 20 0x1) HT_ (h := ?_)
      refine pu 2 42 (bits 20 0x5) HT_ (h := ?_)
      refine pu 4 44 (bits 20 0x15) HT_ (h := ?_)
      refine pu 6 46 (bits 20 0x55) HT_ (h := ?_)
      refine pu 10 50 (bits 20 0x455) HT_ (h := ?_)
      refine pu 12 52 (bits 20 0x1455) HT_ (h := ?_)
      refine tk 1 41 (bits 20 0x1457) HT_ HW_ hHeld (hy := by rintro w' ⟨s0, s1, s2, s3, s4, s5, s6, s7, s8⟩; go_simp; with_reducible rfl) (h := ?_)
      refine tk 3 43 (bits 20 0x145f) HT_ HW_ hHeld (hy := by rintro w' ⟨s0, s1, s2, s3, s4, s5, s6, s7, s8⟩; go_simp; with_reducible rfl) (h := ?_)
      refine tk 5 45 (bits 20 0x147f) HT_ HW_ hHeld (hy := by rintro w' ⟨s0, s1, s2, s3, s4, s5, s6, s7, s8⟩; go_simp; with_reducible rfl) (h := ?_)
      refine tk 7 47 (bits 20 0x14ff) HT_ HW_ hHeld (hy := by rintro w' ⟨s0, s1, s2, s3, s4, s5, s6, s7, s8⟩; go_simp; with_reducible rfl) (h := ?_)
      refine pu 8 48 (bits 20 0x15ff) HT_ (h := ?_)
      refine tk 9 49 (bits 20 0x17ff) HT_ HW_ hHeld (hy := by rintro w' ⟨s0, s1, s2, s3, s4, s5, s6, s7, s8⟩; go_simp; with_reducible rfl) (h := ?_)
      refine tk 11 51 (bits 20 0x1fff) HT_ HW_ hHeld (hy := by rintro w' ⟨s0, s1, s2, s3, s4, s5, s6, s7, s8⟩; go_simp; with_reducible rfl) (h := ?_)
      refine tk 13 53 (bits 20 0x3fff) HT_ HW_ hHeld (hy := by rintro w' ⟨s0, s1, s2, s3, s4, s5, s6, s7, s8⟩; go_simp; with_reducible rfl) (h := ?_)
      refine pu 14 54 (bits 20 0x7fff) HT_ (h := ?_)
      refine tk 15 55 (bits 20 0xffff) HT_ HW_ hHeld (hy := by rintro w' ⟨s0, s1, s2, s3, s4, s5, s6, s7, s8⟩; go_simp; with_reducible rfl) (h := ?_)
      refine pu 16 56 (bits 20 0x1ffff) HT_ (h := ?_)
      refine one_ (i := 17) (N := some 57) #[true, true, true, true, true, true, true, true, true, true, true, true, true, true, true, true, true, true, false, false] rfl rfl (one_of HT_.out (by kernel_rfl)) (by decide) (fun K hK => ?_)
      refine goes_ Try.func56 (by kernel_rfl) rfl #[.slice m8 b3.length m7, .agg #[.int .i64 ((rd_T39 a5 a4).f0), .int .i64 (rd b1 ((rd_T39 a5 a4).f1)), .int .i64 (rd b1 ((rd_T39 a5 a4).f2)), .int .i64 1]] (by rfl) rfl rfl (by (try simp only [List.map_toArray, List.map_cons, List.map_nil]); first | done | rfl | (simp only [List.length_drop, List.length_take]; rfl)) ?_
      with_reducible refine (statistic_counted.calls _ _ b3 ((rd_T39 a5 a4).f0) (rd b1 ((rd_T39 a5 a4).f1)) (rd b1 ((rd_T39 a5 a4).f2)) 1 g7 _ ?j0 ?h9 D6.out).mono ?_
      (case j0 => repeat (first | exact (Kd.R_reads' HO_662001.out).2.2 | (with_reducible refine Kd.C_alloc ?_ _) | (with_reducible refine Kd.C_drewN ?_ _) | (with_reducible refine Kd.C_drew ?_)))
      (case h9 => exact (Kd.R_reads' HO_662001.out).2.1)
      rintro e D2 ⟨J1, rfl, g9, hb⟩
      refine ⟨_, rfl, ?_⟩
      have o0 := Aside0.mk (Kd.R_lower (Kd.R_new' (Kd.R_new' g9 (Kd.R_lt (kR HO_662000))) (Kd.R_lt (kR HO_662001))) (below_size (bb HB)))
      replace HO_662000 := Aside0.mk (Kd.R_elder' (kR HO_662000) (Kd.R_base g9) hb)
      replace a7 := bkb a7 hb
      replace a6 := bkb a6 hb
      replace a9 := bkb a9 hb
      replace a8 := bkb a8 hb
      replace b4 := bkb b4 hb
      replace HB := bstep HB hb
      (try clear hb)
      (try clear hb2)
      (try clear hk)
      (try clear hi)
      (try clear g9)
      obtain ⟨w5, w0, eo51⟩ := Kd.R_slice o0.out
      (first | subst eo51 | (injection eo51 with f1_ f2_ f3_; have f4_ := f1_.symm; have f5_ := f3_.symm; clear f1_ f2_ f3_; subst f4_; subst f5_))
      refine hK.out _ _ ⟨bc a8 0, bc a8 1, bc b4 0, bc b4 1, bc b4 2, bc a6 0, bc a6 1, (hxc HB h6), (hxc HB h5)⟩ (fun hHeld => ?_)
      clear hK K
      refine norm_ (a' := ?_) ?_ ?_
      rotate_left
      ·show Act.put _ (some 57) _ = _
       simp only [Act.put, List.setIfInBounds_toArray, List.set_cons_zero, List.set_cons_succ, i64_w, i32_w]
       rfl
      refine pu 18 58 (bits 20 0x7ffff) HT_ (h := ?_)
      refine last_ (i := 19) (N := none) #[true, true, true, true, true, true, true, true, true, true, true, true, true, true, true, true, true, true, true, true] rfl rfl (one_of HT_.out (by kernel_rfl)) (by decide) (fun K hK => ?_)
      have J3 : D2.cell? ⟨d7, 1, none⟩ = some (.slice m8 b3.length m7) := bc a8 1
      have H6 := blk_frozen a8.out 1
      have x2 := d4.out
      have x0 := c2.out
      have w9 := d1.out
      have w8 := e9.out
      have x7 := d0.out
      have x6 := c1.out
      have x4 := c9.out
      have x3 := g0.out
      refine skip_ (w1 := ?_) (by rfl) rfl ?_ ?_
      rotate_left
      ·go_simp
       rfl
      refine hK.out _ _ ?_
      clear hK K
      refine done_ (done_of HT_.out (by kernel_rfl)) ?_
      try go_wp2
      go_roundg k2
      case measure => have := o2.out; have := v4.out; omega
      case rel => exact ⟨(wrap64 (a4 + 1)), (g7), (.slice w5 g7.length w0), eqs, H', ⟨by have := o2.out; have := v4.out; omega⟩, ⟨ktm HO_662000 a8 (fun _ hk => hk.1.2)⟩, ⟨ktm o0 a8 (fun _ hk => hk.1.1.2)⟩, ⟨bkF a7⟩, ⟨bkF a6⟩, ⟨bkF a9⟩, ⟨bkP a8⟩, ⟨bb HB⟩⟩
end Go.Proofs.Ytfpianecohobjaa.P
