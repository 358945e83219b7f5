/- StatisticOf: a part of its proof. No condition. -/
import Derived.Test.YtfpianecohobjaaVPx0
import Derived.Test.YtfpianecohobjaaVPx1
import Derived.Test.YtfpianecohobjaaVPx22
import Derived.Test.YtfpianecohobjaaVPx39
import Derived.Test.YtfpianecohobjaaVPx40
namespace Go.Proofs.Ytfpianecohobjaa.P
open Go.RowKit Go.Proofs.YtfpianecohobjaaW.PrintWords Go.Proofs.YtfpianecohobjaaW.PrintLast Go.Proofs.YtfpianecohobjaaW.PrintMore
set_option maxHeartbeats 8000000
set_option maxRecDepth 100000
set_option linter.unusedVariables false
set_option linter.unusedSimpArgs false
attribute [local go_sem high] eqA88
mutual
def statistic_Edges.j0 : Nat → Int → Int → Int → Bool → List (S68) → List (S71) → List (S88) → List (S88) → Option (Int × Int)
 | 0, _, _, _, _, _, _, _, _ => none
 | k + 1, x2, x3, x4, E0, b9, b8, r3, h0 => if E0 = true then (some (0, 6)) else (statistic_Edges.l0 k x2 x3 x4 0 h0 (h0.length : Int) 0 b9 b8)
def statistic_Edges.l0 : Nat → Int → Int → Int → Int → List (S88) → Int → Int → List (S68) → List (S71) → Option (Int × Int)
 | 0, _, _, _, _, _, _, _, _, _ => none
 | k + 1, x2, x3, x4, h9, g2, h8, d9, b9, b8 => if d9 < h8 then (if 0 ≤ d9 then (if d9 < (g2.length : Int) then (if ((rd_T88 g2 d9).f0) = x2 then ((types_Is.f k b9 b8 ((rd_T88 g2 d9).f1) x3).bind fun j3 => (if j3 = true then ((types_Is.f k b9 b8 ((rd_T88 g2 d9).f2) x4).bind fun j2 => (if j2 = true then (statistic_Edges.l0 k x2 x3 x4 (wrap64 (h9 + ((rd_T88 g2 d9).f3))) g2 h8 (wrap64 (d9 + 1)) b9 b8) else (statistic_Edges.l0 k x2 x3 x4 h9 g2 h8 (wrap64 (d9 + 1)) b9 b8))) else (statistic_Edges.l0 k x2 x3 x4 h9 g2 h8 (wrap64 (d9 + 1)) b9 b8))) else (statistic_Edges.l0 k x2 x3 x4 h9 g2 h8 (wrap64 (d9 + 1)) b9 b8)) else (none)) else (none)) else (some (h9, 0))
end
def statistic_Edges.f (k : Nat) (b2 : List (S68)) (b3 : List (S71)) (b4 : List (S88)) (a9 : List (S88)) (a2 : Int) (a3 : Int) (a4 : Int) : Option (Int × Int) := (statistic_Valid.f k b2 b3 b4 a9).bind fun e9 => (if e9 = 0 then ((statistic_is.f a2 (b3.length : Int)).bind fun g8 => (if g8 = true then ((statistic_is.f a3 (b2.length : Int)).bind fun g7 => (if g7 = true then ((statistic_is.f a4 (b2.length : Int)).bind fun h4 => (statistic_Edges.j0 k a2 a3 a4 (!h4) b2 b3 b4 a9)) else (statistic_Edges.j0 k a2 a3 a4 true b2 b3 b4 a9))) else (statistic_Edges.j0 k a2 a3 a4 true b2 b3 b4 a9))) else (some (0, e9)))
theorem statistic_Edges.mono_l : ∀ k, (∀ y0 y1 y2 y3 y4 y5 y6 y7, LeO (statistic_Edges.j0 k y0 y1 y2 y3 y4 y5 y6 y7) (statistic_Edges.j0 (k + 1) y0 y1 y2 y3 y4 y5 y6 y7)) ∧ (∀ y0 y1 y2 y3 y4 y5 y6 y7 y8, LeO (statistic_Edges.l0 k y0 y1 y2 y3 y4 y5 y6 y7 y8) (statistic_Edges.l0 (k + 1) y0 y1 y2 y3 y4 y5 y6 y7 y8))
 | 0 => by refine ⟨?_, ?_⟩ <;> (intros; intro r h; simp [statistic_Edges.j0, statistic_Edges.l0] at h)
 | k + 1 => by
  obtain ⟨ih0, ih1⟩ := statistic_Edges.mono_l k
  refine ⟨?_, ?_⟩ <;> (intros; first | unfold statistic_Edges.j0 | unfold statistic_Edges.l0)
  all_goals with_reducible repeat' first | exact ih0 .. | exact ih1 .. | exact statistic_Valid.mono .. | exact types_Is.mono .. | exact LeO.refl _ | exact LeO.none _ | refine LeO.ite ?_ ?_ | refine LeO.bind ?_ fun _ => ?_
theorem statistic_Edges.mono : ∀ a0 a1 a2 a3 a4 a5 a6 k, LeO (statistic_Edges.f k a0 a1 a2 a3 a4 a5 a6) (statistic_Edges.f (k + 1) a0 a1 a2 a3 a4 a5 a6) := by
 intro a0 a1 a2 a3 a4 a5 a6 k
 obtain ⟨ih0, ih1⟩ := statistic_Edges.mono_l k
 unfold statistic_Edges.f
 with_reducible repeat' first | exact ih0 .. | exact ih1 .. | exact statistic_Valid.mono .. | exact types_Is.mono .. | exact LeO.refl _ | exact LeO.none _ | refine LeO.ite ?_ ?_ | refine LeO.bind ?_ fun _ => ?_
theorem statistic_Edges.calls (k : Nat) (d3 : Option Addr) (d0 : Nat) (b2 : List (S68)) (d2 : Option Addr) (c9 : Nat) (b3 : List (S71)) (d1 : Option Addr) (c8 : Nat) (b4 : List (S88)) (e4 : Option Addr) (c2 : Nat) (a9 : List (S88)) (a2 : Int) (a3 : Int) (a4 : Int) (r1 : Int) (r2 : Int) (w : World) (m3 : Kd.C k68 w d3 b2.length b2) (m7 : b2.length ≤ d0) (m2 : Kd.C k71 w d2 b3.length b3) (m6 : b3.length ≤ c9) (m0 : Kd.C k88 w d1 b4.length b4) (m5 : b4.length ≤ c8) (j9 : Kd.C k88 w e4 a9.length a9) (m4 : a9.length ≤ c2) (h : statistic_Edges.f k b2 b3 b4 a9 a2 a3 a4 = some (r1, r2)) :
  Calls Try.prog 37 #[.agg #[.slice d3 b2.length d0, .slice d2 b3.length c9], .agg #[.slice d1 b4.length c8, .slice e4 a9.length c2], .int .i64 a2, .int .i64 a3, .int .i64 a4] w fun e w' => e = .returned (.tuple #[.int .i64 r1, .int .i64 r2]) ∧ Below w.heap.size w w' := by
 have hu25 := Try.underlying25
 have hu64 := Try.underlying64
 have hu88 := Try.underlying88
 have e6 := Aside0.mk m3
 have e8 := Aside0.mk m7
 clear m3 m7
 have e5 := Aside0.mk m2
 have e7 := Aside0.mk m6
 clear m2 m6
 have n2 := Aside0.mk m0
 have n4 := Aside0.mk m5
 clear m0 m5
 have g6 := Aside0.mk j9
 have n3 := Aside0.mk m4
 clear j9 m4
 have HB := Aside0.mk (Below.refl w.heap.size w)
 have H : ((statistic_Valid.f k b2 b3 b4 a9).bind fun e9 => (if e9 = 0 then ((statistic_is.f a2 (b3.length : Int)).bind fun g8 => (if g8 = true then ((statistic_is.f a3 (b2.length : Int)).bind fun g7 => (if g7 = true then ((statistic_is.f a4 (b2.length : Int)).bind fun h4 => (statistic_Edges.j0 k a2 a3 a4 (!h4) b2 b3 b4 a9)) else (statistic_Edges.j0 k a2 a3 a4 true b2 b3 b4 a9))) else (statistic_Edges.j0 k a2 a3 a4 true b2 b3 b4 a9))) else (some (0, e9)))) = some (r1, r2) := h
 clear h
 obtain ⟨e9, A6, H⟩ := obA H
 by_cases c7 : e9 = 0
 rotate_left
 ·rw [if_neg c7] at H
  have h6 := beq_eq_false_iff_ne.mpr c7
  have o7 := bne_iff_ne.mpr c7
  simp only [Option.some.injEq, Prod.mk.injEq] at H
  obtain ⟨rfl, rfl⟩ := H
  go_enter Try.func37, Try.ntmps37
  go_wp2_with (first | ((with_reducible refine gate_dst (N := 5) rfl ?_); (try (refine gate_guard (by rfl) ?_; dsimp only)); refine be 5 #[.slice d3 b2.length d0, .slice d2 b3.length c9] 25 ?_; intro g4 hg H7 hbox hb; have a7 := Aside0.mk (hbox); have p7 := bsz HB hg; replace HB := bstep HB hb; clear hb hbox hg) | ((with_reducible refine gate_dst (N := 6) rfl ?_); (try (refine gate_guard (by rfl) ?_; dsimp only)); refine be 6 #[.slice d1 b4.length c8, .slice e4 a9.length c2] 64 ?_; intro g3 hg H6 hbox hb; have a8 := Aside0.mk (hbox); have p6 := bsz HB hg; replace HB := bstep HB hb; have b6 := blt a7 hg; have b5 := bgt a7 hg; replace a7 := bkb a7 hb; clear hb hbox hg; have F9 := b6.out; have E9 := b5.out; obtain ⟨x7, x6, s5, s4⟩ := cz2 a7; obtain ⟨w8, w7, s3, s2⟩ := cz2 a8) | ((with_reducible refine gate_callee (f := 57) rfl ?_); refine gl 18 Try.func57 #[.agg #[.slice d3 b2.length d0, .slice d2 b3.length c9], .agg #[.slice d1 b4.length c8, .slice e4 a9.length c2]] (h := ?_); (with_reducible refine (statistic_Valid.calls _ _ _ _ _ _ _ _ _ _ _ _ _ _ _ (cb e6 HB) e8.out (cb e5 HB) e7.out (cb n2 HB) n4.out (cb g6 HB) n3.out A6.out).mono ?_); rintro e H5 ⟨rfl, hb⟩; refine ⟨_, rfl, ?_⟩; replace a7 := bkb a7 hb; replace a8 := bkb a8 hb; replace HB := bstep HB hb; clear hb))
  go_ret2
  exact ⟨erf, bb HB⟩
 rw [if_pos c7] at H
 have h6 := beq_iff_eq.mpr c7
 have o7 := bne_eq_false_iff_eq.mpr c7
 clear c7
 have p1 := Aside0.mk H
 clear H
 go_enter Try.func37, Try.ntmps37
 go_upto_region 4 with (first | ((with_reducible refine gate_dst (N := 5) rfl ?_); (try (refine gate_guard (by rfl) ?_; dsimp only)); refine be 5 #[.slice d3 b2.length d0, .slice d2 b3.length c9] 25 ?_; intro g4 hg w9 hbox hb; have a7 := Aside0.mk (hbox); have p7 := bsz HB hg; replace HB := bstep HB hb; clear hb hbox hg) | ((with_reducible refine gate_dst (N := 6) rfl ?_); (try (refine gate_guard (by rfl) ?_; dsimp only)); refine be 6 #[.slice d1 b4.length c8, .slice e4 a9.length c2] 64 ?_; intro g3 hg I5 hbox hb; have a8 := Aside0.mk (hbox); have p6 := bsz HB hg; replace HB := bstep HB hb; have b6 := blt a7 hg; have b5 := bgt a7 hg; replace a7 := bkb a7 hb; clear hb hbox hg; have G8 := b6.out; have F8 := b5.out; obtain ⟨o6, o5, o0, n9⟩ := cz2 a7; obtain ⟨o4, o3, n8, n7⟩ := cz2 a8) | ((with_reducible refine gate_callee (f := 57) rfl ?_); refine gl 18 Try.func57 #[.agg #[.slice d3 b2.length d0, .slice d2 b3.length c9], .agg #[.slice d1 b4.length c8, .slice e4 a9.length c2]] (h := ?_); (with_reducible refine (statistic_Valid.calls _ _ _ _ _ _ _ _ _ _ _ _ _ _ _ (cb e6 HB) e8.out (cb e5 HB) e7.out (cb n2 HB) n4.out (cb g6 HB) n3.out A6.out).mono ?_); rintro e I4 ⟨rfl, hb⟩; refine ⟨_, rfl, ?_⟩; replace a7 := bkb a7 hb; replace a8 := bkb a8 hb; replace HB := bstep HB hb; clear hb))
 (try simp only [Act.put, List.setIfInBounds_toArray, List.set_cons_zero, List.set_cons_succ])
 go_cut [43] (fun E2 wc => ∃ (kq : Nat) (g5 : Bool), E2 = .bool g5 ∧ Aside0 (statistic_Edges.j0 kq a2 a3 a4 g5 b2 b3 b4 a9 = some (r1, r2)) ∧ Aside0 (kq ≤ k) ∧ Aside0 (wc.heap[g4]? = some (.cells #[(.slice d3 b2.length d0), (.slice d2 b3.length c9)] 25 (0, 0))) ∧ Aside0 (wc.heap[g3]? = some (.cells #[(.slice d1 b4.length c8), (.slice e4 a9.length c2)] 64 (0, 0))) ∧ Aside0 (Below w.heap.size w wc))
 case first =>
  have H := p1.out
  clear p1
  obtain ⟨g8, E8, H⟩ := obA H
  by_cases n1 : g8 = true
  subst n1
  replace H := ift H
  obtain ⟨g7, E7, H⟩ := obA H
  by_cases n0 : g7 = true
  subst n0
  replace H := ift H
  obtain ⟨h4, E6, H⟩ := obA H
  have H' := Aside0.mk H
  clear H
  rotate_left
  replace n0 := Bool.eq_false_iff.mpr n0
  subst n0
  replace H := iff_ H
  have H' := Aside0.mk H
  clear H
  rotate_left
  replace n1 := Bool.eq_false_iff.mpr n1
  subst n1
  replace H := iff_ H
  have H' := Aside0.mk H
  clear H
  all_goals
   have G7 := b6.out
   have F7 := b5.out
   obtain ⟨D9, D8, w6, w5⟩ := cz2 a7
   go_wp2_with (first | ((with_reducible refine gate_callee (f := 58) rfl ?_); refine gl 26 Try.func58 #[.int .i64 a2, .int .i64 (b3.length : Int)] (h := ?_); (with_reducible refine (statistic_is.calls _ _ _ _ E8.out).mono ?_); rintro e w' ⟨rfl, ⟨nd, rfl⟩⟩; refine ⟨_, rfl, ?_⟩) | (go_at_call 58; (with_reducible refine (statistic_is.calls _ _ _ _ E7.out).mono ?_); rintro e w' ⟨rfl, ⟨nd, rfl⟩⟩) | (go_at_call 58; (with_reducible refine (statistic_is.calls _ _ _ _ E6.out).mono ?_); rintro e w' ⟨rfl, ⟨nd, rfl⟩⟩))
   go_meet
   case rel => exact ⟨_, _, eqs, H', ⟨by first | omega | exact Nat.le_refl _⟩, ⟨bk a7⟩, ⟨bk a8⟩, ⟨bb HB⟩⟩
 case rest =>
  clear p1
  try clear h6 o7 o6 o5 o4 o3 o0 n9 n8 n7
  obtain ⟨kq, g5, rfl, HA, h3, a7, a8, HB⟩ := hcut
  cases kq with
  | zero => exact absurd HA.out (by simp [statistic_Edges.j0])
  | succ p8 =>
   have H := HA.out
   clear HA
   simp only [statistic_Edges.j0] at H
   by_cases j1 : g5 = true
   ·subst j1
    replace H := ift H
    simp only [Option.some.injEq, Prod.mk.injEq] at H
    obtain ⟨rfl, rfl⟩ := H
    go_wp2
    go_ret2
    exact ⟨erf, bb HB⟩
   replace j1 := Bool.eq_false_iff.mpr j1
   subst j1
   replace H := iff_ H
   have H' := Aside0.mk H
   clear H
   have G6 := b5.out
   have F6 := b6.out
   obtain ⟨o2, o1, n6, n5⟩ := cz2 a8
   go_wp2
   go_loopg [13, 47] p8 (fun kq E3 E1 w' => ∃ (d8 : Int) (b1 : Int), E3 = .int .i64 d8 ∧ E1 = .int .i64 b1 ∧ Aside0 (statistic_Edges.l0 kq a2 a3 a4 d8 a9 (a9.length : Int) b1 b2 b3 = some (r1, r2)) ∧ Aside0 (kq ≤ p8) ∧ Aside0 (w'.heap[g4]? = some (.cells #[(.slice d3 b2.length d0), (.slice d2 b3.length c9)] 25 (0, 0))) ∧ Aside0 (w'.heap[g3]? = some (.cells #[(.slice d1 b4.length c8), (.slice e4 a9.length c2)] 64 (0, 0))) ∧ Aside0 (Below w.heap.size w w'))
   case atStart => exact ⟨(0), (0), eqs, eqs, H', ⟨Nat.le_refl _⟩, ⟨bk a7⟩, ⟨bk a8⟩, ⟨bb HB⟩⟩
   case round =>
    clear H'
    try clear j1 o2 o1 n6 n5
    obtain ⟨d8, b1, rfl, rfl, HA, h2, a7, a8, HB⟩ := hrel
    cases gk with
    | zero => exact absurd HA.out (by simp [statistic_Edges.l0])
    | succ k2 =>
     have H := HA.out
     clear HA
     simp only [statistic_Edges.l0] at H
     by_cases h1 : b1 < (a9.length : Int)
     rotate_left
     ·rw [if_neg h1] at H
      have p4 := decide_eq_false h1
      clear h1
      simp only [Option.some.injEq, Prod.mk.injEq] at H
      obtain ⟨rfl, rfl⟩ := H
      go_wp2
      go_ret2
      exact ⟨erf, bb HB⟩
     rw [if_pos h1] at H
     have p4 := decide_eq_true h1
     clear h1
     obtain ⟨q4, H⟩ := itn H
     have H0 := decide_eq_true q4
     clear q4
     obtain ⟨q3, H⟩ := itn H
     have G9 := decide_eq_true q3
     clear q3
     by_cases g9 : ((rd_T88 a9 b1).f0) = a2
     rw [if_pos g9] at H
     have p3 := beq_iff_eq.mpr g9
     have p2 := bne_eq_false_iff_eq.mpr g9
     clear g9
     obtain ⟨j3, q7, H⟩ := obA H
     by_cases m9 : j3 = true
     subst m9
     replace H := ift H
     obtain ⟨j2, q6, H⟩ := obA H
     by_cases m8 : j2 = true
     rotate_left
     ·replace m8 := Bool.eq_false_iff.mpr m8
      subst m8
      replace H := iff_ H
      have H' := Aside0.mk H
      clear H
      have g1 : 0 ≤ b1 := odt
      have g0 : b1 < (a9.length : Int) := odt
      obtain ⟨h7, j8, d7, d6, d5, d4⟩ := at_T88 g6.out b1 g1 g0
      cases j8
      replace d7 := hxc HB d7
      replace d6 := hxc HB d6
      replace d5 := hxc HB d5
      replace d4 := hxc HB d4
      replace g1 := eq_true g1
      replace g0 := eq_true g0
      go_wp2_with (first | ((with_reducible refine gate_dst (N := 15) rfl ?_); (try (refine gate_guard (by rfl) ?_; dsimp only)); refine be 15 #[.int .i64 0, .int .i64 0, .int .i64 0, .int .i64 0] 88 ?_; intro h5 hg I2 hbox hb; have b7 := Aside0.mk (hbox); have p5 := bsz HB hg; replace HB := bstep HB hb; have e3 := blt a7 hg; have e1 := bgt a7 hg; replace a7 := bkb a7 hb; have e2 := blt a8 hg; have e0 := bgt a8 hg; replace a8 := bkb a8 hb; clear hb hbox hg; have G5 := e1.out; have F5 := e3.out; have G4 := e0.out; have F4 := e2.out; obtain ⟨C7, C6, C5, C4, v3, v2, v1, v0⟩ := cz4 b7; have G3 := b6.out; have F3 := b5.out; obtain ⟨C3, C2, t9, t8⟩ := cz2 a7) | (go_at_call 20; (with_reducible refine (types_Is.calls _ _ _ _ _ _ _ _ _ _ _ (Kd.C_below e6.out (bb HB)) e8.out (Kd.C_below e5.out (bb HB)) e7.out q7.out).mono ?_); rintro e I1 ⟨rfl, hb⟩; replace a7 := Aside0.mk (blk_below (g := g4) (o := .cells #[.slice d3 b2.length d0, .slice d2 b3.length c9] 25 (0, 0)) (bkF a7) hb); replace a8 := Aside0.mk (blk_below (g := g3) (o := .cells #[.slice d1 b4.length c8, .slice (some h7) a9.length c2] 64 (0, 0)) (bkF a8) hb); replace b7 := Aside0.mk (blk_below (g := h5) (o := .cells #[.int .i64 ((rd_T88 a9 b1).f0), .int .i64 ((rd_T88 a9 b1).f1), .int .i64 ((rd_T88 a9 b1).f2), .int .i64 ((rd_T88 a9 b1).f3)] 88 (0, 0)) (bkP b7) hb); replace HB := bstep HB hb; clear hb; obtain ⟨C1, C0, t7, t6⟩ := cz2 a7; obtain ⟨A9, A8, A7, A5, t5, t4, t3, t2⟩ := cz4 b7) | (go_at_call 20; (with_reducible refine (types_Is.calls _ _ _ _ _ _ _ _ _ _ _ (cb e6 HB) e8.out (cb e5 HB) e7.out q6.out).mono ?_); rintro e I0 ⟨rfl, hb⟩; replace a7 := bkb a7 hb; replace a8 := bkb a8 hb; replace HB := bstep HB hb; clear hb))
      go_roundg k2
      case measure => have := h3.out; have := h2.out; omega
      case rel => exact ⟨(d8), (wrap64 (b1 + 1)), eqs, eqs, H', ⟨by have := h3.out; have := h2.out; omega⟩, ⟨bk a7⟩, ⟨bk a8⟩, ⟨bb HB⟩⟩
     rotate_left 2
     subst m8
     replace H := ift H
     have H' := Aside0.mk H
     clear H
     rotate_left
     replace m9 := Bool.eq_false_iff.mpr m9
     subst m9
     replace H := iff_ H
     have H' := Aside0.mk H
     clear H
     rotate_left
     rw [if_neg g9] at H
     have p3 := beq_eq_false_iff_ne.mpr g9
     have p2 := bne_iff_ne.mpr g9
     have H' := Aside0.mk H
     clear H
     all_goals
      have g1 : 0 ≤ b1 := odt
      have g0 : b1 < (a9.length : Int) := odt
      obtain ⟨h7, j8, d7, d6, d5, d4⟩ := at_T88 g6.out b1 g1 g0
      cases j8
      replace d7 := hxc HB d7
      replace d6 := hxc HB d6
      replace d5 := hxc HB d5
      replace d4 := hxc HB d4
      replace g1 := eq_true g1
      replace g0 := eq_true g0
      go_wp2_with (first | ((with_reducible refine gate_dst (N := 15) rfl ?_); (try (refine gate_guard (by rfl) ?_; dsimp only)); refine be 15 #[.int .i64 0, .int .i64 0, .int .i64 0, .int .i64 0] 88 ?_; intro h5 hg H9 hbox hb; have b7 := Aside0.mk (hbox); have p5 := bsz HB hg; replace HB := bstep HB hb; have e3 := blt a7 hg; have e1 := bgt a7 hg; replace a7 := bkb a7 hb; have e2 := blt a8 hg; have e0 := bgt a8 hg; replace a8 := bkb a8 hb; clear hb hbox hg; have G2 := e1.out; have F2 := e3.out; have G1 := e0.out; have F1 := e2.out; obtain ⟨A4, A3, A2, y9, t1, t0, s9, s8⟩ := cz4 b7; have G0 := b6.out; have F0 := b5.out; obtain ⟨x9, x8, s7, s6⟩ := cz2 a7) | (go_at_call 20; (with_reducible refine (types_Is.calls _ _ _ _ _ _ _ _ _ _ _ (Kd.C_below e6.out (bb HB)) e8.out (Kd.C_below e5.out (bb HB)) e7.out q7.out).mono ?_); rintro e H8 ⟨rfl, hb⟩; replace a7 := Aside0.mk (blk_below (g := g4) (o := .cells #[.slice d3 b2.length d0, .slice d2 b3.length c9] 25 (0, 0)) (bkF a7) hb); replace a8 := Aside0.mk (blk_below (g := g3) (o := .cells #[.slice d1 b4.length c8, .slice (some h7) a9.length c2] 64 (0, 0)) (bkF a8) hb); replace b7 := Aside0.mk (blk_below (g := h5) (o := .cells #[.int .i64 ((rd_T88 a9 b1).f0), .int .i64 ((rd_T88 a9 b1).f1), .int .i64 ((rd_T88 a9 b1).f2), .int .i64 ((rd_T88 a9 b1).f3)] 88 (0, 0)) (bkP b7) hb); replace HB := bstep HB hb; clear hb; obtain ⟨D7, D6, w4, w3⟩ := cz2 a7; obtain ⟨D5, D4, D3, D2, w2, w1, w0, v9⟩ := cz4 b7) | (go_at_call 20; (with_reducible refine (types_Is.calls _ _ _ _ _ _ _ _ _ _ _ (cb e6 HB) e8.out (cb e5 HB) e7.out q6.out).mono ?_); rintro e I3 ⟨rfl, hb⟩; replace a7 := bkb a7 hb; replace a8 := bkb a8 hb; replace b7 := bkb b7 hb; replace HB := bstep HB hb; clear hb; obtain ⟨D1, D0, C9, C8, v8, v7, v6, v4⟩ := cz4 b7))
      go_roundg k2
      case measure => have := h3.out; have := h2.out; omega
     ·case rel => exact ⟨(d8), (wrap64 (b1 + 1)), eqs, eqs, H', ⟨by have := h3.out; have := h2.out; omega⟩, ⟨bkF a7⟩, ⟨bkF a8⟩, ⟨bb HB⟩⟩
     ·case rel => exact ⟨(wrap64 (d8 + ((rd_T88 a9 b1).f3))), (wrap64 (b1 + 1)), eqs, eqs, H', ⟨by have := h3.out; have := h2.out; omega⟩, ⟨bk a7⟩, ⟨bk a8⟩, ⟨bb HB⟩⟩
     ·case rel => exact ⟨(d8), (wrap64 (b1 + 1)), eqs, eqs, H', ⟨by have := h3.out; have := h2.out; omega⟩, ⟨bk a7⟩, ⟨bk a8⟩, ⟨bb HB⟩⟩
def scarfjointref18_SameCounts.l0 : Nat → List (S88) → List (S88) → Int → Option (Bool)
 | 0, _, _, _ => none
 | k + 1, x0, x1, x5 => if x5 < (x0.length : Int) then (if 0 ≤ x5 then (if x5 < (x1.length : Int) then (if (!(((rd_T88 x0 x5).f0) == ((rd_T88 x1 x5).f0)) || (!(((rd_T88 x0 x5).f1) == ((rd_T88 x1 x5).f1)) || (!(((rd_T88 x0 x5).f2) == ((rd_T88 x1 x5).f2)) || (!(((rd_T88 x0 x5).f3) == ((rd_T88 x1 x5).f3)))))) = true then (some false) else (scarfjointref18_SameCounts.l0 k x0 x1 (wrap64 (x5 + 1)))) else (none)) else (none)) else (some true)
def scarfjointref18_SameCounts.f (k : Nat) (l0 : List (S88)) (l1 : List (S88)) : Option (Bool) := if (l0.length : Int) = (l1.length : Int) then (scarfjointref18_SameCounts.l0 k l0 l1 0) else (some false)
theorem scarfjointref18_SameCounts.mono_l : ∀ k, (∀ y0 y1 y2, LeO (scarfjointref18_SameCounts.l0 k y0 y1 y2) (scarfjointref18_SameCounts.l0 (k + 1) y0 y1 y2))
 | 0 => by (intros; intro r h; simp [scarfjointref18_SameCounts.l0] at h)
 | k + 1 => by
  have ih0 := scarfjointref18_SameCounts.mono_l k
  (intros; first | unfold scarfjointref18_SameCounts.l0)
  all_goals with_reducible repeat' first | exact ih0 .. | exact LeO.refl _ | exact LeO.none _ | refine LeO.ite ?_ ?_ | refine LeO.bind ?_ fun _ => ?_
theorem scarfjointref18_SameCounts.mono : ∀ a0 a1 k, LeO (scarfjointref18_SameCounts.f k a0 a1) (scarfjointref18_SameCounts.f (k + 1) a0 a1) := by
 intro a0 a1 k
 have ih0 := scarfjointref18_SameCounts.mono_l k
 unfold scarfjointref18_SameCounts.f
 with_reducible repeat' first | exact ih0 .. | exact LeO.refl _ | exact LeO.none _ | refine LeO.ite ?_ ?_ | refine LeO.bind ?_ fun _ => ?_
theorem scarfjointref18_SameCounts.calls (k : Nat) (A0 : Option Addr) (c0 : Nat) (l0 : List (S88)) (A1 : Option Addr) (c1 : Nat) (l1 : List (S88)) (r : Bool) (w : World) (q0 : Kd.C k88 w A0 l0.length l0) (q2 : l0.length ≤ c0) (p9 : Kd.C k88 w A1 l1.length l1) (q1 : l1.length ≤ c1) (h : scarfjointref18_SameCounts.f k l0 l1 = some r) :
  Calls Try.prog 74 #[.slice A0 l0.length c0, .slice A1 l1.length c1] w fun e w' => e = .returned (.bool r) ∧ Drawn0 w w' := by
 have hu88 := Try.underlying88
 have E5 := Aside0.mk q0
 have I7 := Aside0.mk q2
 clear q0 q2
 have E4 := Aside0.mk p9
 have I6 := Aside0.mk q1
 clear p9 q1
 have H : (if (l0.length : Int) = (l1.length : Int) then (scarfjointref18_SameCounts.l0 k l0 l1 0) else (some false)) = some r := h
 clear h
 by_cases c3 : (l0.length : Int) = (l1.length : Int)
 rotate_left
 ·rw [if_neg c3] at H
  have p0 := beq_eq_false_iff_ne.mpr c3
  have o9 := bne_iff_ne.mpr c3
  have o8 : (l0.length == l1.length) = false := by first | simpa using c3 | (simp at c3 ⊢; omega)
  obtain rfl := Option.some.inj H
  go_enter Try.func74, Try.ntmps74
  go_wp2
  repeat (go_quiet (fail); try go_wp2)
  go_ret
  exact ⟨by first | rfl | (simp; done) | (simp [*]; done), drw⟩
 rw [if_pos c3] at H
 have p0 := beq_iff_eq.mpr c3
 have o9 := bne_eq_false_iff_eq.mpr c3
 have o8 : (l0.length == l1.length) = true := by first | simpa using c3 | (simp at c3 ⊢; omega)
 clear c3
 have H' := Aside0.mk H
 clear H
 go_enter Try.func74, Try.ntmps74
 go_wp2
 repeat (go_quiet (fail); try go_wp2)
 go_loopg [5] k (fun kq v5 w' => ∃ (b0 : Int), v5 = .int .i64 b0 ∧ Aside0 (scarfjointref18_SameCounts.l0 kq l0 l1 b0 = some r) ∧ Aside0 (kq ≤ k) ∧ Drawn0 w w')
 case atStart => exact ⟨(0), eqs, H', ⟨Nat.le_refl _⟩, drw⟩
 case round =>
  clear H'
  try clear p0 o9 o8
  obtain ⟨b0, rfl, HA, q5, ⟨m1, rfl⟩⟩ := hrel
  cases gk with
  | zero => exact absurd HA.out (by simp [scarfjointref18_SameCounts.l0])
  | succ k1 =>
   have H := HA.out
   clear HA
   simp only [scarfjointref18_SameCounts.l0] at H
   by_cases c4 : b0 < (l0.length : Int)
   rotate_left
   ·rw [if_neg c4] at H
    have r0 := decide_eq_false c4
    clear c4
    obtain rfl := Option.some.inj H
    go_wp2
    repeat (go_quiet (fail); try go_wp2)
    go_ret
    exact ⟨by first | rfl | (simp; done) | (simp [*]; done), drw⟩
   rw [if_pos c4] at H
   have r0 := decide_eq_true c4
   clear c4
   obtain ⟨c5, H⟩ := itn H
   have H4 := decide_eq_true c5
   clear c5
   obtain ⟨c6, H⟩ := itn H
   have H3 := decide_eq_true c6
   clear c6
   by_cases c7 : (!(((rd_T88 l0 b0).f0) == ((rd_T88 l1 b0).f0)) || (!(((rd_T88 l0 b0).f1) == ((rd_T88 l1 b0).f1)) || (!(((rd_T88 l0 b0).f2) == ((rd_T88 l1 b0).f2)) || (!(((rd_T88 l0 b0).f3) == ((rd_T88 l1 b0).f3)))))) = true
   rw [if_pos c7] at H
   have h6 : (!(((rd_T88 l0 b0).f0) == ((rd_T88 l1 b0).f0)) || (!(((rd_T88 l0 b0).f1) == ((rd_T88 l1 b0).f1)) || (!(((rd_T88 l0 b0).f2) == ((rd_T88 l1 b0).f2)) || (!(((rd_T88 l0 b0).f3) == ((rd_T88 l1 b0).f3)))))) = true := c7
   clear c7
   obtain rfl := Option.some.inj H
   rotate_left
   rw [if_neg c7] at H
   have h6 : (!(((rd_T88 l0 b0).f0) == ((rd_T88 l1 b0).f0)) || (!(((rd_T88 l0 b0).f1) == ((rd_T88 l1 b0).f1)) || (!(((rd_T88 l0 b0).f2) == ((rd_T88 l1 b0).f2)) || (!(((rd_T88 l0 b0).f3) == ((rd_T88 l1 b0).f3)))))) = false := by simpa using c7
   clear c7
   have H' := Aside0.mk H
   clear H
   all_goals
    have j7 : 0 ≤ b0 := odt
    have j5 : b0 < (l0.length : Int) := odt
    obtain ⟨H2, q9, s1, s0, r9, r8⟩ := at_T88 E5.out b0 j7 j5
    cases q9
    replace j7 := eq_true j7
    replace j5 := eq_true j5
    have j6 : 0 ≤ b0 := odt
    have j4 : b0 < (l1.length : Int) := odt
    obtain ⟨H1, q8, r7, r6, r5, r4⟩ := at_T88 E4.out b0 j6 j4
    cases q8
    replace j6 := eq_true j6
    replace j4 := eq_true j4
    go_wp2
    repeat (go_quiet (fail); try go_wp2)
   ·go_roundg k1
    case measure => have := q5.out; omega
    case rel => exact ⟨(wrap64 (b0 + 1)), eqs, H', ⟨by have := q5.out; omega⟩, drw⟩
   ·go_ret
    exact ⟨by first | rfl | (simp; done) | (simp [*]; done), drw⟩
end Go.Proofs.Ytfpianecohobjaa.P
