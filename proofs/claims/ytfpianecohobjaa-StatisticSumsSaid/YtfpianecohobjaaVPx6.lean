/- StatisticOf: a part of its proof. No condition. -/
import Derived.Test.YtfpianecohobjaaVPx0
import Derived.Test.YtfpianecohobjaaVPx3
import Derived.Test.YtfpianecohobjaaVH0
namespace Go.Proofs.Ytfpianecohobjaa.P
open Go.RowKit Go.Proofs.YtfpianecohobjaaW.PrintWords Go.Proofs.YtfpianecohobjaaW.PrintLast Go.Proofs.YtfpianecohobjaaW.PrintMore
set_option maxHeartbeats 8000000
set_option maxRecDepth 100000
set_option linter.unusedVariables false
set_option linter.unusedSimpArgs false
def types_bounded.f (a0 : Int) (a1 : Int) : Option (Bool) := if a0 ≥ 0 then (if a0 ≤ 40 then (if a1 = (-1) then (some true) else (if a1 ≥ a0 then (some (decide (a1 ≤ 40))) else (some false))) else (some false)) else (some false)
theorem types_bounded.calls (a0 : Int) (a1 : Int) (r : Bool) (w : World) (h : types_bounded.f a0 a1 = some r) :
  Calls Try.prog 66 #[.int .i64 a0, .int .i64 a1] w fun e w' => e = .returned (.bool r) ∧ Drawn0 w w' := by
 have H : (if a0 ≥ 0 then (if a0 ≤ 40 then (if a1 = (-1) then (some true) else (if a1 ≥ a0 then (some (decide (a1 ≤ 40))) else (some false))) else (some false)) else (some false)) = some r := h
 clear h
 by_cases c3 : a0 ≥ 0
 rotate_left
 ·rw [if_neg c3] at H
  have g0 : decide (0 ≤ a0) = false := decide_eq_false c3
  clear c3
  obtain rfl := Option.some.inj H
  go_enter Try.func66, Try.ntmps66
  go_wp2
  go_ret
  exact ⟨by first | rfl | (simp; done) | (simp [*]; done), drw⟩
 rw [if_pos c3] at H
 have g0 : decide (0 ≤ a0) = true := decide_eq_true c3
 clear c3
 by_cases c4 : a0 ≤ 40
 rotate_left
 ·rw [if_neg c4] at H
  have e9 := decide_eq_false c4
  clear c4
  obtain rfl := Option.some.inj H
  go_enter Try.func66, Try.ntmps66
  go_wp2
  go_ret
  exact ⟨by first | rfl | (simp; done) | (simp [*]; done), drw⟩
 rw [if_pos c4] at H
 have e9 := decide_eq_true c4
 clear c4
 by_cases c5 : a1 = (-1)
 ·rw [if_pos c5] at H
  have o0 := beq_iff_eq.mpr c5
  have n9 := bne_eq_false_iff_eq.mpr c5
  clear c5
  obtain rfl := Option.some.inj H
  go_enter Try.func66, Try.ntmps66
  go_wp2
  go_ret
  exact ⟨by first | rfl | (simp; done) | (simp [*]; done), drw⟩
 rw [if_neg c5] at H
 have o0 := beq_eq_false_iff_ne.mpr c5
 have n9 := bne_iff_ne.mpr c5
 by_cases c6 : a1 ≥ a0
 ·rw [if_pos c6] at H
  have n8 : decide (a0 ≤ a1) = true := decide_eq_true c6
  clear c6
  obtain rfl := Option.some.inj H
  go_enter Try.func66, Try.ntmps66
  go_wp2
  go_ret
  exact ⟨by first | rfl | (simp; done) | (simp [*]; done), drw⟩
 rw [if_neg c6] at H
 have n8 : decide (a0 ≤ a1) = false := decide_eq_false c6
 clear c6
 obtain rfl := Option.some.inj H
 go_enter Try.func66, Try.ntmps66
 go_wp2
 go_ret
 exact ⟨by first | rfl | (simp; done) | (simp [*]; done), drw⟩
def types_edge.j0 : Nat → Bool → ByteArray → Int → Int → Int → Int → Int → Int → Option (Int)
 | 0, _, _, _, _, _, _, _, _ => none
 | k + 1, t4, o3, o2, o1, h7, h6, h5, h4 => if t4 = true then (some 6) else ((types_bounded.f h7 h6).bind fun e3 => (if e3 = true then ((types_bounded.f h5 h4).bind fun e2 => (if e2 = true then (some 0) else (some 6))) else (some 6)))
def types_edge.f (k : Nat) (a6 : List (S68)) (a3 : List (S71)) (a1 : Int) : Option (Int) := if 0 ≤ a1 then (if a1 < (a3.length : Int) then ((token_IsName.f k ((rd_T71 a3 a1).f0)).bind fun d7 => (if d7 = true then (if a1 ≤ (a3.length : Int) then ((any_edge.f (a3.take (a1 : Int).toNat) ((rd_T71 a3 a1).f0)).bind fun d2 => (if d2 = true then (some 5) else ((edge_inside.f ((rd_T71 a3 a1).f1) a6).bind fun d1 => (if d1 = true then ((edge_inside.f ((rd_T71 a3 a1).f2) a6).bind fun c7 => (types_edge.j0 k (!c7) ((rd_T71 a3 a1).f0) ((rd_T71 a3 a1).f1) ((rd_T71 a3 a1).f2) ((rd_T71 a3 a1).f3) ((rd_T71 a3 a1).f4) ((rd_T71 a3 a1).f5) ((rd_T71 a3 a1).f6))) else (types_edge.j0 k true ((rd_T71 a3 a1).f0) ((rd_T71 a3 a1).f1) ((rd_T71 a3 a1).f2) ((rd_T71 a3 a1).f3) ((rd_T71 a3 a1).f4) ((rd_T71 a3 a1).f5) ((rd_T71 a3 a1).f6)))))) else (none)) else (some 2))) else (none)) else (none)
theorem types_edge.mono_l : ∀ k, (∀ y0 y1 y2 y3 y4 y5 y6 y7, LeO (types_edge.j0 k y0 y1 y2 y3 y4 y5 y6 y7) (types_edge.j0 (k + 1) y0 y1 y2 y3 y4 y5 y6 y7))
 | 0 => by (intros; intro r h; simp [types_edge.j0] at h)
 | k + 1 => by
  have ih0 := types_edge.mono_l k
  (intros; first | unfold types_edge.j0)
  all_goals with_reducible repeat' first | exact ih0 .. | exact token_IsName.mono .. | exact LeO.refl _ | exact LeO.none _ | refine LeO.ite ?_ ?_ | refine LeO.bind ?_ fun _ => ?_
theorem types_edge.mono : ∀ a0 a1 a2 k, LeO (types_edge.f k a0 a1 a2) (types_edge.f (k + 1) a0 a1 a2) := by
 intro a0 a1 a2 k
 have ih0 := types_edge.mono_l k
 unfold types_edge.f
 with_reducible repeat' first | exact ih0 .. | exact token_IsName.mono .. | exact LeO.refl _ | exact LeO.none _ | refine LeO.ite ?_ ?_ | refine LeO.bind ?_ fun _ => ?_
theorem types_edge.calls (k : Nat) (c0 : Option Addr) (b9 : Nat) (a6 : List (S68)) (e0 : Option Addr) (a7 : Nat) (a3 : List (S71)) (a1 : Int) (r : Int) (w : World) (g4 : Kd.C k68 w c0 a6.length a6) (g8 : a6.length ≤ b9) (g3 : Kd.C k71 w e0 a3.length a3) (g7 : a3.length ≤ a7) (h : types_edge.f k a6 a3 a1 = some r) :
  Calls Try.prog 40 #[.agg #[.slice c0 a6.length b9, .slice e0 a3.length a7], .int .i64 a1] w fun e w' => e = .returned (.int .i64 r) ∧ Below w.heap.size w w' := by
 have hu25 := Try.underlying25
 have hu71 := Try.underlying71
 have v7 := Aside0.mk g4
 have v8 := Aside0.mk g8
 clear g4 g8
 have d6 := Aside0.mk g3
 have h3 := Aside0.mk g7
 clear g3 g7
 have HB := Aside0.mk (Below.refl w.heap.size w)
 have H : (if 0 ≤ a1 then (if a1 < (a3.length : Int) then ((token_IsName.f k ((rd_T71 a3 a1).f0)).bind fun d7 => (if d7 = true then (if a1 ≤ (a3.length : Int) then ((any_edge.f (a3.take (a1 : Int).toNat) ((rd_T71 a3 a1).f0)).bind fun d2 => (if d2 = true then (some 5) else ((edge_inside.f ((rd_T71 a3 a1).f1) a6).bind fun d1 => (if d1 = true then ((edge_inside.f ((rd_T71 a3 a1).f2) a6).bind fun c7 => (types_edge.j0 k (!c7) ((rd_T71 a3 a1).f0) ((rd_T71 a3 a1).f1) ((rd_T71 a3 a1).f2) ((rd_T71 a3 a1).f3) ((rd_T71 a3 a1).f4) ((rd_T71 a3 a1).f5) ((rd_T71 a3 a1).f6))) else (types_edge.j0 k true ((rd_T71 a3 a1).f0) ((rd_T71 a3 a1).f1) ((rd_T71 a3 a1).f2) ((rd_T71 a3 a1).f3) ((rd_T71 a3 a1).f4) ((rd_T71 a3 a1).f5) ((rd_T71 a3 a1).f6)))))) else (none)) else (some 2))) else (none)) else (none)) = some r := h
 clear h
 obtain ⟨c3, H⟩ := itn H
 have g0 := decide_eq_true c3
 clear c3
 obtain ⟨c4, H⟩ := itn H
 have e9 := decide_eq_true c4
 clear c4
 obtain ⟨d7, A5, H⟩ := obA H
 by_cases c6 : d7 = true
 subst c6
 replace H := ift H
 have n7 := eq_true (odt : 0 ≤ a1)
 obtain ⟨c8, H⟩ := itn H
 have n6 := eq_true c8
 have n5 := decide_eq_true c8
 clear c8
 obtain ⟨c1, d4⟩ : ∃ y_ : List (S71), y_ = (a3.take (a1 : Int).toNat) := ⟨_, rfl⟩
 replace H : ((any_edge.f c1 ((rd_T71 a3 a1).f0)).bind fun d2 => (if d2 = true then (some 5) else ((edge_inside.f ((rd_T71 a3 a1).f1) a6).bind fun d1 => (if d1 = true then ((edge_inside.f ((rd_T71 a3 a1).f2) a6).bind fun c7 => (types_edge.j0 k (!c7) ((rd_T71 a3 a1).f0) ((rd_T71 a3 a1).f1) ((rd_T71 a3 a1).f2) ((rd_T71 a3 a1).f3) ((rd_T71 a3 a1).f4) ((rd_T71 a3 a1).f5) ((rd_T71 a3 a1).f6))) else (types_edge.j0 k true ((rd_T71 a3 a1).f0) ((rd_T71 a3 a1).f1) ((rd_T71 a3 a1).f2) ((rd_T71 a3 a1).f3) ((rd_T71 a3 a1).f4) ((rd_T71 a3 a1).f5) ((rd_T71 a3 a1).f6)))))) = some r := by first | (rw [d4]; with_reducible exact H) | (have H2_ := (Option.bind_some _ _).symm.trans H; rw [d4]; with_reducible exact H2_) | (have H2_ := (Option.bind_some _ _).symm.trans H; with_reducible exact H2_) | with_reducible exact H | (rw [d4]; exact H) | exact H
 have d5 := Aside0.mk d4
 clear d4
 obtain ⟨d2, A9, H⟩ := obA H
 by_cases e1 : d2 = true
 rotate_left
 ·replace e1 := Bool.eq_false_iff.mpr e1
  subst e1
  replace H := iff_ H
  have g1 := Aside0.mk H
  clear H
  go_enter Try.func40, Try.ntmps40
  go_upto_region 7 with (first | ((with_reducible refine gate_dst (N := 2) rfl ?_); refine be 2 #[.slice c0 a6.length b9, .slice e0 a3.length a7] 25 ?_; intro c2 hg w4 hbox hb; have a4 := Aside0.mk (hbox); have n3 := bsz HB hg; replace HB := bstep HB hb; clear hb hbox hg; obtain ⟨n0, m9, j9, j8⟩ := cz2 a4; have d0 : 0 ≤ a1 := odt; have c9 : a1 < (a3.length : Int) := odt; obtain ⟨a8, e8, b7, b6, b5, b4, b3, b2, b1⟩ := at_T71 d6.out a1 d0 c9; cases e8; replace b7 := hxc HB b7; replace b6 := hxc HB b6; replace b5 := hxc HB b5; replace b4 := hxc HB b4; replace b3 := hxc HB b3; replace b2 := hxc HB b2; replace b1 := hxc HB b1; replace d0 := eq_true d0; replace c9 := eq_true c9) | ((with_reducible refine gate_dst (N := 5) rfl ?_); refine be 5 #[.string (⟨#[]⟩ : ByteArray), .int .i64 0, .int .i64 0, .int .i64 0, .int .i64 0, .int .i64 0, .int .i64 0] 71 ?_; intro b8 hg w3 hbox hb; have a5 := Aside0.mk (hbox); have n2 := bsz HB hg; replace HB := bstep HB hb; have b0 := blt a4 hg; have a9 := bgt a4 hg; replace a4 := bkb a4 hb; clear hb hbox hg; have v5 := a9.out; have v1 := b0.out; obtain ⟨m8, m7, m6, m5, m4, m3, m2, j7, j6, j5, j4, j3, j2, j1⟩ := cz7 a5) | ((with_reducible refine gate_callee (f := 59) rfl ?_); refine gl 16 Try.func59 #[.string ((rd_T71 a3 a1).f0)] (h := ?_); (with_reducible refine (token_IsName.calls _ _ _ _ A5.out).mono ?_); rintro e w2 ⟨rfl, hb⟩; refine ⟨_, rfl, ?_⟩; replace a4 := Aside0.mk (blk_below (g := c2) (o := .cells #[.slice c0 a6.length b9, .slice (some a8) a3.length a7] 25 (0, 0)) (bkF a4) hb); replace a5 := Aside0.mk (blk_below (g := b8) (o := .cells #[.string ((rd_T71 a3 a1).f0), .int .i64 ((rd_T71 a3 a1).f1), .int .i64 ((rd_T71 a3 a1).f2), .int .i64 ((rd_T71 a3 a1).f3), .int .i64 ((rd_T71 a3 a1).f4), .int .i64 ((rd_T71 a3 a1).f5), .int .i64 ((rd_T71 a3 a1).f6)] 71 (0, 0)) (bkP a5) hb); replace HB := bstep HB hb; clear hb; obtain ⟨m1, m0, h9, h8⟩ := cz2 a4; have g2 : (a1 : Int) ≤ ((a3.length : Int) : Int) := odt; obtain ⟨i028, g5, _, hsz28, _⟩ := info_parts info71; have hroom28 : a3.length ≤ a7 := h3.out; have hC28 : Kd.C k71 _ (some a8) a3.length a3 := d6.out; have hcut28 := cut_to (P := Try.prog) 23 71 .i64 Try.underlying23 g5 (some a8) a3.length a7 a1 (odt) g2 hroom28; have e6 := Kd.C_take (m := (a1 : Int).toNat) hC28 (by omega); have e4 : c1.length = (a1 : Int).toNat := (by rw [d5.out, List.length_take]; omega); rw [← d5.out] at e6; rw [← e4] at hcut28; have d8 := Aside0.mk e6; have d9 := Aside0.mk (show c1.length ≤ a7 from by omega); clear e6 hC28 hroom28 g5 hsz28; have KY28 := Aside0.mk e4; clear e4; replace g2 := eq_true g2) | ((with_reducible refine gate_callee (f := 64) rfl ?_); refine gl 24 Try.func64 #[.slice (some a8) c1.length a7, .func (.func 65) #[] #[.pointer (some ⟨b8, 0, none⟩)]] (h := ?_); (with_reducible refine (any_edge.calls _ _ c1 b8 ((rd_T71 a3 a1).f0) (.int .i64 ((rd_T71 a3 a1).f1)) (.int .i64 ((rd_T71 a3 a1).f2)) (.int .i64 ((rd_T71 a3 a1).f3)) (.int .i64 ((rd_T71 a3 a1).f4)) (.int .i64 ((rd_T71 a3 a1).f5)) (.int .i64 ((rd_T71 a3 a1).f6)) false _ (cb d8 HB) d9.out (bk a5) A9.out).mono ?_); rintro e w1 ⟨rfl, hb⟩; refine ⟨_, rfl, ?_⟩; replace a4 := bkb a4 hb; replace a5 := bkb a5 hb; replace HB := bstep HB hb; clear hb))
  (try simp only [Act.put, List.setIfInBounds_toArray, List.set_cons_zero, List.set_cons_succ])
  go_cut [25] (fun t5 wc => ∃ (kq : Nat) (d3 : Bool), t5 = .bool d3 ∧ Aside0 (types_edge.j0 kq d3 ((rd_T71 a3 a1).f0) ((rd_T71 a3 a1).f1) ((rd_T71 a3 a1).f2) ((rd_T71 a3 a1).f3) ((rd_T71 a3 a1).f4) ((rd_T71 a3 a1).f5) ((rd_T71 a3 a1).f6) = some r) ∧ Aside0 (kq ≤ k) ∧ Aside0 (wc.heap[c2]? = some (.cells #[(.slice c0 a6.length b9), (.slice (some a8) a3.length a7)] 25 (0, 0))) ∧ Aside0 (wc.heap[b8]? = some (.cells #[.string ((rd_T71 a3 a1).f0), .int .i64 ((rd_T71 a3 a1).f1), .int .i64 ((rd_T71 a3 a1).f2), .int .i64 ((rd_T71 a3 a1).f3), .int .i64 ((rd_T71 a3 a1).f4), .int .i64 ((rd_T71 a3 a1).f5), .int .i64 ((rd_T71 a3 a1).f6)] 71 (0, 0))) ∧ Aside0 (Below w.heap.size w wc))
  case first =>
   have H := g1.out
   clear g1
   obtain ⟨d1, n4, H⟩ := obA H
   by_cases h2 : d1 = true
   subst h2
   replace H := ift H
   obtain ⟨c7, t8, H⟩ := obA H
   have H' := Aside0.mk H
   clear H
   rotate_left
   replace h2 := Bool.eq_false_iff.mpr h2
   subst h2
   replace H := iff_ H
   have H' := Aside0.mk H
   clear H
   all_goals
    have v4 := a9.out
    have v0 := b0.out
    obtain ⟨s2, s1, s0, r9, r8, r7, r6, p7, p6, p5, p4, p3, p2, p1⟩ := cz7 a5
   ·go_wp2_with (first | (go_at_call 63; (with_reducible refine (edge_inside.calls ((rd_T71 a3 a1).f1) c2 c0 b9 a6 (.slice (some a8) a3.length a7) false _ (bk a4) n4.out).mono ?_); rintro e w' ⟨rfl, ⟨nd, rfl⟩⟩))
    go_meet
    case rel => exact ⟨_, (true), eqs, H', ⟨by first | omega | exact Nat.le_refl _⟩, ⟨bk a4⟩, ⟨bk a5⟩, ⟨bb HB⟩⟩
   ·go_wp2_with (first | (go_at_call 63; (with_reducible refine (edge_inside.calls ((rd_T71 a3 a1).f1) c2 c0 b9 a6 (.slice (some a8) a3.length a7) true _ (bk a4) n4.out).mono ?_); rintro e w' ⟨rfl, ⟨nd, rfl⟩⟩) | (go_at_call 63; (with_reducible refine (edge_inside.calls ((rd_T71 a3 a1).f2) c2 c0 b9 a6 (.slice (some a8) a3.length a7) c7 _ (bk a4) t8.out).mono ?_); rintro e w' ⟨rfl, ⟨nd, rfl⟩⟩))
    go_meet
    case rel => exact ⟨_, (!c7), eqs, H', ⟨by first | omega | exact Nat.le_refl _⟩, ⟨bk a4⟩, ⟨bk a5⟩, ⟨bb HB⟩⟩
  case rest =>
   clear g1
   try clear g0 e9 c6 n7 n6 n5 e1 g2 n0 m9 m8 m7 m6 m5 m4 m3 m2 m1 m0 j9 j8 j7 j6 j5 j4 j3 j2 j1 h9 h8 b7 b6 b5 b4 b3 b2 b1 d0 c9
   obtain ⟨kq, d3, rfl, HA, w0, a4, a5, HB⟩ := hcut
   cases kq with
   | zero => exact absurd HA.out (by simp [types_edge.j0])
   | succ v9 =>
    have H := HA.out
    clear HA
    simp only [types_edge.j0] at H
    by_cases h1 : d3 = true
    ·subst h1
     replace H := ift H
     obtain rfl := Option.some.inj H
     go_wp2
     go_ret
     exact ⟨erf, bb HB⟩
    replace h1 := Bool.eq_false_iff.mpr h1
    subst h1
    replace H := iff_ H
    obtain ⟨e3, t7, H⟩ := obA H
    by_cases h0 : e3 = true
    subst h0
    replace H := ift H
    obtain ⟨e2, t6, H⟩ := obA H
    by_cases g9 : e2 = true
    subst g9
    replace H := ift H
    obtain rfl := Option.some.inj H
    rotate_left
    replace g9 := Bool.eq_false_iff.mpr g9
    subst g9
    replace H := iff_ H
    obtain rfl := Option.some.inj H
    rotate_left
    replace h0 := Bool.eq_false_iff.mpr h0
    subst h0
    replace H := iff_ H
    obtain rfl := Option.some.inj H
    all_goals
     have v3 := a9.out
     have t9 := b0.out
     obtain ⟨r5, r4, r3, r2, r1, r0, q9, p0, o9, o8, o7, o6, o5, o4⟩ := cz7 a5
     go_wp2_with (first | ((with_reducible refine gate_callee (f := 66) rfl ?_); refine gl 42 Try.func66 #[.int .i64 ((rd_T71 a3 a1).f3), .int .i64 ((rd_T71 a3 a1).f4)] (h := ?_); (with_reducible refine (types_bounded.calls _ _ _ _ t7.out).mono ?_); rintro e w' ⟨rfl, ⟨nd, rfl⟩⟩; refine ⟨_, rfl, ?_⟩) | (go_at_call 66; (with_reducible refine (types_bounded.calls _ _ _ _ t6.out).mono ?_); rintro e w' ⟨rfl, ⟨nd, rfl⟩⟩))
     go_ret
     exact ⟨erf, bb HB⟩
 rotate_left
 subst e1
 replace H := ift H
 obtain rfl := Option.some.inj H
 rotate_left
 replace c6 := Bool.eq_false_iff.mpr c6
 subst c6
 replace H := iff_ H
 obtain rfl := Option.some.inj H
 all_goals
  go_enter Try.func40, Try.ntmps40
  go_wp2_with (first | ((with_reducible refine gate_dst (N := 2) rfl ?_); refine be 2 #[.slice c0 a6.length b9, .slice e0 a3.length a7] 25 ?_; intro c2 hg w8 hbox hb; have a4 := Aside0.mk (hbox); have n3 := bsz HB hg; replace HB := bstep HB hb; clear hb hbox hg; obtain ⟨t3, t2, q8, q7⟩ := cz2 a4; have d0 : 0 ≤ a1 := odt; have c9 : a1 < (a3.length : Int) := odt; obtain ⟨a8, e8, b7, b6, b5, b4, b3, b2, b1⟩ := at_T71 d6.out a1 d0 c9; cases e8; replace b7 := hxc HB b7; replace b6 := hxc HB b6; replace b5 := hxc HB b5; replace b4 := hxc HB b4; replace b3 := hxc HB b3; replace b2 := hxc HB b2; replace b1 := hxc HB b1; replace d0 := eq_true d0; replace c9 := eq_true c9) | ((with_reducible refine gate_dst (N := 5) rfl ?_); refine be 5 #[.string (⟨#[]⟩ : ByteArray), .int .i64 0, .int .i64 0, .int .i64 0, .int .i64 0, .int .i64 0, .int .i64 0] 71 ?_; intro b8 hg w7 hbox hb; have a5 := Aside0.mk (hbox); have n2 := bsz HB hg; replace HB := bstep HB hb; have b0 := blt a4 hg; have a9 := bgt a4 hg; replace a4 := bkb a4 hb; clear hb hbox hg; have v6 := a9.out; have v2 := b0.out; obtain ⟨t1, t0, s9, s8, s7, s6, s5, q6, q5, q4, q3, q2, q1, q0⟩ := cz7 a5) | ((with_reducible refine gate_callee (f := 59) rfl ?_); refine gl 16 Try.func59 #[.string ((rd_T71 a3 a1).f0)] (h := ?_); (with_reducible refine (token_IsName.calls _ _ _ _ A5.out).mono ?_); rintro e w6 ⟨rfl, hb⟩; refine ⟨_, rfl, ?_⟩; replace a4 := Aside0.mk (blk_below (g := c2) (o := .cells #[.slice c0 a6.length b9, .slice (some a8) a3.length a7] 25 (0, 0)) (bkF a4) hb); replace a5 := Aside0.mk (blk_below (g := b8) (o := .cells #[.string ((rd_T71 a3 a1).f0), .int .i64 ((rd_T71 a3 a1).f1), .int .i64 ((rd_T71 a3 a1).f2), .int .i64 ((rd_T71 a3 a1).f3), .int .i64 ((rd_T71 a3 a1).f4), .int .i64 ((rd_T71 a3 a1).f5), .int .i64 ((rd_T71 a3 a1).f6)] 71 (0, 0)) (bkP a5) hb); replace HB := bstep HB hb; clear hb; obtain ⟨s4, s3, p9, p8⟩ := cz2 a4; (try (have n1 : (a1 : Int) ≤ ((a3.length : Int) : Int) := odt; obtain ⟨i018, g6, _, hsz18, _⟩ := info_parts info71; have hroom18 : a3.length ≤ a7 := h3.out; have hC18 : Kd.C k71 _ (some a8) a3.length a3 := d6.out; have hcut18 := cut_to (P := Try.prog) 23 71 .i64 Try.underlying23 g6 (some a8) a3.length a7 a1 (odt) n1 hroom18; have e7 := Kd.C_take (m := (a1 : Int).toNat) hC18 (by omega); have e5 : c1.length = (a1 : Int).toNat := (by rw [d5.out, List.length_take]; omega); rw [← d5.out] at e7; rw [← e5] at hcut18; have d8 := Aside0.mk e7; have d9 := Aside0.mk (show c1.length ≤ a7 from by omega); clear e7 hC18 hroom18 g6 hsz18; have KY18 := Aside0.mk e5; clear e5; replace n1 := eq_true n1))) | ((with_reducible refine gate_callee (f := 64) rfl ?_); refine gl 24 Try.func64 #[.slice (some a8) c1.length a7, .func (.func 65) #[] #[.pointer (some ⟨b8, 0, none⟩)]] (h := ?_); (with_reducible refine (any_edge.calls _ _ c1 b8 ((rd_T71 a3 a1).f0) (.int .i64 ((rd_T71 a3 a1).f1)) (.int .i64 ((rd_T71 a3 a1).f2)) (.int .i64 ((rd_T71 a3 a1).f3)) (.int .i64 ((rd_T71 a3 a1).f4)) (.int .i64 ((rd_T71 a3 a1).f5)) (.int .i64 ((rd_T71 a3 a1).f6)) true _ (cb d8 HB) d9.out (bk a5) A9.out).mono ?_); rintro e w5 ⟨rfl, hb⟩; refine ⟨_, rfl, ?_⟩; replace a4 := bkb a4 hb; replace a5 := bkb a5 hb; replace HB := bstep HB hb; clear hb))
  go_ret
  exact ⟨erf, bb HB⟩
end Go.Proofs.Ytfpianecohobjaa.P
