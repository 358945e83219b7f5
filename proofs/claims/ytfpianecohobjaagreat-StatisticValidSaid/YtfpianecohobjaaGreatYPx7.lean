/- StatisticOf: a part of its proof. No condition. -/
import Derived.Test.YtfpianecohobjaaGreatYPx0
import Derived.Test.YtfpianecohobjaaGreatYMc
import Derived.Test.YtfpianecohobjaaGreatYH0
namespace Go.Proofs.YtfpianecohobjaaGreat.P
open Go.RowKit Go.Proofs.YtfpianecohobjaaGreatW.PrintWords Go.Proofs.YtfpianecohobjaaGreatW.PrintLast Go.Proofs.YtfpianecohobjaaGreatW.PrintMore
set_option linter.unusedVariables false
set_option linter.unusedSimpArgs false
def types_bounded.f (a0 : Int) (a1 : Int) : Option (Bool) := if a0 ≥ 0 then (if a0 ≤ 40 then (if a1 = (-1) then (some true) else (if a1 ≥ a0 then (some (decide (a1 ≤ 40))) else (some false))) else (some false)) else (some false)
set_option maxHeartbeats 8000000 in
set_option maxRecDepth 100000 in
theorem types_bounded.calls (a0 : Int) (a1 : Int) (r : Bool) (w : World) (h : types_bounded.f a0 a1 = some r) :
  Calls Tryz.prog 108 #[.int .i64 a0, .int .i64 a1] w fun e w' => e = .returned (.bool r) ∧ Drawn0 w w' := by
 have H : (if a0 ≥ 0 then (if a0 ≤ 40 then (if a1 = (-1) then (some true) else (if a1 ≥ a0 then (some (decide (a1 ≤ 40))) else (some false))) else (some false)) else (some false)) = some r := h
 clear h
 by_cases c3 : a0 ≥ 0
 rotate_left
 ·rw [if_neg c3] at H
  have g2 : decide (0 ≤ a0) = false := decide_eq_false c3
  clear c3
  obtain rfl := Option.some.inj H
  go_enter Tryz.func108, Tryz.ntmps108
  go_wp2
  go_ret
  exact ⟨by first | rfl | (simp; done) | (simp [*]; done), drw⟩
 rw [if_pos c3] at H
 have g2 : decide (0 ≤ a0) = true := decide_eq_true c3
 clear c3
 by_cases c4 : a0 ≤ 40
 rotate_left
 ·rw [if_neg c4] at H
  have g1 := decide_eq_false c4
  clear c4
  obtain rfl := Option.some.inj H
  go_enter Tryz.func108, Tryz.ntmps108
  go_wp2
  go_ret
  exact ⟨by first | rfl | (simp; done) | (simp [*]; done), drw⟩
 rw [if_pos c4] at H
 have g1 := decide_eq_true c4
 clear c4
 by_cases c5 : a1 = (-1)
 ·rw [if_pos c5] at H
  have o5 := beq_iff_eq.mpr c5
  have o4 := bne_eq_false_iff_eq.mpr c5
  clear c5
  obtain rfl := Option.some.inj H
  go_enter Tryz.func108, Tryz.ntmps108
  go_wp2
  go_ret
  exact ⟨by first | rfl | (simp; done) | (simp [*]; done), drw⟩
 rw [if_neg c5] at H
 have o5 := beq_eq_false_iff_ne.mpr c5
 have o4 := bne_iff_ne.mpr c5
 by_cases c6 : a1 ≥ a0
 ·rw [if_pos c6] at H
  have o3 : decide (a0 ≤ a1) = true := decide_eq_true c6
  clear c6
  obtain rfl := Option.some.inj H
  go_enter Tryz.func108, Tryz.ntmps108
  go_wp2
  go_ret
  exact ⟨by first | rfl | (simp; done) | (simp [*]; done), drw⟩
 ·rw [if_neg c6] at H
  have o3 : decide (a0 ≤ a1) = false := decide_eq_false c6
  clear c6
  obtain rfl := Option.some.inj H
  go_enter Tryz.func108, Tryz.ntmps108
  go_wp2
  go_ret
  exact ⟨by first | rfl | (simp; done) | (simp [*]; done), drw⟩
def types_edge.j0 : Nat → Bool → ByteArray → Int → Int → Int → Int → Int → Int → Option (Int)
 | 0, _, _, _, _, _, _, _, _ => none
 | k + 1, D9, o8, o7, o6, j3, j2, j1, h9 => if D9 = true then (some 6) else ((types_bounded.f j3 j2).bind fun e6 => (if e6 = true then ((types_bounded.f j1 h9).bind fun e5 => (if e5 = true then (some 0) else (some 6))) else (some 6)))
def types_edge.f (k : Nat) (a8 : List (S96)) (a3 : List (S101)) (a1 : Int) : Option (Int) := if 0 ≤ a1 then (if a1 < (a3.length : Int) then ((token_IsName.f k ((rd_T101 a3 a1).f0)).bind fun d8 => (if d8 = true then (if a1 ≤ (a3.length : Int) then ((any_edge.f (a3.take (a1 : Int).toNat) ((rd_T101 a3 a1).f0)).bind fun d3 => (if d3 = true then (some 5) else ((edge_inside.f ((rd_T101 a3 a1).f1) a8).bind fun d2 => (if d2 = true then ((edge_inside.f ((rd_T101 a3 a1).f2) a8).bind fun d1 => (types_edge.j0 k (!d1) ((rd_T101 a3 a1).f0) ((rd_T101 a3 a1).f1) ((rd_T101 a3 a1).f2) ((rd_T101 a3 a1).f3) ((rd_T101 a3 a1).f4) ((rd_T101 a3 a1).f5) ((rd_T101 a3 a1).f6))) else (types_edge.j0 k true ((rd_T101 a3 a1).f0) ((rd_T101 a3 a1).f1) ((rd_T101 a3 a1).f2) ((rd_T101 a3 a1).f3) ((rd_T101 a3 a1).f4) ((rd_T101 a3 a1).f5) ((rd_T101 a3 a1).f6)))))) else (none)) else (some 2))) else (none)) else (none)
theorem types_edge.mono_l : ∀ k, (∀ y0 y1 y2 y3 y4 y5 y6 y7, LeO (types_edge.j0 k y0 y1 y2 y3 y4 y5 y6 y7) (types_edge.j0 (k + 1) y0 y1 y2 y3 y4 y5 y6 y7))
 | 0 => fun _ _ _ _ _ _ _ _ r h => by simp [types_edge.j0] at h
 | k + 1 => by
  have ih0 := types_edge.mono_l k
  ·intro y0 y1 y2 y3 y4 y5 y6 y7
   unfold types_edge.j0
   repeat' first
   | (with_reducible exact ih0 _ _ _ _ _ _ _ _)
   | (with_reducible exact token_IsName.mono _ _)
   | (with_reducible exact LeO.refl _)
   | (with_reducible exact LeO.none _)
   | (with_reducible refine LeO.ite ?_ ?_)
   | (with_reducible refine LeO.bind ?_ (fun _ => ?_))
theorem types_edge.mono : ∀ a0 a1 a2 k, LeO (types_edge.f k a0 a1 a2) (types_edge.f (k + 1) a0 a1 a2) := by
 intro a0 a1 a2 k
 have ih0 := types_edge.mono_l k
 unfold types_edge.f
 repeat' first
   | (with_reducible exact ih0 _ _ _ _ _ _ _ _)
   | (with_reducible exact token_IsName.mono _ _)
   | (with_reducible exact LeO.refl _)
   | (with_reducible exact LeO.none _)
   | (with_reducible refine LeO.ite ?_ ?_)
   | (with_reducible refine LeO.bind ?_ (fun _ => ?_))
set_option maxHeartbeats 8000000 in
set_option maxRecDepth 100000 in
theorem types_edge.calls (k : Nat) (c2 : Option Addr) (c1 : Nat) (a8 : List (S96)) (e0 : Option Addr) (a9 : Nat) (a3 : List (S101)) (a1 : Int) (r : Int) (w : World) (g6 : Kd.C k96 w c2 a8.length a8) (h0 : a8.length ≤ c1) (g5 : Kd.C k101 w e0 a3.length a3) (g9 : a3.length ≤ a9) (h : types_edge.f k a8 a3 a1 = some r) :
  Calls Tryz.prog 84 #[.agg #[.slice c2 a8.length c1, .slice e0 a3.length a9], .int .i64 a1] w fun e w' => e = .returned (.int .i64 r) ∧ Below w.heap.size w w' := by
 have hu31 := Tryz.underlying31
 have hu101 := Tryz.underlying101
 have F8 := Aside0.mk g6
 have F9 := Aside0.mk h0
 clear g6 h0
 have d6 := Aside0.mk g5
 have h6 := Aside0.mk g9
 clear g5 g9
 have HB := Aside0.mk (Below.refl w.heap.size w)
 have H : (if 0 ≤ a1 then (if a1 < (a3.length : Int) then ((token_IsName.f k ((rd_T101 a3 a1).f0)).bind fun d8 => (if d8 = true then (if a1 ≤ (a3.length : Int) then ((any_edge.f (a3.take (a1 : Int).toNat) ((rd_T101 a3 a1).f0)).bind fun d3 => (if d3 = true then (some 5) else ((edge_inside.f ((rd_T101 a3 a1).f1) a8).bind fun d2 => (if d2 = true then ((edge_inside.f ((rd_T101 a3 a1).f2) a8).bind fun d1 => (types_edge.j0 k (!d1) ((rd_T101 a3 a1).f0) ((rd_T101 a3 a1).f1) ((rd_T101 a3 a1).f2) ((rd_T101 a3 a1).f3) ((rd_T101 a3 a1).f4) ((rd_T101 a3 a1).f5) ((rd_T101 a3 a1).f6))) else (types_edge.j0 k true ((rd_T101 a3 a1).f0) ((rd_T101 a3 a1).f1) ((rd_T101 a3 a1).f2) ((rd_T101 a3 a1).f3) ((rd_T101 a3 a1).f4) ((rd_T101 a3 a1).f5) ((rd_T101 a3 a1).f6)))))) else (none)) else (some 2))) else (none)) else (none)) = some r := h
 clear h
 obtain ⟨c3, H⟩ := itn H
 have g2 := decide_eq_true c3
 clear c3
 obtain ⟨c4, H⟩ := itn H
 have g1 := decide_eq_true c4
 clear c4
 obtain ⟨d8, A5, H⟩ := obA H
 by_cases c6 : d8 = true
 rotate_left
 ·replace c6 := Bool.eq_false_iff.mpr c6
  subst c6
  replace H := iff_ H
  obtain rfl := Option.some.inj H
  go_enter Tryz.func84, Tryz.ntmps84
  go_wp2_with (first | ((with_reducible refine gate_dst (N := 2) rfl ?_); refine be 2 #[.slice c2 a8.length c1, .slice e0 a3.length a9] 31 ?_; intro c9 hg G4 hbox hb; have a4 := Aside0.mk (hbox); have h8 := bsz HB hg; replace HB := bstep HB hb; clear hb hbox hg; obtain ⟨w2, w1, p7, p6⟩ := cz2 a4; have c0 : 0 ≤ a1 := odt; have b9 : a1 < (a3.length : Int) := odt; obtain ⟨b0, d9, b7, b6, b5, b4, b3, b2, b1⟩ := at_T101 d6.out a1 c0 b9; cases d9; replace b7 := hxc HB b7; replace b6 := hxc HB b6; replace b5 := hxc HB b5; replace b4 := hxc HB b4; replace b3 := hxc HB b3; replace b2 := hxc HB b2; replace b1 := hxc HB b1; replace c0 := eq_true c0; replace b9 := eq_true b9) | ((with_reducible refine gate_dst (N := 5) rfl ?_); refine be 5 #[.string (⟨#[]⟩ : ByteArray), .int .i64 0, .int .i64 0, .int .i64 0, .int .i64 0, .int .i64 0, .int .i64 0] 101 ?_; intro b8 hg G3 hbox hb; have a5 := Aside0.mk (hbox); have h7 := bsz HB hg; replace HB := bstep HB hb; have a7 := blt a4 hg; have a6 := bgt a4 hg; replace a4 := bkb a4 hb; clear hb hbox hg; have F0 := a6.out; have E2 := a7.out; obtain ⟨w0, v9, v8, v7, v6, v5, v4, p5, p4, p3, p2, p1, p0, o9⟩ := cz7 a5) | ((with_reducible refine gate_callee (f := 100) rfl ?_); refine gl 16 Tryz.func100 #[.string ((rd_T101 a3 a1).f0)] (h := ?_); (with_reducible refine (token_IsName.calls k ((rd_T101 a3 a1).f0) false _ A5.out).mono ?_); rintro e G2 ⟨rfl, hb⟩; refine ⟨_, rfl, ?_⟩; replace a4 := Aside0.mk (blk_below (g := c9) (o := .cells #[.slice c2 a8.length c1, .slice (some b0) a3.length a9] 31 (0, 0)) (bkF a4) hb); replace a5 := Aside0.mk (blk_below (g := b8) (o := .cells #[.string ((rd_T101 a3 a1).f0), .int .i64 ((rd_T101 a3 a1).f1), .int .i64 ((rd_T101 a3 a1).f2), .int .i64 ((rd_T101 a3 a1).f3), .int .i64 ((rd_T101 a3 a1).f4), .int .i64 ((rd_T101 a3 a1).f5), .int .i64 ((rd_T101 a3 a1).f6)] 101 (0, 0)) (by (with_reducible repeat (first | refine dN ?_ _ | refine dR ?_ | refine dA ?_ _)); refine blk_put (cs := #[.string ((rd_T101 a3 a1).f0), .int .i64 ((rd_T101 a3 a1).f1), .int .i64 ((rd_T101 a3 a1).f2), .int .i64 ((rd_T101 a3 a1).f3), .int .i64 ((rd_T101 a3 a1).f4), .int .i64 ((rd_T101 a3 a1).f5), .int .i64 0]) ?_ 6 _ rfl; refine blk_put (cs := #[.string ((rd_T101 a3 a1).f0), .int .i64 ((rd_T101 a3 a1).f1), .int .i64 ((rd_T101 a3 a1).f2), .int .i64 ((rd_T101 a3 a1).f3), .int .i64 ((rd_T101 a3 a1).f4), .int .i64 0, .int .i64 0]) ?_ 5 _ rfl; refine blk_put (cs := #[.string ((rd_T101 a3 a1).f0), .int .i64 ((rd_T101 a3 a1).f1), .int .i64 ((rd_T101 a3 a1).f2), .int .i64 ((rd_T101 a3 a1).f3), .int .i64 0, .int .i64 0, .int .i64 0]) ?_ 4 _ rfl; refine blk_put (cs := #[.string ((rd_T101 a3 a1).f0), .int .i64 ((rd_T101 a3 a1).f1), .int .i64 ((rd_T101 a3 a1).f2), .int .i64 0, .int .i64 0, .int .i64 0, .int .i64 0]) ?_ 3 _ rfl; refine blk_put (cs := #[.string ((rd_T101 a3 a1).f0), .int .i64 ((rd_T101 a3 a1).f1), .int .i64 0, .int .i64 0, .int .i64 0, .int .i64 0, .int .i64 0]) ?_ 2 _ rfl; refine blk_put (cs := #[.string ((rd_T101 a3 a1).f0), .int .i64 0, .int .i64 0, .int .i64 0, .int .i64 0, .int .i64 0, .int .i64 0]) ?_ 1 _ rfl; refine blk_put (cs := #[.string (⟨#[]⟩ : ByteArray), .int .i64 0, .int .i64 0, .int .i64 0, .int .i64 0, .int .i64 0, .int .i64 0]) ?_ 0 _ rfl; (with_reducible repeat (first | refine dN ?_ _ | refine dR ?_ | refine dA ?_ _)); exact a5.out) hb); replace HB := bstep HB hb; (try clear hb); (try clear hb2); (try clear hk); (try clear hi)))
  go_ret
  exact ⟨erf, bb HB⟩
 subst c6
 replace H := ift H
 have o2 := eq_true (odt : 0 ≤ a1)
 obtain ⟨c8, H⟩ := itn H
 have o1 := eq_true c8
 have o0 := decide_eq_true c8
 clear c8
 obtain ⟨d0, d5⟩ : ∃ y_ : List (S101), y_ = (a3.take (a1 : Int).toNat) := ⟨_, rfl⟩
 replace H : ((any_edge.f d0 ((rd_T101 a3 a1).f0)).bind fun d3 => (if d3 = true then (some 5) else ((edge_inside.f ((rd_T101 a3 a1).f1) a8).bind fun d2 => (if d2 = true then ((edge_inside.f ((rd_T101 a3 a1).f2) a8).bind fun d1 => (types_edge.j0 k (!d1) ((rd_T101 a3 a1).f0) ((rd_T101 a3 a1).f1) ((rd_T101 a3 a1).f2) ((rd_T101 a3 a1).f3) ((rd_T101 a3 a1).f4) ((rd_T101 a3 a1).f5) ((rd_T101 a3 a1).f6))) else (types_edge.j0 k true ((rd_T101 a3 a1).f0) ((rd_T101 a3 a1).f1) ((rd_T101 a3 a1).f2) ((rd_T101 a3 a1).f3) ((rd_T101 a3 a1).f4) ((rd_T101 a3 a1).f5) ((rd_T101 a3 a1).f6)))))) = some r := by first | (rw [d5]; with_reducible exact H) | (have H2_ := (Option.bind_some _ _).symm.trans H; rw [d5]; with_reducible exact H2_) | (have H2_ := (Option.bind_some _ _).symm.trans H; with_reducible exact H2_) | with_reducible exact H | (rw [d5]; exact H) | exact H
 have d7 := Aside0.mk d5
 clear d5
 obtain ⟨d3, A9, H⟩ := obA H
 by_cases h5 : d3 = true
 ·subst h5
  replace H := ift H
  obtain rfl := Option.some.inj H
  go_enter Tryz.func84, Tryz.ntmps84
  go_wp2_with (first | ((with_reducible refine gate_dst (N := 2) rfl ?_); refine be 2 #[.slice c2 a8.length c1, .slice e0 a3.length a9] 31 ?_; intro c9 hg H2 hbox hb; have a4 := Aside0.mk (hbox); have h8 := bsz HB hg; replace HB := bstep HB hb; clear hb hbox hg; obtain ⟨D8, D7, v3, v2⟩ := cz2 a4; have c0 : 0 ≤ a1 := odt; have b9 : a1 < (a3.length : Int) := odt; obtain ⟨b0, d9, b7, b6, b5, b4, b3, b2, b1⟩ := at_T101 d6.out a1 c0 b9; cases d9; replace b7 := hxc HB b7; replace b6 := hxc HB b6; replace b5 := hxc HB b5; replace b4 := hxc HB b4; replace b3 := hxc HB b3; replace b2 := hxc HB b2; replace b1 := hxc HB b1; replace c0 := eq_true c0; replace b9 := eq_true b9) | ((with_reducible refine gate_dst (N := 5) rfl ?_); refine be 5 #[.string (⟨#[]⟩ : ByteArray), .int .i64 0, .int .i64 0, .int .i64 0, .int .i64 0, .int .i64 0, .int .i64 0] 101 ?_; intro b8 hg H1 hbox hb; have a5 := Aside0.mk (hbox); have h7 := bsz HB hg; replace HB := bstep HB hb; have a7 := blt a4 hg; have a6 := bgt a4 hg; replace a4 := bkb a4 hb; clear hb hbox hg; have F7 := a6.out; have E9 := a7.out; obtain ⟨D6, D5, D4, D3, D2, D1, D0, v1, v0, t9, t8, t7, t6, t5⟩ := cz7 a5) | ((with_reducible refine gate_callee (f := 100) rfl ?_); refine gl 16 Tryz.func100 #[.string ((rd_T101 a3 a1).f0)] (h := ?_); (with_reducible refine (token_IsName.calls k ((rd_T101 a3 a1).f0) true _ A5.out).mono ?_); rintro e H0 ⟨rfl, hb⟩; refine ⟨_, rfl, ?_⟩; replace a4 := Aside0.mk (blk_below (g := c9) (o := .cells #[.slice c2 a8.length c1, .slice (some b0) a3.length a9] 31 (0, 0)) (bkF a4) hb); replace a5 := Aside0.mk (blk_below (g := b8) (o := .cells #[.string ((rd_T101 a3 a1).f0), .int .i64 ((rd_T101 a3 a1).f1), .int .i64 ((rd_T101 a3 a1).f2), .int .i64 ((rd_T101 a3 a1).f3), .int .i64 ((rd_T101 a3 a1).f4), .int .i64 ((rd_T101 a3 a1).f5), .int .i64 ((rd_T101 a3 a1).f6)] 101 (0, 0)) (by (with_reducible repeat (first | refine dN ?_ _ | refine dR ?_ | refine dA ?_ _)); refine blk_put (cs := #[.string ((rd_T101 a3 a1).f0), .int .i64 ((rd_T101 a3 a1).f1), .int .i64 ((rd_T101 a3 a1).f2), .int .i64 ((rd_T101 a3 a1).f3), .int .i64 ((rd_T101 a3 a1).f4), .int .i64 ((rd_T101 a3 a1).f5), .int .i64 0]) ?_ 6 _ rfl; refine blk_put (cs := #[.string ((rd_T101 a3 a1).f0), .int .i64 ((rd_T101 a3 a1).f1), .int .i64 ((rd_T101 a3 a1).f2), .int .i64 ((rd_T101 a3 a1).f3), .int .i64 ((rd_T101 a3 a1).f4), .int .i64 0, .int .i64 0]) ?_ 5 _ rfl; refine blk_put (cs := #[.string ((rd_T101 a3 a1).f0), .int .i64 ((rd_T101 a3 a1).f1), .int .i64 ((rd_T101 a3 a1).f2), .int .i64 ((rd_T101 a3 a1).f3), .int .i64 0, .int .i64 0, .int .i64 0]) ?_ 4 _ rfl; refine blk_put (cs := #[.string ((rd_T101 a3 a1).f0), .int .i64 ((rd_T101 a3 a1).f1), .int .i64 ((rd_T101 a3 a1).f2), .int .i64 0, .int .i64 0, .int .i64 0, .int .i64 0]) ?_ 3 _ rfl; refine blk_put (cs := #[.string ((rd_T101 a3 a1).f0), .int .i64 ((rd_T101 a3 a1).f1), .int .i64 0, .int .i64 0, .int .i64 0, .int .i64 0, .int .i64 0]) ?_ 2 _ rfl; refine blk_put (cs := #[.string ((rd_T101 a3 a1).f0), .int .i64 0, .int .i64 0, .int .i64 0, .int .i64 0, .int .i64 0, .int .i64 0]) ?_ 1 _ rfl; refine blk_put (cs := #[.string (⟨#[]⟩ : ByteArray), .int .i64 0, .int .i64 0, .int .i64 0, .int .i64 0, .int .i64 0, .int .i64 0]) ?_ 0 _ rfl; (with_reducible repeat (first | refine dN ?_ _ | refine dR ?_ | refine dA ?_ _)); exact a5.out) hb); replace HB := bstep HB hb; (try clear hb); (try clear hb2); (try clear hk); (try clear hi); obtain ⟨C9, C8, t4, t3⟩ := cz2 a4; have n6 : (a1 : Int) ≤ ((a3.length : Int) : Int) := odt; obtain ⟨i018, g8, _, hsz18, _⟩ := info_parts info101; have hroom18 : a3.length ≤ a9 := h6.out; have hC18 : Kd.C k101 _ (some b0) a3.length a3 := d6.out; have hcut18 := cut_to (P := Tryz.prog) 29 101 .i64 Tryz.underlying29 g8 (some b0) a3.length a9 a1 (odt) n6 hroom18; have g0 := Kd.C_take (m := (a1 : Int).toNat) hC18 (by omega); have e8 : d0.length = (a1 : Int).toNat := (by rw [d7.out, List.length_take]; omega); rw [← d7.out] at g0; rw [← e8] at hcut18; have e3 := Aside0.mk g0; have e4 := Aside0.mk (show d0.length ≤ a9 from by omega); clear g0 hC18 hroom18 g8 hsz18; have KY18 := Aside0.mk e8; clear e8; replace n6 := eq_true n6) | ((with_reducible refine gate_callee (f := 106) rfl ?_); refine gl 24 Tryz.func106 #[.slice (some b0) d0.length a9, .func (.func 107) #[] #[.pointer (some ⟨b8, 0, none⟩)]] (h := ?_); (with_reducible refine (any_edge.calls _ _ d0 b8 ((rd_T101 a3 a1).f0) (.int .i64 ((rd_T101 a3 a1).f1)) (.int .i64 ((rd_T101 a3 a1).f2)) (.int .i64 ((rd_T101 a3 a1).f3)) (.int .i64 ((rd_T101 a3 a1).f4)) (.int .i64 ((rd_T101 a3 a1).f5)) (.int .i64 ((rd_T101 a3 a1).f6)) true _ ?c7 ?e2 ?e1 A9.out).mono ?_); (case c7 => exact cb e3 HB); (case e2 => exact e4.out); (case e1 => exact (bk a5)); rintro e G9 ⟨rfl, hb⟩; refine ⟨_, rfl, ?_⟩; replace a4 := bkb a4 hb; replace a5 := bkb a5 hb; replace HB := bstep HB hb; (try clear hb); (try clear hb2); (try clear hk); (try clear hi)))
  go_ret
  exact ⟨erf, bb HB⟩
 replace h5 := Bool.eq_false_iff.mpr h5
 subst h5
 replace H := iff_ H
 have g3 := Aside0.mk H
 clear H
 go_enter Tryz.func84, Tryz.ntmps84
 go_upto_region 7 with (first | ((with_reducible refine gate_dst (N := 2) rfl ?_); refine be 2 #[.slice c2 a8.length c1, .slice e0 a3.length a9] 31 ?_; intro c9 hg G8 hbox hb; have a4 := Aside0.mk (hbox); have h8 := bsz HB hg; replace HB := bstep HB hb; clear hb hbox hg; obtain ⟨n5, n4, m4, m3⟩ := cz2 a4; have c0 : 0 ≤ a1 := odt; have b9 : a1 < (a3.length : Int) := odt; obtain ⟨b0, d9, b7, b6, b5, b4, b3, b2, b1⟩ := at_T101 d6.out a1 c0 b9; cases d9; replace b7 := hxc HB b7; replace b6 := hxc HB b6; replace b5 := hxc HB b5; replace b4 := hxc HB b4; replace b3 := hxc HB b3; replace b2 := hxc HB b2; replace b1 := hxc HB b1; replace c0 := eq_true c0; replace b9 := eq_true b9) | ((with_reducible refine gate_dst (N := 5) rfl ?_); refine be 5 #[.string (⟨#[]⟩ : ByteArray), .int .i64 0, .int .i64 0, .int .i64 0, .int .i64 0, .int .i64 0, .int .i64 0] 101 ?_; intro b8 hg G7 hbox hb; have a5 := Aside0.mk (hbox); have h7 := bsz HB hg; replace HB := bstep HB hb; have a7 := blt a4 hg; have a6 := bgt a4 hg; replace a4 := bkb a4 hb; clear hb hbox hg; have F6 := a6.out; have E8 := a7.out; obtain ⟨n3, n2, n1, n0, m9, m8, m7, m2, m1, m0, j9, j8, j7, j6⟩ := cz7 a5) | ((with_reducible refine gate_callee (f := 100) rfl ?_); refine gl 16 Tryz.func100 #[.string ((rd_T101 a3 a1).f0)] (h := ?_); (with_reducible refine (token_IsName.calls k ((rd_T101 a3 a1).f0) true _ A5.out).mono ?_); rintro e G6 ⟨rfl, hb⟩; refine ⟨_, rfl, ?_⟩; replace a4 := Aside0.mk (blk_below (g := c9) (o := .cells #[.slice c2 a8.length c1, .slice (some b0) a3.length a9] 31 (0, 0)) (bkF a4) hb); replace a5 := Aside0.mk (blk_below (g := b8) (o := .cells #[.string ((rd_T101 a3 a1).f0), .int .i64 ((rd_T101 a3 a1).f1), .int .i64 ((rd_T101 a3 a1).f2), .int .i64 ((rd_T101 a3 a1).f3), .int .i64 ((rd_T101 a3 a1).f4), .int .i64 ((rd_T101 a3 a1).f5), .int .i64 ((rd_T101 a3 a1).f6)] 101 (0, 0)) (by (with_reducible repeat (first | refine dN ?_ _ | refine dR ?_ | refine dA ?_ _)); refine blk_put (cs := #[.string ((rd_T101 a3 a1).f0), .int .i64 ((rd_T101 a3 a1).f1), .int .i64 ((rd_T101 a3 a1).f2), .int .i64 ((rd_T101 a3 a1).f3), .int .i64 ((rd_T101 a3 a1).f4), .int .i64 ((rd_T101 a3 a1).f5), .int .i64 0]) ?_ 6 _ rfl; refine blk_put (cs := #[.string ((rd_T101 a3 a1).f0), .int .i64 ((rd_T101 a3 a1).f1), .int .i64 ((rd_T101 a3 a1).f2), .int .i64 ((rd_T101 a3 a1).f3), .int .i64 ((rd_T101 a3 a1).f4), .int .i64 0, .int .i64 0]) ?_ 5 _ rfl; refine blk_put (cs := #[.string ((rd_T101 a3 a1).f0), .int .i64 ((rd_T101 a3 a1).f1), .int .i64 ((rd_T101 a3 a1).f2), .int .i64 ((rd_T101 a3 a1).f3), .int .i64 0, .int .i64 0, .int .i64 0]) ?_ 4 _ rfl; refine blk_put (cs := #[.string ((rd_T101 a3 a1).f0), .int .i64 ((rd_T101 a3 a1).f1), .int .i64 ((rd_T101 a3 a1).f2), .int .i64 0, .int .i64 0, .int .i64 0, .int .i64 0]) ?_ 3 _ rfl; refine blk_put (cs := #[.string ((rd_T101 a3 a1).f0), .int .i64 ((rd_T101 a3 a1).f1), .int .i64 0, .int .i64 0, .int .i64 0, .int .i64 0, .int .i64 0]) ?_ 2 _ rfl; refine blk_put (cs := #[.string ((rd_T101 a3 a1).f0), .int .i64 0, .int .i64 0, .int .i64 0, .int .i64 0, .int .i64 0, .int .i64 0]) ?_ 1 _ rfl; refine blk_put (cs := #[.string (⟨#[]⟩ : ByteArray), .int .i64 0, .int .i64 0, .int .i64 0, .int .i64 0, .int .i64 0, .int .i64 0]) ?_ 0 _ rfl; (with_reducible repeat (first | refine dN ?_ _ | refine dR ?_ | refine dA ?_ _)); exact a5.out) hb); replace HB := bstep HB hb; (try clear hb); (try clear hb2); (try clear hk); (try clear hi); obtain ⟨m6, m5, j5, j4⟩ := cz2 a4; have g4 : (a1 : Int) ≤ ((a3.length : Int) : Int) := odt; obtain ⟨i028, g7, _, hsz28, _⟩ := info_parts info101; have hroom28 : a3.length ≤ a9 := h6.out; have hC28 : Kd.C k101 _ (some b0) a3.length a3 := d6.out; have hcut28 := cut_to (P := Tryz.prog) 29 101 .i64 Tryz.underlying29 g7 (some b0) a3.length a9 a1 (odt) g4 hroom28; have e9 := Kd.C_take (m := (a1 : Int).toNat) hC28 (by omega); have e7 : d0.length = (a1 : Int).toNat := (by rw [d7.out, List.length_take]; omega); rw [← d7.out] at e9; rw [← e7] at hcut28; have e3 := Aside0.mk e9; have e4 := Aside0.mk (show d0.length ≤ a9 from by omega); clear e9 hC28 hroom28 g7 hsz28; have KY28 := Aside0.mk e7; clear e7; replace g4 := eq_true g4) | ((with_reducible refine gate_callee (f := 106) rfl ?_); refine gl 24 Tryz.func106 #[.slice (some b0) d0.length a9, .func (.func 107) #[] #[.pointer (some ⟨b8, 0, none⟩)]] (h := ?_); (with_reducible refine (any_edge.calls _ _ d0 b8 ((rd_T101 a3 a1).f0) (.int .i64 ((rd_T101 a3 a1).f1)) (.int .i64 ((rd_T101 a3 a1).f2)) (.int .i64 ((rd_T101 a3 a1).f3)) (.int .i64 ((rd_T101 a3 a1).f4)) (.int .i64 ((rd_T101 a3 a1).f5)) (.int .i64 ((rd_T101 a3 a1).f6)) false _ ?c7 ?e2 ?e1 A9.out).mono ?_); (case c7 => exact cb e3 HB); (case e2 => exact e4.out); (case e1 => exact (bk a5)); rintro e G5 ⟨rfl, hb⟩; refine ⟨_, rfl, ?_⟩; replace a4 := bkb a4 hb; replace a5 := bkb a5 hb; replace HB := bstep HB hb; (try clear hb); (try clear hb2); (try clear hk); (try clear hi)))
 (try simp only [Act.put, List.setIfInBounds_toArray, List.set_cons_zero, List.set_cons_succ])
 go_cut [25] (fun E0 wc => ∃ (kq : Nat) (d4 : Bool), E0 = .bool d4 ∧ Aside0 (types_edge.j0 kq d4 ((rd_T101 a3 a1).f0) ((rd_T101 a3 a1).f1) ((rd_T101 a3 a1).f2) ((rd_T101 a3 a1).f3) ((rd_T101 a3 a1).f4) ((rd_T101 a3 a1).f5) ((rd_T101 a3 a1).f6) = some r) ∧ Aside0 (kq ≤ k) ∧ Aside0 (wc.heap[c9]? = some (.cells #[(.slice c2 a8.length c1), (.slice (some b0) a3.length a9)] 31 (0, 0))) ∧ Aside0 (wc.heap[b8]? = some (.cells #[.string ((rd_T101 a3 a1).f0), .int .i64 ((rd_T101 a3 a1).f1), .int .i64 ((rd_T101 a3 a1).f2), .int .i64 ((rd_T101 a3 a1).f3), .int .i64 ((rd_T101 a3 a1).f4), .int .i64 ((rd_T101 a3 a1).f5), .int .i64 ((rd_T101 a3 a1).f6)] 101 (0, 0))) ∧ Aside0 (Below w.heap.size w wc))
 case first =>
  have H := g3.out
  clear g3
  obtain ⟨d2, n9, H⟩ := obA H
  by_cases h4 : d2 = true
  rotate_left
  ·replace h4 := Bool.eq_false_iff.mpr h4
   subst h4
   replace H := iff_ H
   have H' := Aside0.mk H
   clear H
   have F4 := a6.out
   have E6 := a7.out
   obtain ⟨C0, A8, A7, A6, A4, A3, A2, s5, s4, s3, s2, s1, s0, r9⟩ := cz7 a5
   go_wp2_with (go_at_call 105; (with_reducible refine (edge_inside.calls ((rd_T101 a3 a1).f1) c9 c2 c1 a8 (.slice (some b0) a3.length a9) false _ ?c7 n9.out).mono ?_); (case c7 => exact (bk a4)); rintro e w' ⟨rfl, ⟨nd, rfl⟩⟩)
   go_meet
   case rel => exact ⟨_, (true), eqs, H', ⟨by first | omega | exact Nat.le_refl _⟩, ⟨bk a4⟩, ⟨bk a5⟩, ⟨bb HB⟩⟩
  subst h4
  replace H := ift H
  obtain ⟨d1, E1, H⟩ := obA H
  have H' := Aside0.mk H
  clear H
  have F5 := a6.out
  have E7 := a7.out
  obtain ⟨C7, C6, C5, C4, C3, C2, C1, t2, t1, t0, s9, s8, s7, s6⟩ := cz7 a5
  go_wp2_with (first | (go_at_call 105; (with_reducible refine (edge_inside.calls ((rd_T101 a3 a1).f1) c9 c2 c1 a8 (.slice (some b0) a3.length a9) true _ ?c7 n9.out).mono ?_); (case c7 => exact (bk a4)); rintro e w' ⟨rfl, ⟨nd, rfl⟩⟩) | (go_at_call 105; (with_reducible refine (edge_inside.calls ((rd_T101 a3 a1).f2) c9 c2 c1 a8 (.slice (some b0) a3.length a9) d1 _ ?c7 E1.out).mono ?_); (case c7 => exact (bk a4)); rintro e w' ⟨rfl, ⟨nd, rfl⟩⟩))
  go_meet
  case rel => exact ⟨_, (!d1), eqs, H', ⟨by first | omega | exact Nat.le_refl _⟩, ⟨bk a4⟩, ⟨bk a5⟩, ⟨bb HB⟩⟩
 case rest =>
  clear g3
  clear g2
  clear g1
  clear o2
  clear o1
  clear o0
  clear g4
  clear n5
  clear n4
  clear n3
  clear n2
  clear n1
  clear n0
  clear m9
  clear m8
  clear m7
  clear m6
  clear m5
  clear m4
  clear m3
  clear m2
  clear m1
  clear m0
  clear j9
  clear j8
  clear j7
  clear j6
  clear j5
  clear j4
  clear b7
  clear b6
  clear b5
  clear b4
  clear b3
  clear b2
  clear b1
  clear c0
  clear b9
  obtain ⟨kq, d4, rfl, HA, G1, a4, a5, HB⟩ := hcut
  cases kq with
  | zero => exact absurd HA.out (by simp [types_edge.j0])
  | succ G0 =>
   have H := HA.out
   clear HA
   simp only [types_edge.j0] at H
   by_cases h3 : d4 = true
   ·subst h3
    replace H := ift H
    obtain rfl := Option.some.inj H
    go_wp2
    go_ret
    exact ⟨erf, bb HB⟩
   replace h3 := Bool.eq_false_iff.mpr h3
   subst h3
   replace H := iff_ H
   obtain ⟨e6, n7, H⟩ := obA H
   by_cases h2 : e6 = true
   rotate_left
   ·replace h2 := Bool.eq_false_iff.mpr h2
    subst h2
    replace H := iff_ H
    obtain rfl := Option.some.inj H
    have F1 := a6.out
    have E3 := a7.out
    obtain ⟨w9, w8, w7, w6, w5, w4, w3, q4, q3, q2, q1, q0, p9, p8⟩ := cz7 a5
    go_wp2_with ((with_reducible refine gate_callee (f := 108) rfl ?_); refine gl 42 Tryz.func108 #[.int .i64 ((rd_T101 a3 a1).f3), .int .i64 ((rd_T101 a3 a1).f4)] (h := ?_); (with_reducible refine (types_bounded.calls ((rd_T101 a3 a1).f3) ((rd_T101 a3 a1).f4) false _ n7.out).mono ?_); rintro e w' ⟨rfl, ⟨nd, rfl⟩⟩; refine ⟨_, rfl, ?_⟩)
    go_ret
    exact ⟨erf, bb HB⟩
   subst h2
   replace H := ift H
   obtain ⟨e5, n8, H⟩ := obA H
   by_cases h1 : e5 = true
   ·subst h1
    replace H := ift H
    obtain rfl := Option.some.inj H
    have F3 := a6.out
    have E5 := a7.out
    obtain ⟨A1, A0, y9, y8, x9, x8, x7, r8, r7, r6, r5, r4, r3, r2⟩ := cz7 a5
    go_wp2_with (first | ((with_reducible refine gate_callee (f := 108) rfl ?_); refine gl 42 Tryz.func108 #[.int .i64 ((rd_T101 a3 a1).f3), .int .i64 ((rd_T101 a3 a1).f4)] (h := ?_); (with_reducible refine (types_bounded.calls ((rd_T101 a3 a1).f3) ((rd_T101 a3 a1).f4) true _ n7.out).mono ?_); rintro e w' ⟨rfl, ⟨nd, rfl⟩⟩; refine ⟨_, rfl, ?_⟩) | (go_at_call 108; (with_reducible refine (types_bounded.calls ((rd_T101 a3 a1).f5) ((rd_T101 a3 a1).f6) true _ n8.out).mono ?_); rintro e w' ⟨rfl, ⟨nd, rfl⟩⟩))
    go_ret
    exact ⟨erf, bb HB⟩
   replace h1 := Bool.eq_false_iff.mpr h1
   subst h1
   replace H := iff_ H
   obtain rfl := Option.some.inj H
   have F2 := a6.out
   have E4 := a7.out
   obtain ⟨x6, x5, x4, x3, x2, x1, x0, r1, r0, q9, q8, q7, q6, q5⟩ := cz7 a5
   go_wp2_with (first | ((with_reducible refine gate_callee (f := 108) rfl ?_); refine gl 42 Tryz.func108 #[.int .i64 ((rd_T101 a3 a1).f3), .int .i64 ((rd_T101 a3 a1).f4)] (h := ?_); (with_reducible refine (types_bounded.calls ((rd_T101 a3 a1).f3) ((rd_T101 a3 a1).f4) true _ n7.out).mono ?_); rintro e w' ⟨rfl, ⟨nd, rfl⟩⟩; refine ⟨_, rfl, ?_⟩) | (go_at_call 108; (with_reducible refine (types_bounded.calls ((rd_T101 a3 a1).f5) ((rd_T101 a3 a1).f6) false _ n8.out).mono ?_); rintro e w' ⟨rfl, ⟨nd, rfl⟩⟩))
   go_ret
   exact ⟨erf, bb HB⟩
end Go.Proofs.YtfpianecohobjaaGreat.P
