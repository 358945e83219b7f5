/- StatisticOf: a part of its proof. No condition. -/
import Derived.Test.YtfpianecohobjaaVPx0
import Derived.Test.YtfpianecohobjaaVPx12
import Derived.Test.YtfpianecohobjaaVPx13
import Derived.Test.YtfpianecohobjaaVPx16
namespace Go.Proofs.Ytfpianecohobjaa.P
open Go.RowKit Go.Proofs.YtfpianecohobjaaW.PrintWords Go.Proofs.YtfpianecohobjaaW.PrintLast Go.Proofs.YtfpianecohobjaaW.PrintMore
set_option maxHeartbeats 8000000
set_option maxRecDepth 100000
set_option linter.unusedVariables false
set_option linter.unusedSimpArgs false
mutual
def q4_node.l0 : Nat → Int → Int → List (S68) → List (S71) → ByteArray → Int → Bool → List (S77) → Option (Int)
 | 0, _, _, _, _, _, _, _, _ => none
 | k + 1, x1, x6, d8, j5, d4, d3, d7, d1 => if x6 < x1 then (if 0 ≤ x6 then (if x6 < (d8.length : Int) then (if ((rd_T68 d8 x6).f0).toList = d4.toList then (some 5) else (q4_node.l0 k x1 (wrap64 (x6 + 1)) d8 j5 d4 d3 d7 d1)) else (none)) else (none)) else ((q4_in.f d3 (-1) (wrap64 (x1 - 1))).bind fun p4 => (if p4 = true then ((q4_attrs.f k d8 j5 x1).bind fun a5 => (if (d1.length : Int) > 4 then (q4_node.j1 k a5 true d4 d3 d7 d1) else (q4_node.j1 k a5 (decide ((a5.length : Int) > 8)) d4 d3 d7 d1))) else (some 6)))
def q4_node.j1 : Nat → List (S77) → Bool → ByteArray → Int → Bool → List (S77) → Option (Int)
 | 0, _, _, _, _, _, _ => none
 | k + 1, x7, E7, d4, d3, d7, d1 => if E7 = true then (some 3) else (q4_node.l1 k x7 (wrap64 ((x7.length : Int) - (d1.length : Int))))
def q4_node.l1 : Nat → List (S77) → Int → Option (Int)
 | 0, _, _ => none
 | k + 1, x7, x8 => if x8 < (x7.length : Int) then (if 0 ≤ x8 then ((q1_IsName.f k ((rd_T77 x7 x8).f0)).bind fun p3 => (if p3 = true then (q4_node.l2 k x7 x8 0) else (some 2))) else (none)) else (some 0)
def q4_node.l2 : Nat → List (S77) → Int → Int → Option (Int)
 | 0, _, _, _ => none
 | k + 1, x7, x8, x9 => if x9 < x8 then (if 0 ≤ x9 then (if x9 < (x7.length : Int) then (if 0 ≤ x8 then (if x8 < (x7.length : Int) then (if ((rd_T77 x7 x9).f0).toList = ((rd_T77 x7 x8).f0).toList then (some 5) else (q4_node.l2 k x7 x8 (wrap64 (x9 + 1)))) else (none)) else (none)) else (none)) else (none)) else (if 0 ≤ x8 then (if x8 < (x7.length : Int) then ((q4_attribute.f k ((rd_T77 x7 x8).f0) ((rd_T77 x7 x8).f1) ((rd_T77 x7 x8).f2) ((rd_T77 x7 x8).f3)).bind fun n8 => (if n8 = 0 then (q4_node.l1 k x7 (wrap64 (x8 + 1))) else (some n8))) else (none)) else (none))
end
def q4_node.f (k : Nat) (a0 : List (S68)) (a6 : List (S71)) (a1 : Int) : Option (Int) := if 0 ≤ a1 then (if a1 < (a0.length : Int) then ((q1_IsName.f k ((rd_T68 a0 a1).f0)).bind fun h6 => (if h6 = true then (q4_node.l0 k a1 0 a0 a6 ((rd_T68 a0 a1).f0) ((rd_T68 a0 a1).f1) ((rd_T68 a0 a1).f2) ((rd_T68 a0 a1).f3)) else (some 2))) else (none)) else (none)
theorem q4_node.calls (k : Nat) (j4 : Option Addr) (c1 : Nat) (a0 : List (S68)) (c2 : Option Addr) (c0 : Nat) (a6 : List (S71)) (a1 : Int) (r : Int) (w : World) (p9 : Kd.C k68 w j4 a0.length a0) (q3 : a0.length ≤ c1) (p8 : Kd.C k71 w c2 a6.length a6) (q2 : a6.length ≤ c0) (h : q4_node.f k a0 a6 a1 = some r) :
  Calls Try.prog 41 #[.agg #[.slice j4 a0.length c1, .slice c2 a6.length c0], .int .i64 a1] w fun e w' => e = .returned (.int .i64 r) ∧ Below w.heap.size w w' := by
 have hu25 := Try.underlying25
 have hu68 := Try.underlying68
 have hu77 := Try.underlying77
 have d6 := Aside0.mk p9
 have o8 := Aside0.mk q3
 clear p9 q3
 have o5 := Aside0.mk p8
 have o7 := Aside0.mk q2
 clear p8 q2
 have HB := Aside0.mk (Below.refl w.heap.size w)
 have H : (if 0 ≤ a1 then (if a1 < (a0.length : Int) then ((q1_IsName.f k ((rd_T68 a0 a1).f0)).bind fun h6 => (if h6 = true then (q4_node.l0 k a1 0 a0 a6 ((rd_T68 a0 a1).f0) ((rd_T68 a0 a1).f1) ((rd_T68 a0 a1).f2) ((rd_T68 a0 a1).f3)) else (some 2))) else (none)) else (none)) = some r := h
 clear h
 obtain ⟨c3, H⟩ := itn H
 have y8 := decide_eq_true c3
 clear c3
 obtain ⟨c4, H⟩ := itn H
 have y7 := decide_eq_true c4
 clear c4
 obtain ⟨h6, A5, H⟩ := obA H
 by_cases c6 : h6 = true
 subst c6
 replace H := ift H
 have H' := Aside0.mk H
 clear H
 rotate_left
 replace c6 := Bool.eq_false_iff.mpr c6
 subst c6
 replace H := iff_ H
 obtain rfl := Option.some.inj H
 all_goals
  go_enter Try.func41, Try.ntmps41
  go_wp2_with (first | ((with_reducible refine gate_dst (N := 2) rfl ?_); (try (refine gate_guard (by rfl) ?_; dsimp only)); refine be 2 #[.slice j4 a0.length c1, .slice c2 a6.length c0] 25 ?_; intro a8 hg w4 hbox hb; have a2 := Aside0.mk (hbox); have e5 := bsz HB hg; replace HB := bstep HB hb; clear hb hbox hg; obtain ⟨g9, g8, g1, g0⟩ := cz2 a2; have d0 : 0 ≤ a1 := odt; have c9 : a1 < (a0.length : Int) := odt; obtain ⟨b8, b3, b2, h9, b7, b6, b5, b4, c5, c7⟩ := at_T68 d6.out a1 d0 c9; cases h9; replace b7 := hxc HB b7; replace b6 := hxc HB b6; replace b5 := hxc HB b5; replace b4 := hxc HB b4; have n5 := Aside0.mk c7; have n6 := Aside0.mk c5; clear c7 c5; replace d0 := eq_true d0; replace c9 := eq_true c9) | ((with_reducible refine gate_dst (N := 5) rfl ?_); (try (refine gate_guard (by rfl) ?_; dsimp only)); refine be 5 #[.string (⟨#[]⟩ : ByteArray), .int .i64 0, .bool false, .slice none 0 0] 68 ?_; intro a7 hg w3 hbox hb; have a3 := Aside0.mk (hbox); have e4 := bsz HB hg; replace HB := bstep HB hb; have b1 := blt a2 hg; have b0 := bgt a2 hg; replace a2 := bkb a2 hb; clear hb hbox hg; have q1 := b0.out; have q0 := b1.out; obtain ⟨g7, g6, g5, g4, e9, e8, e7, e6⟩ := cz4 a3) | (go_at_call 67; (with_reducible refine (q1_IsName.calls _ _ _ _ A5.out).mono ?_); rintro e w2 ⟨rfl, hb⟩; replace a2 := Aside0.mk (blk_below (g := a8) (o := .cells #[.slice (some b8) a0.length c1, .slice c2 a6.length c0] 25 (0, 0)) (bkF a2) hb); replace a3 := Aside0.mk (blk_below (g := a7) (o := .cells #[.string ((rd_T68 a0 a1).f0), .int .i64 ((rd_T68 a0 a1).f1), .bool ((rd_T68 a0 a1).f2), .slice b3 ((rd_T68 a0 a1).f3).length b2] 68 (0, 0)) (bkP a3) hb); replace HB := bstep HB hb; clear hb))
  repeat (go_quiet (first | ((with_reducible refine gate_dst (N := 2) rfl ?_); (try (refine gate_guard (by rfl) ?_; dsimp only)); refine be 2 #[.slice j4 a0.length c1, .slice c2 a6.length c0] 25 ?_; intro a8 hg w4 hbox hb; have a2 := Aside0.mk (hbox); have e5 := bsz HB hg; replace HB := bstep HB hb; clear hb hbox hg; obtain ⟨g9, g8, g1, g0⟩ := cz2 a2; have d0 : 0 ≤ a1 := odt; have c9 : a1 < (a0.length : Int) := odt; obtain ⟨b8, b3, b2, h9, b7, b6, b5, b4, c5, c7⟩ := at_T68 d6.out a1 d0 c9; cases h9; replace b7 := hxc HB b7; replace b6 := hxc HB b6; replace b5 := hxc HB b5; replace b4 := hxc HB b4; have n5 := Aside0.mk c7; have n6 := Aside0.mk c5; clear c7 c5; replace d0 := eq_true d0; replace c9 := eq_true c9) | ((with_reducible refine gate_dst (N := 5) rfl ?_); (try (refine gate_guard (by rfl) ?_; dsimp only)); refine be 5 #[.string (⟨#[]⟩ : ByteArray), .int .i64 0, .bool false, .slice none 0 0] 68 ?_; intro a7 hg w3 hbox hb; have a3 := Aside0.mk (hbox); have e4 := bsz HB hg; replace HB := bstep HB hb; have b1 := blt a2 hg; have b0 := bgt a2 hg; replace a2 := bkb a2 hb; clear hb hbox hg; have q1 := b0.out; have q0 := b1.out; obtain ⟨g7, g6, g5, g4, e9, e8, e7, e6⟩ := cz4 a3) | (go_at_call 67; (with_reducible refine (q1_IsName.calls _ _ _ _ A5.out).mono ?_); rintro e w2 ⟨rfl, hb⟩; replace a2 := Aside0.mk (blk_below (g := a8) (o := .cells #[.slice (some b8) a0.length c1, .slice c2 a6.length c0] 25 (0, 0)) (bkF a2) hb); replace a3 := Aside0.mk (blk_below (g := a7) (o := .cells #[.string ((rd_T68 a0 a1).f0), .int .i64 ((rd_T68 a0 a1).f1), .bool ((rd_T68 a0 a1).f2), .slice b3 ((rd_T68 a0 a1).f3).length b2] 68 (0, 0)) (bkP a3) hb); replace HB := bstep HB hb; clear hb)); try go_wp2_with (first | ((with_reducible refine gate_dst (N := 2) rfl ?_); (try (refine gate_guard (by rfl) ?_; dsimp only)); refine be 2 #[.slice j4 a0.length c1, .slice c2 a6.length c0] 25 ?_; intro a8 hg w4 hbox hb; have a2 := Aside0.mk (hbox); have e5 := bsz HB hg; replace HB := bstep HB hb; clear hb hbox hg; obtain ⟨g9, g8, g1, g0⟩ := cz2 a2; have d0 : 0 ≤ a1 := odt; have c9 : a1 < (a0.length : Int) := odt; obtain ⟨b8, b3, b2, h9, b7, b6, b5, b4, c5, c7⟩ := at_T68 d6.out a1 d0 c9; cases h9; replace b7 := hxc HB b7; replace b6 := hxc HB b6; replace b5 := hxc HB b5; replace b4 := hxc HB b4; have n5 := Aside0.mk c7; have n6 := Aside0.mk c5; clear c7 c5; replace d0 := eq_true d0; replace c9 := eq_true c9) | ((with_reducible refine gate_dst (N := 5) rfl ?_); (try (refine gate_guard (by rfl) ?_; dsimp only)); refine be 5 #[.string (⟨#[]⟩ : ByteArray), .int .i64 0, .bool false, .slice none 0 0] 68 ?_; intro a7 hg w3 hbox hb; have a3 := Aside0.mk (hbox); have e4 := bsz HB hg; replace HB := bstep HB hb; have b1 := blt a2 hg; have b0 := bgt a2 hg; replace a2 := bkb a2 hb; clear hb hbox hg; have q1 := b0.out; have q0 := b1.out; obtain ⟨g7, g6, g5, g4, e9, e8, e7, e6⟩ := cz4 a3) | (go_at_call 67; (with_reducible refine (q1_IsName.calls _ _ _ _ A5.out).mono ?_); rintro e w2 ⟨rfl, hb⟩; replace a2 := Aside0.mk (blk_below (g := a8) (o := .cells #[.slice (some b8) a0.length c1, .slice c2 a6.length c0] 25 (0, 0)) (bkF a2) hb); replace a3 := Aside0.mk (blk_below (g := a7) (o := .cells #[.string ((rd_T68 a0 a1).f0), .int .i64 ((rd_T68 a0 a1).f1), .bool ((rd_T68 a0 a1).f2), .slice b3 ((rd_T68 a0 a1).f3).length b2] 68 (0, 0)) (bkP a3) hb); replace HB := bstep HB hb; clear hb)))
 ·go_ret
  exact ⟨erf, bb HB⟩
 ·go_loopg [6] k (fun kq v6 w' => ∃ (d5 : Int), v6 = .int .i64 d5 ∧ Aside0 (q4_node.l0 kq a1 d5 a0 a6 ((rd_T68 a0 a1).f0) ((rd_T68 a0 a1).f1) ((rd_T68 a0 a1).f2) ((rd_T68 a0 a1).f3) = some r) ∧ Aside0 (kq ≤ k) ∧ Aside0 (w'.heap[a8]? = some (.cells #[(.slice (some b8) a0.length c1), (.slice c2 a6.length c0)] 25 (0, 0))) ∧ Aside0 (w'.heap[a7]? = some (.cells #[.string ((rd_T68 a0 a1).f0), .int .i64 ((rd_T68 a0 a1).f1), .bool ((rd_T68 a0 a1).f2), (.slice b3 ((rd_T68 a0 a1).f3).length b2)] 68 (0, 0))) ∧ Aside0 (Below w.heap.size w w'))
  case atStart => exact ⟨(0), eqs, H', ⟨Nat.le_refl _⟩, ⟨bk a2⟩, ⟨bk a3⟩, ⟨bb HB⟩⟩
  case round =>
   clear H'
   try clear y8 y7 c6 g7 g6 g5 g4 g9 g8 e9 e8 e7 e6 g1 g0 b7 b6 b5 b4 d0 c9
   obtain ⟨d5, rfl, HA, h4, a2, a3, HB⟩ := hrel
   cases gk with
   | zero => exact absurd HA.out (by simp [q4_node.l0])
   | succ k1 =>
    have H := HA.out
    clear HA
    simp only [q4_node.l0] at H
    by_cases n4 : d5 < a1
    ·rw [if_pos n4] at H
     have q5 := decide_eq_true n4
     clear n4
     obtain ⟨y1, H⟩ := itn H
     have H3 := decide_eq_true y1
     clear y1
     obtain ⟨y0, H⟩ := itn H
     have H2 := decide_eq_true y0
     clear y0
     by_cases j3 : ((rd_T68 a0 d5).f0).toList = ((rd_T68 a0 a1).f0).toList
     rw [if_pos j3] at H
     have v4 := beq_iff_eq.mpr j3
     have v3 := bne_eq_false_iff_eq.mpr j3
     clear j3
     obtain rfl := Option.some.inj H
     rotate_left
     rw [if_neg j3] at H
     have v4 := beq_eq_false_iff_ne.mpr j3
     have v3 := bne_iff_ne.mpr j3
     have H' := Aside0.mk H
     clear H
     all_goals
      have G5 := b1.out
      have G1 := b0.out
      obtain ⟨D9, D8, C9, C8⟩ := cz2 a2
      have p6 : 0 ≤ d5 := odt
      have p5 : d5 < (a0.length : Int) := odt
      obtain ⟨w1, F7, F3, y6, m0, j9, j8, j7, m5, n0⟩ := at_T68 d6.out d5 p6 p5
      obtain rfl : b8 = w1 := (by injection y6)
      replace m0 := hxc HB m0
      replace j9 := hxc HB j9
      replace j8 := hxc HB j8
      replace j7 := hxc HB j7
      have E2 := Aside0.mk n0
      have E6 := Aside0.mk m5
      clear n0 m5
      replace p6 := eq_true p6
      replace p5 := eq_true p5
      obtain ⟨D7, D6, D5, D4, C7, C6, C5, C4⟩ := cz4 a3
      go_wp2
      repeat (go_quiet (fail); try go_wp2)
     ·go_roundg k1
      case measure => have := h4.out; omega
      case rel => exact ⟨(wrap64 (d5 + 1)), eqs, H', ⟨by have := h4.out; omega⟩, ⟨bk a2⟩, ⟨bk a3⟩, ⟨bb HB⟩⟩
     ·go_ret
      exact ⟨erf, bb HB⟩
    rw [if_neg n4] at H
    have q5 := decide_eq_false n4
    clear n4
    obtain ⟨p4, n7, H⟩ := obA H
    by_cases p1 : p4 = true
    subst p1
    replace H := ift H
    obtain ⟨a5, t5, H⟩ := obA H
    have p7 := Aside0.mk H
    clear H
    rotate_left
    replace p1 := Bool.eq_false_iff.mpr p1
    subst p1
    replace H := iff_ H
    obtain rfl := Option.some.inj H
    all_goals
     have G4 := b0.out
     have G0 := b1.out
     obtain ⟨s9, s8, s7, s6, s1, s0, r9, r8⟩ := cz4 a3
    ·go_wp2_with (first | (go_at_call 47; (with_reducible refine (q4_in.calls _ _ _ _ _ n7.out).mono ?_); rintro e w' ⟨rfl, ⟨nd, rfl⟩⟩; (try first | exact ⟨rfl, _, World.drewN_drewN _ _ _⟩ | exact ⟨rfl, _, Eq.trans (World.drewN_drewN _ _ _) (congrArg (World.drewN _) (Nat.add_assoc _ _ _))⟩)))
     repeat (go_quiet (first | (go_at_call 47; (with_reducible refine (q4_in.calls _ _ _ _ _ n7.out).mono ?_); rintro e w' ⟨rfl, ⟨nd, rfl⟩⟩; (try first | exact ⟨rfl, _, World.drewN_drewN _ _ _⟩ | exact ⟨rfl, _, Eq.trans (World.drewN_drewN _ _ _) (congrArg (World.drewN _) (Nat.add_assoc _ _ _))⟩))); try go_wp2_with (first | (go_at_call 47; (with_reducible refine (q4_in.calls _ _ _ _ _ n7.out).mono ?_); rintro e w' ⟨rfl, ⟨nd, rfl⟩⟩; (try first | exact ⟨rfl, _, World.drewN_drewN _ _ _⟩ | exact ⟨rfl, _, Eq.trans (World.drewN_drewN _ _ _) (congrArg (World.drewN _) (Nat.add_assoc _ _ _))⟩))))
     go_ret
     exact ⟨erf, bb HB⟩
    ·go_upto_region 12 with (first | (go_at_call 47; (with_reducible refine (q4_in.calls _ _ _ _ _ n7.out).mono ?_); rintro e w' ⟨rfl, ⟨nd, rfl⟩⟩; (try first | exact ⟨rfl, _, World.drewN_drewN _ _ _⟩ | exact ⟨rfl, _, Eq.trans (World.drewN_drewN _ _ _) (congrArg (World.drewN _) (Nat.add_assoc _ _ _))⟩); obtain ⟨h1, h0, g3, g2⟩ := cz2 a2) | (go_at_call 51; (with_reducible refine (q4_attrs.calls k1 (fun k_ => k_ < w.heap.size) _ _ a0 _ _ a6 a1 a5 _ (Kd.V_mk o8.out (Kd.F_below (Kd.C_F k68_heap d6.out) (bb HB))) ?c8 ?e0 t5.out).mono ?_); (case c8 => repeat (first | exact (Kd.C_below o5.out (bb HB)) | (with_reducible refine Kd.C_alloc ?_ _) | (with_reducible refine Kd.C_drewN ?_ _) | (with_reducible refine Kd.C_drew ?_))); (case e0 => exact o7.out); rintro e w7 ⟨p2, rfl, h3, hb⟩; have e3 := Aside0.mk (Kd.N_lower (Kd.N_mono (ok' := fun k_ => k_ ≠ a8 ∧ k_ ≠ a7) h3 (fun k_ hk_ => ⟨Or.elim hk_ (fun hs_ => fun e_ => Nat.not_le.2 hs_ (by rw [e_]; exact e5.out)) (fun hn_ => (Kd.freshB (g := a8) (o := .cells #[.slice (some b8) a0.length c1, .slice c2 a6.length c0] 25 (0, 0)) (bk a2) k_ hn_)), Or.elim hk_ (fun hs_ => fun e_ => Nat.not_le.2 hs_ (by rw [e_]; exact e4.out)) (fun hn_ => (Kd.freshB (g := a7) (o := .cells #[.string ((rd_T68 a0 a1).f0), .int .i64 ((rd_T68 a0 a1).f1), .bool ((rd_T68 a0 a1).f2), .slice b3 ((rd_T68 a0 a1).f3).length b2] 68 (0, 0)) (bk a3) k_ hn_))⟩)) (below_size (bb HB))); replace a2 := bkb a2 hb; replace a3 := bkb a3 hb; replace HB := bstep HB hb; clear hb h3))
     repeat (go_quiet (first | (go_at_call 47; (with_reducible refine (q4_in.calls _ _ _ _ _ n7.out).mono ?_); rintro e w' ⟨rfl, ⟨nd, rfl⟩⟩; (try first | exact ⟨rfl, _, World.drewN_drewN _ _ _⟩ | exact ⟨rfl, _, Eq.trans (World.drewN_drewN _ _ _) (congrArg (World.drewN _) (Nat.add_assoc _ _ _))⟩); obtain ⟨h1, h0, g3, g2⟩ := cz2 a2) | (go_at_call 51; (with_reducible refine (q4_attrs.calls k1 (fun k_ => k_ < w.heap.size) _ _ a0 _ _ a6 a1 a5 _ (Kd.V_mk o8.out (Kd.F_below (Kd.C_F k68_heap d6.out) (bb HB))) ?c8 ?e0 t5.out).mono ?_); (case c8 => repeat (first | exact (Kd.C_below o5.out (bb HB)) | (with_reducible refine Kd.C_alloc ?_ _) | (with_reducible refine Kd.C_drewN ?_ _) | (with_reducible refine Kd.C_drew ?_))); (case e0 => exact o7.out); rintro e w7 ⟨p2, rfl, h3, hb⟩; have e3 := Aside0.mk (Kd.N_lower (Kd.N_mono (ok' := fun k_ => k_ ≠ a8 ∧ k_ ≠ a7) h3 (fun k_ hk_ => ⟨Or.elim hk_ (fun hs_ => fun e_ => Nat.not_le.2 hs_ (by rw [e_]; exact e5.out)) (fun hn_ => (Kd.freshB (g := a8) (o := .cells #[.slice (some b8) a0.length c1, .slice c2 a6.length c0] 25 (0, 0)) (bk a2) k_ hn_)), Or.elim hk_ (fun hs_ => fun e_ => Nat.not_le.2 hs_ (by rw [e_]; exact e4.out)) (fun hn_ => (Kd.freshB (g := a7) (o := .cells #[.string ((rd_T68 a0 a1).f0), .int .i64 ((rd_T68 a0 a1).f1), .bool ((rd_T68 a0 a1).f2), .slice b3 ((rd_T68 a0 a1).f3).length b2] 68 (0, 0)) (bk a3) k_ hn_))⟩)) (below_size (bb HB))); replace a2 := bkb a2 hb; replace a3 := bkb a3 hb; replace HB := bstep HB hb; clear hb h3)); go_upto_region 12 with (first | (go_at_call 47; (with_reducible refine (q4_in.calls _ _ _ _ _ n7.out).mono ?_); rintro e w' ⟨rfl, ⟨nd, rfl⟩⟩; (try first | exact ⟨rfl, _, World.drewN_drewN _ _ _⟩ | exact ⟨rfl, _, Eq.trans (World.drewN_drewN _ _ _) (congrArg (World.drewN _) (Nat.add_assoc _ _ _))⟩); obtain ⟨h1, h0, g3, g2⟩ := cz2 a2) | (go_at_call 51; (with_reducible refine (q4_attrs.calls k1 (fun k_ => k_ < w.heap.size) _ _ a0 _ _ a6 a1 a5 _ (Kd.V_mk o8.out (Kd.F_below (Kd.C_F k68_heap d6.out) (bb HB))) ?c8 ?e0 t5.out).mono ?_); (case c8 => repeat (first | exact (Kd.C_below o5.out (bb HB)) | (with_reducible refine Kd.C_alloc ?_ _) | (with_reducible refine Kd.C_drewN ?_ _) | (with_reducible refine Kd.C_drew ?_))); (case e0 => exact o7.out); rintro e w7 ⟨p2, rfl, h3, hb⟩; have e3 := Aside0.mk (Kd.N_lower (Kd.N_mono (ok' := fun k_ => k_ ≠ a8 ∧ k_ ≠ a7) h3 (fun k_ hk_ => ⟨Or.elim hk_ (fun hs_ => fun e_ => Nat.not_le.2 hs_ (by rw [e_]; exact e5.out)) (fun hn_ => (Kd.freshB (g := a8) (o := .cells #[.slice (some b8) a0.length c1, .slice c2 a6.length c0] 25 (0, 0)) (bk a2) k_ hn_)), Or.elim hk_ (fun hs_ => fun e_ => Nat.not_le.2 hs_ (by rw [e_]; exact e4.out)) (fun hn_ => (Kd.freshB (g := a7) (o := .cells #[.string ((rd_T68 a0 a1).f0), .int .i64 ((rd_T68 a0 a1).f1), .bool ((rd_T68 a0 a1).f2), .slice b3 ((rd_T68 a0 a1).f3).length b2] 68 (0, 0)) (bk a3) k_ hn_))⟩)) (below_size (bb HB))); replace a2 := bkb a2 hb; replace a3 := bkb a3 hb; replace HB := bstep HB hb; clear hb h3)))
     (try simp only [Act.put, List.setIfInBounds_toArray, List.set_cons_zero, List.set_cons_succ])
     go_cut [51] (fun E8 wc => ∃ (kq : Nat) (d9 : Bool), E8 = .bool d9 ∧ Aside0 (q4_node.j1 kq a5 d9 ((rd_T68 a0 a1).f0) ((rd_T68 a0 a1).f1) ((rd_T68 a0 a1).f2) ((rd_T68 a0 a1).f3) = some r) ∧ Aside0 (kq ≤ k1) ∧ Aside0 (Kd.N k77 77 wc w.heap.size (fun k_ => k_ ≠ a8 ∧ k_ ≠ a7) p2 a5) ∧ Aside0 (wc.heap[a8]? = some (.cells #[(.slice (some b8) a0.length c1), (.slice c2 a6.length c0)] 25 (0, 0))) ∧ Aside0 (wc.heap[a7]? = some (.cells #[.string ((rd_T68 a0 a1).f0), .int .i64 ((rd_T68 a0 a1).f1), .bool ((rd_T68 a0 a1).f2), (.slice b3 ((rd_T68 a0 a1).f3).length b2)] 68 (0, 0))) ∧ Aside0 (Below w.heap.size w wc))
     case first =>
      have H := p7.out
      clear p7
      by_cases n3 : (((rd_T68 a0 a1).f3).length : Int) > 4
      rw [if_pos n3] at H
      have e2 : decide (4 < (((rd_T68 a0 a1).f3).length : Int)) = true := decide_eq_true n3
      have v2 : decide (4 < ((rd_T68 a0 a1).f3).length) = true := decide_eq_true (by omega)
      clear n3
      (first | rw [e2] | (simp only [i64_w, i32_w]; rw [e2]) | skip)
      have H' := Aside0.mk H
      clear H
      rotate_left
      rw [if_neg n3] at H
      have e2 : decide (4 < (((rd_T68 a0 a1).f3).length : Int)) = false := decide_eq_false n3
      have v2 : decide (4 < ((rd_T68 a0 a1).f3).length) = false := decide_eq_false (by omega)
      clear n3
      (first | rw [e2] | (simp only [i64_w, i32_w]; rw [e2]) | skip)
      have H' := Aside0.mk H
      clear H
      all_goals
       have G3 := b0.out
       have F9 := b1.out
       obtain ⟨D3, D2, D1, D0, C3, C2, C1, C0⟩ := cz4 a3
      ·obtain ⟨H5, H4, eo36⟩ := Kd.N_slice e3.out
       subst eo36
       go_wp2
       repeat (go_quiet (fail); try go_wp2)
       go_meet
       case rel => exact ⟨_, (decide ((a5.length : Int) > 8)), eqs, H', ⟨by have := h4.out; first | omega | exact Nat.le_refl _⟩, ⟨kN e3⟩, ⟨bk a2⟩, ⟨bk a3⟩, ⟨bb HB⟩⟩
      ·go_wp2
       repeat (go_quiet (fail); try go_wp2)
       go_meet
       case rel => exact ⟨_, (true), eqs, H', ⟨by have := h4.out; first | omega | exact Nat.le_refl _⟩, ⟨kN e3⟩, ⟨bk a2⟩, ⟨bk a3⟩, ⟨bb HB⟩⟩
     case rest =>
      clear p7
      try clear q5 p1 s9 s8 s7 s6 h1 h0 s1 s0 r9 r8 g3 g2
      obtain ⟨kq, d9, rfl, HA, o6, HO_7, a2, a3, HB⟩ := hcut
      cases kq with
      | zero => exact absurd HA.out (by simp [q4_node.j1])
      | succ t0 =>
       have H := HA.out
       clear HA
       simp only [q4_node.j1] at H
       by_cases p0 : d9 = true
       ·subst p0
        replace H := ift H
        obtain rfl := Option.some.inj H
        go_wp2
        repeat (go_quiet (fail); try go_wp2)
        go_ret
        exact ⟨erf, bb HB⟩
       replace p0 := Bool.eq_false_iff.mpr p0
       subst p0
       replace H := iff_ H
       have H' := Aside0.mk H
       clear H
       obtain ⟨y9, t1, eo38⟩ := Kd.N_slice HO_7.out
       subst eo38
       have G2 := b0.out
       have F8 := b1.out
       obtain ⟨s5, s4, s3, s2, r7, r6, r5, r4⟩ := cz4 a3
       go_wp2
       repeat (go_quiet (fail); try go_wp2)
       go_loopg [8] t0 (fun kq v8 w' => ∃ (a9 : Int), v8 = .int .i64 a9 ∧ Aside0 (q4_node.l1 kq a5 a9 = some r) ∧ Aside0 (kq ≤ t0) ∧ Aside0 (Kd.N k77 77 w' w.heap.size (fun k_ => k_ ≠ a8 ∧ k_ ≠ a7) (.slice y9 a5.length t1) a5) ∧ Aside0 (w'.heap[a8]? = some (.cells #[(.slice (some b8) a0.length c1), (.slice c2 a6.length c0)] 25 (0, 0))) ∧ Aside0 (w'.heap[a7]? = some (.cells #[.string ((rd_T68 a0 a1).f0), .int .i64 ((rd_T68 a0 a1).f1), .bool ((rd_T68 a0 a1).f2), (.slice b3 ((rd_T68 a0 a1).f3).length b2)] 68 (0, 0))) ∧ Aside0 (Below w.heap.size w w'))
       case atStart => exact ⟨(wrap64 ((a5.length : Int) - (((rd_T68 a0 a1).f3).length : Int))), eqs, H', ⟨Nat.le_refl _⟩, ⟨kN HO_7⟩, ⟨bk a2⟩, ⟨bk a3⟩, ⟨bb HB⟩⟩
       case round =>
        clear H'
        try clear p0 s5 s4 s3 s2 r7 r6 r5 r4
        obtain ⟨a9, rfl, HA, q7, HO_7, a2, a3, HB⟩ := hrel
        cases gk with
        | zero => exact absurd HA.out (by simp [q4_node.l1])
        | succ k3 =>
         have H := HA.out
         clear HA
         simp only [q4_node.l1] at H
         by_cases n2 : a9 < (a5.length : Int)
         rotate_left
         ·rw [if_neg n2] at H
          have q4 := decide_eq_false n2
          clear n2
          obtain rfl := Option.some.inj H
          go_wp2
          repeat (go_quiet (fail); try go_wp2)
          go_ret
          exact ⟨erf, bb HB⟩
         rw [if_pos n2] at H
         have q4 := decide_eq_true n2
         clear n2
         obtain ⟨x5, H⟩ := itn H
         have v1 := decide_eq_true x5
         clear x5
         obtain ⟨p3, t3, H⟩ := obA H
         by_cases o9 : p3 = true
         subst o9
         replace H := ift H
         have H' := Aside0.mk H
         clear H
         rotate_left
         replace o9 := Bool.eq_false_iff.mpr o9
         subst o9
         replace H := iff_ H
         obtain rfl := Option.some.inj H
         all_goals
          have h8 : 0 ≤ a9 := odt
          have h7 : a9 < (a5.length : Int) := odt
          obtain ⟨h5, t4, F2, y5, r3, r2, r1, j6, m4, m9⟩ := at_T77 (Kd.N_reads' HO_7.out).2.2 a9 h8 h7
          cases y5
          obtain ⟨ce340, hce340, hMe340, hcc340⟩ := Kd.N_get HO_7.out z77 a9 h8 (by first | exact h7 | exact odt | (have e_ := (Kd.N_reads' HO_7.out).1; omega))
          obtain ⟨ua340_3, uc340_3, rfl, ul340_3, ge340_3⟩ := k77_openF hMe340
          have hv340_3 := hcc340 3 _ rfl
          rw [add_field _ _ 3 (by omega)] at hv340_3
          replace hv340_3 := Option.some.inj (hv340_3.symm.trans j6)
          injection hv340_3 with hva_ hvn_ hvc_
          rw [hva_] at ge340_3
          rw [hvc_] at ul340_3
          clear hva_ hvn_ hvc_ ge340_3 ul340_3 hcc340 hce340
          have a4 := Aside0.mk m9
          have E5 := Aside0.mk m4
          clear m9 m4
          replace h8 := eq_true h8
          replace h7 := eq_true h7
          go_wp2_with (first | (go_at_call 67; (with_reducible refine (q1_IsName.calls _ _ _ _ t3.out).mono ?_); rintro e w6 ⟨rfl, hb⟩; replace HO_7 := kNb HO_7 hb; replace a2 := bkb a2 hb; replace a3 := bkb a3 hb; replace a4 := kCb a4 hb; replace HB := bstep HB hb; clear hb))
          repeat (go_quiet (first | (go_at_call 67; (with_reducible refine (q1_IsName.calls _ _ _ _ t3.out).mono ?_); rintro e w6 ⟨rfl, hb⟩; replace HO_7 := kNb HO_7 hb; replace a2 := bkb a2 hb; replace a3 := bkb a3 hb; replace a4 := kCb a4 hb; replace HB := bstep HB hb; clear hb)); try go_wp2_with (first | (go_at_call 67; (with_reducible refine (q1_IsName.calls _ _ _ _ t3.out).mono ?_); rintro e w6 ⟨rfl, hb⟩; replace HO_7 := kNb HO_7 hb; replace a2 := bkb a2 hb; replace a3 := bkb a3 hb; replace a4 := kCb a4 hb; replace HB := bstep HB hb; clear hb)))
         ·go_ret
          exact ⟨erf, bb HB⟩
         ·go_loopg [9] k3 (fun kq v9 w' => ∃ (d2 : Int), v9 = .int .i64 d2 ∧ Aside0 (q4_node.l2 kq a5 a9 d2 = some r) ∧ Aside0 (kq ≤ k3) ∧ Aside0 (Kd.N k77 77 w' w.heap.size (fun k_ => k_ ≠ a8 ∧ k_ ≠ a7) (.slice (some h5) a5.length t1) a5) ∧ Aside0 (w'.heap[a8]? = some (.cells #[(.slice (some b8) a0.length c1), (.slice c2 a6.length c0)] 25 (0, 0))) ∧ Aside0 (w'.heap[a7]? = some (.cells #[.string ((rd_T68 a0 a1).f0), .int .i64 ((rd_T68 a0 a1).f1), .bool ((rd_T68 a0 a1).f2), (.slice b3 ((rd_T68 a0 a1).f3).length b2)] 68 (0, 0))) ∧ Aside0 (Kd.C Kd.string w' t4 ((rd_T77 a5 a9).f3).length ((rd_T77 a5 a9).f3)) ∧ Aside0 (Below w.heap.size w w'))
          case atStart => exact ⟨(0), eqs, H', ⟨Nat.le_refl _⟩, ⟨kN HO_7⟩, ⟨bk a2⟩, ⟨bk a3⟩, ⟨kC a4⟩, ⟨bb HB⟩⟩
          case round =>
           clear H'
           try clear q4 v1 o9 r3 r2 r1 j6 h8 h7
           obtain ⟨d2, rfl, HA, q6, HO_7, a2, a3, a4, HB⟩ := hrel
           cases gk with
           | zero => exact absurd HA.out (by simp [q4_node.l2])
           | succ k4 =>
            have H := HA.out
            clear HA
            simp only [q4_node.l2] at H
            by_cases n1 : d2 < a9
            rotate_left
            ·rw [if_neg n1] at H
             have v0 := decide_eq_false n1
             clear n1
             obtain ⟨w9, H⟩ := itn H
             have G7 := decide_eq_true w9
             clear w9
             obtain ⟨w8, H⟩ := itn H
             have G6 := decide_eq_true w8
             clear w8
             obtain ⟨n8, t2, H⟩ := obA H
             by_cases j0 : n8 = 0
             rw [if_pos j0] at H
             have t7 := beq_iff_eq.mpr j0
             have t6 := bne_eq_false_iff_eq.mpr j0
             clear j0
             have H' := Aside0.mk H
             clear H
             rotate_left
             rw [if_neg j0] at H
             have t7 := beq_eq_false_iff_ne.mpr j0
             have t6 := bne_iff_ne.mpr j0
             obtain rfl := Option.some.inj H
             all_goals
              have o2 : 0 ≤ a9 := odt
              have n9 : a9 < (a5.length : Int) := odt
              obtain ⟨v5, F4, E9, y2, A2, A1, A0, q8, m1, m6⟩ := at_T77 (Kd.N_reads' HO_7.out).2.2 a9 o2 n9
              obtain rfl : h5 = v5 := (by injection y2)
              obtain ⟨ce344, hce344, hMe344, hcc344⟩ := Kd.N_get HO_7.out z77 a9 o2 (by first | exact n9 | exact odt | (have e_ := (Kd.N_reads' HO_7.out).1; omega))
              obtain ⟨ua344_3, uc344_3, rfl, ul344_3, ge344_3⟩ := k77_openF hMe344
              have hv344_3 := hcc344 3 _ rfl
              rw [add_field _ _ 3 (by omega)] at hv344_3
              replace hv344_3 := Option.some.inj (hv344_3.symm.trans q8)
              injection hv344_3 with hva_ hvn_ hvc_
              rw [hva_] at ge344_3
              rw [hvc_] at ul344_3
              clear hva_ hvn_ hvc_ ge344_3 ul344_3 hcc344 hce344
              have b9 := Aside0.mk m6
              have h2 := Aside0.mk m1
              clear m6 m1
              replace o2 := eq_true o2
              replace n9 := eq_true n9
              go_wp2_with (first | (go_at_call 68; (with_reducible refine (q4_attribute.calls _ _ _ _ _ _ _ _ _ ?e1 ?c8 t2.out).mono ?_); (case e1 => repeat (first | exact (kC b9) | (with_reducible refine Kd.C_alloc ?_ _) | (with_reducible refine Kd.C_drewN ?_ _) | (with_reducible refine Kd.C_drew ?_))); (case c8 => exact h2.out); rintro e w5 ⟨rfl, hb⟩; replace HO_7 := kNb HO_7 hb; replace a2 := bkb a2 hb; replace a3 := bkb a3 hb; replace a4 := kCb a4 hb; replace b9 := kCb b9 hb; replace HB := bstep HB hb; clear hb))
              repeat (go_quiet (first | (go_at_call 68; (with_reducible refine (q4_attribute.calls _ _ _ _ _ _ _ _ _ ?e1 ?c8 t2.out).mono ?_); (case e1 => repeat (first | exact (kC b9) | (with_reducible refine Kd.C_alloc ?_ _) | (with_reducible refine Kd.C_drewN ?_ _) | (with_reducible refine Kd.C_drew ?_))); (case c8 => exact h2.out); rintro e w5 ⟨rfl, hb⟩; replace HO_7 := kNb HO_7 hb; replace a2 := bkb a2 hb; replace a3 := bkb a3 hb; replace a4 := kCb a4 hb; replace b9 := kCb b9 hb; replace HB := bstep HB hb; clear hb)); try go_wp2_with (first | (go_at_call 68; (with_reducible refine (q4_attribute.calls _ _ _ _ _ _ _ _ _ ?e1 ?c8 t2.out).mono ?_); (case e1 => repeat (first | exact (kC b9) | (with_reducible refine Kd.C_alloc ?_ _) | (with_reducible refine Kd.C_drewN ?_ _) | (with_reducible refine Kd.C_drew ?_))); (case c8 => exact h2.out); rintro e w5 ⟨rfl, hb⟩; replace HO_7 := kNb HO_7 hb; replace a2 := bkb a2 hb; replace a3 := bkb a3 hb; replace a4 := kCb a4 hb; replace b9 := kCb b9 hb; replace HB := bstep HB hb; clear hb)))
             ·go_ret
              exact ⟨erf, bb HB⟩
             ·go_roundg k4
              case measure => have := h4.out; have := o6.out; have := q7.out; have := q6.out; omega
              case rel => exact ⟨(wrap64 (a9 + 1)), eqs, H', ⟨by have := h4.out; have := o6.out; have := q7.out; have := q6.out; omega⟩, ⟨kN HO_7⟩, ⟨bk a2⟩, ⟨bk a3⟩, ⟨bb HB⟩⟩
            rw [if_pos n1] at H
            have v0 := decide_eq_true n1
            clear n1
            obtain ⟨x4, H⟩ := itn H
            have H1 := decide_eq_true x4
            clear x4
            obtain ⟨x3, H⟩ := itn H
            have H0 := decide_eq_true x3
            clear x3
            obtain ⟨x2, H⟩ := itn H
            have G9 := decide_eq_true x2
            clear x2
            obtain ⟨x0, H⟩ := itn H
            have G8 := decide_eq_true x0
            clear x0
            by_cases j2 : ((rd_T77 a5 d2).f0).toList = ((rd_T77 a5 a9).f0).toList
            rw [if_pos j2] at H
            have t9 := beq_iff_eq.mpr j2
            have t8 := bne_eq_false_iff_eq.mpr j2
            clear j2
            obtain rfl := Option.some.inj H
            rotate_left
            rw [if_neg j2] at H
            have t9 := beq_eq_false_iff_ne.mpr j2
            have t8 := bne_iff_ne.mpr j2
            have H' := Aside0.mk H
            clear H
            all_goals
             have o4 : 0 ≤ d2 := odt
             have o1 : d2 < (a5.length : Int) := odt
             obtain ⟨w0, F6, F1, y4, A9, A8, A7, r0, m3, m8⟩ := at_T77 (Kd.N_reads' HO_7.out).2.2 d2 o4 o1
             obtain rfl : h5 = w0 := (by injection y4)
             obtain ⟨ce342, hce342, hMe342, hcc342⟩ := Kd.N_get HO_7.out z77 d2 o4 (by first | exact o1 | exact odt | (have e_ := (Kd.N_reads' HO_7.out).1; omega))
             obtain ⟨ua342_3, uc342_3, rfl, ul342_3, ge342_3⟩ := k77_openF hMe342
             have hv342_3 := hcc342 3 _ rfl
             rw [add_field _ _ 3 (by omega)] at hv342_3
             replace hv342_3 := Option.some.inj (hv342_3.symm.trans r0)
             injection hv342_3 with hva_ hvn_ hvc_
             rw [hva_] at ge342_3
             rw [hvc_] at ul342_3
             clear hva_ hvn_ hvc_ ge342_3 ul342_3 hcc342 hce342
             have E1 := Aside0.mk m8
             have E4 := Aside0.mk m3
             clear m8 m3
             replace o4 := eq_true o4
             replace o1 := eq_true o1
             have o3 : 0 ≤ a9 := odt
             have o0 : a9 < (a5.length : Int) := odt
             obtain ⟨v7, F5, F0, y3, A6, A4, A3, q9, m2, m7⟩ := at_T77 (Kd.N_reads' HO_7.out).2.2 a9 o3 o0
             obtain rfl : h5 = v7 := (by injection y3)
             obtain ⟨ce343, hce343, hMe343, hcc343⟩ := Kd.N_get HO_7.out z77 a9 o3 (by first | exact o0 | exact odt | (have e_ := (Kd.N_reads' HO_7.out).1; omega))
             obtain ⟨ua343_3, uc343_3, rfl, ul343_3, ge343_3⟩ := k77_openF hMe343
             have hv343_3 := hcc343 3 _ rfl
             rw [add_field _ _ 3 (by omega)] at hv343_3
             replace hv343_3 := Option.some.inj (hv343_3.symm.trans q9)
             injection hv343_3 with hva_ hvn_ hvc_
             rw [hva_] at ge343_3
             rw [hvc_] at ul343_3
             clear hva_ hvn_ hvc_ ge343_3 ul343_3 hcc343 hce343
             have E0 := Aside0.mk m7
             have E3 := Aside0.mk m2
             clear m7 m2
             replace o3 := eq_true o3
             replace o0 := eq_true o0
             go_wp2
             repeat (go_quiet (fail); try go_wp2)
            ·go_roundg k4
             case measure => have := h4.out; have := o6.out; have := q7.out; have := q6.out; omega
             case rel => exact ⟨(wrap64 (d2 + 1)), eqs, H', ⟨by have := h4.out; have := o6.out; have := q7.out; have := q6.out; omega⟩, ⟨kN HO_7⟩, ⟨bk a2⟩, ⟨bk a3⟩, ⟨kC a4⟩, ⟨bb HB⟩⟩
            ·go_ret
             exact ⟨erf, bb HB⟩
end Go.Proofs.Ytfpianecohobjaa.P
