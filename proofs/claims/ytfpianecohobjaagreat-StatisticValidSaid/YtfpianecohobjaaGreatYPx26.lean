/- StatisticOf: a part of its proof. No condition. -/
import Derived.Test.YtfpianecohobjaaGreatYPx0
import Derived.Test.YtfpianecohobjaaGreatYMb
import Derived.Test.YtfpianecohobjaaGreatYPx24
namespace Go.Proofs.YtfpianecohobjaaGreat.P
open Go.RowKit Go.Proofs.YtfpianecohobjaaGreatW.PrintWords Go.Proofs.YtfpianecohobjaaGreatW.PrintLast Go.Proofs.YtfpianecohobjaaGreatW.PrintMore
set_option linter.unusedVariables false
set_option linter.unusedSimpArgs false
mutual
def q4_node.l0 : Nat → Int → Int → List (S96) → List (S101) → ByteArray → Int → Bool → List (S99) → Option (Int)
 | 0, _, _, _, _, _, _, _, _ => none
 | k + 1, x1, x6, g9, j9, d3, d2, g8, b8 => if x6 < x1 then (if 0 ≤ x6 then (if x6 < (g9.length : Int) then (if ((rd_T96 g9 x6).f0).toList = d3.toList then (some 5) else (q4_node.l0 k x1 (wrap64 (x6 + 1)) g9 j9 d3 d2 g8 b8)) else (none)) else (none)) else ((q4_in.f d2 (-1) (wrap64 (x1 - 1))).bind fun n6 => (if n6 = true then ((q4_attrs.f k g9 j9 x1).bind fun a5 => (if (b8.length : Int) > 4 then (q4_node.j1 k a5 true d3 d2 g8 b8) else (q4_node.j1 k a5 (decide ((a5.length : Int) > 8)) d3 d2 g8 b8))) else (some 6)))
def q4_node.j1 : Nat → List (S99) → Bool → ByteArray → Int → Bool → List (S99) → Option (Int)
 | 0, _, _, _, _, _, _ => none
 | k + 1, x7, I9, d3, d2, g8, b8 => if I9 = true then (some 3) else (q4_node.l1 k x7 (wrap64 ((x7.length : Int) - (b8.length : Int))))
def q4_node.l1 : Nat → List (S99) → Int → Option (Int)
 | 0, _, _ => none
 | k + 1, x7, x8 => if x8 < (x7.length : Int) then (if 0 ≤ x8 then ((q1_IsName.f k ((rd_T99 x7 x8).f0)).bind fun n5 => (if n5 = true then (q4_node.l2 k x7 x8 0) else (some 2))) else (none)) else (some 0)
def q4_node.l2 : Nat → List (S99) → Int → Int → Option (Int)
 | 0, _, _, _ => none
 | k + 1, x7, x8, x9 => if x9 < x8 then (if 0 ≤ x9 then (if x9 < (x7.length : Int) then (if 0 ≤ x8 then (if x8 < (x7.length : Int) then (if ((rd_T99 x7 x9).f0).toList = ((rd_T99 x7 x8).f0).toList then (some 5) else (q4_node.l2 k x7 x8 (wrap64 (x9 + 1)))) else (none)) else (none)) else (none)) else (none)) else (if 0 ≤ x8 then (if x8 < (x7.length : Int) then ((q4_attribute.f k ((rd_T99 x7 x8).f0) ((rd_T99 x7 x8).f1) ((rd_T99 x7 x8).f2) ((rd_T99 x7 x8).f3)).bind fun h8 => (if h8 = 0 then (q4_node.l1 k x7 (wrap64 (x8 + 1))) else (some h8))) else (none)) else (none))
end
def q4_node.f (k : Nat) (a0 : List (S96)) (a9 : List (S101)) (a1 : Int) : Option (Int) := if 0 ≤ a1 then (if a1 < (a0.length : Int) then ((q1_IsName.f k ((rd_T96 a0 a1).f0)).bind fun j5 => (if j5 = true then (q4_node.l0 k a1 0 a0 a9 ((rd_T96 a0 a1).f0) ((rd_T96 a0 a1).f1) ((rd_T96 a0 a1).f2) ((rd_T96 a0 a1).f3)) else (some 2))) else (none)) else (none)
set_option maxHeartbeats 8000000 in
set_option maxRecDepth 100000 in
theorem q4_node.calls (k : Nat) (n3 : Option Addr) (c7 : Nat) (a0 : List (S96)) (c8 : Option Addr) (c5 : Nat) (a9 : List (S101)) (a1 : Int) (r : Int) (w : World) (o5 : Kd.C k96 w n3 a0.length a0) (o7 : a0.length ≤ c7) (o4 : Kd.C k101 w c8 a9.length a9) (o6 : a9.length ≤ c5) (h : q4_node.f k a0 a9 a1 = some r) :
  Calls Tryz.prog 88 #[.agg #[.slice n3 a0.length c7, .slice c8 a9.length c5], .int .i64 a1] w fun e w' => e = .returned (.int .i64 r) ∧ Below w.heap.size w w' := by
 have hu31 := Tryz.underlying31
 have hu96 := Tryz.underlying96
 have hu99 := Tryz.underlying99
 have h7 := Aside0.mk o5
 have A0 := Aside0.mk o7
 clear o5 o7
 have y8 := Aside0.mk o4
 have y9 := Aside0.mk o6
 clear o4 o6
 have HB := Aside0.mk (Below.refl w.heap.size w)
 have H : (if 0 ≤ a1 then (if a1 < (a0.length : Int) then ((q1_IsName.f k ((rd_T96 a0 a1).f0)).bind fun j5 => (if j5 = true then (q4_node.l0 k a1 0 a0 a9 ((rd_T96 a0 a1).f0) ((rd_T96 a0 a1).f1) ((rd_T96 a0 a1).f2) ((rd_T96 a0 a1).f3)) else (some 2))) else (none)) else (none)) = some r := h
 clear h
 obtain ⟨c3, H⟩ := itn H
 have C7 := decide_eq_true c3
 clear c3
 obtain ⟨c4, H⟩ := itn H
 have C6 := decide_eq_true c4
 clear c4
 obtain ⟨j5, A5, H⟩ := obA H
 by_cases c6 : j5 = true
 rotate_left
 ·replace c6 := Bool.eq_false_iff.mpr c6
  subst c6
  replace H := iff_ H
  obtain rfl := Option.some.inj H
  go_enter Tryz.func88, Tryz.ntmps88
  go_wp2_with (first | ((with_reducible refine gate_dst (N := 2) rfl ?_); (try (refine gate_guard (by rfl) ?_; dsimp only)); refine be 2 #[.slice n3 a0.length c7, .slice c8 a9.length c5] 31 ?_; intro b2 hg N2 hbox hb; have a2 := Aside0.mk (hbox); have p6 := bsz HB hg; replace HB := bstep HB hb; clear hb hbox hg; obtain ⟨G4, G3, D4, D3⟩ := cz2 a2; have g7 : 0 ≤ a1 := odt; have g6 : a1 < (a0.length : Int) := odt; obtain ⟨b4, b6, b5, o2, c2, c1, c0, b9, e3, e9⟩ := at_T96 h7.out a1 g7 g6; cases o2; replace c2 := hxc HB c2; replace c1 := hxc HB c1; replace c0 := hxc HB c0; replace b9 := hxc HB b9; have t7 := Aside0.mk e9; have v2 := Aside0.mk e3; clear e9 e3; replace g7 := eq_true g7; replace g6 := eq_true g6) | ((with_reducible refine gate_dst (N := 5) rfl ?_); (try (refine gate_guard (by rfl) ?_; dsimp only)); refine be 5 #[.string (⟨#[]⟩ : ByteArray), .int .i64 0, .bool false, .slice none 0 0] 96 ?_; intro b1 hg N1 hbox hb; have a4 := Aside0.mk (hbox); have p5 := bsz HB hg; replace HB := bstep HB hb; have a7 := blt a2 hg; have a6 := bgt a2 hg; replace a2 := bkb a2 hb; clear hb hbox hg; have L1 := a6.out; have J2 := a7.out; obtain ⟨G2, G1, G0, F9, D2, D1, D0, C9⟩ := cz4 a4) | (go_at_call 109; (with_reducible refine (q1_IsName.calls k ((rd_T96 a0 a1).f0) false _ A5.out).mono ?_); rintro e N0 ⟨rfl, hb⟩; replace a2 := Aside0.mk (blk_below (g := b2) (o := .cells #[.slice (some b4) a0.length c7, .slice c8 a9.length c5] 31 (0, 0)) (bkF a2) hb); replace a4 := Aside0.mk (blk_below (g := b1) (o := .cells #[.string ((rd_T96 a0 a1).f0), .int .i64 ((rd_T96 a0 a1).f1), .bool ((rd_T96 a0 a1).f2), .slice b6 ((rd_T96 a0 a1).f3).length b5] 96 (0, 0)) (by (with_reducible repeat (first | refine dN ?_ _ | refine dR ?_ | refine dA ?_ _)); refine blk_put (cs := #[.string ((rd_T96 a0 a1).f0), .int .i64 ((rd_T96 a0 a1).f1), .bool ((rd_T96 a0 a1).f2), .slice none 0 0]) ?_ 3 _ rfl; refine blk_put (cs := #[.string ((rd_T96 a0 a1).f0), .int .i64 ((rd_T96 a0 a1).f1), .bool false, .slice none 0 0]) ?_ 2 _ rfl; refine blk_put (cs := #[.string ((rd_T96 a0 a1).f0), .int .i64 0, .bool false, .slice none 0 0]) ?_ 1 _ rfl; refine blk_put (cs := #[.string (⟨#[]⟩ : ByteArray), .int .i64 0, .bool false, .slice none 0 0]) ?_ 0 _ rfl; (with_reducible repeat (first | refine dN ?_ _ | refine dR ?_ | refine dA ?_ _)); exact a4.out) hb); replace HB := bstep HB hb; (try clear hb); (try clear hb2); (try clear hk); (try clear hi)))
  repeat (go_quiet (fail); try go_wp2_with (fail))
  go_ret
  exact ⟨erf, bb HB⟩
 subst c6
 replace H := ift H
 have H' := Aside0.mk H
 clear H
 go_enter Tryz.func88, Tryz.ntmps88
 go_wp2_with (first | ((with_reducible refine gate_dst (N := 2) rfl ?_); (try (refine gate_guard (by rfl) ?_; dsimp only)); refine be 2 #[.slice n3 a0.length c7, .slice c8 a9.length c5] 31 ?_; intro b2 hg w7 hbox hb; have a2 := Aside0.mk (hbox); have p6 := bsz HB hg; replace HB := bstep HB hb; clear hb hbox hg; obtain ⟨w0, v7, v5, v4⟩ := cz2 a2; have g7 : 0 ≤ a1 := odt; have g6 : a1 < (a0.length : Int) := odt; obtain ⟨b4, b6, b5, o2, c2, c1, c0, b9, e3, e9⟩ := at_T96 h7.out a1 g7 g6; cases o2; replace c2 := hxc HB c2; replace c1 := hxc HB c1; replace c0 := hxc HB c0; replace b9 := hxc HB b9; have t7 := Aside0.mk e9; have v2 := Aside0.mk e3; clear e9 e3; replace g7 := eq_true g7; replace g6 := eq_true g6) | ((with_reducible refine gate_dst (N := 5) rfl ?_); (try (refine gate_guard (by rfl) ?_; dsimp only)); refine be 5 #[.string (⟨#[]⟩ : ByteArray), .int .i64 0, .bool false, .slice none 0 0] 96 ?_; intro b1 hg w9 hbox hb; have a4 := Aside0.mk (hbox); have p5 := bsz HB hg; replace HB := bstep HB hb; have a7 := blt a2 hg; have a6 := bgt a2 hg; replace a2 := bkb a2 hb; clear hb hbox hg; have L9 := a6.out; have L0 := a7.out; obtain ⟨t3, t2, t1, t0, r9, r8, r7, r6⟩ := cz4 a4) | (go_at_call 109; (with_reducible refine (q1_IsName.calls k ((rd_T96 a0 a1).f0) true _ A5.out).mono ?_); rintro e N8 ⟨rfl, hb⟩; replace a2 := Aside0.mk (blk_below (g := b2) (o := .cells #[.slice (some b4) a0.length c7, .slice c8 a9.length c5] 31 (0, 0)) (bkF a2) hb); replace a4 := Aside0.mk (blk_below (g := b1) (o := .cells #[.string ((rd_T96 a0 a1).f0), .int .i64 ((rd_T96 a0 a1).f1), .bool ((rd_T96 a0 a1).f2), .slice b6 ((rd_T96 a0 a1).f3).length b5] 96 (0, 0)) (by (with_reducible repeat (first | refine dN ?_ _ | refine dR ?_ | refine dA ?_ _)); refine blk_put (cs := #[.string ((rd_T96 a0 a1).f0), .int .i64 ((rd_T96 a0 a1).f1), .bool ((rd_T96 a0 a1).f2), .slice none 0 0]) ?_ 3 _ rfl; refine blk_put (cs := #[.string ((rd_T96 a0 a1).f0), .int .i64 ((rd_T96 a0 a1).f1), .bool false, .slice none 0 0]) ?_ 2 _ rfl; refine blk_put (cs := #[.string ((rd_T96 a0 a1).f0), .int .i64 0, .bool false, .slice none 0 0]) ?_ 1 _ rfl; refine blk_put (cs := #[.string (⟨#[]⟩ : ByteArray), .int .i64 0, .bool false, .slice none 0 0]) ?_ 0 _ rfl; (with_reducible repeat (first | refine dN ?_ _ | refine dR ?_ | refine dA ?_ _)); exact a4.out) hb); replace HB := bstep HB hb; (try clear hb); (try clear hb2); (try clear hk); (try clear hi)))
 repeat (go_quiet (fail); try go_wp2_with (fail))
 go_loopg [6] k (fun kq v6 w' => ∃ (b7 : Int), v6 = .int .i64 b7 ∧ Aside0 (q4_node.l0 kq a1 b7 a0 a9 ((rd_T96 a0 a1).f0) ((rd_T96 a0 a1).f1) ((rd_T96 a0 a1).f2) ((rd_T96 a0 a1).f3) = some r) ∧ Aside0 (kq ≤ k) ∧ Aside0 (w'.heap[b2]? = some (.cells #[(.slice (some b4) a0.length c7), (.slice c8 a9.length c5)] 31 (0, 0))) ∧ Aside0 (w'.heap[b1]? = some (.cells #[.string ((rd_T96 a0 a1).f0), .int .i64 ((rd_T96 a0 a1).f1), .bool ((rd_T96 a0 a1).f2), (.slice b6 ((rd_T96 a0 a1).f3).length b5)] 96 (0, 0))) ∧ Aside0 (Below w.heap.size w w'))
 case atStart => exact ⟨(0), eqs, H', ⟨Nat.le_refl _⟩, ⟨bk a2⟩, ⟨bk a4⟩, ⟨bb HB⟩⟩
 case round =>
  clear H'
  clear C7
  clear C6
  clear t3
  clear t2
  clear t1
  clear t0
  clear w0
  clear v7
  clear r9
  clear r8
  clear r7
  clear r6
  clear v5
  clear v4
  clear c2
  clear c1
  clear c0
  clear b9
  clear g7
  clear g6
  obtain ⟨b7, rfl, HA, j4, a2, a4, HB⟩ := hrel
  cases gk with
  | zero => exact absurd HA.out (by simp [q4_node.l0])
  | succ k1 =>
   have H := HA.out
   clear HA
   simp only [q4_node.l0] at H
   by_cases m6 : b7 < a1
   ·rw [if_pos m6] at H
    have p2 := decide_eq_true m6
    clear m6
    obtain ⟨C1, H⟩ := itn H
    have M7 := decide_eq_true C1
    clear C1
    obtain ⟨C0, H⟩ := itn H
    have M6 := decide_eq_true C0
    clear C0
    by_cases j8 : ((rd_T96 a0 b7).f0).toList = ((rd_T96 a0 a1).f0).toList
    ·rw [if_pos j8] at H
     have y7 := beq_iff_eq.mpr j8
     have y6 := bne_eq_false_iff_eq.mpr j8
     clear j8
     obtain rfl := Option.some.inj H
     have L8 := a7.out
     have J9 := a6.out
     obtain ⟨I8, I7, F8, F7⟩ := cz2 a2
     have h2 : 0 ≤ b7 := odt
     have h1 : b7 < (a0.length : Int) := odt
     obtain ⟨n0, x3, w6, o1, d7, d6, d5, d4, e2, e8⟩ := at_T96 h7.out b7 h2 h1
     obtain rfl : b4 = n0 := (by injection o1)
     replace d7 := hxc HB d7
     replace d6 := hxc HB d6
     replace d5 := hxc HB d5
     replace d4 := hxc HB d4
     have t6 := Aside0.mk e8
     have v1 := Aside0.mk e2
     clear e8 e2
     replace h2 := eq_true h2
     replace h1 := eq_true h1
     obtain ⟨I6, I5, I4, I3, F6, F5, F4, F3⟩ := cz4 a4
     go_wp2
     repeat (go_quiet (fail); try go_wp2)
     go_ret
     exact ⟨erf, bb HB⟩
    rw [if_neg j8] at H
    have y7 := beq_eq_false_iff_ne.mpr j8
    have y6 := bne_iff_ne.mpr j8
    have H' := Aside0.mk H
    clear H
    have L7 := a7.out
    have J8 := a6.out
    obtain ⟨I2, I1, F2, F1⟩ := cz2 a2
    have h2 : 0 ≤ b7 := odt
    have h1 : b7 < (a0.length : Int) := odt
    obtain ⟨n0, x3, w6, o1, d7, d6, d5, d4, e2, e8⟩ := at_T96 h7.out b7 h2 h1
    obtain rfl : b4 = n0 := (by injection o1)
    replace d7 := hxc HB d7
    replace d6 := hxc HB d6
    replace d5 := hxc HB d5
    replace d4 := hxc HB d4
    have t6 := Aside0.mk e8
    have v1 := Aside0.mk e2
    clear e8 e2
    replace h2 := eq_true h2
    replace h1 := eq_true h1
    obtain ⟨I0, H9, H8, H7, F0, E9, E8, E7⟩ := cz4 a4
    go_wp2
    repeat (go_quiet (fail); try go_wp2)
    go_roundg k1
    case measure => have := j4.out; omega
    case rel => exact ⟨(wrap64 (b7 + 1)), eqs, H', ⟨by have := j4.out; omega⟩, ⟨bk a2⟩, ⟨bk a4⟩, ⟨bb HB⟩⟩
   rw [if_neg m6] at H
   have p2 := decide_eq_false m6
   clear m6
   obtain ⟨n6, C4, H⟩ := obA H
   by_cases p1 : n6 = true
   rotate_left
   ·replace p1 := Bool.eq_false_iff.mpr p1
    subst p1
    replace H := iff_ H
    obtain rfl := Option.some.inj H
    have L2 := a6.out
    have J3 := a7.out
    obtain ⟨G8, G7, G6, G5, D8, D7, D6, D5⟩ := cz4 a4
    go_wp2_with (go_at_call 90; (with_reducible refine (q4_in.calls ((rd_T96 a0 a1).f1) (-1) (wrap64 (a1 - 1)) false _ C4.out).mono ?_); rintro e w' ⟨rfl, ⟨nd, rfl⟩⟩; (try first | exact ⟨rfl, _, World.drewN_drewN _ _ _⟩ | exact ⟨rfl, _, Eq.trans (World.drewN_drewN _ _ _) (congrArg (World.drewN _) (Nat.add_assoc _ _ _))⟩))
    repeat (go_quiet (fail); try go_wp2_with (fail))
    go_ret
    exact ⟨erf, bb HB⟩
   subst p1
   replace H := ift H
   obtain ⟨a5, J1, H⟩ := obA H
   have o3 := Aside0.mk H
   clear H
   have L6 := a6.out
   have J7 := a7.out
   obtain ⟨s9, s8, s7, s6, r5, r4, r3, r2⟩ := cz4 a4
   go_upto_region 12 with (first | (go_at_call 90; (with_reducible refine (q4_in.calls ((rd_T96 a0 a1).f1) (-1) (wrap64 (a1 - 1)) true _ C4.out).mono ?_); rintro e w' ⟨rfl, ⟨nd, rfl⟩⟩; (try first | exact ⟨rfl, _, World.drewN_drewN _ _ _⟩ | exact ⟨rfl, _, Eq.trans (World.drewN_drewN _ _ _) (congrArg (World.drewN _) (Nat.add_assoc _ _ _))⟩); obtain ⟨s5, s4, r1, r0⟩ := cz2 a2) | (go_at_call 110; (with_reducible refine (q4_attrs.calls k1 (fun k_ => k_ < w.heap.size) _ _ a0 _ _ a9 a1 a5 _ ?h5 ?h4 ?x4 J1.out).mono ?_); (case h5 => exact Kd.V_mk A0.out (Kd.F_below (Kd.C_F k96_heap h7.out) (bb HB))); (case h4 => repeat (first | exact (Kd.C_below y8.out (bb HB)) | (with_reducible refine Kd.C_alloc ?_ _) | (with_reducible refine Kd.C_drewN ?_ _) | (with_reducible refine Kd.C_drew ?_))); (case x4 => exact y9.out); rintro e N7 ⟨C5, rfl, A1, hb⟩; have n1 := Aside0.mk (Kd.N_lower (Kd.N_mono (ok' := fun k_ => k_ ≠ b2 ∧ k_ ≠ b1) A1 (fun k_ hk_ => ⟨Or.elim hk_ (fun hs_ => fun e_ => Nat.not_le.2 hs_ (by rw [e_]; exact p6.out)) (fun hn_ => (Kd.freshB (g := b2) (o := .cells #[.slice (some b4) a0.length c7, .slice c8 a9.length c5] 31 (0, 0)) (bk a2) k_ hn_)), Or.elim hk_ (fun hs_ => fun e_ => Nat.not_le.2 hs_ (by rw [e_]; exact p5.out)) (fun hn_ => (Kd.freshB (g := b1) (o := .cells #[.string ((rd_T96 a0 a1).f0), .int .i64 ((rd_T96 a0 a1).f1), .bool ((rd_T96 a0 a1).f2), .slice b6 ((rd_T96 a0 a1).f3).length b5] 96 (0, 0)) (bk a4) k_ hn_))⟩)) (below_size (bb HB))); replace a2 := bkb a2 hb; replace a4 := bkb a4 hb; replace HB := bstep HB hb; (try clear hb); (try clear hb2); (try clear hk); (try clear hi); (try clear A1)))
   repeat (go_quiet (fail); go_upto_region 12 with (fail))
   (try simp only [Act.put, List.setIfInBounds_toArray, List.set_cons_zero, List.set_cons_succ])
   go_cut [51] (fun J0 wc => ∃ (kq : Nat) (h3 : Bool), J0 = .bool h3 ∧ Aside0 (q4_node.j1 kq a5 h3 ((rd_T96 a0 a1).f0) ((rd_T96 a0 a1).f1) ((rd_T96 a0 a1).f2) ((rd_T96 a0 a1).f3) = some r) ∧ Aside0 (kq ≤ k1) ∧ Aside0 (Kd.N k99 99 wc w.heap.size (fun k_ => k_ ≠ b2 ∧ k_ ≠ b1) C5 a5) ∧ Aside0 (wc.heap[b2]? = some (.cells #[(.slice (some b4) a0.length c7), (.slice c8 a9.length c5)] 31 (0, 0))) ∧ Aside0 (wc.heap[b1]? = some (.cells #[.string ((rd_T96 a0 a1).f0), .int .i64 ((rd_T96 a0 a1).f1), .bool ((rd_T96 a0 a1).f2), (.slice b6 ((rd_T96 a0 a1).f3).length b5)] 96 (0, 0))) ∧ Aside0 (Below w.heap.size w wc))
   case first =>
    have H := o3.out
    clear o3
    by_cases m5 : (((rd_T96 a0 a1).f3).length : Int) > 4
    ·rw [if_pos m5] at H
     have h6 : decide (4 < (((rd_T96 a0 a1).f3).length : Int)) = true := decide_eq_true m5
     have y5 : decide (4 < ((rd_T96 a0 a1).f3).length) = true := decide_eq_true (by omega)
     clear m5
     (first | rw [h6] | (simp only [i64_w, i32_w]; rw [h6]) | skip)
     have H' := Aside0.mk H
     clear H
     have L5 := a6.out
     have J6 := a7.out
     obtain ⟨H6, H5, H4, H3, E6, E5, E4, E3⟩ := cz4 a4
     go_wp2
     repeat (go_quiet (fail); try go_wp2)
     go_meet
     case rel => exact ⟨_, (true), eqs, H', ⟨by have := j4.out; first | omega | exact Nat.le_refl _⟩, ⟨kN n1⟩, ⟨bk a2⟩, ⟨bk a4⟩, ⟨bb HB⟩⟩
    rw [if_neg m5] at H
    have h6 : decide (4 < (((rd_T96 a0 a1).f3).length : Int)) = false := decide_eq_false m5
    have y5 : decide (4 < ((rd_T96 a0 a1).f3).length) = false := decide_eq_false (by omega)
    clear m5
    (first | rw [h6] | (simp only [i64_w, i32_w]; rw [h6]) | skip)
    have H' := Aside0.mk H
    clear H
    have L4 := a6.out
    have J5 := a7.out
    obtain ⟨H2, H1, H0, G9, E2, E1, E0, D9⟩ := cz4 a4
    obtain ⟨M9, M8, eo36⟩ := Kd.N_slice n1.out
    subst eo36
    go_wp2
    repeat (go_quiet (fail); try go_wp2)
    go_meet
    case rel => exact ⟨_, (decide ((a5.length : Int) > 8)), eqs, H', ⟨by have := j4.out; first | omega | exact Nat.le_refl _⟩, ⟨kN n1⟩, ⟨bk a2⟩, ⟨bk a4⟩, ⟨bb HB⟩⟩
   case rest =>
    clear o3
    clear p2
    clear s9
    clear s8
    clear s7
    clear s6
    clear s5
    clear s4
    clear r5
    clear r4
    clear r3
    clear r2
    clear r1
    clear r0
    obtain ⟨kq, h3, rfl, HA, n2, HO_7, a2, a4, HB⟩ := hcut
    cases kq with
    | zero => exact absurd HA.out (by simp [q4_node.j1])
    | succ v3 =>
     have H := HA.out
     clear HA
     simp only [q4_node.j1] at H
     by_cases p0 : h3 = true
     ·subst p0
      replace H := ift H
      obtain rfl := Option.some.inj H
      go_wp2
      repeat (go_quiet (fail); try go_wp2)
      go_ret
      exact ⟨erf, bb HB⟩
     replace p0 := Bool.eq_false_iff.mpr p0
     subst p0
     replace H := iff_ H
     have H' := Aside0.mk H
     clear H
     obtain ⟨C8, w1, eo38⟩ := Kd.N_slice HO_7.out
     subst eo38
     have L3 := a6.out
     have J4 := a7.out
     obtain ⟨s3, s2, s1, s0, q9, q8, q7, q6⟩ := cz4 a4
     go_wp2
     repeat (go_quiet (fail); try go_wp2)
     go_loopg [8] v3 (fun kq v8 w' => ∃ (a3 : Int), v8 = .int .i64 a3 ∧ Aside0 (q4_node.l1 kq a5 a3 = some r) ∧ Aside0 (kq ≤ v3) ∧ Aside0 (Kd.N k99 99 w' w.heap.size (fun k_ => k_ ≠ b2 ∧ k_ ≠ b1) (.slice C8 a5.length w1) a5) ∧ Aside0 (w'.heap[b2]? = some (.cells #[(.slice (some b4) a0.length c7), (.slice c8 a9.length c5)] 31 (0, 0))) ∧ Aside0 (w'.heap[b1]? = some (.cells #[.string ((rd_T96 a0 a1).f0), .int .i64 ((rd_T96 a0 a1).f1), .bool ((rd_T96 a0 a1).f2), (.slice b6 ((rd_T96 a0 a1).f3).length b5)] 96 (0, 0))) ∧ Aside0 (Below w.heap.size w w'))
     case atStart => exact ⟨(wrap64 ((a5.length : Int) - (((rd_T96 a0 a1).f3).length : Int))), eqs, H', ⟨Nat.le_refl _⟩, ⟨kN HO_7⟩, ⟨bk a2⟩, ⟨bk a4⟩, ⟨bb HB⟩⟩
     case round =>
      clear H'
      clear s3
      clear s2
      clear s1
      clear s0
      clear q9
      clear q8
      clear q7
      clear q6
      obtain ⟨a3, rfl, HA, p4, HO_7, a2, a4, HB⟩ := hrel
      cases gk with
      | zero => exact absurd HA.out (by simp [q4_node.l1])
      | succ k3 =>
       have H := HA.out
       clear HA
       simp only [q4_node.l1] at H
       by_cases m4 : a3 < (a5.length : Int)
       rotate_left
       ·rw [if_neg m4] at H
        have o9 := decide_eq_false m4
        clear m4
        obtain rfl := Option.some.inj H
        go_wp2
        repeat (go_quiet (fail); try go_wp2)
        go_ret
        exact ⟨erf, bb HB⟩
       rw [if_pos m4] at H
       have o9 := decide_eq_true m4
       clear m4
       obtain ⟨A9, H⟩ := itn H
       have y4 := decide_eq_true A9
       clear A9
       obtain ⟨n5, C3, H⟩ := obA H
       by_cases o8 : n5 = true
       rotate_left
       ·replace o8 := Bool.eq_false_iff.mpr o8
        subst o8
        replace H := iff_ H
        obtain rfl := Option.some.inj H
        have d1 : 0 ≤ a3 := odt
        have d0 : a3 < (a5.length : Int) := odt
        obtain ⟨c9, n4, w5, o0, m2, m1, m0, h0, e1, e7⟩ := at_T99 (Kd.N_reads' HO_7.out).2.2 a3 d1 d0
        cases o0
        obtain ⟨ce460, hce460, hMe460, hcc460⟩ := Kd.N_get HO_7.out z99 a3 d1 (by first | exact d0 | exact odt | (have e_ := (Kd.N_reads' HO_7.out).1; omega))
        obtain ⟨ua460_3, uc460_3, rfl, ul460_3, ge460_3⟩ := k99_openF hMe460
        have hv460_3 := hcc460 3 _ rfl
        rw [add_field _ _ 3 (by omega)] at hv460_3
        replace hv460_3 := Option.some.inj (hv460_3.symm.trans h0)
        injection hv460_3 with hva_ hvn_ hvc_
        rw [hva_] at ge460_3
        rw [hvc_] at ul460_3
        have HL460_3 := Aside0.mk (show Kd.V Kd.string 9 _ w.heap.size _ _ ((rd_T99 a5 a3).f3) from Kd.V_mk ul460_3 ge460_3)
        clear hva_ hvn_ hvc_ ge460_3 ul460_3 hcc460 hce460
        have a8 := Aside0.mk e7
        have v0 := Aside0.mk e1
        clear e7 e1
        replace d1 := eq_true d1
        replace d0 := eq_true d0
        go_wp2_with (go_at_call 109; (with_reducible refine (q1_IsName.calls k3 ((rd_T99 a5 a3).f0) false _ C3.out).mono ?_); rintro e N3 ⟨rfl, hb⟩; replace HO_7 := kNb HO_7 hb; replace HL460_3 := kVb HL460_3 hb; replace a2 := bkb a2 hb; replace a4 := bkb a4 hb; replace a8 := kCb a8 hb; replace HB := bstep HB hb; (try clear hb); (try clear hb2); (try clear hk); (try clear hi))
        repeat (go_quiet (fail); try go_wp2_with (fail))
        go_ret
        exact ⟨erf, bb HB⟩
       subst o8
       replace H := ift H
       have H' := Aside0.mk H
       clear H
       have d1 : 0 ≤ a3 := odt
       have d0 : a3 < (a5.length : Int) := odt
       obtain ⟨c9, n4, w5, o0, m2, m1, m0, h0, e1, e7⟩ := at_T99 (Kd.N_reads' HO_7.out).2.2 a3 d1 d0
       cases o0
       obtain ⟨ce460, hce460, hMe460, hcc460⟩ := Kd.N_get HO_7.out z99 a3 d1 (by first | exact d0 | exact odt | (have e_ := (Kd.N_reads' HO_7.out).1; omega))
       obtain ⟨ua460_3, uc460_3, rfl, ul460_3, ge460_3⟩ := k99_openF hMe460
       have hv460_3 := hcc460 3 _ rfl
       rw [add_field _ _ 3 (by omega)] at hv460_3
       replace hv460_3 := Option.some.inj (hv460_3.symm.trans h0)
       injection hv460_3 with hva_ hvn_ hvc_
       rw [hva_] at ge460_3
       rw [hvc_] at ul460_3
       have HL460_3 := Aside0.mk (show Kd.V Kd.string 9 _ w.heap.size _ _ ((rd_T99 a5 a3).f3) from Kd.V_mk ul460_3 ge460_3)
       clear hva_ hvn_ hvc_ ge460_3 ul460_3 hcc460 hce460
       have a8 := Aside0.mk e7
       have v0 := Aside0.mk e1
       clear e7 e1
       replace d1 := eq_true d1
       replace d0 := eq_true d0
       go_wp2_with (go_at_call 109; (with_reducible refine (q1_IsName.calls k3 ((rd_T99 a5 a3).f0) true _ C3.out).mono ?_); rintro e N6 ⟨rfl, hb⟩; replace HO_7 := kNb HO_7 hb; replace HL460_3 := kVb HL460_3 hb; replace a2 := bkb a2 hb; replace a4 := bkb a4 hb; replace a8 := kCb a8 hb; replace HB := bstep HB hb; (try clear hb); (try clear hb2); (try clear hk); (try clear hi))
       repeat (go_quiet (fail); try go_wp2_with (fail))
       go_loopg [9] k3 (fun kq v9 w' => ∃ (b0 : Int), v9 = .int .i64 b0 ∧ Aside0 (q4_node.l2 kq a5 a3 b0 = some r) ∧ Aside0 (kq ≤ k3) ∧ Aside0 (Kd.N k99 99 w' w.heap.size (fun k_ => k_ ≠ b2 ∧ k_ ≠ b1) (.slice (some c9) a5.length w1) a5) ∧ Aside0 (w'.heap[b2]? = some (.cells #[(.slice (some b4) a0.length c7), (.slice c8 a9.length c5)] 31 (0, 0))) ∧ Aside0 (w'.heap[b1]? = some (.cells #[.string ((rd_T96 a0 a1).f0), .int .i64 ((rd_T96 a0 a1).f1), .bool ((rd_T96 a0 a1).f2), (.slice b6 ((rd_T96 a0 a1).f3).length b5)] 96 (0, 0))) ∧ Aside0 (Kd.C Kd.string w' n4 ((rd_T99 a5 a3).f3).length ((rd_T99 a5 a3).f3)) ∧ Aside0 (Below w.heap.size w w'))
       case atStart => exact ⟨(0), eqs, H', ⟨Nat.le_refl _⟩, ⟨kN HO_7⟩, ⟨bk a2⟩, ⟨bk a4⟩, ⟨kC a8⟩, ⟨bb HB⟩⟩
       case round =>
        clear H'
        clear o9
        clear y4
        clear m2
        clear m1
        clear m0
        clear h0
        clear d1
        clear d0
        obtain ⟨b0, rfl, HA, p3, HO_7, a2, a4, a8, HB⟩ := hrel
        cases gk with
        | zero => exact absurd HA.out (by simp [q4_node.l2])
        | succ k4 =>
         have H := HA.out
         clear HA
         simp only [q4_node.l2] at H
         by_cases m3 : b0 < a3
         rotate_left
         ·rw [if_neg m3] at H
          have y3 := decide_eq_false m3
          clear m3
          obtain ⟨A3, H⟩ := itn H
          have M1 := decide_eq_true A3
          clear A3
          obtain ⟨A2, H⟩ := itn H
          have M0 := decide_eq_true A2
          clear A2
          obtain ⟨h8, C2, H⟩ := obA H
          by_cases j6 : h8 = 0
          rotate_left
          ·rw [if_neg j6] at H
           have y0 := beq_eq_false_iff_ne.mpr j6
           have x5 := bne_iff_ne.mpr j6
           obtain rfl := Option.some.inj H
           have g3 : 0 ≤ a3 := odt
           have g0 : a3 < (a5.length : Int) := odt
           obtain ⟨m7, w8, w2, n7, p9, p8, p7, h9, d8, e4⟩ := at_T99 (Kd.N_reads' HO_7.out).2.2 a3 g3 g0
           obtain rfl : c9 = m7 := (by injection n7)
           obtain ⟨ce464, hce464, hMe464, hcc464⟩ := Kd.N_get HO_7.out z99 a3 g3 (by first | exact g0 | exact odt | (have e_ := (Kd.N_reads' HO_7.out).1; omega))
           obtain ⟨ua464_3, uc464_3, rfl, ul464_3, ge464_3⟩ := k99_openF hMe464
           have hv464_3 := hcc464 3 _ rfl
           rw [add_field _ _ 3 (by omega)] at hv464_3
           replace hv464_3 := Option.some.inj (hv464_3.symm.trans h9)
           injection hv464_3 with hva_ hvn_ hvc_
           rw [hva_] at ge464_3
           rw [hvc_] at ul464_3
           have HL464_3 := Aside0.mk (show Kd.V Kd.string 9 _ w.heap.size _ _ ((rd_T99 a5 a3).f3) from Kd.V_mk ul464_3 ge464_3)
           clear hva_ hvn_ hvc_ ge464_3 ul464_3 hcc464 hce464
           have b3 := Aside0.mk e4
           have j3 := Aside0.mk d8
           clear e4 d8
           replace g3 := eq_true g3
           replace g0 := eq_true g0
           go_wp2_with (go_at_call 111; (with_reducible refine (q4_attribute.calls k4 ((rd_T99 a5 a3).f0) ((rd_T99 a5 a3).f1) ((rd_T99 a5 a3).f2) _ _ ((rd_T99 a5 a3).f3) h8 _ ?h5 ?h4 C2.out).mono ?_); (case h5 => repeat (first | exact (kC b3) | (with_reducible refine Kd.C_alloc ?_ _) | (with_reducible refine Kd.C_drewN ?_ _) | (with_reducible refine Kd.C_drew ?_))); (case h4 => exact j3.out); rintro e N4 ⟨rfl, hb⟩; replace HO_7 := kNb HO_7 hb; replace HL464_3 := kVb HL464_3 hb; replace a2 := bkb a2 hb; replace a4 := bkb a4 hb; replace a8 := kCb a8 hb; replace b3 := kCb b3 hb; replace HB := bstep HB hb; (try clear hb); (try clear hb2); (try clear hk); (try clear hi))
           repeat (go_quiet (fail); try go_wp2_with (fail))
           go_ret
           exact ⟨erf, bb HB⟩
          rw [if_pos j6] at H
          have y0 := beq_iff_eq.mpr j6
          have x5 := bne_eq_false_iff_eq.mpr j6
          clear j6
          have H' := Aside0.mk H
          clear H
          have g3 : 0 ≤ a3 := odt
          have g0 : a3 < (a5.length : Int) := odt
          obtain ⟨m7, w8, w2, n7, p9, p8, p7, h9, d8, e4⟩ := at_T99 (Kd.N_reads' HO_7.out).2.2 a3 g3 g0
          obtain rfl : c9 = m7 := (by injection n7)
          obtain ⟨ce464, hce464, hMe464, hcc464⟩ := Kd.N_get HO_7.out z99 a3 g3 (by first | exact g0 | exact odt | (have e_ := (Kd.N_reads' HO_7.out).1; omega))
          obtain ⟨ua464_3, uc464_3, rfl, ul464_3, ge464_3⟩ := k99_openF hMe464
          have hv464_3 := hcc464 3 _ rfl
          rw [add_field _ _ 3 (by omega)] at hv464_3
          replace hv464_3 := Option.some.inj (hv464_3.symm.trans h9)
          injection hv464_3 with hva_ hvn_ hvc_
          rw [hva_] at ge464_3
          rw [hvc_] at ul464_3
          have HL464_3 := Aside0.mk (show Kd.V Kd.string 9 _ w.heap.size _ _ ((rd_T99 a5 a3).f3) from Kd.V_mk ul464_3 ge464_3)
          clear hva_ hvn_ hvc_ ge464_3 ul464_3 hcc464 hce464
          have b3 := Aside0.mk e4
          have j3 := Aside0.mk d8
          clear e4 d8
          replace g3 := eq_true g3
          replace g0 := eq_true g0
          go_wp2_with (go_at_call 111; (with_reducible refine (q4_attribute.calls k4 ((rd_T99 a5 a3).f0) ((rd_T99 a5 a3).f1) ((rd_T99 a5 a3).f2) _ _ ((rd_T99 a5 a3).f3) h8 _ ?h5 ?h4 C2.out).mono ?_); (case h5 => repeat (first | exact (kC b3) | (with_reducible refine Kd.C_alloc ?_ _) | (with_reducible refine Kd.C_drewN ?_ _) | (with_reducible refine Kd.C_drew ?_))); (case h4 => exact j3.out); rintro e N5 ⟨rfl, hb⟩; replace HO_7 := kNb HO_7 hb; replace HL464_3 := kVb HL464_3 hb; replace a2 := bkb a2 hb; replace a4 := bkb a4 hb; replace a8 := kCb a8 hb; replace b3 := kCb b3 hb; replace HB := bstep HB hb; (try clear hb); (try clear hb2); (try clear hk); (try clear hi))
          repeat (go_quiet (fail); try go_wp2_with (fail))
          go_roundg k4
          case measure => have := j4.out; have := n2.out; have := p4.out; have := p3.out; omega
          case rel => exact ⟨(wrap64 (a3 + 1)), eqs, H', ⟨by have := j4.out; have := n2.out; have := p4.out; have := p3.out; omega⟩, ⟨kN HO_7⟩, ⟨bk a2⟩, ⟨bk a4⟩, ⟨bb HB⟩⟩
         rw [if_pos m3] at H
         have y3 := decide_eq_true m3
         clear m3
         obtain ⟨A8, H⟩ := itn H
         have M5 := decide_eq_true A8
         clear A8
         obtain ⟨A7, H⟩ := itn H
         have M4 := decide_eq_true A7
         clear A7
         obtain ⟨A6, H⟩ := itn H
         have M3 := decide_eq_true A6
         clear A6
         obtain ⟨A4, H⟩ := itn H
         have M2 := decide_eq_true A4
         clear A4
         by_cases j7 : ((rd_T99 a5 b0).f0).toList = ((rd_T99 a5 a3).f0).toList
         ·rw [if_pos j7] at H
          have y2 := beq_iff_eq.mpr j7
          have y1 := bne_eq_false_iff_eq.mpr j7
          clear j7
          obtain rfl := Option.some.inj H
          have g5 : 0 ≤ b0 := odt
          have g2 : b0 < (a5.length : Int) := odt
          obtain ⟨m9, x2, w4, n9, q5, q4, q3, j2, e0, e6⟩ := at_T99 (Kd.N_reads' HO_7.out).2.2 b0 g5 g2
          obtain rfl : c9 = m9 := (by injection n9)
          obtain ⟨ce462, hce462, hMe462, hcc462⟩ := Kd.N_get HO_7.out z99 b0 g5 (by first | exact g2 | exact odt | (have e_ := (Kd.N_reads' HO_7.out).1; omega))
          obtain ⟨ua462_3, uc462_3, rfl, ul462_3, ge462_3⟩ := k99_openF hMe462
          have hv462_3 := hcc462 3 _ rfl
          rw [add_field _ _ 3 (by omega)] at hv462_3
          replace hv462_3 := Option.some.inj (hv462_3.symm.trans j2)
          injection hv462_3 with hva_ hvn_ hvc_
          rw [hva_] at ge462_3
          rw [hvc_] at ul462_3
          have HL462_3 := Aside0.mk (show Kd.V Kd.string 9 _ w.heap.size _ _ ((rd_T99 a5 b0).f3) from Kd.V_mk ul462_3 ge462_3)
          clear hva_ hvn_ hvc_ ge462_3 ul462_3 hcc462 hce462
          have t5 := Aside0.mk e6
          have t9 := Aside0.mk e0
          clear e6 e0
          replace g5 := eq_true g5
          replace g2 := eq_true g2
          have g4 : 0 ≤ a3 := odt
          have g1 : a3 < (a5.length : Int) := odt
          obtain ⟨m8, x0, w3, n8, q2, q1, q0, j0, d9, e5⟩ := at_T99 (Kd.N_reads' HO_7.out).2.2 a3 g4 g1
          obtain rfl : c9 = m8 := (by injection n8)
          obtain ⟨ce463, hce463, hMe463, hcc463⟩ := Kd.N_get HO_7.out z99 a3 g4 (by first | exact g1 | exact odt | (have e_ := (Kd.N_reads' HO_7.out).1; omega))
          obtain ⟨ua463_3, uc463_3, rfl, ul463_3, ge463_3⟩ := k99_openF hMe463
          have hv463_3 := hcc463 3 _ rfl
          rw [add_field _ _ 3 (by omega)] at hv463_3
          replace hv463_3 := Option.some.inj (hv463_3.symm.trans j0)
          injection hv463_3 with hva_ hvn_ hvc_
          rw [hva_] at ge463_3
          rw [hvc_] at ul463_3
          have HL463_3 := Aside0.mk (show Kd.V Kd.string 9 _ w.heap.size _ _ ((rd_T99 a5 a3).f3) from Kd.V_mk ul463_3 ge463_3)
          clear hva_ hvn_ hvc_ ge463_3 ul463_3 hcc463 hce463
          have t4 := Aside0.mk e5
          have t8 := Aside0.mk d9
          clear e5 d9
          replace g4 := eq_true g4
          replace g1 := eq_true g1
          go_wp2
          repeat (go_quiet (fail); try go_wp2)
          go_ret
          exact ⟨erf, bb HB⟩
         rw [if_neg j7] at H
         have y2 := beq_eq_false_iff_ne.mpr j7
         have y1 := bne_iff_ne.mpr j7
         have H' := Aside0.mk H
         clear H
         have g5 : 0 ≤ b0 := odt
         have g2 : b0 < (a5.length : Int) := odt
         obtain ⟨m9, x2, w4, n9, q5, q4, q3, j2, e0, e6⟩ := at_T99 (Kd.N_reads' HO_7.out).2.2 b0 g5 g2
         obtain rfl : c9 = m9 := (by injection n9)
         obtain ⟨ce462, hce462, hMe462, hcc462⟩ := Kd.N_get HO_7.out z99 b0 g5 (by first | exact g2 | exact odt | (have e_ := (Kd.N_reads' HO_7.out).1; omega))
         obtain ⟨ua462_3, uc462_3, rfl, ul462_3, ge462_3⟩ := k99_openF hMe462
         have hv462_3 := hcc462 3 _ rfl
         rw [add_field _ _ 3 (by omega)] at hv462_3
         replace hv462_3 := Option.some.inj (hv462_3.symm.trans j2)
         injection hv462_3 with hva_ hvn_ hvc_
         rw [hva_] at ge462_3
         rw [hvc_] at ul462_3
         have HL462_3 := Aside0.mk (show Kd.V Kd.string 9 _ w.heap.size _ _ ((rd_T99 a5 b0).f3) from Kd.V_mk ul462_3 ge462_3)
         clear hva_ hvn_ hvc_ ge462_3 ul462_3 hcc462 hce462
         have t5 := Aside0.mk e6
         have t9 := Aside0.mk e0
         clear e6 e0
         replace g5 := eq_true g5
         replace g2 := eq_true g2
         have g4 : 0 ≤ a3 := odt
         have g1 : a3 < (a5.length : Int) := odt
         obtain ⟨m8, x0, w3, n8, q2, q1, q0, j0, d9, e5⟩ := at_T99 (Kd.N_reads' HO_7.out).2.2 a3 g4 g1
         obtain rfl : c9 = m8 := (by injection n8)
         obtain ⟨ce463, hce463, hMe463, hcc463⟩ := Kd.N_get HO_7.out z99 a3 g4 (by first | exact g1 | exact odt | (have e_ := (Kd.N_reads' HO_7.out).1; omega))
         obtain ⟨ua463_3, uc463_3, rfl, ul463_3, ge463_3⟩ := k99_openF hMe463
         have hv463_3 := hcc463 3 _ rfl
         rw [add_field _ _ 3 (by omega)] at hv463_3
         replace hv463_3 := Option.some.inj (hv463_3.symm.trans j0)
         injection hv463_3 with hva_ hvn_ hvc_
         rw [hva_] at ge463_3
         rw [hvc_] at ul463_3
         have HL463_3 := Aside0.mk (show Kd.V Kd.string 9 _ w.heap.size _ _ ((rd_T99 a5 a3).f3) from Kd.V_mk ul463_3 ge463_3)
         clear hva_ hvn_ hvc_ ge463_3 ul463_3 hcc463 hce463
         have t4 := Aside0.mk e5
         have t8 := Aside0.mk d9
         clear e5 d9
         replace g4 := eq_true g4
         replace g1 := eq_true g1
         go_wp2
         repeat (go_quiet (fail); try go_wp2)
         go_roundg k4
         case measure => have := j4.out; have := n2.out; have := p4.out; have := p3.out; omega
         case rel => exact ⟨(wrap64 (b0 + 1)), eqs, H', ⟨by have := j4.out; have := n2.out; have := p4.out; have := p3.out; omega⟩, ⟨kN HO_7⟩, ⟨bk a2⟩, ⟨bk a4⟩, ⟨kC a8⟩, ⟨bb HB⟩⟩
end Go.Proofs.YtfpianecohobjaaGreat.P
