/- StatisticOf: a part of its proof. No condition. -/
import Derived.Test.YtfpianecohobjaaGreatXPx0
import Derived.Test.YtfpianecohobjaaGreatXMb
import Derived.Test.YtfpianecohobjaaGreatXPx24
namespace Go.Proofs.YtfpianecohobjaaGreat.P
open Go.RowKit Go.Proofs.YtfpianecohobjaaGreatW.PrintWords Go.Proofs.YtfpianecohobjaaGreatW.PrintLast Go.Proofs.YtfpianecohobjaaGreatW.PrintMore
set_option maxHeartbeats 8000000
set_option maxRecDepth 100000
set_option linter.unusedVariables false
set_option linter.unusedSimpArgs false
mutual
def q4_node.l0 : Nat → Int → Int → List (S96) → List (S101) → ByteArray → Int → Bool → List (S99) → Option (Int)
 | 0, _, _, _, _, _, _, _, _ => none
 | k + 1, x1, x6, g9, j9, d3, d2, g8, b8 => if x6 < x1 then (if 0 ≤ x6 then (if x6 < (g9.length : Int) then (if ((rd_T96 g9 x6).f0).toList = d3.toList then (some 5) else (q4_node.l0 k x1 (wrap64 (x6 + 1)) g9 j9 d3 d2 g8 b8)) else (none)) else (none)) else ((q4_in.f d2 (-1) (wrap64 (x1 - 1))).bind fun n6 => (if n6 = true then ((q4_attrs.f k g9 j9 x1).bind fun a5 => (if (b8.length : Int) > 4 then (q4_node.j1 k a5 true d3 d2 g8 b8) else (q4_node.j1 k a5 (decide ((a5.length : Int) > 8)) d3 d2 g8 b8))) else (some 6)))
def q4_node.j1 : Nat → List (S99) → Bool → ByteArray → Int → Bool → List (S99) → Option (Int)
 | 0, _, _, _, _, _, _ => none
 | k + 1, x7, I9, d3, d2, g8, b8 => if I9 = true then (some 3) else (q4_node.l1 k x7 (wrap64 ((x7.length : Int) - (b8.length : Int))))
def q4_node.l1 : Nat → List (S99) → Int → Option (Int)
 | 0, _, _ => none
 | k + 1, x7, x8 => if x8 < (x7.length : Int) then (if 0 ≤ x8 then ((q1_IsName.f k ((rd_T99 x7 x8).f0)).bind fun n5 => (if n5 = true then (q4_node.l2 k x7 x8 0) else (some 2))) else (none)) else (some 0)
def q4_node.l2 : Nat → List (S99) → Int → Int → Option (Int)
 | 0, _, _, _ => none
 | k + 1, x7, x8, x9 => if x9 < x8 then (if 0 ≤ x9 then (if x9 < (x7.length : Int) then (if 0 ≤ x8 then (if x8 < (x7.length : Int) then (if ((rd_T99 x7 x9).f0).toList = ((rd_T99 x7 x8).f0).toList then (some 5) else (q4_node.l2 k x7 x8 (wrap64 (x9 + 1)))) else (none)) else (none)) else (none)) else (none)) else (if 0 ≤ x8 then (if x8 < (x7.length : Int) then ((q4_attribute.f k ((rd_T99 x7 x8).f0) ((rd_T99 x7 x8).f1) ((rd_T99 x7 x8).f2) ((rd_T99 x7 x8).f3)).bind fun h8 => (if h8 = 0 then (q4_node.l1 k x7 (wrap64 (x8 + 1))) else (some h8))) else (none)) else (none))
end
def q4_node.f (k : Nat) (a0 : List (S96)) (a9 : List (S101)) (a1 : Int) : Option (Int) := if 0 ≤ a1 then (if a1 < (a0.length : Int) then ((q1_IsName.f k ((rd_T96 a0 a1).f0)).bind fun j5 => (if j5 = true then (q4_node.l0 k a1 0 a0 a9 ((rd_T96 a0 a1).f0) ((rd_T96 a0 a1).f1) ((rd_T96 a0 a1).f2) ((rd_T96 a0 a1).f3)) else (some 2))) else (none)) else (none)
theorem q4_node.calls (k : Nat) (n3 : Option Addr) (c7 : Nat) (a0 : List (S96)) (c8 : Option Addr) (c5 : Nat) (a9 : List (S101)) (a1 : Int) (r : Int) (w : World) (o5 : Kd.C k96 w n3 a0.length a0) (o7 : a0.length ≤ c7) (o4 : Kd.C k101 w c8 a9.length a9) (o6 : a9.length ≤ c5) (h : q4_node.f k a0 a9 a1 = some r) :
  Calls Tryz.prog 88 #[.agg #[.slice n3 a0.length c7, .slice c8 a9.length c5], .int .i64 a1] w fun e w' => e = .returned (.int .i64 r) ∧ Below w.heap.size w w' := by
 have hu31 := Tryz.underlying31
 have hu96 := Tryz.underlying96
 have hu99 := Tryz.underlying99
 have h7 := am o5
 have A0 := am o7
 clear o5 o7
 have y8 := am o4
 have y9 := am o6
 clear o4 o6
 have HB := am (Below.refl w.heap.size w)
 have H : (if 0 ≤ a1 then (if a1 < (a0.length : Int) then ((q1_IsName.f k ((rd_T96 a0 a1).f0)).bind fun j5 => (if j5 = true then (q4_node.l0 k a1 0 a0 a9 ((rd_T96 a0 a1).f0) ((rd_T96 a0 a1).f1) ((rd_T96 a0 a1).f2) ((rd_T96 a0 a1).f3)) else (some 2))) else (none)) else (none)) = some r := h
 clear h
 obtain ⟨c3, H⟩ := itn H
 have C7 := decide_eq_true c3
 clear c3
 obtain ⟨c4, H⟩ := itn H
 have C6 := decide_eq_true c4
 clear c4
 obtain ⟨j5, A5, H⟩ := obA H
 by_cases c6 : j5 = true
 rotate_left
 ·replace c6 := Bool.eq_false_iff.mpr c6
  subst c6
  replace H := iff_ H
  obtain rfl := Option.some.inj H
  go_enter Tryz.func88, Tryz.ntmps88
  go_wp2_with (first | ((with_reducible refine gate_dst (N := 2) rfl ?_); (try (refine gate_guard (by rfl) ?_; dsimp only)); refine be 2 #[.slice n3 a0.length c7, .slice c8 a9.length c5] 31 ?_; intro b2 hg N2 hbox hb; have a2 := am (hbox); have p6 := bsz HB hg; replace HB := bstep HB hb; clear hb hbox hg; obtain ⟨G4, G3, D4, D3⟩ := cz2 a2; have g7 : 0 ≤ a1 := odt; have g6 : a1 < (a0.length : Int) := odt; obtain ⟨b4, b6, b5, o2, c2, c1, c0, b9, e3, e9⟩ := at_T96 h7.out a1 g7 g6; cases o2; replace c2 := hxc HB c2; replace c1 := hxc HB c1; replace c0 := hxc HB c0; replace b9 := hxc HB b9; have t7 := am e9; have v2 := am e3; clear e9 e3; replace g7 := eq_true g7; replace g6 := eq_true g6) | ((with_reducible refine gate_dst (N := 5) rfl ?_); (try (refine gate_guard (by rfl) ?_; dsimp only)); refine be 5 #[.string (⟨#[]⟩ : ByteArray), .int .i64 0, .bool false, .slice none 0 0] 96 ?_; intro b1 hg N1 hbox hb; have a4 := am (hbox); have p5 := bsz HB hg; replace HB := bstep HB hb; have a7 := blt a2 hg; have a6 := bgt a2 hg; replace a2 := bkb a2 hb; clear hb hbox hg; have L1 := a6.out; have J2 := a7.out; obtain ⟨G2, G1, G0, F9, D2, D1, D0, C9⟩ := cz4 a4) | (go_at_call 109; (with_reducible refine (q1_IsName.calls k ((rd_T96 a0 a1).f0) false _ A5.out).mono ?_); rintro e N0 ⟨rfl, hb⟩; replace a2 := am (blk_below (g := b2) (o := .cells #[.slice (some b4) a0.length c7, .slice c8 a9.length c5] 31 (0, 0)) (bkF a2) hb); replace a4 := am (blk_below (g := b1) (o := .cells #[.string ((rd_T96 a0 a1).f0), .int .i64 ((rd_T96 a0 a1).f1), .bool ((rd_T96 a0 a1).f2), .slice b6 ((rd_T96 a0 a1).f3).length b5] 96 (0, 0)) (by (with_reducible repeat (first | refine dN ?_ _ | refine dR ?_ | refine dA ?_ _)); refine blk_put (cs := #[.string ((rd_T96 a0 a1).f0), .int .i64 ((rd_T96 a0 a1).f1), .bool ((rd_T96 a0 a1).f2), .slice none 0 0]) ?_ 3 _ rfl; refine blk_put (cs := #[.string ((rd_T96 a0 a1).f0), .int .i64 ((rd_T96 a0 a1).f1), .bool false, .slice none 0 0]) ?_ 2 _ rfl; refine blk_put (cs := #[.string ((rd_T96 a0 a1).f0), .int .i64 0, .bool false, .slice none 0 0]) ?_ 1 _ rfl; refine blk_put (cs := #[.string (⟨#[]⟩ : ByteArray), .int .i64 0, .bool false, .slice none 0 0]) ?_ 0 _ rfl; (with_reducible repeat (first | refine dN ?_ _ | refine dR ?_ | refine dA ?_ _)); exact a4.out) hb); replace HB := bstep HB hb; (try clear hb); (try clear hb2); (try clear hk); (try clear hi)))
  repeat (go_quiet (fail); try go_wp2_with (fail))
  go_ret
  exact ⟨erf, bb HB⟩
 subst c6
 replace H := ift H
 have H' := am H
 clear H
 go_enter Tryz.func88, Tryz.ntmps88
 go_wp2_with (first | ((with_reducible refine gate_dst (N := 2) rfl ?_); (try (refine gate_guard (by rfl) ?_; dsimp only)); refine be 2 #[.slice n3 a0.length c7, .slice c8 a9.length c5] 31 ?_; intro b2 hg w7 hbox hb; have a2 := am (hbox); have p6 := bsz HB hg; replace HB := bstep HB hb; clear hb hbox hg; obtain ⟨w0, v7, v5, v4⟩ := cz2 a2; have g7 : 0 ≤ a1 := odt; have g6 : a1 < (a0.length : Int) := odt; obtain ⟨b4, b6, b5, o2, c2, c1, c0, b9, e3, e9⟩ := at_T96 h7.out a1 g7 g6; cases o2; replace c2 := hxc HB c2; replace c1 := hxc HB c1; replace c0 := hxc HB c0; replace b9 := hxc HB b9; have t7 := am e9; have v2 := am e3; clear e9 e3; replace g7 := eq_true g7; replace g6 := eq_true g6) | ((with_reducible refine gate_dst (N := 5) rfl ?_); (try (refine gate_guard (by rfl) ?_; dsimp only)); refine be 5 #[.string (⟨#[]⟩ : ByteArray), .int .i64 0, .bool false, .slice none 0 0] 96 ?_; intro b1 hg w9 hbox hb; have a4 := am (hbox); have p5 := bsz HB hg; replace HB := bstep HB hb; have a7 := blt a2 hg; have a6 := bgt a2 hg; replace a2 := bkb a2 hb; clear hb hbox hg; have L9 := a6.out; have L0 := a7.out; obtain ⟨t3, t2, t1, t0, r9, r8, r7, r6⟩ := cz4 a4) | (go_at_call 109; (with_reducible refine (q1_IsName.calls k ((rd_T96 a0 a1).f0) true _ A5.out).mono ?_); rintro e N8 ⟨rfl, hb⟩; replace a2 := am (blk_below (g := b2) (o := .cells #[.slice (some b4) a0.length c7, .slice c8 a9.length c5] 31 (0, 0)) (bkF a2) hb); replace a4 := am (blk_below (g := b1) (o := .cells #[.string ((rd_T96 a0 a1).f0), .int .i64 ((rd_T96 a0 a1).f1), .bool ((rd_T96 a0 a1).f2), .slice b6 ((rd_T96 a0 a1).f3).length b5] 96 (0, 0)) (by (with_reducible repeat (first | refine dN ?_ _ | refine dR ?_ | refine dA ?_ _)); refine blk_put (cs := #[.string ((rd_T96 a0 a1).f0), .int .i64 ((rd_T96 a0 a1).f1), .bool ((rd_T96 a0 a1).f2), .slice none 0 0]) ?_ 3 _ rfl; refine blk_put (cs := #[.string ((rd_T96 a0 a1).f0), .int .i64 ((rd_T96 a0 a1).f1), .bool false, .slice none 0 0]) ?_ 2 _ rfl; refine blk_put (cs := #[.string ((rd_T96 a0 a1).f0), .int .i64 0, .bool false, .slice none 0 0]) ?_ 1 _ rfl; refine blk_put (cs := #[.string (⟨#[]⟩ : ByteArray), .int .i64 0, .bool false, .slice none 0 0]) ?_ 0 _ rfl; (with_reducible repeat (first | refine dN ?_ _ | refine dR ?_ | refine dA ?_ _)); exact a4.out) hb); replace HB := bstep HB hb; (try clear hb); (try clear hb2); (try clear hk); (try clear hi)))
 repeat (go_quiet (fail); try go_wp2_with (fail))
 go_loopg [6] k (fun kq v6 w' => ∃ (b7 : Int), v6 = .int .i64 b7 ∧ Aside0 (q4_node.l0 kq a1 b7 a0 a9 ((rd_T96 a0 a1).f0) ((rd_T96 a0 a1).f1) ((rd_T96 a0 a1).f2) ((rd_T96 a0 a1).f3) = some r) ∧ Aside0 (kq ≤ k) ∧ Aside0 (w'.heap[b2]? = some (.cells #[(.slice (some b4) a0.length c7), (.slice c8 a9.length c5)] 31 (0, 0))) ∧ Aside0 (w'.heap[b1]? = some (.cells #[.string ((rd_T96 a0 a1).f0), .int .i64 ((rd_T96 a0 a1).f1), .bool ((rd_T96 a0 a1).f2), (.slice b6 ((rd_T96 a0 a1).f3).length b5)] 96 (0, 0))) ∧ Aside0 (Below w.heap.size w w'))
 case atStart => exact ⟨(0), eqs, H', ⟨Nat.le_refl _⟩, ⟨bk a2⟩, ⟨bk a4⟩, ⟨bb HB⟩⟩
 case round =>
  clear H'
  clear C7
  clear C6
  clear t3
  clear t2
  clear t1
  clear t0
  clear w0
  clear v7
  clear r9
  clear r8
  clear r7
  clear r6
  clear v5
  clear v4
  clear c2
  clear c1
  clear c0
  clear b9
  clear g7
  clear g6
  obtain ⟨b7, rfl, HA, j4, a2, a4, HB⟩ := hrel
  cases gk with
  | zero => exact absurd HA.out (by simp [q4_node.l0])
  | succ k1 =>
   have H := HA.out
   clear HA
   simp only [q4_node.l0] at H
   by_cases m6 : b7 < a1
   ·rw [if_pos m6] at H
    have p2 := decide_eq_true m6
    clear m6
    obtain ⟨C1, H⟩ := itn H
    have M7 := decide_eq_true C1
    clear C1
    obtain ⟨C0, H⟩ := itn H
    have M6 := decide_eq_true C0
    clear C0
    by_cases j8 : ((rd_T96 a0 b7).f0).toList = ((rd_T96 a0 a1).f0).toList
    ·rw [if_pos j8] at H
     have y7 := beq_iff_eq.mpr j8
     have y6 := bne_eq_false_iff_eq.mpr j8
     clear j8
     obtain rfl := Option.some.inj H
     have L8 := a7.out
     have J9 := a6.out
     obtain ⟨I8, I7, F8, F7⟩ := cz2 a2
     have h2 : 0 ≤ b7 := odt
     have h1 : b7 < (a0.length : Int) := odt
     obtain ⟨n0, x3, w6, o1, d7, d6, d5, d4, e2, e8⟩ := at_T96 h7.out b7 h2 h1
     obtain rfl : b4 = n0 := (by injection o1)
     replace d7 := hxc HB d7
     replace d6 := hxc HB d6
     replace d5 := hxc HB d5
     replace d4 := hxc HB d4
     have t6 := am e8
     have v1 := am e2
     clear e8 e2
     replace h2 := eq_true h2
     replace h1 := eq_true h1
     obtain ⟨I6, I5, I4, I3, F6, F5, F4, F3⟩ := cz4 a4
     go_wp2
     repeat (go_quiet (fail); try go_wp2)
     go_ret
     exact ⟨erf, bb HB⟩
    rw [if_neg j8] at H
    have y7 := beq_eq_false_iff_ne.mpr j8
    have y6 := bne_iff_ne.mpr j8
    have H' := am H
    clear H
    have L7 := a7.out
    have J8 := a6.out
    obtain ⟨I2, I1, F2, F1⟩ := cz2 a2
    have h2 : 0 ≤ b7 := odt
    have h1 : b7 < (a0.length : Int) := odt
    obtain ⟨n0, x3, w6, o1, d7, d6, d5, d4, e2, e8⟩ := at_T96 h7.out b7 h2 h1
    obtain rfl : b4 = n0 := (by injection o1)
    replace d7 := hxc HB d7
    replace d6 := hxc HB d6
    replace d5 := hxc HB d5
    replace d4 := hxc HB d4
    have t6 := am e8
    have v1 := am e2
    clear e8 e2
    replace h2 := eq_true h2
    replace h1 := eq_true h1
    obtain ⟨I0, H9, H8, H7, F0, E9, E8, E7⟩ := cz4 a4
    go_wp2
    repeat (go_quiet (fail); try go_wp2)
    go_roundg k1
    case measure => have := j4.out; omega
    case rel => exact ⟨(wrap64 (b7 + 1)), eqs, H', ⟨by have := j4.out; omega⟩, ⟨bk a2⟩, ⟨bk a4⟩, ⟨bb HB⟩⟩
   rw [if_neg m6] at H
   have p2 := decide_eq_false m6
   clear m6
   obtain ⟨n6, C4, H⟩ := obA H
   by_cases p1 : n6 = true
   rotate_left
   ·replace p1 := Bool.eq_false_iff.mpr p1
    subst p1
    replace H := iff_ H
    obtain rfl := Option.some.inj H
    have L2 := a6.out
    have J3 := a7.out
    obtain ⟨G8, G7, G6, G5, D8, D7, D6, D5⟩ := cz4 a4
    go_wp2_with (go_at_call 90; (with_reducible refine (q4_in.calls ((rd_T96 a0 a1).f1) (-1) (wrap64 (a1 - 1)) false _ C4.out).mono ?_); rintro e w' ⟨rfl, ⟨nd, rfl⟩⟩; (try first | exact ⟨rfl, _, World.drewN_drewN _ _ _⟩ | exact ⟨rfl, _, Eq.trans (World.drewN_drewN _ _ _) (congrArg (World.drewN _) (Nat.add_assoc _ _ _))⟩))
    repeat (go_quiet (fail); try go_wp2_with (fail))
    go_ret
    exact ⟨erf, bb HB⟩
   subst p1
   replace H := ift H
   obtain ⟨a5, J1, H⟩ := obA H
   have o3 := am H
   clear H
   have L6 := a6.out
   have J7 := a7.out
   obtain ⟨s9, s8, s7, s6, r5, r4, r3, r2⟩ := cz4 a4
   go_upto_region 12 with (first | (go_at_call 90; (with_reducible refine (q4_in.calls ((rd_T96 a0 a1).f1) (-1) (wrap64 (a1 - 1)) true _ C4.out).mono ?_); rintro e w' ⟨rfl, ⟨nd, rfl⟩⟩; (try first | exact ⟨rfl, _, World.drewN_drewN _ _ _⟩ | exact ⟨rfl, _, Eq.trans (World.drewN_drewN _ _ _) (congrArg (World.drewN _) (Nat.add_assoc _ _ _))⟩); obtain ⟨s5, s4, r1, r0⟩ := cz2 a2) | (go_at_call 110; (with_reducible refine (q4_attrs.calls k1 (fun k_ => k_ < w.heap.size) _ _ a0 _ _ a9 a1 a5 _ ?h5 ?h4 ?x4 J1.out).mono ?_); (case h5 => exact Kd.V_mk A0.out (Kd.F_below (Kd.C_F k96_heap h7.out) (bb HB))); (case h4 => repeat (first | exact (Kd.C_below y8.out (bb HB)) | (with_reducible refine Kd.C_alloc ?_ _) | (with_reducible refine Kd.C_drewN ?_ _) | (with_reducible refine Kd.C_drew ?_))); (case x4 => exact y9.out); rintro e N7 ⟨C5, rfl, A1, hb⟩; have n1 := am (Kd.N_lower (Kd.N_mono (ok' := fun k_ => k_ ≠ b2 ∧ k_ ≠ b1) A1 (fun k_ hk_ => ⟨Or.elim hk_ (fun hs_ => fun e_ => Nat.not_le.2 hs_ (by rw [e_]; exact p6.out)) (fun hn_ => (Kd.freshB (g := b2) (o := .cells #[.slice (some b4) a0.length c7, .slice c8 a9.length c5] 31 (0, 0)) (bk a2) k_ hn_)), Or.elim hk_ (fun hs_ => fun e_ => Nat.not_le.2 hs_ (by rw [e_]; exact p5.out)) (fun hn_ => (Kd.freshB (g := b1) (o := .cells #[.string ((rd_T96 a0 a1).f0), .int .i64 ((rd_T96 a0 a1).f1), .bool ((rd_T96 a0 a1).f2), .slice b6 ((rd_T96 a0 a1).f3).length b5] 96 (0, 0)) (bk a4) k_ hn_))⟩)) (below_size (bb HB))); replace a2 := bkb a2 hb; replace a4 := bkb a4 hb; replace HB := bstep HB hb; (try clear hb); (try clear hb2); (try clear hk); (try clear hi); (try clear A1)))
   repeat (go_quiet (fail); go_upto_region 12 with (fail))
   (try simp only [Act.put, List.setIfInBounds_toArray, List.set_cons_zero, List.set_cons_succ])
   go_cut [51] (fun J0 wc => ∃ (kq : Nat) (h3 : Bool), J0 = .bool h3 ∧ Aside0 (q4_node.j1 kq a5 h3 ((rd_T96 a0 a1).f0) ((rd_T96 a0 a1).f1) ((rd_T96 a0 a1).f2) ((rd_T96 a0 a1).f3) = some r) ∧ Aside0 (kq ≤ k1) ∧ Aside0 (Kd.N k99 99 wc w.heap.size (fun k_ => k_ ≠ b2 ∧ k_ ≠ b1) C5 a5) ∧ Aside0 (wc.heap[b2]? = some (.cells #[(.slice (some b4) a0.length c7), (.slice c8 a9.length c5)] 31 (0, 0))) ∧ Aside0 (wc.heap[b1]? = some (.cells #[.string ((rd_T96 a0 a1).f0), .int .i64 ((rd_T96 a0 a1).f1), .bool ((rd_T96 a0 a1).f2), (.slice b6 ((rd_T96 a0 a1).f3).length b5)] 96 (0, 0))) ∧ Aside0 (Below w.heap.size w wc))
   case first =>
    have H := o3.out
    clear o3
    by_cases m5 : (((rd_T96 a0 a1).f3).length : Int) > 4
    ·rw [if_pos m5] at H
     have h6 : decide (4 < (((rd_T96 a0 a1).f3).length : Int)) = true := decide_eq_true m5
     have y5 : decide (4 < ((rd_T96 a0 a1).f3).length) = true := decide_eq_true (by omega)
     clear m5
     (first | rw [h6] | (simp only [i64_w, i32_w]; rw [h6]) | skip)
     have H' := am H
     clear H
     have L5 := a6.out
     have J6 := a7.out
     obtain ⟨H6, H5, H4, H3, E6, E5, E4, E3⟩ := cz4 a4
     go_wp2
     repeat (go_quiet (fail); try go_wp2)
     go_meet
     case rel => exact ⟨_, (true), eqs, H', ⟨by have := j4.out; first | omega | exact Nat.le_refl _⟩, ⟨kN n1⟩, ⟨bk a2⟩, ⟨bk a4⟩, ⟨bb HB⟩⟩
    rw [if_neg m5] at H
    have h6 : decide (4 < (((rd_T96 a0 a1).f3).length : Int)) = false := decide_eq_false m5
    have y5 : decide (4 < ((rd_T96 a0 a1).f3).length) = false := decide_eq_false (by omega)
    clear m5
    (first | rw [h6] | (simp only [i64_w, i32_w]; rw [h6]) | skip)
    have H' := am H
    clear H
    have L4 := a6.out
    have J5 := a7.out
    obtain ⟨H2, H1, H0, G9, E2, E1, E0, D9⟩ := cz4 a4
    obtain ⟨M9, M8, eo36⟩ := Kd.N_slice n1.out
    subst eo36
    go_wp2
    repeat (go_quiet (fail); try go_wp2)
    go_meet
    case rel => exact ⟨_, (decide ((a5.length : Int) > 8)), eqs, H', ⟨by have := j4.out; first | omega | exact Nat.le_refl _⟩, ⟨kN n1⟩, ⟨bk a2⟩, ⟨bk a4⟩, ⟨bb HB⟩⟩
   case rest =>
    clear o3
    clear p2
    clear s9
    clear s8
    clear s7
    clear s6
    clear s5
    clear s4
    clear r5
    clear r4
    clear r3
    clear r2
    clear r1
    clear r0
    obtain ⟨kq, h3, rfl, HA, n2, HO_7, a2, a4, HB⟩ := hcut
    cases kq with
    | zero => exact absurd HA.out (by simp [q4_node.j1])
    | succ v3 =>
     have H := HA.out
     clear HA
     simp only [q4_node.j1] at H
     by_cases p0 : h3 = true
     ·subst p0
      replace H := ift H
      obtain rfl := Option.some.inj H
      go_wp2
      repeat (go_quiet (fail); try go_wp2)
      go_ret
      exact ⟨erf, bb HB⟩
     replace p0 := Bool.eq_false_iff.mpr p0
     subst p0
     replace H := iff_ H
     have H' := am H
     clear H
     obtain ⟨C8, w1, eo38⟩ := Kd.N_slice HO_7.out
     subst eo38
     have L3 := a6.out
     have J4 := a7.out
     obtain ⟨s3, s2, s1, s0, q9, q8, q7, q6⟩ := cz4 a4
     go_wp2
     repeat (go_quiet (fail); try go_wp2)
     go_loopg [8] v3 (fun kq v8 w' => ∃ (a3 : Int), v8 = .int .i64 a3 ∧ Aside0 (q4_node.l1 kq a5 a3 = some r) ∧ Aside0 (kq ≤ v3) ∧ Aside0 (Kd.N k99 99 w' w.heap.size (fun k_ => k_ ≠ b2 ∧ k_ ≠ b1) (.slice C8 a5.length w1) a5) ∧ Aside0 (w'.heap[b2]? = some (.cells #[(.slice (some b4) a0.length c7), (.slice c8 a9.length c5)] 31 (0, 0))) ∧ Aside0 (w'.heap[b1]? = some (.cells #[.string ((rd_T96 a0 a1).f0), .int .i64 ((rd_T96 a0 a1).f1), .bool ((rd_T96 a0 a1).f2), (.slice b6 ((rd_T96 a0 a1).f3).length b5)] 96 (0, 0))) ∧ Aside0 (Below w.heap.size w w'))
     case atStart => exact ⟨(wrap64 ((a5.length : Int) - (((rd_T96 a0 a1).f3).length : Int))), eqs, H', ⟨Nat.le_refl _⟩, ⟨kN HO_7⟩, ⟨bk a2⟩, ⟨bk a4⟩, ⟨bb HB⟩⟩
     case round =>
      clear H'
      clear s3
      clear s2
      clear s1
      clear s0
      clear q9
      clear q8
      clear q7
      clear q6
      obtain ⟨a3, rfl, HA, p4, HO_7, a2, a4, HB⟩ := hrel
      cases gk with
      | zero => exact absurd HA.out (by simp [q4_node.l1])
      | succ k3 =>
       have H := HA.out
       clear HA
       simp only [q4_node.l1] at H
       by_cases m4 : a3 < (a5.length : Int)
       rotate_left
       ·rw [if_neg m4] at H
        have o9 := decide_eq_false m4
        clear m4
        obtain rfl := Option.some.inj H
        go_wp2
        repeat (go_quiet (fail); try go_wp2)
        go_ret
        exact ⟨erf, bb HB⟩
       rw [if_pos m4] at H
       have o9 := decide_eq_true m4
       clear m4
       obtain ⟨A9, H⟩ := itn H
       have y4 := decide_eq_true A9
       clear A9
       obtain ⟨n5, C3, H⟩ := obA H
       by_cases o8 : n5 = true
       rotate_left
       ·replace o8 := Bool.eq_false_iff.mpr o8
        subst o8
        replace H := iff_ H
        obtain rfl := Option.some.inj H
        have d1 : 0 ≤ a3 := odt
        have d0 : a3 < (a5.length : Int) := odt
        obtain ⟨c9, n4, w5, o0, m2, m1, m0, h0, e1, e7⟩ := at_T99 (Kd.N_reads' HO_7.out).2.2 a3 d1 d0
        cases o0
        obtain ⟨ce460, hce460, hMe460, hcc460⟩ := Kd.N_get HO_7.out z99 a3 d1 (by first | exact d0 | exact odt | (have e_ := (Kd.N_reads' HO_7.out).1; omega))
        obtain ⟨ua460_3, uc460_3, rfl, ul460_3, ge460_3⟩ := k99_openF hMe460
        have hv460_3 := hcc460 3 _ rfl
        rw [add_field _ _ 3 (by omega)] at hv460_3
        replace hv460_3 := Option.some.inj (hv460_3.symm.trans h0)
        injection hv460_3 with hva_ hvn_ hvc_
        rw [hva_] at ge460_3
        rw [hvc_] at ul460_3
        have HL460_3 := am (show Kd.V Kd.string 9 _ w.heap.size _ _ ((rd_T99 a5 a3).f3) from Kd.V_mk ul460_3 ge460_3)
        clear hva_ hvn_ hvc_ ge460_3 ul460_3 hcc460 hce460
        have a8 := am e7
        have v0 := am e1
        clear e7 e1
        replace d1 := eq_true d1
        replace d0 := eq_true d0
        go_wp2_with (go_at_call 109; (with_reducible refine (q1_IsName.calls k3 ((rd_T99 a5 a3).f0) false _ C3.out).mono ?_); rintro e N3 ⟨rfl, hb⟩; replace HO_7 := kNb HO_7 hb; replace HL460_3 := kVb HL460_3 hb; replace a2 := bkb a2 hb; replace a4 := bkb a4 hb; replace a8 := kCb a8 hb; replace HB := bstep HB hb; (try clear hb); (try clear hb2); (try clear hk); (try clear hi))
        repeat (go_quiet (fail); try go_wp2_with (fail))
        go_ret
        exact ⟨erf, bb HB⟩
       subst o8
       replace H := ift H
       have H' := am H
       clear H
       have d1 : 0 ≤ a3 := odt
       have d0 : a3 < (a5.length : Int) := odt
       obtain ⟨c9, n4, w5, o0, m2, m1, m0, h0, e1, e7⟩ := at_T99 (Kd.N_reads' HO_7.out).2.2 a3 d1 d0
       cases o0
       obtain ⟨ce460, hce460, hMe460, hcc460⟩ := Kd.N_get HO_7.out z99 a3 d1 (by first | exact d0 | exact odt | (have e_ := (Kd.N_reads' HO_7.out).1; omega))
       obtain ⟨ua460_3, uc460_3, rfl, ul460_3, ge460_3⟩ := k99_openF hMe460
       have hv460_3 := hcc460 3 _ rfl
       rw [add_field _ _ 3 (by omega)] at hv460_3
       replace hv460_3 := Option.some.inj (hv460_3.symm.trans h0)
       injection hv460_3 with hva_ hvn_ hvc_
       rw [hva_] at ge460_3
       rw [hvc_] at ul460_3
       have HL460_3 := am (show Kd.V Kd.string 9 _ w.heap.size _ _ ((rd_T99 a5 a3).f3) from Kd.V_mk ul460_3 ge460_3)
       clear hva_ hvn_ hvc_ ge460_3 ul460_3 hcc460 hce460
       have a8 := am e7
       have v0 := am e1
       clear e7 e1
       replace d1 := eq_true d1
       replace d0 := eq_true d0
       go_wp2_with (go_at_call 109; (with_reducible refine (q1_IsName.calls k3 ((rd_T99 a5 a3).f0) true _ C3.out).mono ?_); rintro e N6 ⟨rfl, hb⟩; replace HO_7 := kNb HO_7 hb; replace HL460_3 := kVb HL460_3 hb; replace a2 := bkb a2 hb; replace a4 := bkb a4 hb; replace a8 := kCb a8 hb; replace HB := bstep HB hb; (try clear hb); (try clear hb2); (try clear hk); (try clear hi))
       repeat (go_quiet (fail); try go_wp2_with (fail))
       go_loopg [9] k3 (fun kq v9 w' => ∃ (b0 : Int), v9 = .int .i64 b0 ∧ Aside0 (q4_node.l2 kq a5 a3 b0 = some r) ∧ Aside0 (kq ≤ k3) ∧ Aside0 (Kd.N k99 99 w' w.heap.size (fun k_ => k_ ≠ b2 ∧ k_ ≠ b1) (.slice (some c9) a5.length w1) a5) ∧ Aside0 (w'.heap[b2]? = some (.cells #[(.slice (some b4) a0.length c7), (.slice c8 a9.length c5)] 31 (0, 0))) ∧ Aside0 (w'.heap[b1]? = some (.cells #[.string ((rd_T96 a0 a1).f0), .int .i64 ((rd_T96 a0 a1).f1), .bool ((rd_T96 a0 a1).f2), (.slice b6 ((rd_T96 a0 a1).f3).length b5)] 96 (0, 0))) ∧ Aside0 (Kd.C Kd.string w' n4 ((rd_T99 a5 a3).f3).length ((rd_T99 a5 a3).f3)) ∧ Aside0 (Below w.heap.size w w'))
       case atStart => exact ⟨(0), eqs, H', ⟨Nat.le_refl _⟩, ⟨kN HO_7⟩, ⟨bk a2⟩, ⟨bk a4⟩, ⟨kC a8⟩, ⟨bb HB⟩⟩
       case round =>
        clear H'
        clear o9
        clear y4
        clear m2
        clear m1
        clear m0
        clear h0
        clear d1
        clear d0
        obtain ⟨b0, rfl, HA, p3, HO_7, a2, a4, a8, HB⟩ := hrel
        cases gk with
        | zero => exact absurd HA.out (by simp [q4_node.l2])
        | succ k4 =>
         have H := HA.out
         clear HA
         simp only [q4_node.l2] at H
         by_cases m3 : b0 < a3
         rotate_left
         ·rw [if_neg m3] at H
          have y3 := decide_eq_false m3
          clear m3
          obtain ⟨A3, H⟩ := itn H
          have M1 := decide_eq_true A3
          clear A3
          obtain ⟨A2, H⟩ := itn H
          have M0 := decide_eq_true A2
          clear A2
          obtain ⟨h8, C2, H⟩ := obA H
          by_cases j6 : h8 = 0
          rotate_left
          ·rw [if_neg j6] at H
           have y0 := beq_eq_false_iff_ne.mpr j6
           have x5 := bne_iff_ne.mpr j6
           obtain rfl := Option.some.inj H
           have g3 : 0 ≤ a3 := odt
           have g0 : a3 < (a5.length : Int) := odt
           obtain ⟨m7, w8, w2, n7, p9, p8, p7, h9, d8, e4⟩ := at_T99 (Kd.N_reads' HO_7.out).2.2 a3 g3 g0
           obtain rfl : c9 = m7 := (by injection n7)
           obtain ⟨ce464, hce464, hMe464, hcc464⟩ := Kd.N_get HO_7.out z99 a3 g3 (by first | exact g0 | exact odt | (have e_ := (Kd.N_reads' HO_7.out).1; omega))
           obtain ⟨ua464_3, uc464_3, rfl, ul464_3, ge464_3⟩ := k99_openF hMe464
           have hv464_3 := hcc464 3 _ rfl
           rw [add_field _ _ 3 (by omega)] at hv464_3
           replace hv464_3 := Option.some.inj (hv464_3.symm.trans h9)
           injection hv464_3 with hva_ hvn_ hvc_
           rw [hva_] at ge464_3
           rw [hvc_] at ul464_3
           have HL464_3 := am (show Kd.V Kd.string 9 _ w.heap.size _ _ ((rd_T99 a5 a3).f3) from Kd.V_mk ul464_3 ge464_3)
           clear hva_ hvn_ hvc_ ge464_3 ul464_3 hcc464 hce464
           have b3 := am e4
           have j3 := am d8
           clear e4 d8
           replace g3 := eq_true g3
           replace g0 := eq_true g0
           go_wp2_with (go_at_call 111; (with_reducible refine (q4_attribute.calls k4 ((rd_T99 a5 a3).f0) ((rd_T99 a5 a3).f1) ((rd_T99 a5 a3).f2) _ _ ((rd_T99 a5 a3).f3) h8 _ ?h5 ?h4 C2.out).mono ?_); (case h5 => repeat (first | exact (kC b3) | (with_reducible refine Kd.C_alloc ?_ _) | (with_reducible refine Kd.C_drewN ?_ _) | (with_reducible refine Kd.C_drew ?_))); (case h4 => exact j3.out); rintro e N4 ⟨rfl, hb⟩; replace HO_7 := kNb HO_7 hb; replace HL464_3 := kVb HL464_3 hb; replace a2 := bkb a2 hb; replace a4 := bkb a4 hb; replace a8 := kCb a8 hb; replace b3 := kCb b3 hb; replace HB := bstep HB hb; (try clear hb); (try clear hb2); (try clear hk); (try clear hi))
           repeat (go_quiet (fail); try go_wp2_with (fail))
           go_ret
           exact ⟨erf, bb HB⟩
          rw [if_pos j6] at H
          have y0 := beq_iff_eq.mpr j6
          have x5 := bne_eq_false_iff_eq.mpr j6
          clear j6
          have H' := am H
          clear H
          have g3 : 0 ≤ a3 := odt
          have g0 : a3 < (a5.length : Int) := odt
          obtain ⟨m7, w8, w2, n7, p9, p8, p7, h9, d8, e4⟩ := at_T99 (Kd.N_reads' HO_7.out).2.2 a3 g3 g0
          obtain rfl : c9 = m7 := (by injection n7)
          obtain ⟨ce464, hce464, hMe464, hcc464⟩ := Kd.N_get HO_7.out z99 a3 g3 (by first | exact g0 | exact odt | (have e_ := (Kd.N_reads' HO_7.out).1; omega))
          obtain ⟨ua464_3, uc464_3, rfl, ul464_3, ge464_3⟩ := k99_openF hMe464
          have hv464_3 := hcc464 3 _ rfl
          rw [add_field _ _ 3 (by omega)] at hv464_3
          replace hv464_3 := Option.some.inj (hv464_3.symm.trans h9)
          injection hv464_3 with hva_ hvn_ hvc_
          rw [hva_] at ge464_3
          rw [hvc_] at ul464_3
          have HL464_3 := am (show Kd.V Kd.string 9 _ w.heap.size _ _ ((rd_T99 a5 a3).f3) from Kd.V_mk ul464_3 ge464_3)
          clear hva_ hvn_ hvc_ ge464_3 ul464_3 hcc464 hce464
          have b3 := am e4
          have j3 := am d8
          clear e4 d8
          replace g3 := eq_true g3
          replace g0 := eq_true g0
          go_wp2_with (go_at_call 111; (with_reducible refine (q4_attribute.calls k4 ((rd_T99 a5 a3).f0) ((rd_T99 a5 a3).f1) ((rd_T99 a5 a3).f2) _ _ ((rd_T99 a5 a3).f3) h8 _ ?h5 ?h4 C2.out).mono ?_); (case h5 => repeat (first | exact (kC b3) | (with_reducible refine Kd.C_alloc ?_ _) | (with_reducible refine Kd.C_drewN ?_ _) | (with_reducible refine Kd.C_drew ?_))); (case h4 => exact j3.out); rintro e N5 ⟨rfl, hb⟩; replace HO_7 := kNb HO_7 hb; replace HL464_3 := kVb HL464_3 hb; replace a2 := bkb a2 hb; replace a4 := bkb a4 hb; replace a8 := kCb a8 hb; replace b3 := kCb b3 hb; replace HB := bstep HB hb; (try clear hb); (try clear hb2); (try clear hk); (try clear hi))
          repeat (go_quiet (fail); try go_wp2_with (fail))
          go_roundg k4
          case measure => have := j4.out; have := n2.out; have := p4.out; have := p3.out; omega
          case rel => exact ⟨(wrap64 (a3 + 1)), eqs, H', ⟨by have := j4.out; have := n2.out; have := p4.out; have := p3.out; omega⟩, ⟨kN HO_7⟩, ⟨bk a2⟩, ⟨bk a4⟩, ⟨bb HB⟩⟩
         rw [if_pos m3] at H
         have y3 := decide_eq_true m3
         clear m3
         obtain ⟨A8, H⟩ := itn H
         have M5 := decide_eq_true A8
         clear A8
         obtain ⟨A7, H⟩ := itn H
         have M4 := decide_eq_true A7
         clear A7
         obtain ⟨A6, H⟩ := itn H
         have M3 := decide_eq_true A6
         clear A6
         obtain ⟨A4, H⟩ := itn H
         have M2 := decide_eq_true A4
         clear A4
         by_cases j7 : ((rd_T99 a5 b0).f0).toList = ((rd_T99 a5 a3).f0).toList
         ·rw [if_pos j7] at H
          have y2 := beq_iff_eq.mpr j7
          have y1 := bne_eq_false_iff_eq.mpr j7
          clear j7
          obtain rfl := Option.some.inj H
          have g5 : 0 ≤ b0 := odt
          have g2 : b0 < (a5.length : Int) := odt
          obtain ⟨m9, x2, w4, n9, q5, q4, q3, j2, e0, e6⟩ := at_T99 (Kd.N_reads' HO_7.out).2.2 b0 g5 g2
          obtain rfl : c9 = m9 := (by injection n9)
          obtain ⟨ce462, hce462, hMe462, hcc462⟩ := Kd.N_get HO_7.out z99 b0 g5 (by first | exact g2 | exact odt | (have e_ := (Kd.N_reads' HO_7.out).1; omega))
          obtain ⟨ua462_3, uc462_3, rfl, ul462_3, ge462_3⟩ := k99_openF hMe462
          have hv462_3 := hcc462 3 _ rfl
          rw [add_field _ _ 3 (by omega)] at hv462_3
          replace hv462_3 := Option.some.inj (hv462_3.symm.trans j2)
          injection hv462_3 with hva_ hvn_ hvc_
          rw [hva_] at ge462_3
          rw [hvc_] at ul462_3
          have HL462_3 := am (show Kd.V Kd.string 9 _ w.heap.size _ _ ((rd_T99 a5 b0).f3) from Kd.V_mk ul462_3 ge462_3)
          clear hva_ hvn_ hvc_ ge462_3 ul462_3 hcc462 hce462
          have t5 := am e6
          have t9 := am e0
          clear e6 e0
          replace g5 := eq_true g5
          replace g2 := eq_true g2
          have g4 : 0 ≤ a3 := odt
          have g1 : a3 < (a5.length : Int) := odt
          obtain ⟨m8, x0, w3, n8, q2, q1, q0, j0, d9, e5⟩ := at_T99 (Kd.N_reads' HO_7.out).2.2 a3 g4 g1
          obtain rfl : c9 = m8 := (by injection n8)
          obtain ⟨ce463, hce463, hMe463, hcc463⟩ := Kd.N_get HO_7.out z99 a3 g4 (by first | exact g1 | exact odt | (have e_ := (Kd.N_reads' HO_7.out).1; omega))
          obtain ⟨ua463_3, uc463_3, rfl, ul463_3, ge463_3⟩ := k99_openF hMe463
          have hv463_3 := hcc463 3 _ rfl
          rw [add_field _ _ 3 (by omega)] at hv463_3
          replace hv463_3 := Option.some.inj (hv463_3.symm.trans j0)
          injection hv463_3 with hva_ hvn_ hvc_
          rw [hva_] at ge463_3
          rw [hvc_] at ul463_3
          have HL463_3 := am (show Kd.V Kd.string 9 _ w.heap.size _ _ ((rd_T99 a5 a3).f3) from Kd.V_mk ul463_3 ge463_3)
          clear hva_ hvn_ hvc_ ge463_3 ul463_3 hcc463 hce463
          have t4 := am e5
          have t8 := am d9
          clear e5 d9
          replace g4 := eq_true g4
          replace g1 := eq_true g1
          go_wp2
          repeat (go_quiet (fail); try go_wp2)
          go_ret
          exact ⟨erf, bb HB⟩
         rw [if_neg j7] at H
         have y2 := beq_eq_false_iff_ne.mpr j7
         have y1 := bne_iff_ne.mpr j7
         have H' := am H
         clear H
         have g5 : 0 ≤ b0 := odt
         have g2 : b0 < (a5.length : Int) := odt
         obtain ⟨m9, x2, w4, n9, q5, q4, q3, j2, e0, e6⟩ := at_T99 (Kd.N_reads' HO_7.out).2.2 b0 g5 g2
         obtain rfl : c9 = m9 := (by injection n9)
         obtain ⟨ce462, hce462, hMe462, hcc462⟩ := Kd.N_get HO_7.out z99 b0 g5 (by first | exact g2 | exact odt | (have e_ := (Kd.N_reads' HO_7.out).1; omega))
         obtain ⟨ua462_3, uc462_3, rfl, ul462_3, ge462_3⟩ := k99_openF hMe462
         have hv462_3 := hcc462 3 _ rfl
         rw [add_field _ _ 3 (by omega)] at hv462_3
         replace hv462_3 := Option.some.inj (hv462_3.symm.trans j2)
         injection hv462_3 with hva_ hvn_ hvc_
         rw [hva_] at ge462_3
         rw [hvc_] at ul462_3
         have HL462_3 := am (show Kd.V Kd.string 9 _ w.heap.size _ _ ((rd_T99 a5 b0).f3) from Kd.V_mk ul462_3 ge462_3)
         clear hva_ hvn_ hvc_ ge462_3 ul462_3 hcc462 hce462
         have t5 := am e6
         have t9 := am e0
         clear e6 e0
         replace g5 := eq_true g5
         replace g2 := eq_true g2
         have g4 : 0 ≤ a3 := odt
         have g1 : a3 < (a5.length : Int) := odt
         obtain ⟨m8, x0, w3, n8, q2, q1, q0, j0, d9, e5⟩ := at_T99 (Kd.N_reads' HO_7.out).2.2 a3 g4 g1
         obtain rfl : c9 = m8 := (by injection n8)
         obtain ⟨ce463, hce463, hMe463, hcc463⟩ := Kd.N_get HO_7.out z99 a3 g4 (by first | exact g1 | exact odt | (have e_ := (Kd.N_reads' HO_7.out).1; omega))
         obtain ⟨ua463_3, uc463_3, rfl, ul463_3, ge463_3⟩ := k99_openF hMe463
         have hv463_3 := hcc463 3 _ rfl
         rw [add_field _ _ 3 (by omega)] at hv463_3
         replace hv463_3 := Option.some.inj (hv463_3.symm.trans j0)
         injection hv463_3 with hva_ hvn_ hvc_
         rw [hva_] at ge463_3
         rw [hvc_] at ul463_3
         have HL463_3 := am (show Kd.V Kd.string 9 _ w.heap.size _ _ ((rd_T99 a5 a3).f3) from Kd.V_mk ul463_3 ge463_3)
         clear hva_ hvn_ hvc_ ge463_3 ul463_3 hcc463 hce463
         have t4 := am e5
         have t8 := am d9
         clear e5 d9
         replace g4 := eq_true g4
         replace g1 := eq_true g1
         go_wp2
         repeat (go_quiet (fail); try go_wp2)
         go_roundg k4
         case measure => have := j4.out; have := n2.out; have := p4.out; have := p3.out; omega
         case rel => exact ⟨(wrap64 (b0 + 1)), eqs, H', ⟨by have := j4.out; have := n2.out; have := p4.out; have := p3.out; omega⟩, ⟨kN HO_7⟩, ⟨bk a2⟩, ⟨bk a4⟩, ⟨kC a8⟩, ⟨bb HB⟩⟩
def q4_bound.f (a0 : Int) (a1 : Int) : Option (Bool) := (q4_in.f a0 0 40).bind fun e2 => (if e2 = true then (if a1 = (-1) then (some true) else ((q4_in.f a1 a0 40).bind fun e1 => (some e1))) else (some false))
theorem q4_bound.calls (a0 : Int) (a1 : Int) (r : Bool) (w : World) (h : q4_bound.f a0 a1 = some r) :
  Calls Tryz.prog 112 #[.int .i64 a0, .int .i64 a1] w fun e w' => e = .returned (.bool r) ∧ Drawn0 w w' := by
 have H : ((q4_in.f a0 0 40).bind fun e2 => (if e2 = true then (if a1 = (-1) then (some true) else ((q4_in.f a1 a0 40).bind fun e1 => (some e1))) else (some false))) = some r := h
 clear h
 obtain ⟨e2, A3, H⟩ := obA H
 by_cases c4 : e2 = true
 rotate_left
 ·replace c4 := Bool.eq_false_iff.mpr c4
  subst c4
  replace H := iff_ H
  obtain rfl := Option.some.inj H
  go_enter Tryz.func112, Tryz.ntmps112
  go_wp2_with ((with_reducible refine gate_callee (f := 90) rfl ?_); refine gl 6 Tryz.func90 #[.int .i64 a0, .int .i64 0, .int .i64 40] (h := ?_); (with_reducible refine (q4_in.calls a0 0 40 false _ A3.out).mono ?_); rintro e w' ⟨rfl, ⟨nd, rfl⟩⟩; refine ⟨_, rfl, ?_⟩)
  go_ret
  exact ⟨by first | rfl | (simp; done) | (simp [*]; done), drw⟩
 subst c4
 replace H := ift H
 by_cases c5 : a1 = (-1)
 ·rw [if_pos c5] at H
  have n9 := beq_iff_eq.mpr c5
  have n8 := bne_eq_false_iff_eq.mpr c5
  clear c5
  obtain rfl := Option.some.inj H
  go_enter Tryz.func112, Tryz.ntmps112
  go_wp2_with ((with_reducible refine gate_callee (f := 90) rfl ?_); refine gl 6 Tryz.func90 #[.int .i64 a0, .int .i64 0, .int .i64 40] (h := ?_); (with_reducible refine (q4_in.calls a0 0 40 true _ A3.out).mono ?_); rintro e w' ⟨rfl, ⟨nd, rfl⟩⟩; refine ⟨_, rfl, ?_⟩)
  go_ret
  exact ⟨by first | rfl | (simp; done) | (simp [*]; done), drw⟩
 rw [if_neg c5] at H
 have n9 := beq_eq_false_iff_ne.mpr c5
 have n8 := bne_iff_ne.mpr c5
 obtain ⟨e1, A6, H⟩ := obA H
 obtain rfl := Option.some.inj H
 go_enter Tryz.func112, Tryz.ntmps112
 go_wp2_with (first | ((with_reducible refine gate_callee (f := 90) rfl ?_); refine gl 6 Tryz.func90 #[.int .i64 a0, .int .i64 0, .int .i64 40] (h := ?_); (with_reducible refine (q4_in.calls a0 0 40 true _ A3.out).mono ?_); rintro e w' ⟨rfl, ⟨nd, rfl⟩⟩; refine ⟨_, rfl, ?_⟩) | (go_at_call 90; (with_reducible refine (q4_in.calls a1 a0 40 e1 _ A6.out).mono ?_); rintro e w' ⟨rfl, ⟨nd, rfl⟩⟩))
 go_ret
 exact ⟨by first | rfl | (simp; done) | (simp [*]; done), drw⟩
def q4_edge.l0 : Nat → Int → Int → List (S96) → List (S101) → ByteArray → Int → Int → Int → Int → Int → Int → Option (Int)
 | 0, _, _, _, _, _, _, _, _, _, _, _ => none
 | k + 1, x1, x6, d6, d5, g0, e9, e8, e7, e6, e5, e4 => if x6 < x1 then (if 0 ≤ x6 then (if x6 < (d5.length : Int) then (if ((rd_T101 d5 x6).f0).toList = g0.toList then (some 5) else (q4_edge.l0 k x1 (wrap64 (x6 + 1)) d6 d5 g0 e9 e8 e7 e6 e5 e4)) else (none)) else (none)) else ((q4_in.f e9 0 (wrap64 ((d6.length : Int) - 1))).bind fun g8 => (if g8 = true then ((q4_in.f e8 0 (wrap64 ((d6.length : Int) - 1))).bind fun g7 => (if g7 = true then ((q4_bound.f e7 e6).bind fun g6 => (if g6 = true then ((q4_bound.f e5 e4).bind fun g5 => (if g5 = true then (some 0) else (some 6))) else (some 6))) else (some 6))) else (some 6)))
def q4_edge.f (k : Nat) (a6 : List (S96)) (a2 : List (S101)) (a1 : Int) : Option (Int) := if 0 ≤ a1 then (if a1 < (a2.length : Int) then ((q1_IsName.f k ((rd_T101 a2 a1).f0)).bind fun e0 => (if e0 = true then (q4_edge.l0 k a1 0 a6 a2 ((rd_T101 a2 a1).f0) ((rd_T101 a2 a1).f1) ((rd_T101 a2 a1).f2) ((rd_T101 a2 a1).f3) ((rd_T101 a2 a1).f4) ((rd_T101 a2 a1).f5) ((rd_T101 a2 a1).f6)) else (some 2))) else (none)) else (none)
theorem q4_edge.calls (k : Nat) (d4 : Option Addr) (d3 : Nat) (a6 : List (S96)) (g3 : Option Addr) (d2 : Nat) (a2 : List (S101)) (a1 : Int) (r : Int) (w : World) (h2 : Kd.C k96 w d4 a6.length a6) (h4 : a6.length ≤ d3) (h1 : Kd.C k101 w g3 a2.length a2) (h3 : a2.length ≤ d2) (h : q4_edge.f k a6 a2 a1 = some r) :
  Calls Tryz.prog 89 #[.agg #[.slice d4 a6.length d3, .slice g3 a2.length d2], .int .i64 a1] w fun e w' => e = .returned (.int .i64 r) ∧ Below w.heap.size w w' := by
 have hu31 := Tryz.underlying31
 have hu101 := Tryz.underlying101
 have I4 := am h2
 have I6 := am h4
 clear h2 h4
 have d9 := am h1
 have I5 := am h3
 clear h1 h3
 have HB := am (Below.refl w.heap.size w)
 have H : (if 0 ≤ a1 then (if a1 < (a2.length : Int) then ((q1_IsName.f k ((rd_T101 a2 a1).f0)).bind fun e0 => (if e0 = true then (q4_edge.l0 k a1 0 a6 a2 ((rd_T101 a2 a1).f0) ((rd_T101 a2 a1).f1) ((rd_T101 a2 a1).f2) ((rd_T101 a2 a1).f3) ((rd_T101 a2 a1).f4) ((rd_T101 a2 a1).f5) ((rd_T101 a2 a1).f6)) else (some 2))) else (none)) else (none)) = some r := h
 clear h
 obtain ⟨c3, H⟩ := itn H
 have o1 := decide_eq_true c3
 clear c3
 obtain ⟨c4, H⟩ := itn H
 have o0 := decide_eq_true c4
 clear c4
 obtain ⟨e0, A5, H⟩ := obA H
 by_cases c6 : e0 = true
 rotate_left
 ·replace c6 := Bool.eq_false_iff.mpr c6
  subst c6
  replace H := iff_ H
  obtain rfl := Option.some.inj H
  go_enter Tryz.func89, Tryz.ntmps89
  go_wp2_with (first | ((with_reducible refine gate_dst (N := 2) rfl ?_); refine be 2 #[.slice d4 a6.length d3, .slice g3 a2.length d2] 31 ?_; intro d8 hg I9 hbox hb; have a3 := am (hbox); have n3 := bsz HB hg; replace HB := bstep HB hb; clear hb hbox hg; obtain ⟨x7, x5, p0, o9⟩ := cz2 a3; have c8 : 0 ≤ a1 := odt; have c7 : a1 < (a2.length : Int) := odt; obtain ⟨c9, h0, b5, b4, b3, b2, b1, b0, a9⟩ := at_T101 d9.out a1 c8 c7; cases h0; replace b5 := hxc HB b5; replace b4 := hxc HB b4; replace b3 := hxc HB b3; replace b2 := hxc HB b2; replace b1 := hxc HB b1; replace b0 := hxc HB b0; replace a9 := hxc HB a9; replace c8 := eq_true c8; replace c7 := eq_true c7) | ((with_reducible refine gate_dst (N := 5) rfl ?_); refine be 5 #[.string (⟨#[]⟩ : ByteArray), .int .i64 0, .int .i64 0, .int .i64 0, .int .i64 0, .int .i64 0, .int .i64 0] 101 ?_; intro d7 hg I8 hbox hb; have a7 := am (hbox); have n2 := bsz HB hg; replace HB := bstep HB hb; have a5 := blt a3 hg; have a4 := bgt a3 hg; replace a3 := bkb a3 hb; clear hb hbox hg; have H3 := a4.out; have G4 := a5.out; obtain ⟨x4, x3, x2, x0, w8, w6, w5, o8, o7, o6, o5, o4, o3, o2⟩ := cz7 a7) | (go_at_call 109; (with_reducible refine (q1_IsName.calls k ((rd_T101 a2 a1).f0) false _ A5.out).mono ?_); rintro e I7 ⟨rfl, hb⟩; replace a3 := am (blk_below (g := d8) (o := .cells #[.slice d4 a6.length d3, .slice (some c9) a2.length d2] 31 (0, 0)) (bkF a3) hb); replace a7 := am (blk_below (g := d7) (o := .cells #[.string ((rd_T101 a2 a1).f0), .int .i64 ((rd_T101 a2 a1).f1), .int .i64 ((rd_T101 a2 a1).f2), .int .i64 ((rd_T101 a2 a1).f3), .int .i64 ((rd_T101 a2 a1).f4), .int .i64 ((rd_T101 a2 a1).f5), .int .i64 ((rd_T101 a2 a1).f6)] 101 (0, 0)) (by (with_reducible repeat (first | refine dN ?_ _ | refine dR ?_ | refine dA ?_ _)); refine blk_put (cs := #[.string ((rd_T101 a2 a1).f0), .int .i64 ((rd_T101 a2 a1).f1), .int .i64 ((rd_T101 a2 a1).f2), .int .i64 ((rd_T101 a2 a1).f3), .int .i64 ((rd_T101 a2 a1).f4), .int .i64 ((rd_T101 a2 a1).f5), .int .i64 0]) ?_ 6 _ rfl; refine blk_put (cs := #[.string ((rd_T101 a2 a1).f0), .int .i64 ((rd_T101 a2 a1).f1), .int .i64 ((rd_T101 a2 a1).f2), .int .i64 ((rd_T101 a2 a1).f3), .int .i64 ((rd_T101 a2 a1).f4), .int .i64 0, .int .i64 0]) ?_ 5 _ rfl; refine blk_put (cs := #[.string ((rd_T101 a2 a1).f0), .int .i64 ((rd_T101 a2 a1).f1), .int .i64 ((rd_T101 a2 a1).f2), .int .i64 ((rd_T101 a2 a1).f3), .int .i64 0, .int .i64 0, .int .i64 0]) ?_ 4 _ rfl; refine blk_put (cs := #[.string ((rd_T101 a2 a1).f0), .int .i64 ((rd_T101 a2 a1).f1), .int .i64 ((rd_T101 a2 a1).f2), .int .i64 0, .int .i64 0, .int .i64 0, .int .i64 0]) ?_ 3 _ rfl; refine blk_put (cs := #[.string ((rd_T101 a2 a1).f0), .int .i64 ((rd_T101 a2 a1).f1), .int .i64 0, .int .i64 0, .int .i64 0, .int .i64 0, .int .i64 0]) ?_ 2 _ rfl; refine blk_put (cs := #[.string ((rd_T101 a2 a1).f0), .int .i64 0, .int .i64 0, .int .i64 0, .int .i64 0, .int .i64 0, .int .i64 0]) ?_ 1 _ rfl; refine blk_put (cs := #[.string (⟨#[]⟩ : ByteArray), .int .i64 0, .int .i64 0, .int .i64 0, .int .i64 0, .int .i64 0, .int .i64 0]) ?_ 0 _ rfl; (with_reducible repeat (first | refine dN ?_ _ | refine dR ?_ | refine dA ?_ _)); exact a7.out) hb); replace HB := bstep HB hb; (try clear hb); (try clear hb2); (try clear hk); (try clear hi)))
  repeat (go_quiet (fail); try go_wp2_with (fail))
  go_ret
  exact ⟨erf, bb HB⟩
 subst c6
 replace H := ift H
 have H' := am H
 clear H
 go_enter Tryz.func89, Tryz.ntmps89
 go_wp2_with (first | ((with_reducible refine gate_dst (N := 2) rfl ?_); refine be 2 #[.slice d4 a6.length d3, .slice g3 a2.length d2] 31 ?_; intro d8 hg w7 hbox hb; have a3 := am (hbox); have n3 := bsz HB hg; replace HB := bstep HB hb; clear hb hbox hg; obtain ⟨m7, m6, m5, m4⟩ := cz2 a3; have c8 : 0 ≤ a1 := odt; have c7 : a1 < (a2.length : Int) := odt; obtain ⟨c9, h0, b5, b4, b3, b2, b1, b0, a9⟩ := at_T101 d9.out a1 c8 c7; cases h0; replace b5 := hxc HB b5; replace b4 := hxc HB b4; replace b3 := hxc HB b3; replace b2 := hxc HB b2; replace b1 := hxc HB b1; replace b0 := hxc HB b0; replace a9 := hxc HB a9; replace c8 := eq_true c8; replace c7 := eq_true c7) | ((with_reducible refine gate_dst (N := 5) rfl ?_); refine be 5 #[.string (⟨#[]⟩ : ByteArray), .int .i64 0, .int .i64 0, .int .i64 0, .int .i64 0, .int .i64 0, .int .i64 0] 101 ?_; intro d7 hg w9 hbox hb; have a7 := am (hbox); have n2 := bsz HB hg; replace HB := bstep HB hb; have a5 := blt a3 hg; have a4 := bgt a3 hg; replace a3 := bkb a3 hb; clear hb hbox hg; have I1 := a4.out; have H2 := a5.out; obtain ⟨m3, m2, m1, m0, j9, j8, j7, j6, j5, j4, j3, j2, j1, j0⟩ := cz7 a7) | (go_at_call 109; (with_reducible refine (q1_IsName.calls k ((rd_T101 a2 a1).f0) true _ A5.out).mono ?_); rintro e J0 ⟨rfl, hb⟩; replace a3 := am (blk_below (g := d8) (o := .cells #[.slice d4 a6.length d3, .slice (some c9) a2.length d2] 31 (0, 0)) (bkF a3) hb); replace a7 := am (blk_below (g := d7) (o := .cells #[.string ((rd_T101 a2 a1).f0), .int .i64 ((rd_T101 a2 a1).f1), .int .i64 ((rd_T101 a2 a1).f2), .int .i64 ((rd_T101 a2 a1).f3), .int .i64 ((rd_T101 a2 a1).f4), .int .i64 ((rd_T101 a2 a1).f5), .int .i64 ((rd_T101 a2 a1).f6)] 101 (0, 0)) (by (with_reducible repeat (first | refine dN ?_ _ | refine dR ?_ | refine dA ?_ _)); refine blk_put (cs := #[.string ((rd_T101 a2 a1).f0), .int .i64 ((rd_T101 a2 a1).f1), .int .i64 ((rd_T101 a2 a1).f2), .int .i64 ((rd_T101 a2 a1).f3), .int .i64 ((rd_T101 a2 a1).f4), .int .i64 ((rd_T101 a2 a1).f5), .int .i64 0]) ?_ 6 _ rfl; refine blk_put (cs := #[.string ((rd_T101 a2 a1).f0), .int .i64 ((rd_T101 a2 a1).f1), .int .i64 ((rd_T101 a2 a1).f2), .int .i64 ((rd_T101 a2 a1).f3), .int .i64 ((rd_T101 a2 a1).f4), .int .i64 0, .int .i64 0]) ?_ 5 _ rfl; refine blk_put (cs := #[.string ((rd_T101 a2 a1).f0), .int .i64 ((rd_T101 a2 a1).f1), .int .i64 ((rd_T101 a2 a1).f2), .int .i64 ((rd_T101 a2 a1).f3), .int .i64 0, .int .i64 0, .int .i64 0]) ?_ 4 _ rfl; refine blk_put (cs := #[.string ((rd_T101 a2 a1).f0), .int .i64 ((rd_T101 a2 a1).f1), .int .i64 ((rd_T101 a2 a1).f2), .int .i64 0, .int .i64 0, .int .i64 0, .int .i64 0]) ?_ 3 _ rfl; refine blk_put (cs := #[.string ((rd_T101 a2 a1).f0), .int .i64 ((rd_T101 a2 a1).f1), .int .i64 0, .int .i64 0, .int .i64 0, .int .i64 0, .int .i64 0]) ?_ 2 _ rfl; refine blk_put (cs := #[.string ((rd_T101 a2 a1).f0), .int .i64 0, .int .i64 0, .int .i64 0, .int .i64 0, .int .i64 0, .int .i64 0]) ?_ 1 _ rfl; refine blk_put (cs := #[.string (⟨#[]⟩ : ByteArray), .int .i64 0, .int .i64 0, .int .i64 0, .int .i64 0, .int .i64 0, .int .i64 0]) ?_ 0 _ rfl; (with_reducible repeat (first | refine dN ?_ _ | refine dR ?_ | refine dA ?_ _)); exact a7.out) hb); replace HB := bstep HB hb; (try clear hb); (try clear hb2); (try clear hk); (try clear hi)))
 repeat (go_quiet (fail); try go_wp2_with (fail))
 go_loopg [6] k (fun kq v6 w' => ∃ (a8 : Int), v6 = .int .i64 a8 ∧ Aside0 (q4_edge.l0 kq a1 a8 a6 a2 ((rd_T101 a2 a1).f0) ((rd_T101 a2 a1).f1) ((rd_T101 a2 a1).f2) ((rd_T101 a2 a1).f3) ((rd_T101 a2 a1).f4) ((rd_T101 a2 a1).f5) ((rd_T101 a2 a1).f6) = some r) ∧ Aside0 (kq ≤ k) ∧ Aside0 (w'.heap[d8]? = some (.cells #[(.slice d4 a6.length d3), (.slice (some c9) a2.length d2)] 31 (0, 0))) ∧ Aside0 (w'.heap[d7]? = some (.cells #[.string ((rd_T101 a2 a1).f0), .int .i64 ((rd_T101 a2 a1).f1), .int .i64 ((rd_T101 a2 a1).f2), .int .i64 ((rd_T101 a2 a1).f3), .int .i64 ((rd_T101 a2 a1).f4), .int .i64 ((rd_T101 a2 a1).f5), .int .i64 ((rd_T101 a2 a1).f6)] 101 (0, 0))) ∧ Aside0 (Below w.heap.size w w'))
 case atStart => exact ⟨(0), eqs, H', ⟨Nat.le_refl _⟩, ⟨bk a3⟩, ⟨bk a7⟩, ⟨bb HB⟩⟩
 case round =>
  clear H'
  clear o1
  clear o0
  clear m3
  clear m2
  clear m1
  clear m0
  clear j9
  clear j8
  clear j7
  clear m7
  clear m6
  clear j6
  clear j5
  clear j4
  clear j3
  clear j2
  clear j1
  clear j0
  clear m5
  clear m4
  clear b5
  clear b4
  clear b3
  clear b2
  clear b1
  clear b0
  clear a9
  clear c8
  clear c7
  obtain ⟨a8, rfl, HA, n6, a3, a7, HB⟩ := hrel
  cases gk with
  | zero => exact absurd HA.out (by simp [q4_edge.l0])
  | succ k1 =>
   have H := HA.out
   clear HA
   simp only [q4_edge.l0] at H
   by_cases g1 : a8 < a1
   ·rw [if_pos g1] at H
    have n1 := decide_eq_true g1
    clear g1
    obtain ⟨n5, H⟩ := itn H
    have I3 := decide_eq_true n5
    clear n5
    obtain ⟨n4, H⟩ := itn H
    have I2 := decide_eq_true n4
    clear n4
    by_cases e3 : ((rd_T101 a2 a8).f0).toList = ((rd_T101 a2 a1).f0).toList
    ·rw [if_pos e3] at H
     have n0 := beq_iff_eq.mpr e3
     have m9 := bne_eq_false_iff_eq.mpr e3
     clear e3
     obtain rfl := Option.some.inj H
     have I0 := a5.out
     have H1 := a4.out
     obtain ⟨G3, G2, w4, w3⟩ := cz2 a3
     have d1 : 0 ≤ a8 := odt
     have d0 : a8 < (a2.length : Int) := odt
     obtain ⟨g2, g9, c2, c1, c0, b9, b8, b7, b6⟩ := at_T101 d9.out a8 d1 d0
     obtain rfl : c9 = g2 := (by injection g9)
     replace c2 := hxc HB c2
     replace c1 := hxc HB c1
     replace c0 := hxc HB c0
     replace b9 := hxc HB b9
     replace b8 := hxc HB b8
     replace b7 := hxc HB b7
     replace b6 := hxc HB b6
     replace d1 := eq_true d1
     replace d0 := eq_true d0
     obtain ⟨G1, G0, F9, F8, F7, F6, F5, w2, w1, w0, v9, v8, v7, v5⟩ := cz7 a7
     go_wp2
     repeat (go_quiet (fail); try go_wp2)
     go_ret
     exact ⟨erf, bb HB⟩
    rw [if_neg e3] at H
    have n0 := beq_eq_false_iff_ne.mpr e3
    have m9 := bne_iff_ne.mpr e3
    have H' := am H
    clear H
    have H9 := a5.out
    have H0 := a4.out
    obtain ⟨F4, F3, v4, v3⟩ := cz2 a3
    have d1 : 0 ≤ a8 := odt
    have d0 : a8 < (a2.length : Int) := odt
    obtain ⟨g2, g9, c2, c1, c0, b9, b8, b7, b6⟩ := at_T101 d9.out a8 d1 d0
    obtain rfl : c9 = g2 := (by injection g9)
    replace c2 := hxc HB c2
    replace c1 := hxc HB c1
    replace c0 := hxc HB c0
    replace b9 := hxc HB b9
    replace b8 := hxc HB b8
    replace b7 := hxc HB b7
    replace b6 := hxc HB b6
    replace d1 := eq_true d1
    replace d0 := eq_true d0
    obtain ⟨F2, F1, F0, E9, E8, E7, E6, v2, v1, v0, t9, t8, t7, t6⟩ := cz7 a7
    go_wp2
    repeat (go_quiet (fail); try go_wp2)
    go_roundg k1
    case measure => have := n6.out; omega
    case rel => exact ⟨(wrap64 (a8 + 1)), eqs, H', ⟨by have := n6.out; omega⟩, ⟨bk a3⟩, ⟨bk a7⟩, ⟨bb HB⟩⟩
   rw [if_neg g1] at H
   have n1 := decide_eq_false g1
   clear g1
   obtain ⟨g8, g4, H⟩ := obA H
   by_cases h8 : g8 = true
   rotate_left
   ·replace h8 := Bool.eq_false_iff.mpr h8
    subst h8
    replace H := iff_ H
    obtain rfl := Option.some.inj H
    have H4 := a5.out
    have G5 := a4.out
    obtain ⟨y6, y5, p9, p8⟩ := cz2 a3
    obtain ⟨y4, y3, y2, y1, y0, x9, x8, p7, p6, p5, p4, p3, p2, p1⟩ := cz7 a7
    go_wp2_with (go_at_call 90; (with_reducible refine (q4_in.calls ((rd_T101 a2 a1).f1) 0 (wrap64 ((a6.length : Int) - 1)) false _ g4.out).mono ?_); rintro e w' ⟨rfl, ⟨nd, rfl⟩⟩; (try first | exact ⟨rfl, _, World.drewN_drewN _ _ _⟩ | exact ⟨rfl, _, Eq.trans (World.drewN_drewN _ _ _) (congrArg (World.drewN _) (Nat.add_assoc _ _ _))⟩))
    repeat (go_quiet (fail); try go_wp2_with (fail))
    go_ret
    exact ⟨erf, bb HB⟩
   subst h8
   replace H := ift H
   obtain ⟨g7, h9, H⟩ := obA H
   by_cases h7 : g7 = true
   rotate_left
   ·replace h7 := Bool.eq_false_iff.mpr h7
    subst h7
    replace H := iff_ H
    obtain rfl := Option.some.inj H
    have H5 := a5.out
    have G6 := a4.out
    obtain ⟨A8, A7, q8, q7⟩ := cz2 a3
    obtain ⟨A4, A2, A1, A0, y9, y8, y7, q6, q5, q4, q3, q2, q1, q0⟩ := cz7 a7
    go_wp2_with (first | (go_at_call 90; (with_reducible refine (q4_in.calls ((rd_T101 a2 a1).f1) 0 (wrap64 ((a6.length : Int) - 1)) true _ g4.out).mono ?_); rintro e w' ⟨rfl, ⟨nd, rfl⟩⟩; (try first | exact ⟨rfl, _, World.drewN_drewN _ _ _⟩ | exact ⟨rfl, _, Eq.trans (World.drewN_drewN _ _ _) (congrArg (World.drewN _) (Nat.add_assoc _ _ _))⟩)) | (go_at_call 90; (with_reducible refine (q4_in.calls ((rd_T101 a2 a1).f2) 0 (wrap64 ((a6.length : Int) - 1)) false _ h9.out).mono ?_); rintro e w' ⟨rfl, ⟨nd, rfl⟩⟩; (try first | exact ⟨rfl, _, World.drewN_drewN _ _ _⟩ | exact ⟨rfl, _, Eq.trans (World.drewN_drewN _ _ _) (congrArg (World.drewN _) (Nat.add_assoc _ _ _))⟩)))
    repeat (go_quiet (fail); try go_wp2_with (fail))
    go_ret
    exact ⟨erf, bb HB⟩
   subst h7
   replace H := ift H
   obtain ⟨g6, m8, H⟩ := obA H
   by_cases h6 : g6 = true
   rotate_left
   ·replace h6 := Bool.eq_false_iff.mpr h6
    subst h6
    replace H := iff_ H
    obtain rfl := Option.some.inj H
    have H6 := a5.out
    have G7 := a4.out
    obtain ⟨C7, C6, r7, r6⟩ := cz2 a3
    obtain ⟨C5, C4, C3, C2, C1, C0, A9, r5, r4, r3, r2, r1, r0, q9⟩ := cz7 a7
    go_wp2_with (first | (go_at_call 90; (with_reducible refine (q4_in.calls ((rd_T101 a2 a1).f1) 0 (wrap64 ((a6.length : Int) - 1)) true _ g4.out).mono ?_); rintro e w' ⟨rfl, ⟨nd, rfl⟩⟩; (try first | exact ⟨rfl, _, World.drewN_drewN _ _ _⟩ | exact ⟨rfl, _, Eq.trans (World.drewN_drewN _ _ _) (congrArg (World.drewN _) (Nat.add_assoc _ _ _))⟩)) | (go_at_call 90; (with_reducible refine (q4_in.calls ((rd_T101 a2 a1).f2) 0 (wrap64 ((a6.length : Int) - 1)) true _ h9.out).mono ?_); rintro e w' ⟨rfl, ⟨nd, rfl⟩⟩; (try first | exact ⟨rfl, _, World.drewN_drewN _ _ _⟩ | exact ⟨rfl, _, Eq.trans (World.drewN_drewN _ _ _) (congrArg (World.drewN _) (Nat.add_assoc _ _ _))⟩)) | (go_at_call 112; (with_reducible refine (q4_bound.calls ((rd_T101 a2 a1).f3) ((rd_T101 a2 a1).f4) false _ m8.out).mono ?_); rintro e w' ⟨rfl, ⟨nd, rfl⟩⟩; (try first | exact ⟨rfl, _, World.drewN_drewN _ _ _⟩ | exact ⟨rfl, _, Eq.trans (World.drewN_drewN _ _ _) (congrArg (World.drewN _) (Nat.add_assoc _ _ _))⟩)))
    repeat (go_quiet (fail); try go_wp2_with (fail))
    go_ret
    exact ⟨erf, bb HB⟩
   subst h6
   replace H := ift H
   obtain ⟨g5, n7, H⟩ := obA H
   by_cases h5 : g5 = true
   ·subst h5
    replace H := ift H
    obtain rfl := Option.some.inj H
    have H8 := a5.out
    have G9 := a4.out
    obtain ⟨E5, E4, t5, t4⟩ := cz2 a3
    obtain ⟨E3, E2, E1, E0, D9, D8, D7, t3, t2, t1, t0, s9, s8, s7⟩ := cz7 a7
    go_wp2_with (first | (go_at_call 90; (with_reducible refine (q4_in.calls ((rd_T101 a2 a1).f1) 0 (wrap64 ((a6.length : Int) - 1)) true _ g4.out).mono ?_); rintro e w' ⟨rfl, ⟨nd, rfl⟩⟩; (try first | exact ⟨rfl, _, World.drewN_drewN _ _ _⟩ | exact ⟨rfl, _, Eq.trans (World.drewN_drewN _ _ _) (congrArg (World.drewN _) (Nat.add_assoc _ _ _))⟩)) | (go_at_call 90; (with_reducible refine (q4_in.calls ((rd_T101 a2 a1).f2) 0 (wrap64 ((a6.length : Int) - 1)) true _ h9.out).mono ?_); rintro e w' ⟨rfl, ⟨nd, rfl⟩⟩; (try first | exact ⟨rfl, _, World.drewN_drewN _ _ _⟩ | exact ⟨rfl, _, Eq.trans (World.drewN_drewN _ _ _) (congrArg (World.drewN _) (Nat.add_assoc _ _ _))⟩)) | (go_at_call 112; (with_reducible refine (q4_bound.calls ((rd_T101 a2 a1).f3) ((rd_T101 a2 a1).f4) true _ m8.out).mono ?_); rintro e w' ⟨rfl, ⟨nd, rfl⟩⟩; (try first | exact ⟨rfl, _, World.drewN_drewN _ _ _⟩ | exact ⟨rfl, _, Eq.trans (World.drewN_drewN _ _ _) (congrArg (World.drewN _) (Nat.add_assoc _ _ _))⟩)) | (go_at_call 112; (with_reducible refine (q4_bound.calls ((rd_T101 a2 a1).f5) ((rd_T101 a2 a1).f6) true _ n7.out).mono ?_); rintro e w' ⟨rfl, ⟨nd, rfl⟩⟩; (try first | exact ⟨rfl, _, World.drewN_drewN _ _ _⟩ | exact ⟨rfl, _, Eq.trans (World.drewN_drewN _ _ _) (congrArg (World.drewN _) (Nat.add_assoc _ _ _))⟩)))
    repeat (go_quiet (fail); try go_wp2_with (fail))
    go_ret
    exact ⟨erf, bb HB⟩
   replace h5 := Bool.eq_false_iff.mpr h5
   subst h5
   replace H := iff_ H
   obtain rfl := Option.some.inj H
   have H7 := a5.out
   have G8 := a4.out
   obtain ⟨D6, D5, s6, s5⟩ := cz2 a3
   obtain ⟨D4, D3, D2, D1, D0, C9, C8, s4, s3, s2, s1, s0, r9, r8⟩ := cz7 a7
   go_wp2_with (first | (go_at_call 90; (with_reducible refine (q4_in.calls ((rd_T101 a2 a1).f1) 0 (wrap64 ((a6.length : Int) - 1)) true _ g4.out).mono ?_); rintro e w' ⟨rfl, ⟨nd, rfl⟩⟩; (try first | exact ⟨rfl, _, World.drewN_drewN _ _ _⟩ | exact ⟨rfl, _, Eq.trans (World.drewN_drewN _ _ _) (congrArg (World.drewN _) (Nat.add_assoc _ _ _))⟩)) | (go_at_call 90; (with_reducible refine (q4_in.calls ((rd_T101 a2 a1).f2) 0 (wrap64 ((a6.length : Int) - 1)) true _ h9.out).mono ?_); rintro e w' ⟨rfl, ⟨nd, rfl⟩⟩; (try first | exact ⟨rfl, _, World.drewN_drewN _ _ _⟩ | exact ⟨rfl, _, Eq.trans (World.drewN_drewN _ _ _) (congrArg (World.drewN _) (Nat.add_assoc _ _ _))⟩)) | (go_at_call 112; (with_reducible refine (q4_bound.calls ((rd_T101 a2 a1).f3) ((rd_T101 a2 a1).f4) true _ m8.out).mono ?_); rintro e w' ⟨rfl, ⟨nd, rfl⟩⟩; (try first | exact ⟨rfl, _, World.drewN_drewN _ _ _⟩ | exact ⟨rfl, _, Eq.trans (World.drewN_drewN _ _ _) (congrArg (World.drewN _) (Nat.add_assoc _ _ _))⟩)) | (go_at_call 112; (with_reducible refine (q4_bound.calls ((rd_T101 a2 a1).f5) ((rd_T101 a2 a1).f6) false _ n7.out).mono ?_); rintro e w' ⟨rfl, ⟨nd, rfl⟩⟩; (try first | exact ⟨rfl, _, World.drewN_drewN _ _ _⟩ | exact ⟨rfl, _, Eq.trans (World.drewN_drewN _ _ _) (congrArg (World.drewN _) (Nat.add_assoc _ _ _))⟩)))
   repeat (go_quiet (fail); try go_wp2_with (fail))
   go_ret
   exact ⟨erf, bb HB⟩
mutual
def q4_Valid.j0 : Nat → Bool → List (S96) → List (S101) → Option (ByteArray × Int)
 | 0, _, _, _ => none
 | k + 1, t4, b5, b4 => if t4 = true then (some ((⟨#[]⟩ : ByteArray), 3)) else (q4_Valid.l0 k 0 b5 b4)
def q4_Valid.l0 : Nat → Int → List (S96) → List (S101) → Option (ByteArray × Int)
 | 0, _, _, _ => none
 | k + 1, x4, b5, b4 => if x4 < (b5.length : Int) then ((q4_node.f k b5 b4 x4).bind fun d6 => (if d6 = 0 then (q4_Valid.l0 k (wrap64 (x4 + 1)) b5 b4) else (if 0 ≤ x4 then (some ((rd_T96 b5 x4).f0, d6)) else (none)))) else (q4_Valid.l1 k 0 b5 b4)
def q4_Valid.l1 : Nat → Int → List (S96) → List (S101) → Option (ByteArray × Int)
 | 0, _, _, _ => none
 | k + 1, x6, b5, b4 => if x6 < (b4.length : Int) then ((q4_edge.f k b5 b4 x6).bind fun d5 => (if d5 = 0 then (q4_Valid.l1 k (wrap64 (x6 + 1)) b5 b4) else (if 0 ≤ x6 then (some ((rd_T101 b4 x6).f0, d5)) else (none)))) else (some ((⟨#[]⟩ : ByteArray), 0))
end
def q4_Valid.f (k : Nat) (a0 : List (S96)) (a3 : List (S101)) : Option (ByteArray × Int) := if (a0.length : Int) = 0 then (some ((⟨#[]⟩ : ByteArray), 7)) else (if (a0.length : Int) > 12 then (q4_Valid.j0 k true a0 a3) else (q4_Valid.j0 k (decide ((a3.length : Int) > 20)) a0 a3))
theorem q4_Valid.calls (k : Nat) (a9 : Option Addr) (a7 : Nat) (a0 : List (S96)) (a8 : Option Addr) (a6 : Nat) (a3 : List (S101)) (r1 : ByteArray) (r2 : Int) (w : World) (d1 : Kd.C k96 w a9 a0.length a0) (d3 : a0.length ≤ a7) (d0 : Kd.C k101 w a8 a3.length a3) (d2 : a3.length ≤ a6) (h : q4_Valid.f k a0 a3 = some (r1, r2)) :
  Calls Tryz.prog 62 #[.agg #[.slice a9 a0.length a7, .slice a8 a3.length a6]] w fun e w' => e = .returned (.tuple #[.string r1, .int .i64 r2]) ∧ Below w.heap.size w w' := by
 have hu31 := Tryz.underlying31
 have b7 := am d1
 have c1 := am d3
 clear d1 d3
 have b6 := am d0
 have c0 := am d2
 clear d0 d2
 have HB := am (Below.refl w.heap.size w)
 have H : (if (a0.length : Int) = 0 then (some ((⟨#[]⟩ : ByteArray), 7)) else (if (a0.length : Int) > 12 then (q4_Valid.j0 k true a0 a3) else (q4_Valid.j0 k (decide ((a3.length : Int) > 20)) a0 a3))) = some (r1, r2) := h
 clear h
 by_cases c2 : (a0.length : Int) = 0
 ·rw [if_pos c2] at H
  have m2 := beq_iff_eq.mpr c2
  have m1 := bne_eq_false_iff_eq.mpr c2
  clear c2
  simp only [Option.some.injEq, Prod.mk.injEq] at H
  obtain ⟨rfl, rfl⟩ := H
  go_enter Tryz.func62, Tryz.ntmps62
  go_wp2_with ((with_reducible refine gate_dst (N := 1) rfl ?_); (try (refine gate_guard (by rfl) ?_; dsimp only)); refine be 1 #[.slice a9 a0.length a7, .slice a8 a3.length a6] 31 ?_; intro d8 hg w3 hbox hb; have a4 := am (hbox); have m9 := bsz HB hg; replace HB := bstep HB hb; clear hb hbox hg; obtain ⟨v5, v3, v0, t9⟩ := cz2 a4)
  go_ret2
  exact ⟨erf, bb HB⟩
 rw [if_neg c2] at H
 have m2 := beq_eq_false_iff_ne.mpr c2
 have m1 := bne_iff_ne.mpr c2
 have o1 : ¬ (a0 = []) := fun h_ => c2 (by rw [h_]; rfl)
 have m3 := am H
 clear H
 go_enter Tryz.func62, Tryz.ntmps62
 go_upto_region 3 with ((with_reducible refine gate_dst (N := 1) rfl ?_); (try (refine gate_guard (by rfl) ?_; dsimp only)); refine be 1 #[.slice a9 a0.length a7, .slice a8 a3.length a6] 31 ?_; intro d8 hg w6 hbox hb; have a4 := am (hbox); have m9 := bsz HB hg; replace HB := bstep HB hb; clear hb hbox hg; obtain ⟨m0, j9, j8, j7⟩ := cz2 a4)
 (try simp only [Act.put, List.setIfInBounds_toArray, List.set_cons_zero, List.set_cons_succ])
 go_cut [21] (fun t6 wc => ∃ (kq : Nat) (d7 : Bool), t6 = .bool d7 ∧ Aside0 (q4_Valid.j0 kq d7 a0 a3 = some (r1, r2)) ∧ Aside0 (kq ≤ k) ∧ Aside0 (wc.heap[d8]? = some (.cells #[(.slice a9 a0.length a7), (.slice a8 a3.length a6)] 31 (0, 0))) ∧ Aside0 (Below w.heap.size w wc))
 case first =>
  have H := m3.out
  clear m3
  by_cases c8 : (a0.length : Int) > 12
  rotate_left
  ·rw [if_neg c8] at H
   have d9 : decide (12 < (a0.length : Int)) = false := decide_eq_false c8
   have n8 : decide (12 < a0.length) = false := decide_eq_false (by omega)
   clear c8
   (first | rw [d9] | (simp only [i64_w, i32_w]; rw [d9]) | skip)
   have H' := am H
   clear H
   obtain ⟨t1, t0, q5, q4⟩ := cz2 a4
   go_wp2
   go_meet
   case rel => exact ⟨_, (decide ((a3.length : Int) > 20)), eqs, H', ⟨by first | omega | exact Nat.le_refl _⟩, ⟨bk a4⟩, ⟨bb HB⟩⟩
  rw [if_pos c8] at H
  have d9 : decide (12 < (a0.length : Int)) = true := decide_eq_true c8
  have n8 : decide (12 < a0.length) = true := decide_eq_true (by omega)
  clear c8
  (first | rw [d9] | (simp only [i64_w, i32_w]; rw [d9]) | skip)
  have H' := am H
  clear H
  obtain ⟨v2, v1, t8, t7⟩ := cz2 a4
  go_wp2
  go_meet
  case rel => exact ⟨_, (true), eqs, H', ⟨by first | omega | exact Nat.le_refl _⟩, ⟨bk a4⟩, ⟨bb HB⟩⟩
 case rest =>
  clear m3
  clear c2
  clear m2
  clear m1
  clear o1
  clear m0
  clear j9
  clear j8
  clear j7
  obtain ⟨kq, d7, rfl, HA, j2, a4, HB⟩ := hcut
  cases kq with
  | zero => exact absurd HA.out (by simp [q4_Valid.j0])
  | succ n0 =>
   have H := HA.out
   clear HA
   simp only [q4_Valid.j0] at H
   by_cases h9 : d7 = true
   ·subst h9
    replace H := ift H
    simp only [Option.some.injEq, Prod.mk.injEq] at H
    obtain ⟨rfl, rfl⟩ := H
    go_wp2
    go_ret2
    exact ⟨erf, bb HB⟩
   replace h9 := Bool.eq_false_iff.mpr h9
   subst h9
   replace H := iff_ H
   have H' := am H
   clear H
   go_wp2
   go_loopg [4] n0 (fun kq v4 w' => ∃ (b9 : Int), v4 = .int .i64 b9 ∧ Aside0 (q4_Valid.l0 kq b9 a0 a3 = some (r1, r2)) ∧ Aside0 (kq ≤ n0) ∧ Aside0 (w'.heap[d8]? = some (.cells #[(.slice a9 a0.length a7), (.slice a8 a3.length a6)] 31 (0, 0))) ∧ Aside0 (Below w.heap.size w w'))
   case atStart => exact ⟨(0), eqs, H', ⟨Nat.le_refl _⟩, ⟨bk a4⟩, ⟨bb HB⟩⟩
   case round =>
    clear H'
    obtain ⟨b9, rfl, HA, j1, a4, HB⟩ := hrel
    cases gk with
    | zero => exact absurd HA.out (by simp [q4_Valid.l0])
    | succ k2 =>
     have H := HA.out
     clear HA
     simp only [q4_Valid.l0] at H
     by_cases h0 : b9 < (a0.length : Int)
     ·rw [if_pos h0] at H
      have h8 := decide_eq_true h0
      clear h0
      obtain ⟨d6, n5, H⟩ := obA H
      by_cases e1 : d6 = 0
      ·rw [if_pos e1] at H
       have m8 := beq_iff_eq.mpr e1
       have m7 := bne_eq_false_iff_eq.mpr e1
       clear e1
       have H' := am H
       clear H
       obtain ⟨j6, j5, j4, j3⟩ := cz2 a4
       go_wp2_with ((with_reducible refine gate_callee (f := 88) rfl ?_); refine gl 31 Tryz.func88 #[.agg #[.slice a9 a0.length a7, .slice a8 a3.length a6], .int .i64 b9] (h := ?_); (with_reducible refine (q4_node.calls k2 _ _ a0 _ _ a3 b9 d6 _ ?b3 ?b2 ?b1 ?b0 n5.out).mono ?_); (case b3 => exact cb b7 HB); (case b2 => exact c1.out); (case b1 => exact cb b6 HB); (case b0 => exact c0.out); rintro e t5 ⟨rfl, hb⟩; refine ⟨_, rfl, ?_⟩; replace a4 := bkb a4 hb; replace HB := bstep HB hb; (try clear hb); (try clear hb2); (try clear hk); (try clear hi))
       go_roundg k2
       case measure => have := j2.out; have := j1.out; omega
       case rel => exact ⟨(wrap64 (b9 + 1)), eqs, H', ⟨by have := j2.out; have := j1.out; omega⟩, ⟨bk a4⟩, ⟨bb HB⟩⟩
      rw [if_neg e1] at H
      have m8 := beq_eq_false_iff_ne.mpr e1
      have m7 := bne_iff_ne.mpr e1
      obtain ⟨n2, H⟩ := itn H
      have w0 := decide_eq_true n2
      clear n2
      simp only [Option.some.injEq, Prod.mk.injEq] at H
      obtain ⟨rfl, rfl⟩ := H
      obtain ⟨s3, s2, p7, p6⟩ := cz2 a4
      go_wp2_with ((with_reducible refine gate_callee (f := 88) rfl ?_); refine gl 31 Tryz.func88 #[.agg #[.slice a9 a0.length a7, .slice a8 a3.length a6], .int .i64 b9] (h := ?_); (with_reducible refine (q4_node.calls k2 _ _ a0 _ _ a3 b9 d6 _ ?b3 ?b2 ?b1 ?b0 n5.out).mono ?_); (case b3 => exact cb b7 HB); (case b2 => exact c1.out); (case b1 => exact cb b6 HB); (case b0 => exact c0.out); rintro e x0 ⟨rfl, hb⟩; refine ⟨_, rfl, ?_⟩; replace a4 := bkb a4 hb; replace HB := bstep HB hb; (try clear hb); (try clear hb2); (try clear hk); (try clear hi); obtain ⟨r9, r8, p3, p2⟩ := cz2 a4; have h7 : 0 ≤ b9 := odt; have h5 : b9 < (a0.length : Int) := odt; obtain ⟨w2, v8, v7, n7, g2, g1, g0, e9, g3, g4⟩ := at_T96 b7.out b9 h7 h5; cases n7; replace g2 := hxc HB g2; replace g1 := hxc HB g1; replace g0 := hxc HB g0; replace e9 := hxc HB e9; have t2 := am g4; have t3 := am g3; clear g4 g3; replace h7 := eq_true h7; replace h5 := eq_true h5)
      go_ret2
      exact ⟨erf, bb HB⟩
     rw [if_neg h0] at H
     have h8 := decide_eq_false h0
     clear h0
     have H' := am H
     clear H
     obtain ⟨g8, g7, g6, g5⟩ := cz2 a4
     go_wp2
     go_loopg [6] k2 (fun kq v6 w' => ∃ (b8 : Int), v6 = .int .i64 b8 ∧ Aside0 (q4_Valid.l1 kq b8 a0 a3 = some (r1, r2)) ∧ Aside0 (kq ≤ k2) ∧ Aside0 (w'.heap[d8]? = some (.cells #[(.slice a9 a0.length a7), (.slice a8 a3.length a6)] 31 (0, 0))) ∧ Aside0 (Below w.heap.size w w'))
     case atStart => exact ⟨(0), eqs, H', ⟨Nat.le_refl _⟩, ⟨bk a4⟩, ⟨bb HB⟩⟩
     case round =>
      clear H'
      clear h8
      clear g8
      clear g7
      clear g6
      clear g5
      obtain ⟨b8, rfl, HA, n3, a4, HB⟩ := hrel
      cases gk with
      | zero => exact absurd HA.out (by simp [q4_Valid.l1])
      | succ k3 =>
       have H := HA.out
       clear HA
       simp only [q4_Valid.l1] at H
       by_cases g9 : b8 < (a3.length : Int)
       rotate_left
       ·rw [if_neg g9] at H
        have m6 := decide_eq_false g9
        clear g9
        simp only [Option.some.injEq, Prod.mk.injEq] at H
        obtain ⟨rfl, rfl⟩ := H
        obtain ⟨q7, q6, o3, o2⟩ := cz2 a4
        go_wp2
        go_ret2
        exact ⟨erf, bb HB⟩
       rw [if_pos g9] at H
       have m6 := decide_eq_true g9
       clear g9
       obtain ⟨d5, n4, H⟩ := obA H
       by_cases e0 : d5 = 0
       ·rw [if_pos e0] at H
        have m5 := beq_iff_eq.mpr e0
        have m4 := bne_eq_false_iff_eq.mpr e0
        clear e0
        have H' := am H
        clear H
        obtain ⟨r5, r4, o9, o8⟩ := cz2 a4
        go_wp2_with ((with_reducible refine gate_callee (f := 89) rfl ?_); refine gl 50 Tryz.func89 #[.agg #[.slice a9 a0.length a7, .slice a8 a3.length a6], .int .i64 b8] (h := ?_); (with_reducible refine (q4_edge.calls k3 _ _ a0 _ _ a3 b8 d5 _ ?b3 ?b2 ?b1 ?b0 n4.out).mono ?_); (case b3 => exact cb b7 HB); (case b2 => exact c1.out); (case b1 => exact cb b6 HB); (case b0 => exact c0.out); rintro e w5 ⟨rfl, hb⟩; refine ⟨_, rfl, ?_⟩; replace a4 := bkb a4 hb; replace HB := bstep HB hb; (try clear hb); (try clear hb2); (try clear hk); (try clear hi))
        go_roundg k3
        case measure => have := j2.out; have := j1.out; have := n3.out; omega
        case rel => exact ⟨(wrap64 (b8 + 1)), eqs, H', ⟨by have := j2.out; have := j1.out; have := n3.out; omega⟩, ⟨bk a4⟩, ⟨bb HB⟩⟩
       rw [if_neg e0] at H
       have m5 := beq_eq_false_iff_ne.mpr e0
       have m4 := bne_iff_ne.mpr e0
       obtain ⟨n1, H⟩ := itn H
       have v9 := decide_eq_true n1
       clear n1
       simp only [Option.some.injEq, Prod.mk.injEq] at H
       obtain ⟨rfl, rfl⟩ := H
       obtain ⟨r3, r0, o7, o6⟩ := cz2 a4
       go_wp2_with ((with_reducible refine gate_callee (f := 89) rfl ?_); refine gl 50 Tryz.func89 #[.agg #[.slice a9 a0.length a7, .slice a8 a3.length a6], .int .i64 b8] (h := ?_); (with_reducible refine (q4_edge.calls k3 _ _ a0 _ _ a3 b8 d5 _ ?b3 ?b2 ?b1 ?b0 n4.out).mono ?_); (case b3 => exact cb b7 HB); (case b2 => exact c1.out); (case b1 => exact cb b6 HB); (case b0 => exact c0.out); rintro e w4 ⟨rfl, hb⟩; refine ⟨_, rfl, ?_⟩; replace a4 := bkb a4 hb; replace HB := bstep HB hb; (try clear hb); (try clear hb2); (try clear hk); (try clear hi); obtain ⟨q9, q8, o5, o4⟩ := cz2 a4; have h6 : 0 ≤ b8 := odt; have h4 : b8 < (a3.length : Int) := odt; obtain ⟨w1, n6, e8, e7, e6, e5, e4, e3, e2⟩ := at_T101 b6.out b8 h6 h4; cases n6; replace e8 := hxc HB e8; replace e7 := hxc HB e7; replace e6 := hxc HB e6; replace e5 := hxc HB e5; replace e4 := hxc HB e4; replace e3 := hxc HB e3; replace e2 := hxc HB e2; replace h6 := eq_true h6; replace h4 := eq_true h4)
       go_ret2
       exact ⟨erf, bb HB⟩
def q4_given.f (k : Nat) (a0 : List (S96)) (a3 : List (S101)) (a1 : Int) (a2 : Int) : Option (Int) := (q4_Valid.f k a0 a3).bind fun d4 => (if d4.2 = 0 then ((q4_in.f a1 0 (wrap64 ((a0.length : Int) - 1))).bind fun c4 => (if c4 = true then ((q4_in.f a2 0 (wrap64 ((a0.length : Int) - 1))).bind fun c3 => (if c3 = true then (some 0) else (some 6))) else (some 6))) else (some d4.2))
theorem q4_given.calls (k : Nat) (a9 : Option Addr) (a7 : Nat) (a0 : List (S96)) (a8 : Option Addr) (a6 : Nat) (a3 : List (S101)) (a1 : Int) (a2 : Int) (r : Int) (w : World) (d1 : Kd.C k96 w a9 a0.length a0) (d3 : a0.length ≤ a7) (d0 : Kd.C k101 w a8 a3.length a3) (d2 : a3.length ≤ a6) (h : q4_given.f k a0 a3 a1 a2 = some r) :
  Calls Tryz.prog 86 #[.agg #[.slice a9 a0.length a7, .slice a8 a3.length a6], .int .i64 a1, .int .i64 a2] w fun e w' => e = .returned (.int .i64 r) ∧ Below w.heap.size w w' := by
 have hu31 := Tryz.underlying31
 have b7 := am d1
 have c1 := am d3
 clear d1 d3
 have b6 := am d0
 have c0 := am d2
 clear d0 d2
 have HB := am (Below.refl w.heap.size w)
 have H : ((q4_Valid.f k a0 a3).bind fun d4 => (if d4.2 = 0 then ((q4_in.f a1 0 (wrap64 ((a0.length : Int) - 1))).bind fun c4 => (if c4 = true then ((q4_in.f a2 0 (wrap64 ((a0.length : Int) - 1))).bind fun c3 => (if c3 = true then (some 0) else (some 6))) else (some 6))) else (some d4.2))) = some r := h
 clear h
 obtain ⟨⟨h1, c6⟩, A4, H⟩ := obA H
 replace H : (if c6 = 0 then ((q4_in.f a1 0 (wrap64 ((a0.length : Int) - 1))).bind fun c4 => (if c4 = true then ((q4_in.f a2 0 (wrap64 ((a0.length : Int) - 1))).bind fun c3 => (if c3 = true then (some 0) else (some 6))) else (some 6))) else (some c6)) = some r := H
 by_cases c5 : c6 = 0
 rotate_left
 ·rw [if_neg c5] at H
  have o0 := beq_eq_false_iff_ne.mpr c5
  have n9 := bne_iff_ne.mpr c5
  obtain rfl := Option.some.inj H
  go_enter Tryz.func86, Tryz.ntmps86
  go_wp2_with (first | ((with_reducible refine gate_dst (N := 3) rfl ?_); (try (refine gate_guard (by rfl) ?_; dsimp only)); refine be 3 #[.slice a9 a0.length a7, .slice a8 a3.length a6] 31 ?_; intro h2 hg w8 hbox hb; have a5 := am (hbox); have h3 := bsz HB hg; replace HB := bstep HB hb; clear hb hbox hg; obtain ⟨r7, r6, p1, p0⟩ := cz2 a5) | ((with_reducible refine gate_callee (f := 62) rfl ?_); refine gl 11 Tryz.func62 #[.agg #[.slice a9 a0.length a7, .slice a8 a3.length a6]] (h := ?_); (with_reducible refine (q4_Valid.calls k _ _ a0 _ _ a3 h1 c6 _ ?b3 ?b2 ?b1 ?b0 A4.out).mono ?_); (case b3 => exact cb b7 HB); (case b2 => exact c1.out); (case b1 => exact cb b6 HB); (case b0 => exact c0.out); rintro e w7 ⟨rfl, hb⟩; refine ⟨_, rfl, ?_⟩; replace a5 := bkb a5 hb; replace HB := bstep HB hb; (try clear hb); (try clear hb2); (try clear hk); (try clear hi)))
  go_ret
  exact ⟨erf, bb HB⟩
 rw [if_pos c5] at H
 have o0 := beq_iff_eq.mpr c5
 have n9 := bne_eq_false_iff_eq.mpr c5
 clear c5
 obtain ⟨c4, A6, H⟩ := obA H
 by_cases c7 : c4 = true
 rotate_left
 ·replace c7 := Bool.eq_false_iff.mpr c7
  subst c7
  replace H := iff_ H
  obtain rfl := Option.some.inj H
  go_enter Tryz.func86, Tryz.ntmps86
  go_wp2_with (first | ((with_reducible refine gate_dst (N := 3) rfl ?_); (try (refine gate_guard (by rfl) ?_; dsimp only)); refine be 3 #[.slice a9 a0.length a7, .slice a8 a3.length a6] 31 ?_; intro h2 hg x1 hbox hb; have a5 := am (hbox); have h3 := bsz HB hg; replace HB := bstep HB hb; clear hb hbox hg; obtain ⟨s1, s0, p5, p4⟩ := cz2 a5) | ((with_reducible refine gate_callee (f := 62) rfl ?_); refine gl 11 Tryz.func62 #[.agg #[.slice a9 a0.length a7, .slice a8 a3.length a6]] (h := ?_); (with_reducible refine (q4_Valid.calls k _ _ a0 _ _ a3 h1 c6 _ ?b3 ?b2 ?b1 ?b0 A4.out).mono ?_); (case b3 => exact cb b7 HB); (case b2 => exact c1.out); (case b1 => exact cb b6 HB); (case b0 => exact c0.out); rintro e w9 ⟨rfl, hb⟩; refine ⟨_, rfl, ?_⟩; replace a5 := bkb a5 hb; replace HB := bstep HB hb; (try clear hb); (try clear hb2); (try clear hk); (try clear hi); obtain ⟨g8, g7, g6, g5⟩ := cz2 a5) | ((with_reducible refine gate_callee (f := 90) rfl ?_); refine gl 22 Tryz.func90 #[.int .i64 a1, .int .i64 0, .int .i64 (wrap64 ((a0.length : Int) - 1))] (h := ?_); (with_reducible refine (q4_in.calls a1 0 (wrap64 ((a0.length : Int) - 1)) false _ A6.out).mono ?_); rintro e w' ⟨rfl, ⟨nd, rfl⟩⟩; refine ⟨_, rfl, ?_⟩))
  go_ret
  exact ⟨erf, bb HB⟩
 subst c7
 replace H := ift H
 obtain ⟨c3, A8, H⟩ := obA H
 by_cases c9 : c3 = true
 ·subst c9
  replace H := ift H
  obtain rfl := Option.some.inj H
  go_enter Tryz.func86, Tryz.ntmps86
  go_wp2_with (first | ((with_reducible refine gate_dst (N := 3) rfl ?_); (try (refine gate_guard (by rfl) ?_; dsimp only)); refine be 3 #[.slice a9 a0.length a7, .slice a8 a3.length a6] 31 ?_; intro h2 hg x5 hbox hb; have a5 := am (hbox); have h3 := bsz HB hg; replace HB := bstep HB hb; clear hb hbox hg; obtain ⟨s9, s8, q3, q2⟩ := cz2 a5) | ((with_reducible refine gate_callee (f := 62) rfl ?_); refine gl 11 Tryz.func62 #[.agg #[.slice a9 a0.length a7, .slice a8 a3.length a6]] (h := ?_); (with_reducible refine (q4_Valid.calls k _ _ a0 _ _ a3 h1 c6 _ ?b3 ?b2 ?b1 ?b0 A4.out).mono ?_); (case b3 => exact cb b7 HB); (case b2 => exact c1.out); (case b1 => exact cb b6 HB); (case b0 => exact c0.out); rintro e x3 ⟨rfl, hb⟩; refine ⟨_, rfl, ?_⟩; replace a5 := bkb a5 hb; replace HB := bstep HB hb; (try clear hb); (try clear hb2); (try clear hk); (try clear hi); obtain ⟨s7, s6, q1, q0⟩ := cz2 a5) | ((with_reducible refine gate_callee (f := 90) rfl ?_); refine gl 22 Tryz.func90 #[.int .i64 a1, .int .i64 0, .int .i64 (wrap64 ((a0.length : Int) - 1))] (h := ?_); (with_reducible refine (q4_in.calls a1 0 (wrap64 ((a0.length : Int) - 1)) true _ A6.out).mono ?_); rintro e w' ⟨rfl, ⟨nd, rfl⟩⟩; refine ⟨_, rfl, ?_⟩) | (go_at_call 90; (with_reducible refine (q4_in.calls a2 0 (wrap64 ((a0.length : Int) - 1)) true _ A8.out).mono ?_); rintro e w' ⟨rfl, ⟨nd, rfl⟩⟩))
  go_ret
  exact ⟨erf, bb HB⟩
 ·replace c9 := Bool.eq_false_iff.mpr c9
  subst c9
  replace H := iff_ H
  obtain rfl := Option.some.inj H
  go_enter Tryz.func86, Tryz.ntmps86
  go_wp2_with (first | ((with_reducible refine gate_dst (N := 3) rfl ?_); (try (refine gate_guard (by rfl) ?_; dsimp only)); refine be 3 #[.slice a9 a0.length a7, .slice a8 a3.length a6] 31 ?_; intro h2 hg x2 hbox hb; have a5 := am (hbox); have h3 := bsz HB hg; replace HB := bstep HB hb; clear hb hbox hg; obtain ⟨j6, j5, j4, j3⟩ := cz2 a5) | ((with_reducible refine gate_callee (f := 62) rfl ?_); refine gl 11 Tryz.func62 #[.agg #[.slice a9 a0.length a7, .slice a8 a3.length a6]] (h := ?_); (with_reducible refine (q4_Valid.calls k _ _ a0 _ _ a3 h1 c6 _ ?b3 ?b2 ?b1 ?b0 A4.out).mono ?_); (case b3 => exact cb b7 HB); (case b2 => exact c1.out); (case b1 => exact cb b6 HB); (case b0 => exact c0.out); rintro e t5 ⟨rfl, hb⟩; refine ⟨_, rfl, ?_⟩; replace a5 := bkb a5 hb; replace HB := bstep HB hb; (try clear hb); (try clear hb2); (try clear hk); (try clear hi); obtain ⟨s5, s4, p9, p8⟩ := cz2 a5) | ((with_reducible refine gate_callee (f := 90) rfl ?_); refine gl 22 Tryz.func90 #[.int .i64 a1, .int .i64 0, .int .i64 (wrap64 ((a0.length : Int) - 1))] (h := ?_); (with_reducible refine (q4_in.calls a1 0 (wrap64 ((a0.length : Int) - 1)) true _ A6.out).mono ?_); rintro e w' ⟨rfl, ⟨nd, rfl⟩⟩; refine ⟨_, rfl, ?_⟩) | (go_at_call 90; (with_reducible refine (q4_in.calls a2 0 (wrap64 ((a0.length : Int) - 1)) false _ A8.out).mono ?_); rintro e w' ⟨rfl, ⟨nd, rfl⟩⟩))
  go_ret
  exact ⟨erf, bb HB⟩
end Go.Proofs.YtfpianecohobjaaGreat.P
