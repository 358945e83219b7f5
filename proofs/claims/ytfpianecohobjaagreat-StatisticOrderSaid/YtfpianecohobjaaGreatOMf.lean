/- StatisticOf: a part of its proof. No condition. -/
import Derived.Test.YtfpianecohobjaaGreatOPx0
import Derived.Test.YtfpianecohobjaaGreatOMb
import Derived.Test.YtfpianecohobjaaGreatOPx24
namespace Go.Proofs.YtfpianecohobjaaGreat.P
open Go.RowKit Go.Proofs.YtfpianecohobjaaGreatW.PrintWords Go.Proofs.YtfpianecohobjaaGreatW.PrintLast Go.Proofs.YtfpianecohobjaaGreatW.PrintMore
set_option maxHeartbeats 8000000
set_option maxRecDepth 100000
set_option linter.unusedVariables false
set_option linter.unusedSimpArgs false
mutual
def q4_node.l0 : Nat → Int → Int → List (S96) → List (S101) → ByteArray → Int → Bool → List (S99) → Option (Int)
 | 0, _, _, _, _, _, _, _, _ => none
 | k + 1, x1, x6, c7, e3, b5, b4, c5, b2 => if x6 < x1 then (if 0 ≤ x6 then (if x6 < (c7.length : Int) then (if ((rd_T96 c7 x6).f0).toList = b5.toList then (some 5) else (q4_node.l0 k x1 (wrap64 (x6 + 1)) c7 e3 b5 b4 c5 b2)) else (none)) else (none)) else ((q4_in.f b4 (-1) (wrap64 (x1 - 1))).bind fun m0 => (if m0 = true then ((q4_attrs.f k c7 e3 x1).bind fun a4 => (if (b2.length : Int) > 4 then (q4_node.j1 k a4 true b5 b4 c5 b2) else (q4_node.j1 k a4 (decide ((a4.length : Int) > 8)) b5 b4 c5 b2))) else (some 6)))
def q4_node.j1 : Nat → List (S99) → Bool → ByteArray → Int → Bool → List (S99) → Option (Int)
 | 0, _, _, _, _, _, _ => none
 | k + 1, x7, D6, b5, b4, c5, b2 => if D6 = true then (some 3) else (q4_node.l1 k x7 (wrap64 ((x7.length : Int) - (b2.length : Int))))
def q4_node.l1 : Nat → List (S99) → Int → Option (Int)
 | 0, _, _ => none
 | k + 1, x7, x8 => if x8 < (x7.length : Int) then (if 0 ≤ x8 then ((q1_IsName.f k ((rd_T99 x7 x8).f0)).bind fun j9 => (if j9 = true then (q4_node.l2 k x7 x8 0) else (some 2))) else (none)) else (some 0)
def q4_node.l2 : Nat → List (S99) → Int → Int → Option (Int)
 | 0, _, _, _ => none
 | k + 1, x7, x8, x9 => if x9 < x8 then (if 0 ≤ x9 then (if x9 < (x7.length : Int) then (if 0 ≤ x8 then (if x8 < (x7.length : Int) then (if ((rd_T99 x7 x9).f0).toList = ((rd_T99 x7 x8).f0).toList then (some 5) else (q4_node.l2 k x7 x8 (wrap64 (x9 + 1)))) else (none)) else (none)) else (none)) else (none)) else (if 0 ≤ x8 then (if x8 < (x7.length : Int) then ((q4_attribute.f k ((rd_T99 x7 x8).f0) ((rd_T99 x7 x8).f1) ((rd_T99 x7 x8).f2) ((rd_T99 x7 x8).f3)).bind fun h5 => (if h5 = 0 then (q4_node.l1 k x7 (wrap64 (x8 + 1))) else (some h5))) else (none)) else (none))
end
def q4_node.f (k : Nat) (a0 : List (S96)) (a6 : List (S101)) (a1 : Int) : Option (Int) := if 0 ≤ a1 then (if a1 < (a0.length : Int) then ((q1_IsName.f k ((rd_T96 a0 a1).f0)).bind fun d7 => (if d7 = true then (q4_node.l0 k a1 0 a0 a6 ((rd_T96 a0 a1).f0) ((rd_T96 a0 a1).f1) ((rd_T96 a0 a1).f2) ((rd_T96 a0 a1).f3)) else (some 2))) else (none)) else (none)
theorem q4_node.calls (k : Nat) (m4 : Option Addr) (c0 : Nat) (a0 : List (S96)) (c2 : Option Addr) (b9 : Nat) (a6 : List (S101)) (a1 : Int) (r : Int) (w : World) (m6 : Kd.C k96 w m4 a0.length a0) (m8 : a0.length ≤ c0) (m5 : Kd.C k101 w c2 a6.length a6) (m7 : a6.length ≤ b9) (h : q4_node.f k a0 a6 a1 = some r) :
  Calls Tryz.prog 88 #[.agg #[.slice m4 a0.length c0, .slice c2 a6.length b9], .int .i64 a1] w fun e w' => e = .returned (.int .i64 r) ∧ Below w.heap.size w w' := by
 have hu31 := Tryz.underlying31
 have hu96 := Tryz.underlying96
 have hu99 := Tryz.underlying99
 have j6 := Aside0.mk m6
 have t5 := Aside0.mk m8
 clear m6 m8
 have t3 := Aside0.mk m5
 have t4 := Aside0.mk m7
 clear m5 m7
 have HB := Aside0.mk (Below.refl w.heap.size w)
 have H : (if 0 ≤ a1 then (if a1 < (a0.length : Int) then ((q1_IsName.f k ((rd_T96 a0 a1).f0)).bind fun d7 => (if d7 = true then (q4_node.l0 k a1 0 a0 a6 ((rd_T96 a0 a1).f0) ((rd_T96 a0 a1).f1) ((rd_T96 a0 a1).f2) ((rd_T96 a0 a1).f3)) else (some 2))) else (none)) else (none)) = some r := h
 clear h
 obtain ⟨c3, H⟩ := itn H
 have x0 := decide_eq_true c3
 clear c3
 obtain ⟨c4, H⟩ := itn H
 have w9 := decide_eq_true c4
 clear c4
 obtain ⟨d7, A5, H⟩ := obA H
 by_cases c6 : d7 = true
 subst c6
 replace H := ift H
 have H' := Aside0.mk H
 clear H
 rotate_left
 replace c6 := Bool.eq_false_iff.mpr c6
 subst c6
 replace H := iff_ H
 obtain rfl := Option.some.inj H
 all_goals
  go_enter Tryz.func88, Tryz.ntmps88
  go_wp2_with (first | ((with_reducible refine gate_dst (N := 2) rfl ?_); (try (refine gate_guard (by rfl) ?_; dsimp only)); refine be 2 #[.slice m4 a0.length c0, .slice c2 a6.length b9] 31 ?_; intro a9 hg H2 hbox hb; have a2 := Aside0.mk (hbox); have t7 := bsz HB hg; replace HB := bstep HB hb; clear hb hbox hg; obtain ⟨q3, q2, o7, o6⟩ := cz2 a2; have j5 : 0 ≤ a1 := odt; have j0 : a1 < (a0.length : Int) := odt; obtain ⟨c1, b7, b6, w8, d3, d2, d1, d0, g4, h0⟩ := at_T96 j6.out a1 j5 j0; cases w8; replace d3 := hxc HB d3; replace d2 := hxc HB d2; replace d1 := hxc HB d1; replace d0 := hxc HB d0; have D0 := Aside0.mk h0; have D5 := Aside0.mk g4; clear h0 g4; replace j5 := eq_true j5; replace j0 := eq_true j0) | ((with_reducible refine gate_dst (N := 5) rfl ?_); (try (refine gate_guard (by rfl) ?_; dsimp only)); refine be 5 #[.string (⟨#[]⟩ : ByteArray), .int .i64 0, .bool false, .slice none 0 0] 96 ?_; intro a8 hg H1 hbox hb; have a3 := Aside0.mk (hbox); have t6 := bsz HB hg; replace HB := bstep HB hb; have b1 := blt a2 hg; have b0 := bgt a2 hg; replace a2 := bkb a2 hb; clear hb hbox hg; have F5 := b0.out; have F0 := b1.out; obtain ⟨q1, q0, p9, p8, o5, o4, o3, o2⟩ := cz4 a3) | (go_at_call 109; (with_reducible refine (q1_IsName.calls _ _ _ _ A5.out).mono ?_); rintro e H0 ⟨rfl, hb⟩; replace a2 := Aside0.mk (blk_below (g := a9) (o := .cells #[.slice (some c1) a0.length c0, .slice c2 a6.length b9] 31 (0, 0)) (bkF a2) hb); replace a3 := Aside0.mk (blk_below (g := a8) (o := .cells #[.string ((rd_T96 a0 a1).f0), .int .i64 ((rd_T96 a0 a1).f1), .bool ((rd_T96 a0 a1).f2), .slice b7 ((rd_T96 a0 a1).f3).length b6] 96 (0, 0)) (bkP a3) hb); replace HB := bstep HB hb; clear hb))
  repeat (go_quiet (fail); try go_wp2_with (fail))
 ·go_ret
  exact ⟨erf, bb HB⟩
 ·go_loopg [6] k (fun kq v6 w' => ∃ (b8 : Int), v6 = .int .i64 b8 ∧ Aside0 (q4_node.l0 kq a1 b8 a0 a6 ((rd_T96 a0 a1).f0) ((rd_T96 a0 a1).f1) ((rd_T96 a0 a1).f2) ((rd_T96 a0 a1).f3) = some r) ∧ Aside0 (kq ≤ k) ∧ Aside0 (w'.heap[a9]? = some (.cells #[(.slice (some c1) a0.length c0), (.slice c2 a6.length b9)] 31 (0, 0))) ∧ Aside0 (w'.heap[a8]? = some (.cells #[.string ((rd_T96 a0 a1).f0), .int .i64 ((rd_T96 a0 a1).f1), .bool ((rd_T96 a0 a1).f2), (.slice b7 ((rd_T96 a0 a1).f3).length b6)] 96 (0, 0))) ∧ Aside0 (Below w.heap.size w w'))
  case atStart => exact ⟨(0), eqs, H', ⟨Nat.le_refl _⟩, ⟨bk a2⟩, ⟨bk a3⟩, ⟨bb HB⟩⟩
  case round =>
   clear H' x0 w9 q1 q0 p9 p8 q3 q2 o5 o4 o3 o2 o7 o6 d3 d2 d1 d0 j5 j0
   obtain ⟨b8, rfl, HA, d5, a2, a3, HB⟩ := hrel
   cases gk with
   | zero => exact absurd HA.out (by simp [q4_node.l0])
   | succ k1 =>
    have H := HA.out
    clear HA
    simp only [q4_node.l0] at H
    by_cases h4 : b8 < a1
    ·rw [if_pos h4] at H
     have n3 := decide_eq_true h4
     clear h4
     obtain ⟨w0, H⟩ := itn H
     have G7 := decide_eq_true w0
     clear w0
     obtain ⟨v7, H⟩ := itn H
     have G6 := decide_eq_true v7
     clear v7
     by_cases e2 : ((rd_T96 a0 b8).f0).toList = ((rd_T96 a0 a1).f0).toList
     rw [if_pos e2] at H
     have s8 := beq_iff_eq.mpr e2
     have s7 := bne_eq_false_iff_eq.mpr e2
     clear e2
     obtain rfl := Option.some.inj H
     rotate_left
     rw [if_neg e2] at H
     have s8 := beq_eq_false_iff_ne.mpr e2
     have s7 := bne_iff_ne.mpr e2
     have H' := Aside0.mk H
     clear H
     all_goals
      have F9 := b1.out
      have F4 := b0.out
      obtain ⟨C6, C5, A6, A4⟩ := cz2 a2
      have m2 : 0 ≤ b8 := odt
      have m1 : b8 < (a0.length : Int) := odt
      obtain ⟨t2, E7, E2, w7, e8, e7, e6, e5, g3, g9⟩ := at_T96 j6.out b8 m2 m1
      obtain rfl : c1 = t2 := (by injection w7)
      replace e8 := hxc HB e8
      replace e7 := hxc HB e7
      replace e6 := hxc HB e6
      replace e5 := hxc HB e5
      have C9 := Aside0.mk g9
      have D4 := Aside0.mk g3
      clear g9 g3
      replace m2 := eq_true m2
      replace m1 := eq_true m1
      obtain ⟨C4, C3, C2, C1, A3, A2, A1, A0⟩ := cz4 a3
      go_wp2
      repeat (go_quiet (fail); try go_wp2)
     ·go_roundg k1
      case measure => have := d5.out; omega
      case rel => exact ⟨(wrap64 (b8 + 1)), eqs, H', ⟨by have := d5.out; omega⟩, ⟨bk a2⟩, ⟨bk a3⟩, ⟨bb HB⟩⟩
     ·go_ret
      exact ⟨erf, bb HB⟩
    rw [if_neg h4] at H
    have n3 := decide_eq_false h4
    clear h4
    obtain ⟨m0, w1, H⟩ := obA H
    by_cases n2 : m0 = true
    subst n2
    replace H := ift H
    obtain ⟨a4, E9, H⟩ := obA H
    have m3 := Aside0.mk H
    clear H
    rotate_left
    replace n2 := Bool.eq_false_iff.mpr n2
    subst n2
    replace H := iff_ H
    obtain rfl := Option.some.inj H
    all_goals
     have F8 := b0.out
     have F3 := b1.out
     obtain ⟨r3, r2, r1, r0, p7, p6, p5, p4⟩ := cz4 a3
    ·go_wp2_with (go_at_call 90; (with_reducible refine (q4_in.calls _ _ _ _ _ w1.out).mono ?_); rintro e w' ⟨rfl, ⟨nd, rfl⟩⟩; (try first | exact ⟨rfl, _, World.drewN_drewN _ _ _⟩ | exact ⟨rfl, _, Eq.trans (World.drewN_drewN _ _ _) (congrArg (World.drewN _) (Nat.add_assoc _ _ _))⟩))
     repeat (go_quiet (fail); try go_wp2_with (fail))
     go_ret
     exact ⟨erf, bb HB⟩
    ·go_upto_region 12 with (first | (go_at_call 90; (with_reducible refine (q4_in.calls _ _ _ _ _ w1.out).mono ?_); rintro e w' ⟨rfl, ⟨nd, rfl⟩⟩; (try first | exact ⟨rfl, _, World.drewN_drewN _ _ _⟩ | exact ⟨rfl, _, Eq.trans (World.drewN_drewN _ _ _) (congrArg (World.drewN _) (Nat.add_assoc _ _ _))⟩); obtain ⟨q9, q8, p3, p2⟩ := cz2 a2) | (go_at_call 110; (with_reducible refine (q4_attrs.calls k1 (fun k_ => k_ < w.heap.size) _ _ a0 _ _ a6 a1 a4 _ (Kd.V_mk t5.out (Kd.F_below (Kd.C_F k96_heap j6.out) (bb HB))) ?h6 ?r8 E9.out).mono ?_); (case h6 => repeat (first | exact (Kd.C_below t3.out (bb HB)) | (with_reducible refine Kd.C_alloc ?_ _) | (with_reducible refine Kd.C_drewN ?_ _) | (with_reducible refine Kd.C_drew ?_))); (case r8 => exact t4.out); rintro e H5 ⟨w2, rfl, t8, hb⟩; have j7 := Aside0.mk (Kd.N_lower (Kd.N_mono (ok' := fun k_ => k_ ≠ a9 ∧ k_ ≠ a8) t8 (fun k_ hk_ => ⟨Or.elim hk_ (fun hs_ => fun e_ => Nat.not_le.2 hs_ (by rw [e_]; exact t7.out)) (fun hn_ => (Kd.freshB (g := a9) (o := .cells #[.slice (some c1) a0.length c0, .slice c2 a6.length b9] 31 (0, 0)) (bk a2) k_ hn_)), Or.elim hk_ (fun hs_ => fun e_ => Nat.not_le.2 hs_ (by rw [e_]; exact t6.out)) (fun hn_ => (Kd.freshB (g := a8) (o := .cells #[.string ((rd_T96 a0 a1).f0), .int .i64 ((rd_T96 a0 a1).f1), .bool ((rd_T96 a0 a1).f2), .slice b7 ((rd_T96 a0 a1).f3).length b6] 96 (0, 0)) (bk a3) k_ hn_))⟩)) (below_size (bb HB))); replace a2 := bkb a2 hb; replace a3 := bkb a3 hb; replace HB := bstep HB hb; clear hb t8))
     repeat (go_quiet (fail); go_upto_region 12 with (fail))
     (try simp only [Act.put, List.setIfInBounds_toArray, List.set_cons_zero, List.set_cons_succ])
     go_cut [51] (fun D7 wc => ∃ (kq : Nat) (c8 : Bool), D7 = .bool c8 ∧ Aside0 (q4_node.j1 kq a4 c8 ((rd_T96 a0 a1).f0) ((rd_T96 a0 a1).f1) ((rd_T96 a0 a1).f2) ((rd_T96 a0 a1).f3) = some r) ∧ Aside0 (kq ≤ k1) ∧ Aside0 (Kd.N k99 99 wc w.heap.size (fun k_ => k_ ≠ a9 ∧ k_ ≠ a8) w2 a4) ∧ Aside0 (wc.heap[a9]? = some (.cells #[(.slice (some c1) a0.length c0), (.slice c2 a6.length b9)] 31 (0, 0))) ∧ Aside0 (wc.heap[a8]? = some (.cells #[.string ((rd_T96 a0 a1).f0), .int .i64 ((rd_T96 a0 a1).f1), .bool ((rd_T96 a0 a1).f2), (.slice b7 ((rd_T96 a0 a1).f3).length b6)] 96 (0, 0))) ∧ Aside0 (Below w.heap.size w wc))
     case first =>
      have H := m3.out
      clear m3
      by_cases h3 : (((rd_T96 a0 a1).f3).length : Int) > 4
      rw [if_pos h3] at H
      have c9 : decide (4 < (((rd_T96 a0 a1).f3).length : Int)) = true := decide_eq_true h3
      have s6 : decide (4 < ((rd_T96 a0 a1).f3).length) = true := decide_eq_true (by omega)
      clear h3
      (first | rw [c9] | (simp only [i64_w, i32_w]; rw [c9]) | skip)
      have H' := Aside0.mk H
      clear H
      rotate_left
      rw [if_neg h3] at H
      have c9 : decide (4 < (((rd_T96 a0 a1).f3).length : Int)) = false := decide_eq_false h3
      have s6 : decide (4 < ((rd_T96 a0 a1).f3).length) = false := decide_eq_false (by omega)
      clear h3
      (first | rw [c9] | (simp only [i64_w, i32_w]; rw [c9]) | skip)
      have H' := Aside0.mk H
      clear H
      all_goals
       have F7 := b0.out
       have F2 := b1.out
       obtain ⟨C0, A9, A8, A7, y9, y8, y7, y6⟩ := cz4 a3
      ·obtain ⟨G9, G8, eo36⟩ := Kd.N_slice j7.out
       subst eo36
       go_wp2
       repeat (go_quiet (fail); try go_wp2)
       go_meet
       case rel => exact ⟨_, (decide ((a4.length : Int) > 8)), eqs, H', ⟨by have := d5.out; first | omega | exact Nat.le_refl _⟩, ⟨kN j7⟩, ⟨bk a2⟩, ⟨bk a3⟩, ⟨bb HB⟩⟩
      ·go_wp2
       repeat (go_quiet (fail); try go_wp2)
       go_meet
       case rel => exact ⟨_, (true), eqs, H', ⟨by have := d5.out; first | omega | exact Nat.le_refl _⟩, ⟨kN j7⟩, ⟨bk a2⟩, ⟨bk a3⟩, ⟨bb HB⟩⟩
     case rest =>
      clear m3 n3 r3 r2 r1 r0 q9 q8 p7 p6 p5 p4 p3 p2
      obtain ⟨kq, c8, rfl, HA, j8, HO_7, a2, a3, HB⟩ := hcut
      cases kq with
      | zero => exact absurd HA.out (by simp [q4_node.j1])
      | succ r5 =>
       have H := HA.out
       clear HA
       simp only [q4_node.j1] at H
       by_cases n1 : c8 = true
       ·subst n1
        replace H := ift H
        obtain rfl := Option.some.inj H
        go_wp2
        repeat (go_quiet (fail); try go_wp2)
        go_ret
        exact ⟨erf, bb HB⟩
       replace n1 := Bool.eq_false_iff.mpr n1
       subst n1
       replace H := iff_ H
       have H' := Aside0.mk H
       clear H
       obtain ⟨x2, r6, eo38⟩ := Kd.N_slice HO_7.out
       subst eo38
       have F6 := b0.out
       have F1 := b1.out
       obtain ⟨q7, q6, q5, q4, p1, p0, o9, o8⟩ := cz4 a3
       go_wp2
       repeat (go_quiet (fail); try go_wp2)
       go_loopg [8] r5 (fun kq v8 w' => ∃ (a5 : Int), v8 = .int .i64 a5 ∧ Aside0 (q4_node.l1 kq a4 a5 = some r) ∧ Aside0 (kq ≤ r5) ∧ Aside0 (Kd.N k99 99 w' w.heap.size (fun k_ => k_ ≠ a9 ∧ k_ ≠ a8) (.slice x2 a4.length r6) a4) ∧ Aside0 (w'.heap[a9]? = some (.cells #[(.slice (some c1) a0.length c0), (.slice c2 a6.length b9)] 31 (0, 0))) ∧ Aside0 (w'.heap[a8]? = some (.cells #[.string ((rd_T96 a0 a1).f0), .int .i64 ((rd_T96 a0 a1).f1), .bool ((rd_T96 a0 a1).f2), (.slice b7 ((rd_T96 a0 a1).f3).length b6)] 96 (0, 0))) ∧ Aside0 (Below w.heap.size w w'))
       case atStart => exact ⟨(wrap64 ((a4.length : Int) - (((rd_T96 a0 a1).f3).length : Int))), eqs, H', ⟨Nat.le_refl _⟩, ⟨kN HO_7⟩, ⟨bk a2⟩, ⟨bk a3⟩, ⟨bb HB⟩⟩
       case round =>
        clear H' q7 q6 q5 q4 p1 p0 o9 o8
        obtain ⟨a5, rfl, HA, n5, HO_7, a2, a3, HB⟩ := hrel
        cases gk with
        | zero => exact absurd HA.out (by simp [q4_node.l1])
        | succ k3 =>
         have H := HA.out
         clear HA
         simp only [q4_node.l1] at H
         by_cases h2 : a5 < (a4.length : Int)
         rotate_left
         ·rw [if_neg h2] at H
          have n0 := decide_eq_false h2
          clear h2
          obtain rfl := Option.some.inj H
          go_wp2
          repeat (go_quiet (fail); try go_wp2)
          go_ret
          exact ⟨erf, bb HB⟩
         rw [if_pos h2] at H
         have n0 := decide_eq_true h2
         clear h2
         obtain ⟨v5, H⟩ := itn H
         have s5 := decide_eq_true v5
         clear v5
         obtain ⟨j9, E8, H⟩ := obA H
         by_cases m9 : j9 = true
         subst m9
         replace H := ift H
         have H' := Aside0.mk H
         clear H
         rotate_left
         replace m9 := Bool.eq_false_iff.mpr m9
         subst m9
         replace H := iff_ H
         obtain rfl := Option.some.inj H
         all_goals
          have d9 : 0 ≤ a5 := odt
          have d8 : a5 < (a4.length : Int) := odt
          obtain ⟨d6, r7, E1, w6, o1, o0, n9, e4, g2, g8⟩ := at_T99 (Kd.N_reads' HO_7.out).2.2 a5 d9 d8
          cases w6
          obtain ⟨ce460, hce460, hMe460, hcc460⟩ := Kd.N_get HO_7.out z99 a5 d9 (by first | exact d8 | exact odt | (have e_ := (Kd.N_reads' HO_7.out).1; omega))
          obtain ⟨ua460_3, uc460_3, rfl, ul460_3, ge460_3⟩ := k99_openF hMe460
          have hv460_3 := hcc460 3 _ rfl
          rw [add_field _ _ 3 (by omega)] at hv460_3
          replace hv460_3 := Option.some.inj (hv460_3.symm.trans e4)
          injection hv460_3 with hva_ hvn_ hvc_
          rw [hva_] at ge460_3
          rw [hvc_] at ul460_3
          have HL460_3 := Aside0.mk (show Kd.V Kd.string 9 _ w.heap.size _ _ ((rd_T99 a4 a5).f3) from Kd.V_mk ul460_3 ge460_3)
          clear hva_ hvn_ hvc_ ge460_3 ul460_3 hcc460 hce460
          have a7 := Aside0.mk g8
          have D3 := Aside0.mk g2
          clear g8 g2
          replace d9 := eq_true d9
          replace d8 := eq_true d8
          go_wp2_with (go_at_call 109; (with_reducible refine (q1_IsName.calls _ _ _ _ E8.out).mono ?_); rintro e H4 ⟨rfl, hb⟩; replace HO_7 := kNb HO_7 hb; replace HL460_3 := kVb HL460_3 hb; replace a2 := bkb a2 hb; replace a3 := bkb a3 hb; replace a7 := kCb a7 hb; replace HB := bstep HB hb; clear hb)
          repeat (go_quiet (fail); try go_wp2_with (fail))
         ·go_ret
          exact ⟨erf, bb HB⟩
         ·go_loopg [9] k3 (fun kq v9 w' => ∃ (b3 : Int), v9 = .int .i64 b3 ∧ Aside0 (q4_node.l2 kq a4 a5 b3 = some r) ∧ Aside0 (kq ≤ k3) ∧ Aside0 (Kd.N k99 99 w' w.heap.size (fun k_ => k_ ≠ a9 ∧ k_ ≠ a8) (.slice (some d6) a4.length r6) a4) ∧ Aside0 (w'.heap[a9]? = some (.cells #[(.slice (some c1) a0.length c0), (.slice c2 a6.length b9)] 31 (0, 0))) ∧ Aside0 (w'.heap[a8]? = some (.cells #[.string ((rd_T96 a0 a1).f0), .int .i64 ((rd_T96 a0 a1).f1), .bool ((rd_T96 a0 a1).f2), (.slice b7 ((rd_T96 a0 a1).f3).length b6)] 96 (0, 0))) ∧ Aside0 (Kd.C Kd.string w' r7 ((rd_T99 a4 a5).f3).length ((rd_T99 a4 a5).f3)) ∧ Aside0 (Below w.heap.size w w'))
          case atStart => exact ⟨(0), eqs, H', ⟨Nat.le_refl _⟩, ⟨kN HO_7⟩, ⟨bk a2⟩, ⟨bk a3⟩, ⟨kC a7⟩, ⟨bb HB⟩⟩
          case round =>
           clear H' n0 s5 o1 o0 n9 e4 d9 d8
           obtain ⟨b3, rfl, HA, n4, HO_7, a2, a3, a7, HB⟩ := hrel
           cases gk with
           | zero => exact absurd HA.out (by simp [q4_node.l2])
           | succ k4 =>
            have H := HA.out
            clear HA
            simp only [q4_node.l2] at H
            by_cases h1 : b3 < a5
            rotate_left
            ·rw [if_neg h1] at H
             have s4 := decide_eq_false h1
             clear h1
             obtain ⟨v0, H⟩ := itn H
             have G1 := decide_eq_true v0
             clear v0
             obtain ⟨t9, H⟩ := itn H
             have G0 := decide_eq_true t9
             clear t9
             obtain ⟨h5, E3, H⟩ := obA H
             by_cases e0 : h5 = 0
             rw [if_pos e0] at H
             have s1 := beq_iff_eq.mpr e0
             have s0 := bne_eq_false_iff_eq.mpr e0
             clear e0
             have H' := Aside0.mk H
             clear H
             rotate_left
             rw [if_neg e0] at H
             have s1 := beq_eq_false_iff_ne.mpr e0
             have s0 := bne_iff_ne.mpr e0
             obtain rfl := Option.some.inj H
             all_goals
              have j2 : 0 ≤ a5 := odt
              have h7 : a5 < (a4.length : Int) := odt
              obtain ⟨s9, E4, D8, w3, x5, x4, x3, n6, e9, g5⟩ := at_T99 (Kd.N_reads' HO_7.out).2.2 a5 j2 h7
              obtain rfl : d6 = s9 := (by injection w3)
              obtain ⟨ce464, hce464, hMe464, hcc464⟩ := Kd.N_get HO_7.out z99 a5 j2 (by first | exact h7 | exact odt | (have e_ := (Kd.N_reads' HO_7.out).1; omega))
              obtain ⟨ua464_3, uc464_3, rfl, ul464_3, ge464_3⟩ := k99_openF hMe464
              have hv464_3 := hcc464 3 _ rfl
              rw [add_field _ _ 3 (by omega)] at hv464_3
              replace hv464_3 := Option.some.inj (hv464_3.symm.trans n6)
              injection hv464_3 with hva_ hvn_ hvc_
              rw [hva_] at ge464_3
              rw [hvc_] at ul464_3
              have HL464_3 := Aside0.mk (show Kd.V Kd.string 9 _ w.heap.size _ _ ((rd_T99 a4 a5).f3) from Kd.V_mk ul464_3 ge464_3)
              clear hva_ hvn_ hvc_ ge464_3 ul464_3 hcc464 hce464
              have d4 := Aside0.mk g5
              have r4 := Aside0.mk e9
              clear g5 e9
              replace j2 := eq_true j2
              replace h7 := eq_true h7
              go_wp2_with (go_at_call 111; (with_reducible refine (q4_attribute.calls _ _ _ _ _ _ _ _ _ ?r9 ?h6 E3.out).mono ?_); (case r9 => repeat (first | exact (kC d4) | (with_reducible refine Kd.C_alloc ?_ _) | (with_reducible refine Kd.C_drewN ?_ _) | (with_reducible refine Kd.C_drew ?_))); (case h6 => exact r4.out); rintro e H3 ⟨rfl, hb⟩; replace HO_7 := kNb HO_7 hb; replace HL464_3 := kVb HL464_3 hb; replace a2 := bkb a2 hb; replace a3 := bkb a3 hb; replace a7 := kCb a7 hb; replace d4 := kCb d4 hb; replace HB := bstep HB hb; clear hb)
              repeat (go_quiet (fail); try go_wp2_with (fail))
             ·go_ret
              exact ⟨erf, bb HB⟩
             ·go_roundg k4
              case measure => have := d5.out; have := j8.out; have := n5.out; have := n4.out; omega
              case rel => exact ⟨(wrap64 (a5 + 1)), eqs, H', ⟨by have := d5.out; have := j8.out; have := n5.out; have := n4.out; omega⟩, ⟨kN HO_7⟩, ⟨bk a2⟩, ⟨bk a3⟩, ⟨bb HB⟩⟩
            rw [if_pos h1] at H
            have s4 := decide_eq_true h1
            clear h1
            obtain ⟨v4, H⟩ := itn H
            have G5 := decide_eq_true v4
            clear v4
            obtain ⟨v3, H⟩ := itn H
            have G4 := decide_eq_true v3
            clear v3
            obtain ⟨v2, H⟩ := itn H
            have G3 := decide_eq_true v2
            clear v2
            obtain ⟨v1, H⟩ := itn H
            have G2 := decide_eq_true v1
            clear v1
            by_cases e1 : ((rd_T99 a4 b3).f0).toList = ((rd_T99 a4 a5).f0).toList
            rw [if_pos e1] at H
            have s3 := beq_iff_eq.mpr e1
            have s2 := bne_eq_false_iff_eq.mpr e1
            clear e1
            obtain rfl := Option.some.inj H
            rotate_left
            rw [if_neg e1] at H
            have s3 := beq_eq_false_iff_ne.mpr e1
            have s2 := bne_iff_ne.mpr e1
            have H' := Aside0.mk H
            clear H
            all_goals
             have j4 : 0 ≤ b3 := odt
             have h9 : b3 < (a4.length : Int) := odt
             obtain ⟨t1, E6, E0, w5, y5, y4, y3, n8, g1, g7⟩ := at_T99 (Kd.N_reads' HO_7.out).2.2 b3 j4 h9
             obtain rfl : d6 = t1 := (by injection w5)
             obtain ⟨ce462, hce462, hMe462, hcc462⟩ := Kd.N_get HO_7.out z99 b3 j4 (by first | exact h9 | exact odt | (have e_ := (Kd.N_reads' HO_7.out).1; omega))
             obtain ⟨ua462_3, uc462_3, rfl, ul462_3, ge462_3⟩ := k99_openF hMe462
             have hv462_3 := hcc462 3 _ rfl
             rw [add_field _ _ 3 (by omega)] at hv462_3
             replace hv462_3 := Option.some.inj (hv462_3.symm.trans n8)
             injection hv462_3 with hva_ hvn_ hvc_
             rw [hva_] at ge462_3
             rw [hvc_] at ul462_3
             have HL462_3 := Aside0.mk (show Kd.V Kd.string 9 _ w.heap.size _ _ ((rd_T99 a4 b3).f3) from Kd.V_mk ul462_3 ge462_3)
             clear hva_ hvn_ hvc_ ge462_3 ul462_3 hcc462 hce462
             have C8 := Aside0.mk g7
             have D2 := Aside0.mk g1
             clear g7 g1
             replace j4 := eq_true j4
             replace h9 := eq_true h9
             have j3 : 0 ≤ a5 := odt
             have h8 : a5 < (a4.length : Int) := odt
             obtain ⟨t0, E5, D9, w4, y2, y1, y0, n7, g0, g6⟩ := at_T99 (Kd.N_reads' HO_7.out).2.2 a5 j3 h8
             obtain rfl : d6 = t0 := (by injection w4)
             obtain ⟨ce463, hce463, hMe463, hcc463⟩ := Kd.N_get HO_7.out z99 a5 j3 (by first | exact h8 | exact odt | (have e_ := (Kd.N_reads' HO_7.out).1; omega))
             obtain ⟨ua463_3, uc463_3, rfl, ul463_3, ge463_3⟩ := k99_openF hMe463
             have hv463_3 := hcc463 3 _ rfl
             rw [add_field _ _ 3 (by omega)] at hv463_3
             replace hv463_3 := Option.some.inj (hv463_3.symm.trans n7)
             injection hv463_3 with hva_ hvn_ hvc_
             rw [hva_] at ge463_3
             rw [hvc_] at ul463_3
             have HL463_3 := Aside0.mk (show Kd.V Kd.string 9 _ w.heap.size _ _ ((rd_T99 a4 a5).f3) from Kd.V_mk ul463_3 ge463_3)
             clear hva_ hvn_ hvc_ ge463_3 ul463_3 hcc463 hce463
             have C7 := Aside0.mk g6
             have D1 := Aside0.mk g0
             clear g6 g0
             replace j3 := eq_true j3
             replace h8 := eq_true h8
             go_wp2
             repeat (go_quiet (fail); try go_wp2)
            ·go_roundg k4
             case measure => have := d5.out; have := j8.out; have := n5.out; have := n4.out; omega
             case rel => exact ⟨(wrap64 (b3 + 1)), eqs, H', ⟨by have := d5.out; have := j8.out; have := n5.out; have := n4.out; omega⟩, ⟨kN HO_7⟩, ⟨bk a2⟩, ⟨bk a3⟩, ⟨kC a7⟩, ⟨bb HB⟩⟩
            ·go_ret
             exact ⟨erf, bb HB⟩
def q4_bound.f (a0 : Int) (a1 : Int) : Option (Bool) := (q4_in.f a0 0 40).bind fun b9 => (if b9 = true then (if a1 = (-1) then (some true) else ((q4_in.f a1 a0 40).bind fun e3 => (some e3))) else (some false))
theorem q4_bound.calls (a0 : Int) (a1 : Int) (r : Bool) (w : World) (h : q4_bound.f a0 a1 = some r) :
  Calls Tryz.prog 112 #[.int .i64 a0, .int .i64 a1] w fun e w' => e = .returned (.bool r) ∧ Drawn0 w w' := by
 have H : ((q4_in.f a0 0 40).bind fun b9 => (if b9 = true then (if a1 = (-1) then (some true) else ((q4_in.f a1 a0 40).bind fun e3 => (some e3))) else (some false))) = some r := h
 clear h
 obtain ⟨b9, A3, H⟩ := obA H
 by_cases c4 : b9 = true
 subst c4
 replace H := ift H
 by_cases c5 : a1 = (-1)
 rw [if_pos c5] at H
 have n3 := beq_iff_eq.mpr c5
 have n2 := bne_eq_false_iff_eq.mpr c5
 clear c5
 obtain rfl := Option.some.inj H
 rotate_left
 rw [if_neg c5] at H
 have n3 := beq_eq_false_iff_ne.mpr c5
 have n2 := bne_iff_ne.mpr c5
 obtain ⟨e3, A6, H⟩ := obA H
 obtain rfl := Option.some.inj H
 rotate_left
 replace c4 := Bool.eq_false_iff.mpr c4
 subst c4
 replace H := iff_ H
 obtain rfl := Option.some.inj H
 all_goals
  go_enter Tryz.func112, Tryz.ntmps112
  go_wp2_with (first | ((with_reducible refine gate_callee (f := 90) rfl ?_); refine gl 6 Tryz.func90 #[.int .i64 a0, .int .i64 0, .int .i64 40] (h := ?_); (with_reducible refine (q4_in.calls _ _ _ _ _ A3.out).mono ?_); rintro e w' ⟨rfl, ⟨nd, rfl⟩⟩; refine ⟨_, rfl, ?_⟩) | (go_at_call 90; (with_reducible refine (q4_in.calls _ _ _ _ _ A6.out).mono ?_); rintro e w' ⟨rfl, ⟨nd, rfl⟩⟩))
  go_ret
  exact ⟨by first | rfl | (simp; done) | (simp [*]; done), drw⟩
def q4_edge.l0 : Nat → Int → Int → List (S96) → List (S101) → ByteArray → Int → Int → Int → Int → Int → Int → Option (Int)
 | 0, _, _, _, _, _, _, _, _, _, _, _ => none
 | k + 1, x1, x6, b0, a9, d4, d3, d2, d1, d0, c9, c8 => if x6 < x1 then (if 0 ≤ x6 then (if x6 < (a9.length : Int) then (if ((rd_T101 a9 x6).f0).toList = d4.toList then (some 5) else (q4_edge.l0 k x1 (wrap64 (x6 + 1)) b0 a9 d4 d3 d2 d1 d0 c9 c8)) else (none)) else (none)) else ((q4_in.f d3 0 (wrap64 ((b0.length : Int) - 1))).bind fun g0 => (if g0 = true then ((q4_in.f d2 0 (wrap64 ((b0.length : Int) - 1))).bind fun e9 => (if e9 = true then ((q4_bound.f d1 d0).bind fun e8 => (if e8 = true then ((q4_bound.f c9 c8).bind fun e7 => (if e7 = true then (some 0) else (some 6))) else (some 6))) else (some 6))) else (some 6)))
def q4_edge.f (k : Nat) (a4 : List (S96)) (a2 : List (S101)) (a1 : Int) : Option (Int) := if 0 ≤ a1 then (if a1 < (a2.length : Int) then ((q1_IsName.f k ((rd_T101 a2 a1).f0)).bind fun b8 => (if b8 = true then (q4_edge.l0 k a1 0 a4 a2 ((rd_T101 a2 a1).f0) ((rd_T101 a2 a1).f1) ((rd_T101 a2 a1).f2) ((rd_T101 a2 a1).f3) ((rd_T101 a2 a1).f4) ((rd_T101 a2 a1).f5) ((rd_T101 a2 a1).f6)) else (some 2))) else (none)) else (none)
theorem q4_edge.calls (k : Nat) (c7 : Option Addr) (c2 : Nat) (a4 : List (S96)) (g3 : Option Addr) (c1 : Nat) (a2 : List (S101)) (a1 : Int) (r : Int) (w : World) (g5 : Kd.C k96 w c7 a4.length a4) (g7 : a4.length ≤ c2) (g4 : Kd.C k101 w g3 a2.length a2) (g6 : a2.length ≤ c1) (h : q4_edge.f k a4 a2 a1 = some r) :
  Calls Tryz.prog 89 #[.agg #[.slice c7 a4.length c2, .slice g3 a2.length c1], .int .i64 a1] w fun e w' => e = .returned (.int .i64 r) ∧ Below w.heap.size w w' := by
 have hu31 := Tryz.underlying31
 have hu101 := Tryz.underlying101
 have s4 := Aside0.mk g5
 have s6 := Aside0.mk g7
 clear g5 g7
 have h4 := Aside0.mk g4
 have s5 := Aside0.mk g6
 clear g4 g6
 have HB := Aside0.mk (Below.refl w.heap.size w)
 have H : (if 0 ≤ a1 then (if a1 < (a2.length : Int) then ((q1_IsName.f k ((rd_T101 a2 a1).f0)).bind fun b8 => (if b8 = true then (q4_edge.l0 k a1 0 a4 a2 ((rd_T101 a2 a1).f0) ((rd_T101 a2 a1).f1) ((rd_T101 a2 a1).f2) ((rd_T101 a2 a1).f3) ((rd_T101 a2 a1).f4) ((rd_T101 a2 a1).f5) ((rd_T101 a2 a1).f6)) else (some 2))) else (none)) else (none)) = some r := h
 clear h
 obtain ⟨c3, H⟩ := itn H
 have n5 := decide_eq_true c3
 clear c3
 obtain ⟨c4, H⟩ := itn H
 have n4 := decide_eq_true c4
 clear c4
 obtain ⟨b8, A5, H⟩ := obA H
 by_cases c6 : b8 = true
 subst c6
 replace H := ift H
 have H' := Aside0.mk H
 clear H
 rotate_left
 replace c6 := Bool.eq_false_iff.mpr c6
 subst c6
 replace H := iff_ H
 obtain rfl := Option.some.inj H
 all_goals
  go_enter Tryz.func89, Tryz.ntmps89
  go_wp2_with (first | ((with_reducible refine gate_dst (N := 2) rfl ?_); refine be 2 #[.slice c7 a4.length c2, .slice g3 a2.length c1] 31 ?_; intro g9 hg t1 hbox hb; have a3 := Aside0.mk (hbox); have s8 := bsz HB hg; replace HB := bstep HB hb; clear hb hbox hg; obtain ⟨m2, m1, j3, j2⟩ := cz2 a3; have e5 : 0 ≤ a1 := odt; have e4 : a1 < (a2.length : Int) := odt; obtain ⟨e6, n1, b7, b6, b5, b4, b3, b2, b1⟩ := at_T101 h4.out a1 e5 e4; cases n1; replace b7 := hxc HB b7; replace b6 := hxc HB b6; replace b5 := hxc HB b5; replace b4 := hxc HB b4; replace b3 := hxc HB b3; replace b2 := hxc HB b2; replace b1 := hxc HB b1; replace e5 := eq_true e5; replace e4 := eq_true e4) | ((with_reducible refine gate_dst (N := 5) rfl ?_); refine be 5 #[.string (⟨#[]⟩ : ByteArray), .int .i64 0, .int .i64 0, .int .i64 0, .int .i64 0, .int .i64 0, .int .i64 0] 101 ?_; intro g8 hg t0 hbox hb; have a5 := Aside0.mk (hbox); have s7 := bsz HB hg; replace HB := bstep HB hb; have a8 := blt a3 hg; have a7 := bgt a3 hg; replace a3 := bkb a3 hb; clear hb hbox hg; have r9 := a7.out; have r6 := a8.out; obtain ⟨m0, j9, j8, j7, j6, j5, j4, j1, j0, h9, h8, h7, h6, h5⟩ := cz7 a5) | (go_at_call 109; (with_reducible refine (q1_IsName.calls _ _ _ _ A5.out).mono ?_); rintro e s9 ⟨rfl, hb⟩; replace a3 := Aside0.mk (blk_below (g := g9) (o := .cells #[.slice c7 a4.length c2, .slice (some e6) a2.length c1] 31 (0, 0)) (bkF a3) hb); replace a5 := Aside0.mk (blk_below (g := g8) (o := .cells #[.string ((rd_T101 a2 a1).f0), .int .i64 ((rd_T101 a2 a1).f1), .int .i64 ((rd_T101 a2 a1).f2), .int .i64 ((rd_T101 a2 a1).f3), .int .i64 ((rd_T101 a2 a1).f4), .int .i64 ((rd_T101 a2 a1).f5), .int .i64 ((rd_T101 a2 a1).f6)] 101 (0, 0)) (bkP a5) hb); replace HB := bstep HB hb; clear hb))
  repeat (go_quiet (fail); try go_wp2_with (fail))
 ·go_ret
  exact ⟨erf, bb HB⟩
 ·go_loopg [6] k (fun kq v6 w' => ∃ (a6 : Int), v6 = .int .i64 a6 ∧ Aside0 (q4_edge.l0 kq a1 a6 a4 a2 ((rd_T101 a2 a1).f0) ((rd_T101 a2 a1).f1) ((rd_T101 a2 a1).f2) ((rd_T101 a2 a1).f3) ((rd_T101 a2 a1).f4) ((rd_T101 a2 a1).f5) ((rd_T101 a2 a1).f6) = some r) ∧ Aside0 (kq ≤ k) ∧ Aside0 (w'.heap[g9]? = some (.cells #[(.slice c7 a4.length c2), (.slice (some e6) a2.length c1)] 31 (0, 0))) ∧ Aside0 (w'.heap[g8]? = some (.cells #[.string ((rd_T101 a2 a1).f0), .int .i64 ((rd_T101 a2 a1).f1), .int .i64 ((rd_T101 a2 a1).f2), .int .i64 ((rd_T101 a2 a1).f3), .int .i64 ((rd_T101 a2 a1).f4), .int .i64 ((rd_T101 a2 a1).f5), .int .i64 ((rd_T101 a2 a1).f6)] 101 (0, 0))) ∧ Aside0 (Below w.heap.size w w'))
  case atStart => exact ⟨(0), eqs, H', ⟨Nat.le_refl _⟩, ⟨bk a3⟩, ⟨bk a5⟩, ⟨bb HB⟩⟩
  case round =>
   clear H' n5 n4 m0 j9 j8 j7 j6 j5 j4 m2 m1 j1 j0 h9 h8 h7 h6 h5 j3 j2 b7 b6 b5 b4 b3 b2 b1 e5 e4
   obtain ⟨a6, rfl, HA, m9, a3, a5, HB⟩ := hrel
   cases gk with
   | zero => exact absurd HA.out (by simp [q4_edge.l0])
   | succ k1 =>
    have H := HA.out
    clear HA
    simp only [q4_edge.l0] at H
    by_cases e2 : a6 < a1
    ·rw [if_pos e2] at H
     have m5 := decide_eq_true e2
     clear e2
     obtain ⟨m8, H⟩ := itn H
     have s3 := decide_eq_true m8
     clear m8
     obtain ⟨m7, H⟩ := itn H
     have s2 := decide_eq_true m7
     clear m7
     by_cases c0 : ((rd_T101 a2 a6).f0).toList = ((rd_T101 a2 a1).f0).toList
     rw [if_pos c0] at H
     have m4 := beq_iff_eq.mpr c0
     have m3 := bne_eq_false_iff_eq.mpr c0
     clear c0
     obtain rfl := Option.some.inj H
     rotate_left
     rw [if_neg c0] at H
     have m4 := beq_eq_false_iff_ne.mpr c0
     have m3 := bne_iff_ne.mpr c0
     have H' := Aside0.mk H
     clear H
     all_goals
      have s1 := a8.out
      have r8 := a7.out
      obtain ⟨r1, r0, p3, p2⟩ := cz2 a3
      have g2 : 0 ≤ a6 := odt
      have g1 : a6 < (a2.length : Int) := odt
      obtain ⟨m6, n0, e1, e0, d9, d8, d7, d6, d5⟩ := at_T101 h4.out a6 g2 g1
      obtain rfl : e6 = m6 := (by injection n0)
      replace e1 := hxc HB e1
      replace e0 := hxc HB e0
      replace d9 := hxc HB d9
      replace d8 := hxc HB d8
      replace d7 := hxc HB d7
      replace d6 := hxc HB d6
      replace d5 := hxc HB d5
      replace g2 := eq_true g2
      replace g1 := eq_true g1
      obtain ⟨q9, q8, q7, q6, q5, q4, q3, p1, p0, o9, o8, o7, o6, o5⟩ := cz7 a5
      go_wp2
      repeat (go_quiet (fail); try go_wp2)
     ·go_roundg k1
      case measure => have := m9.out; omega
      case rel => exact ⟨(wrap64 (a6 + 1)), eqs, H', ⟨by have := m9.out; omega⟩, ⟨bk a3⟩, ⟨bk a5⟩, ⟨bb HB⟩⟩
     ·go_ret
      exact ⟨erf, bb HB⟩
    rw [if_neg e2] at H
    have m5 := decide_eq_false e2
    clear e2
    obtain ⟨g0, r5, H⟩ := obA H
    by_cases h3 : g0 = true
    subst h3
    replace H := ift H
    obtain ⟨e9, r4, H⟩ := obA H
    by_cases h2 : e9 = true
    subst h2
    replace H := ift H
    obtain ⟨e8, r3, H⟩ := obA H
    by_cases h1 : e8 = true
    subst h1
    replace H := ift H
    obtain ⟨e7, r2, H⟩ := obA H
    by_cases h0 : e7 = true
    subst h0
    replace H := ift H
    obtain rfl := Option.some.inj H
    rotate_left
    replace h0 := Bool.eq_false_iff.mpr h0
    subst h0
    replace H := iff_ H
    obtain rfl := Option.some.inj H
    rotate_left
    replace h1 := Bool.eq_false_iff.mpr h1
    subst h1
    replace H := iff_ H
    obtain rfl := Option.some.inj H
    rotate_left
    replace h2 := Bool.eq_false_iff.mpr h2
    subst h2
    replace H := iff_ H
    obtain rfl := Option.some.inj H
    rotate_left
    replace h3 := Bool.eq_false_iff.mpr h3
    subst h3
    replace H := iff_ H
    obtain rfl := Option.some.inj H
    all_goals
     have s0 := a8.out
     have r7 := a7.out
     obtain ⟨q2, q1, o4, o3⟩ := cz2 a3
     obtain ⟨q0, p9, p8, p7, p6, p5, p4, o2, o1, o0, n9, n8, n7, n6⟩ := cz7 a5
     go_wp2_with (first | (go_at_call 90; (with_reducible refine (q4_in.calls _ _ _ _ _ r5.out).mono ?_); rintro e w' ⟨rfl, ⟨nd, rfl⟩⟩; (try first | exact ⟨rfl, _, World.drewN_drewN _ _ _⟩ | exact ⟨rfl, _, Eq.trans (World.drewN_drewN _ _ _) (congrArg (World.drewN _) (Nat.add_assoc _ _ _))⟩)) | (go_at_call 90; (with_reducible refine (q4_in.calls _ _ _ _ _ r4.out).mono ?_); rintro e w' ⟨rfl, ⟨nd, rfl⟩⟩; (try first | exact ⟨rfl, _, World.drewN_drewN _ _ _⟩ | exact ⟨rfl, _, Eq.trans (World.drewN_drewN _ _ _) (congrArg (World.drewN _) (Nat.add_assoc _ _ _))⟩)) | (go_at_call 112; (with_reducible refine (q4_bound.calls _ _ _ _ r3.out).mono ?_); rintro e w' ⟨rfl, ⟨nd, rfl⟩⟩; (try first | exact ⟨rfl, _, World.drewN_drewN _ _ _⟩ | exact ⟨rfl, _, Eq.trans (World.drewN_drewN _ _ _) (congrArg (World.drewN _) (Nat.add_assoc _ _ _))⟩)) | (go_at_call 112; (with_reducible refine (q4_bound.calls _ _ _ _ r2.out).mono ?_); rintro e w' ⟨rfl, ⟨nd, rfl⟩⟩; (try first | exact ⟨rfl, _, World.drewN_drewN _ _ _⟩ | exact ⟨rfl, _, Eq.trans (World.drewN_drewN _ _ _) (congrArg (World.drewN _) (Nat.add_assoc _ _ _))⟩)))
     repeat (go_quiet (fail); try go_wp2_with (fail))
     go_ret
     exact ⟨erf, bb HB⟩
mutual
def q4_Valid.j0 : Nat → Bool → List (S96) → List (S101) → Option (ByteArray × Int)
 | 0, _, _, _ => none
 | k + 1, q3, a6, a5 => if q3 = true then (some ((⟨#[]⟩ : ByteArray), 3)) else (q4_Valid.l0 k 0 a6 a5)
def q4_Valid.l0 : Nat → Int → List (S96) → List (S101) → Option (ByteArray × Int)
 | 0, _, _, _ => none
 | k + 1, x4, a6, a5 => if x4 < (a6.length : Int) then ((q4_node.f k a6 a5 x4).bind fun g1 => (if g1 = 0 then (q4_Valid.l0 k (wrap64 (x4 + 1)) a6 a5) else (if 0 ≤ x4 then (some ((rd_T96 a6 x4).f0, g1)) else (none)))) else (q4_Valid.l1 k 0 a6 a5)
def q4_Valid.l1 : Nat → Int → List (S96) → List (S101) → Option (ByteArray × Int)
 | 0, _, _, _ => none
 | k + 1, x6, a6, a5 => if x6 < (a5.length : Int) then ((q4_edge.f k a6 a5 x6).bind fun g0 => (if g0 = 0 then (q4_Valid.l1 k (wrap64 (x6 + 1)) a6 a5) else (if 0 ≤ x6 then (some ((rd_T101 a5 x6).f0, g0)) else (none)))) else (some ((⟨#[]⟩ : ByteArray), 0))
end
def q4_Valid.f (k : Nat) (a0 : List (S96)) (a3 : List (S101)) : Option (ByteArray × Int) := if (a0.length : Int) = 0 then (some ((⟨#[]⟩ : ByteArray), 7)) else (if (a0.length : Int) > 12 then (q4_Valid.j0 k true a0 a3) else (q4_Valid.j0 k (decide ((a3.length : Int) > 20)) a0 a3))
theorem q4_Valid.calls (k : Nat) (b0 : Option Addr) (a8 : Nat) (a0 : List (S96)) (a9 : Option Addr) (a7 : Nat) (a3 : List (S101)) (r1 : ByteArray) (r2 : Int) (w : World) (b4 : Kd.C k96 w b0 a0.length a0) (b6 : a0.length ≤ a8) (b3 : Kd.C k101 w a9 a3.length a3) (b5 : a3.length ≤ a7) (h : q4_Valid.f k a0 a3 = some (r1, r2)) :
  Calls Tryz.prog 62 #[.agg #[.slice b0 a0.length a8, .slice a9 a3.length a7]] w fun e w' => e = .returned (.tuple #[.string r1, .int .i64 r2]) ∧ Below w.heap.size w w' := by
 have hu31 := Tryz.underlying31
 have b9 := Aside0.mk b4
 have c4 := Aside0.mk b6
 clear b4 b6
 have b8 := Aside0.mk b3
 have c3 := Aside0.mk b5
 clear b3 b5
 have HB := Aside0.mk (Below.refl w.heap.size w)
 have H : (if (a0.length : Int) = 0 then (some ((⟨#[]⟩ : ByteArray), 7)) else (if (a0.length : Int) > 12 then (q4_Valid.j0 k true a0 a3) else (q4_Valid.j0 k (decide ((a3.length : Int) > 20)) a0 a3))) = some (r1, r2) := h
 clear h
 by_cases c2 : (a0.length : Int) = 0
 ·rw [if_pos c2] at H
  have h9 := beq_iff_eq.mpr c2
  have h8 := bne_eq_false_iff_eq.mpr c2
  clear c2
  simp only [Option.some.injEq, Prod.mk.injEq] at H
  obtain ⟨rfl, rfl⟩ := H
  go_enter Tryz.func62, Tryz.ntmps62
  go_wp2_with ((with_reducible refine gate_dst (N := 1) rfl ?_); (try (refine gate_guard (by rfl) ?_; dsimp only)); refine be 1 #[.slice b0 a0.length a8, .slice a9 a3.length a7] 31 ?_; intro c1 hg w3 hbox hb; have a4 := Aside0.mk (hbox); have j7 := bsz HB hg; replace HB := bstep HB hb; clear hb hbox hg; obtain ⟨q8, q7, q6, q5⟩ := cz2 a4)
  go_ret2
  exact ⟨erf, bb HB⟩
 rw [if_neg c2] at H
 have h9 := beq_eq_false_iff_ne.mpr c2
 have h8 := bne_iff_ne.mpr c2
 have m8 : ¬ (a0 = []) := fun h_ => c2 (by rw [h_]; rfl)
 have j1 := Aside0.mk H
 clear H
 go_enter Tryz.func62, Tryz.ntmps62
 go_upto_region 3 with ((with_reducible refine gate_dst (N := 1) rfl ?_); (try (refine gate_guard (by rfl) ?_; dsimp only)); refine be 1 #[.slice b0 a0.length a8, .slice a9 a3.length a7] 31 ?_; intro c1 hg w6 hbox hb; have a4 := Aside0.mk (hbox); have j7 := bsz HB hg; replace HB := bstep HB hb; clear hb hbox hg; obtain ⟨h7, h6, h5, h4⟩ := cz2 a4)
 (try simp only [Act.put, List.setIfInBounds_toArray, List.set_cons_zero, List.set_cons_succ])
 go_cut [21] (fun q4 wc => ∃ (kq : Nat) (c0 : Bool), q4 = .bool c0 ∧ Aside0 (q4_Valid.j0 kq c0 a0 a3 = some (r1, r2)) ∧ Aside0 (kq ≤ k) ∧ Aside0 (wc.heap[c1]? = some (.cells #[(.slice b0 a0.length a8), (.slice a9 a3.length a7)] 31 (0, 0))) ∧ Aside0 (Below w.heap.size w wc))
 case first =>
  have H := j1.out
  clear j1
  by_cases c8 : (a0.length : Int) > 12
  rw [if_pos c8] at H
  have d2 : decide (12 < (a0.length : Int)) = true := decide_eq_true c8
  have m5 : decide (12 < a0.length) = true := decide_eq_true (by omega)
  clear c8
  (first | rw [d2] | (simp only [i64_w, i32_w]; rw [d2]) | skip)
  have H' := Aside0.mk H
  clear H
  rotate_left
  rw [if_neg c8] at H
  have d2 : decide (12 < (a0.length : Int)) = false := decide_eq_false c8
  have m5 : decide (12 < a0.length) = false := decide_eq_false (by omega)
  clear c8
  (first | rw [d2] | (simp only [i64_w, i32_w]; rw [d2]) | skip)
  have H' := Aside0.mk H
  clear H
  all_goals
   obtain ⟨q0, p9, o4, o3⟩ := cz2 a4
   go_wp2
   go_meet
   case rel => exact ⟨_, _, eqs, H', ⟨by first | omega | exact Nat.le_refl _⟩, ⟨bk a4⟩, ⟨bb HB⟩⟩
 case rest =>
  clear j1 c2 h9 h8 m8 h7 h6 h5 h4
  obtain ⟨kq, c0, rfl, HA, g9, a4, HB⟩ := hcut
  cases kq with
  | zero => exact absurd HA.out (by simp [q4_Valid.j0])
  | succ j8 =>
   have H := HA.out
   clear HA
   simp only [q4_Valid.j0] at H
   by_cases g7 : c0 = true
   ·subst g7
    replace H := ift H
    simp only [Option.some.injEq, Prod.mk.injEq] at H
    obtain ⟨rfl, rfl⟩ := H
    go_wp2
    go_ret2
    exact ⟨erf, bb HB⟩
   replace g7 := Bool.eq_false_iff.mpr g7
   subst g7
   replace H := iff_ H
   have H' := Aside0.mk H
   clear H
   go_wp2
   go_loopg [4] j8 (fun kq v4 w' => ∃ (b2 : Int), v4 = .int .i64 b2 ∧ Aside0 (q4_Valid.l0 kq b2 a0 a3 = some (r1, r2)) ∧ Aside0 (kq ≤ j8) ∧ Aside0 (w'.heap[c1]? = some (.cells #[(.slice b0 a0.length a8), (.slice a9 a3.length a7)] 31 (0, 0))) ∧ Aside0 (Below w.heap.size w w'))
   case atStart => exact ⟨(0), eqs, H', ⟨Nat.le_refl _⟩, ⟨bk a4⟩, ⟨bb HB⟩⟩
   case round =>
    clear H'
    obtain ⟨b2, rfl, HA, g8, a4, HB⟩ := hrel
    cases gk with
    | zero => exact absurd HA.out (by simp [q4_Valid.l0])
    | succ k2 =>
     have H := HA.out
     clear HA
     simp only [q4_Valid.l0] at H
     by_cases e9 : b2 < (a0.length : Int)
     ·rw [if_pos e9] at H
      have g6 := decide_eq_true e9
      clear e9
      obtain ⟨g1, r4, H⟩ := obA H
      by_cases d4 : g1 = 0
      rw [if_pos d4] at H
      have j6 := beq_iff_eq.mpr d4
      have j5 := bne_eq_false_iff_eq.mpr d4
      clear d4
      have H' := Aside0.mk H
      clear H
      rotate_left
      rw [if_neg d4] at H
      have j6 := beq_eq_false_iff_ne.mpr d4
      have j5 := bne_iff_ne.mpr d4
      obtain ⟨m0, H⟩ := itn H
      have r7 := decide_eq_true m0
      clear m0
      simp only [Option.some.injEq, Prod.mk.injEq] at H
      obtain ⟨rfl, rfl⟩ := H
      all_goals
       obtain ⟨p4, p3, n8, n7⟩ := cz2 a4
       go_wp2_with ((with_reducible refine gate_callee (f := 88) rfl ?_); refine gl 31 Tryz.func88 #[.agg #[.slice b0 a0.length a8, .slice a9 a3.length a7], .int .i64 b2] (h := ?_); (with_reducible refine (q4_node.calls _ _ _ _ _ _ _ _ _ _ (cb b9 HB) c4.out (cb b8 HB) c3.out r4.out).mono ?_); rintro e s3 ⟨rfl, hb⟩; refine ⟨_, rfl, ?_⟩; replace a4 := bkb a4 hb; replace HB := bstep HB hb; clear hb; obtain ⟨p2, p1, n6, n5⟩ := cz2 a4; (try (have g5 : 0 ≤ b2 := odt; have g3 : b2 < (a0.length : Int) := odt; obtain ⟨r9, r0, q9, m4, e5, e4, e3, e2, e6, e7⟩ := at_T96 b9.out b2 g5 g3; cases m4; replace e5 := hxc HB e5; replace e4 := hxc HB e4; replace e3 := hxc HB e3; replace e2 := hxc HB e2; have q1 := Aside0.mk e7; have q2 := Aside0.mk e6; clear e7 e6; replace g5 := eq_true g5; replace g3 := eq_true g3)))
      ·go_ret2
       exact ⟨erf, bb HB⟩
      ·go_roundg k2
       case measure => have := g9.out; have := g8.out; omega
       case rel => exact ⟨(wrap64 (b2 + 1)), eqs, H', ⟨by have := g9.out; have := g8.out; omega⟩, ⟨bk a4⟩, ⟨bb HB⟩⟩
     rw [if_neg e9] at H
     have g6 := decide_eq_false e9
     clear e9
     have H' := Aside0.mk H
     clear H
     obtain ⟨h3, h2, h1, h0⟩ := cz2 a4
     go_wp2
     go_loopg [6] k2 (fun kq v6 w' => ∃ (b1 : Int), v6 = .int .i64 b1 ∧ Aside0 (q4_Valid.l1 kq b1 a0 a3 = some (r1, r2)) ∧ Aside0 (kq ≤ k2) ∧ Aside0 (w'.heap[c1]? = some (.cells #[(.slice b0 a0.length a8), (.slice a9 a3.length a7)] 31 (0, 0))) ∧ Aside0 (Below w.heap.size w w'))
     case atStart => exact ⟨(0), eqs, H', ⟨Nat.le_refl _⟩, ⟨bk a4⟩, ⟨bb HB⟩⟩
     case round =>
      clear H' g6 h3 h2 h1 h0
      obtain ⟨b1, rfl, HA, m1, a4, HB⟩ := hrel
      cases gk with
      | zero => exact absurd HA.out (by simp [q4_Valid.l1])
      | succ k3 =>
       have H := HA.out
       clear HA
       simp only [q4_Valid.l1] at H
       by_cases e8 : b1 < (a3.length : Int)
       rotate_left
       ·rw [if_neg e8] at H
        have j4 := decide_eq_false e8
        clear e8
        simp only [Option.some.injEq, Prod.mk.injEq] at H
        obtain ⟨rfl, rfl⟩ := H
        obtain ⟨o6, o5, n0, m9⟩ := cz2 a4
        go_wp2
        go_ret2
        exact ⟨erf, bb HB⟩
       rw [if_pos e8] at H
       have j4 := decide_eq_true e8
       clear e8
       obtain ⟨g0, r3, H⟩ := obA H
       by_cases d3 : g0 = 0
       rw [if_pos d3] at H
       have j3 := beq_iff_eq.mpr d3
       have j2 := bne_eq_false_iff_eq.mpr d3
       clear d3
       have H' := Aside0.mk H
       clear H
       rotate_left
       rw [if_neg d3] at H
       have j3 := beq_eq_false_iff_ne.mpr d3
       have j2 := bne_iff_ne.mpr d3
       obtain ⟨j9, H⟩ := itn H
       have r6 := decide_eq_true j9
       clear j9
       simp only [Option.some.injEq, Prod.mk.injEq] at H
       obtain ⟨rfl, rfl⟩ := H
       all_goals
        obtain ⟨p0, o9, n4, n3⟩ := cz2 a4
        go_wp2_with ((with_reducible refine gate_callee (f := 89) rfl ?_); refine gl 50 Tryz.func89 #[.agg #[.slice b0 a0.length a8, .slice a9 a3.length a7], .int .i64 b1] (h := ?_); (with_reducible refine (q4_edge.calls _ _ _ _ _ _ _ _ _ _ (cb b9 HB) c4.out (cb b8 HB) c3.out r3.out).mono ?_); rintro e s2 ⟨rfl, hb⟩; refine ⟨_, rfl, ?_⟩; replace a4 := bkb a4 hb; replace HB := bstep HB hb; clear hb; obtain ⟨o8, o7, n2, n1⟩ := cz2 a4; (try (have g4 : 0 ≤ b1 := odt; have g2 : b1 < (a3.length : Int) := odt; obtain ⟨r8, m3, e1, e0, d9, d8, d7, d6, d5⟩ := at_T101 b8.out b1 g4 g2; cases m3; replace e1 := hxc HB e1; replace e0 := hxc HB e0; replace d9 := hxc HB d9; replace d8 := hxc HB d8; replace d7 := hxc HB d7; replace d6 := hxc HB d6; replace d5 := hxc HB d5; replace g4 := eq_true g4; replace g2 := eq_true g2)))
       ·go_ret2
        exact ⟨erf, bb HB⟩
       ·go_roundg k3
        case measure => have := g9.out; have := g8.out; have := m1.out; omega
        case rel => exact ⟨(wrap64 (b1 + 1)), eqs, H', ⟨by have := g9.out; have := g8.out; have := m1.out; omega⟩, ⟨bk a4⟩, ⟨bb HB⟩⟩
def q4_given.f (k : Nat) (a0 : List (S96)) (a3 : List (S101)) (a1 : Int) (a2 : Int) : Option (Int) := (q4_Valid.f k a0 a3).bind fun b7 => (if b7.2 = 0 then ((q4_in.f a1 0 (wrap64 ((a0.length : Int) - 1))).bind fun d1 => (if d1 = true then ((q4_in.f a2 0 (wrap64 ((a0.length : Int) - 1))).bind fun d0 => (if d0 = true then (some 0) else (some 6))) else (some 6))) else (some b7.2))
theorem q4_given.calls (k : Nat) (b0 : Option Addr) (a8 : Nat) (a0 : List (S96)) (a9 : Option Addr) (a7 : Nat) (a3 : List (S101)) (a1 : Int) (a2 : Int) (r : Int) (w : World) (b4 : Kd.C k96 w b0 a0.length a0) (b6 : a0.length ≤ a8) (b3 : Kd.C k101 w a9 a3.length a3) (b5 : a3.length ≤ a7) (h : q4_given.f k a0 a3 a1 a2 = some r) :
  Calls Tryz.prog 86 #[.agg #[.slice b0 a0.length a8, .slice a9 a3.length a7], .int .i64 a1, .int .i64 a2] w fun e w' => e = .returned (.int .i64 r) ∧ Below w.heap.size w w' := by
 have hu31 := Tryz.underlying31
 have b9 := Aside0.mk b4
 have c4 := Aside0.mk b6
 clear b4 b6
 have b8 := Aside0.mk b3
 have c3 := Aside0.mk b5
 clear b3 b5
 have HB := Aside0.mk (Below.refl w.heap.size w)
 have H : ((q4_Valid.f k a0 a3).bind fun b7 => (if b7.2 = 0 then ((q4_in.f a1 0 (wrap64 ((a0.length : Int) - 1))).bind fun d1 => (if d1 = true then ((q4_in.f a2 0 (wrap64 ((a0.length : Int) - 1))).bind fun d0 => (if d0 = true then (some 0) else (some 6))) else (some 6))) else (some b7.2))) = some r := h
 clear h
 obtain ⟨⟨s1, m2⟩, A4, H⟩ := obA H
 try dsimp only at H
 by_cases c5 : m2 = 0
 rw [if_pos c5] at H
 have m7 := beq_iff_eq.mpr c5
 have m6 := bne_eq_false_iff_eq.mpr c5
 clear c5
 obtain ⟨d1, A6, H⟩ := obA H
 by_cases c7 : d1 = true
 subst c7
 replace H := ift H
 obtain ⟨d0, A8, H⟩ := obA H
 by_cases c9 : d0 = true
 subst c9
 replace H := ift H
 obtain rfl := Option.some.inj H
 rotate_left
 replace c9 := Bool.eq_false_iff.mpr c9
 subst c9
 replace H := iff_ H
 obtain rfl := Option.some.inj H
 rotate_left
 replace c7 := Bool.eq_false_iff.mpr c7
 subst c7
 replace H := iff_ H
 obtain rfl := Option.some.inj H
 rotate_left
 rw [if_neg c5] at H
 have m7 := beq_eq_false_iff_ne.mpr c5
 have m6 := bne_iff_ne.mpr c5
 obtain rfl := Option.some.inj H
 all_goals
  go_enter Tryz.func86, Tryz.ntmps86
  go_wp2_with (first | ((with_reducible refine gate_dst (N := 3) rfl ?_); (try (refine gate_guard (by rfl) ?_; dsimp only)); refine be 3 #[.slice b0 a0.length a8, .slice a9 a3.length a7] 31 ?_; intro r5 hg s5 hbox hb; have c6 := Aside0.mk (hbox); have s0 := bsz HB hg; replace HB := bstep HB hb; clear hb hbox hg; obtain ⟨p8, p7, o2, o1⟩ := cz2 c6) | ((with_reducible refine gate_callee (f := 62) rfl ?_); refine gl 11 Tryz.func62 #[.agg #[.slice b0 a0.length a8, .slice a9 a3.length a7]] (h := ?_); (with_reducible refine (q4_Valid.calls _ _ _ _ _ _ _ _ _ _ (cb b9 HB) c4.out (cb b8 HB) c3.out A4.out).mono ?_); rintro e s4 ⟨rfl, hb⟩; refine ⟨_, rfl, ?_⟩; replace c6 := bkb c6 hb; replace HB := bstep HB hb; clear hb; obtain ⟨p6, p5, o0, n9⟩ := cz2 c6) | ((with_reducible refine gate_callee (f := 90) rfl ?_); refine gl 22 Tryz.func90 #[.int .i64 a1, .int .i64 0, .int .i64 (wrap64 ((a0.length : Int) - 1))] (h := ?_); (with_reducible refine (q4_in.calls _ _ _ _ _ A6.out).mono ?_); rintro e w' ⟨rfl, ⟨nd, rfl⟩⟩; refine ⟨_, rfl, ?_⟩) | (go_at_call 90; (with_reducible refine (q4_in.calls _ _ _ _ _ A8.out).mono ?_); rintro e w' ⟨rfl, ⟨nd, rfl⟩⟩))
  go_ret
  exact ⟨erf, bb HB⟩
end Go.Proofs.YtfpianecohobjaaGreat.P
