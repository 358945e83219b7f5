/- StatisticOf: a part of its proof. No condition. -/
import Derived.Test.YtfpianecohobjaaGreatYPx0
import Derived.Test.YtfpianecohobjaaGreatYPx6
import Derived.Test.YtfpianecohobjaaGreatYPx7
import Derived.Test.YtfpianecohobjaaGreatYH0
namespace Go.Proofs.YtfpianecohobjaaGreat.P
open Go.RowKit Go.Proofs.YtfpianecohobjaaGreatW.PrintWords Go.Proofs.YtfpianecohobjaaGreatW.PrintLast Go.Proofs.YtfpianecohobjaaGreatW.PrintMore
set_option linter.unusedVariables false
set_option linter.unusedSimpArgs false
mutual
def types_Valid.l0 : Nat → List (S96) → Int → Int → List (S96) → List (S101) → Option (ByteArray × Int)
 | 0, _, _, _, _, _ => none
 | k + 1, n3, o8, j0, c3, b7 => if j0 < o8 then (if 0 ≤ j0 then (if j0 < (n3.length : Int) then ((types_node.f k c3 b7 j0).bind fun h4 => (if h4 = 0 then (types_Valid.l0 k n3 o8 (wrap64 (j0 + 1)) c3 b7) else (some ((rd_T96 n3 j0).f0, h4)))) else (none)) else (none)) else (types_Valid.l1 k b7 (b7.length : Int) 0 c3 b7)
def types_Valid.l1 : Nat → List (S101) → Int → Int → List (S96) → List (S101) → Option (ByteArray × Int)
 | 0, _, _, _, _, _ => none
 | k + 1, n2, o7, h9, c3, b7 => if h9 < o7 then (if 0 ≤ h9 then (if h9 < (n2.length : Int) then ((types_edge.f k c3 b7 h9).bind fun h3 => (if h3 = 0 then (types_Valid.l1 k n2 o7 (wrap64 (h9 + 1)) c3 b7) else (some ((rd_T101 n2 h9).f0, h3)))) else (none)) else (none)) else (some ((⟨#[]⟩ : ByteArray), 0))
end
def types_Valid.f (k : Nat) (a4 : List (S96)) (a3 : List (S101)) : Option (ByteArray × Int) := if (a4.length : Int) = 0 then (some ((⟨#[]⟩ : ByteArray), 7)) else (if (a4.length : Int) > 12 then (some ((⟨#[]⟩ : ByteArray), 3)) else (if (a3.length : Int) > 20 then (some ((⟨#[]⟩ : ByteArray), 3)) else (types_Valid.l0 k a4 (a4.length : Int) 0 a4 a3)))
theorem types_Valid.mono_l : ∀ k, (∀ y0 y1 y2 y3 y4, LeO (types_Valid.l0 k y0 y1 y2 y3 y4) (types_Valid.l0 (k + 1) y0 y1 y2 y3 y4)) ∧ (∀ y0 y1 y2 y3 y4, LeO (types_Valid.l1 k y0 y1 y2 y3 y4) (types_Valid.l1 (k + 1) y0 y1 y2 y3 y4))
 | 0 => ⟨fun _ _ _ _ _ r h => by simp [types_Valid.l0] at h, fun _ _ _ _ _ r h => by simp [types_Valid.l1] at h⟩
 | k + 1 => by
  obtain ⟨ih0, ih1⟩ := types_Valid.mono_l k
  refine ⟨?_, ?_⟩
  ·intro y0 y1 y2 y3 y4
   unfold types_Valid.l0
   repeat' first
   | (with_reducible exact ih0 _ _ _ _ _)
   | (with_reducible exact ih1 _ _ _ _ _)
   | (with_reducible exact types_edge.mono _ _ _ _)
   | (with_reducible exact types_node.mono _ _ _ _)
   | (with_reducible exact LeO.refl _)
   | (with_reducible exact LeO.none _)
   | (with_reducible refine LeO.ite ?_ ?_)
   | (with_reducible refine LeO.bind ?_ (fun _ => ?_))
  ·intro y0 y1 y2 y3 y4
   unfold types_Valid.l1
   repeat' first
   | (with_reducible exact ih0 _ _ _ _ _)
   | (with_reducible exact ih1 _ _ _ _ _)
   | (with_reducible exact types_edge.mono _ _ _ _)
   | (with_reducible exact types_node.mono _ _ _ _)
   | (with_reducible exact LeO.refl _)
   | (with_reducible exact LeO.none _)
   | (with_reducible refine LeO.ite ?_ ?_)
   | (with_reducible refine LeO.bind ?_ (fun _ => ?_))
theorem types_Valid.mono : ∀ a0 a1 k, LeO (types_Valid.f k a0 a1) (types_Valid.f (k + 1) a0 a1) := by
 intro a0 a1 k
 obtain ⟨ih0, ih1⟩ := types_Valid.mono_l k
 unfold types_Valid.f
 repeat' first
   | (with_reducible exact ih0 _ _ _ _ _)
   | (with_reducible exact ih1 _ _ _ _ _)
   | (with_reducible exact types_edge.mono _ _ _ _)
   | (with_reducible exact types_node.mono _ _ _ _)
   | (with_reducible exact LeO.refl _)
   | (with_reducible exact LeO.none _)
   | (with_reducible refine LeO.ite ?_ ?_)
   | (with_reducible refine LeO.bind ?_ (fun _ => ?_))
set_option maxHeartbeats 8000000 in
set_option maxRecDepth 100000 in
theorem types_Valid.calls (k : Nat) (b1 : Option Addr) (a9 : Nat) (a4 : List (S96)) (b0 : Option Addr) (a8 : Nat) (a3 : List (S101)) (r1 : ByteArray) (r2 : Int) (w : World) (g6 : Kd.C k96 w b1 a4.length a4) (g8 : a4.length ≤ a9) (g5 : Kd.C k101 w b0 a3.length a3) (g7 : a3.length ≤ a8) (h : types_Valid.f k a4 a3 = some (r1, r2)) :
  Calls Tryz.prog 57 #[.agg #[.slice b1 a4.length a9, .slice b0 a3.length a8]] w fun e w' => e = .returned (.tuple #[.string r1, .int .i64 r2]) ∧ Below w.heap.size w w' := by
 have hu31 := Tryz.underlying31
 have hu96 := Tryz.underlying96
 have hu101 := Tryz.underlying101
 have b9 := Aside0.mk g6
 have c9 := Aside0.mk g8
 clear g6 g8
 have b8 := Aside0.mk g5
 have c7 := Aside0.mk g7
 clear g5 g7
 have HB := Aside0.mk (Below.refl w.heap.size w)
 have H : (if (a4.length : Int) = 0 then (some ((⟨#[]⟩ : ByteArray), 7)) else (if (a4.length : Int) > 12 then (some ((⟨#[]⟩ : ByteArray), 3)) else (if (a3.length : Int) > 20 then (some ((⟨#[]⟩ : ByteArray), 3)) else (types_Valid.l0 k a4 (a4.length : Int) 0 a4 a3)))) = some (r1, r2) := h
 clear h
 by_cases c2 : (a4.length : Int) = 0
 ·rw [if_pos c2] at H
  have n9 := beq_iff_eq.mpr c2
  have n8 := bne_eq_false_iff_eq.mpr c2
  clear c2
  simp only [Option.some.injEq, Prod.mk.injEq] at H
  obtain ⟨rfl, rfl⟩ := H
  go_enter Tryz.func57, Tryz.ntmps57
  go_wp2_with ((with_reducible refine gate_dst (N := 1) rfl ?_); (try (refine gate_guard (by rfl) ?_; dsimp only)); refine be 1 #[.slice b1 a4.length a9, .slice b0 a3.length a8] 31 ?_; intro c0 hg w3 hbox hb; have a6 := Aside0.mk (hbox); have j9 := bsz HB hg; replace HB := bstep HB hb; clear hb hbox hg; obtain ⟨F1, F0, E5, E4⟩ := cz2 a6)
  go_ret2
  exact ⟨erf, bb HB⟩
 rw [if_neg c2] at H
 have n9 := beq_eq_false_iff_ne.mpr c2
 have n8 := bne_iff_ne.mpr c2
 have q2 : ¬ (a4 = []) := fun h_ => c2 (by rw [h_]; rfl)
 by_cases c5 : (a4.length : Int) > 12
 ·rw [if_pos c5] at H
  have n7 : decide (12 < (a4.length : Int)) = true := decide_eq_true c5
  have n6 : decide (12 < a4.length) = true := decide_eq_true (by omega)
  clear c5
  simp only [Option.some.injEq, Prod.mk.injEq] at H
  obtain ⟨rfl, rfl⟩ := H
  go_enter Tryz.func57, Tryz.ntmps57
  go_wp2_with ((with_reducible refine gate_dst (N := 1) rfl ?_); (try (refine gate_guard (by rfl) ?_; dsimp only)); refine be 1 #[.slice b1 a4.length a9, .slice b0 a3.length a8] 31 ?_; intro c0 hg w6 hbox hb; have a6 := Aside0.mk (hbox); have j9 := bsz HB hg; replace HB := bstep HB hb; clear hb hbox hg; obtain ⟨E9, E8, E3, E2⟩ := cz2 a6)
  go_ret2
  exact ⟨erf, bb HB⟩
 rw [if_neg c5] at H
 have n7 : decide (12 < (a4.length : Int)) = false := decide_eq_false c5
 have n6 : decide (12 < a4.length) = false := decide_eq_false (by omega)
 clear c5
 by_cases c8 : (a3.length : Int) > 20
 ·rw [if_pos c8] at H
  have n5 : decide (20 < (a3.length : Int)) = true := decide_eq_true c8
  have n4 : decide (20 < a3.length) = true := decide_eq_true (by omega)
  clear c8
  simp only [Option.some.injEq, Prod.mk.injEq] at H
  obtain ⟨rfl, rfl⟩ := H
  go_enter Tryz.func57, Tryz.ntmps57
  go_wp2_with ((with_reducible refine gate_dst (N := 1) rfl ?_); (try (refine gate_guard (by rfl) ?_; dsimp only)); refine be 1 #[.slice b1 a4.length a9, .slice b0 a3.length a8] 31 ?_; intro c0 hg w9 hbox hb; have a6 := Aside0.mk (hbox); have j9 := bsz HB hg; replace HB := bstep HB hb; clear hb hbox hg; obtain ⟨D6, D5, v9, v8⟩ := cz2 a6)
  go_ret2
  exact ⟨erf, bb HB⟩
 rw [if_neg c8] at H
 have n5 : decide (20 < (a3.length : Int)) = false := decide_eq_false c8
 have n4 : decide (20 < a3.length) = false := decide_eq_false (by omega)
 clear c8
 have H' := Aside0.mk H
 clear H
 go_enter Tryz.func57, Tryz.ntmps57
 go_wp2_with ((with_reducible refine gate_dst (N := 1) rfl ?_); (try (refine gate_guard (by rfl) ?_; dsimp only)); refine be 1 #[.slice b1 a4.length a9, .slice b0 a3.length a8] 31 ?_; intro c0 hg D7 hbox hb; have a6 := Aside0.mk (hbox); have j9 := bsz HB hg; replace HB := bstep HB hb; clear hb hbox hg; obtain ⟨j4, j3, j2, j1⟩ := cz2 a6)
 go_loopg [29] k (fun kq D9 w' => ∃ (a7 : Int), D9 = .int .i64 a7 ∧ Aside0 (types_Valid.l0 kq a4 (a4.length : Int) a7 a4 a3 = some (r1, r2)) ∧ Aside0 (kq ≤ k) ∧ Aside0 (w'.heap[c0]? = some (.cells #[(.slice b1 a4.length a9), (.slice b0 a3.length a8)] 31 (0, 0))) ∧ Aside0 (Below w.heap.size w w'))
 case atStart => exact ⟨(0), eqs, H', ⟨Nat.le_refl _⟩, ⟨bk a6⟩, ⟨bb HB⟩⟩
 case round =>
  clear H'
  clear c2
  clear n9
  clear n8
  clear q2
  clear n7
  clear n6
  clear n5
  clear n4
  clear j4
  clear j3
  clear j2
  clear j1
  obtain ⟨a7, rfl, HA, m4, a6, HB⟩ := hrel
  cases gk with
  | zero => exact absurd HA.out (by simp [types_Valid.l0])
  | succ k1 =>
   have H := HA.out
   clear HA
   simp only [types_Valid.l0] at H
   by_cases j6 : a7 < (a4.length : Int)
   ·rw [if_pos j6] at H
    have m3 := decide_eq_true j6
    clear j6
    obtain ⟨p4, H⟩ := itn H
    have G3 := decide_eq_true p4
    clear p4
    obtain ⟨p3, H⟩ := itn H
    have G2 := decide_eq_true p3
    clear p3
    obtain ⟨h4, p9, H⟩ := obA H
    by_cases h7 : h4 = 0
    rotate_left
    ·rw [if_neg h7] at H
     have o4 := beq_eq_false_iff_ne.mpr h7
     have o3 := bne_iff_ne.mpr h7
     simp only [Option.some.injEq, Prod.mk.injEq] at H
     obtain ⟨rfl, rfl⟩ := H
     have g4 : 0 ≤ a7 := odt
     have g2 : a7 < (a4.length : Int) := odt
     obtain ⟨h1, h8, h6, m2, e2, e1, e0, d9, e3, e4⟩ := at_T96 b9.out a7 g4 g2
     cases m2
     replace e2 := hxc HB e2
     replace e1 := hxc HB e1
     replace e0 := hxc HB e0
     replace d9 := hxc HB d9
     have n0 := Aside0.mk e4
     have n1 := Aside0.mk e3
     clear e4 e3
     replace g4 := eq_true g4
     replace g2 := eq_true g2
     go_wp2_with (first | ((with_reducible refine gate_dst (N := 5) rfl ?_); (try (refine gate_guard (by rfl) ?_; dsimp only)); refine be 5 #[.string (⟨#[]⟩ : ByteArray), .int .i64 0, .bool false, .slice none 0 0] 96 ?_; intro j8 hg G9 hbox hb; have d1 := Aside0.mk (hbox); have o6 := bsz HB hg; replace HB := bstep HB hb; have e8 := blt a6 hg; have e6 := bgt a6 hg; replace a6 := bkb a6 hb; clear hb hbox hg; have F8 := e6.out; have F4 := e8.out; obtain ⟨C6, C5, C4, C3, t9, t8, t7, t6⟩ := cz4 d1; obtain ⟨C2, C1, t5, t4⟩ := cz2 a6) | ((with_reducible refine gate_callee (f := 83) rfl ?_); refine gl 36 Tryz.func83 #[.agg #[.slice (some h1) a4.length a9, .slice b0 a3.length a8], .int .i64 a7] (h := ?_); (with_reducible refine (types_node.calls k1 _ _ a4 _ _ a3 a7 h4 _ ?b4 ?b3 ?b2 ?b6 p9.out).mono ?_); (case b4 => exact Kd.C_below b9.out (bb HB)); (case b3 => exact c9.out); (case b2 => exact Kd.C_below b8.out (bb HB)); (case b6 => exact c7.out); rintro e G8 ⟨rfl, hb⟩; refine ⟨_, rfl, ?_⟩; replace a6 := Aside0.mk (blk_below (g := c0) (o := .cells #[.slice (some h1) a4.length a9, .slice b0 a3.length a8] 31 (0, 0)) (bkF a6) hb); replace d1 := Aside0.mk (blk_below (g := j8) (o := .cells #[.string ((rd_T96 a4 a7).f0), .int .i64 ((rd_T96 a4 a7).f1), .bool ((rd_T96 a4 a7).f2), .slice h8 ((rd_T96 a4 a7).f3).length h6] 96 (0, 0)) (by (with_reducible repeat (first | refine dN ?_ _ | refine dR ?_ | refine dA ?_ _)); refine blk_put (cs := #[.string ((rd_T96 a4 a7).f0), .int .i64 ((rd_T96 a4 a7).f1), .bool ((rd_T96 a4 a7).f2), .slice none 0 0]) ?_ 3 _ rfl; refine blk_put (cs := #[.string ((rd_T96 a4 a7).f0), .int .i64 ((rd_T96 a4 a7).f1), .bool false, .slice none 0 0]) ?_ 2 _ rfl; refine blk_put (cs := #[.string ((rd_T96 a4 a7).f0), .int .i64 0, .bool false, .slice none 0 0]) ?_ 1 _ rfl; refine blk_put (cs := #[.string (⟨#[]⟩ : ByteArray), .int .i64 0, .bool false, .slice none 0 0]) ?_ 0 _ rfl; (with_reducible repeat (first | refine dN ?_ _ | refine dR ?_ | refine dA ?_ _)); exact d1.out) hb); replace HB := bstep HB hb; (try clear hb); (try clear hb2); (try clear hk); (try clear hi); obtain ⟨C0, A9, A8, A7, t3, t2, t1, t0⟩ := cz4 d1))
     go_ret2
     exact ⟨erf, bb HB⟩
    rw [if_pos h7] at H
    have o4 := beq_iff_eq.mpr h7
    have o3 := bne_eq_false_iff_eq.mpr h7
    clear h7
    have H' := Aside0.mk H
    clear H
    have g4 : 0 ≤ a7 := odt
    have g2 : a7 < (a4.length : Int) := odt
    obtain ⟨h1, h8, h6, m2, e2, e1, e0, d9, e3, e4⟩ := at_T96 b9.out a7 g4 g2
    cases m2
    replace e2 := hxc HB e2
    replace e1 := hxc HB e1
    replace e0 := hxc HB e0
    replace d9 := hxc HB d9
    have n0 := Aside0.mk e4
    have n1 := Aside0.mk e3
    clear e4 e3
    replace g4 := eq_true g4
    replace g2 := eq_true g2
    go_wp2_with (first | ((with_reducible refine gate_dst (N := 5) rfl ?_); (try (refine gate_guard (by rfl) ?_; dsimp only)); refine be 5 #[.string (⟨#[]⟩ : ByteArray), .int .i64 0, .bool false, .slice none 0 0] 96 ?_; intro j8 hg H1 hbox hb; have d1 := Aside0.mk (hbox); have o6 := bsz HB hg; replace HB := bstep HB hb; have e8 := blt a6 hg; have e6 := bgt a6 hg; replace a6 := bkb a6 hb; clear hb hbox hg; have F9 := e6.out; have F5 := e8.out; obtain ⟨D2, D1, D0, C9, v5, v4, v3, v2⟩ := cz4 d1; obtain ⟨C8, C7, v1, v0⟩ := cz2 a6) | ((with_reducible refine gate_callee (f := 83) rfl ?_); refine gl 36 Tryz.func83 #[.agg #[.slice (some h1) a4.length a9, .slice b0 a3.length a8], .int .i64 a7] (h := ?_); (with_reducible refine (types_node.calls k1 _ _ a4 _ _ a3 a7 h4 _ ?b4 ?b3 ?b2 ?b6 p9.out).mono ?_); (case b4 => exact Kd.C_below b9.out (bb HB)); (case b3 => exact c9.out); (case b2 => exact Kd.C_below b8.out (bb HB)); (case b6 => exact c7.out); rintro e H0 ⟨rfl, hb⟩; refine ⟨_, rfl, ?_⟩; replace a6 := Aside0.mk (blk_below (g := c0) (o := .cells #[.slice (some h1) a4.length a9, .slice b0 a3.length a8] 31 (0, 0)) (bkF a6) hb); replace d1 := Aside0.mk (blk_below (g := j8) (o := .cells #[.string ((rd_T96 a4 a7).f0), .int .i64 ((rd_T96 a4 a7).f1), .bool ((rd_T96 a4 a7).f2), .slice h8 ((rd_T96 a4 a7).f3).length h6] 96 (0, 0)) (by (with_reducible repeat (first | refine dN ?_ _ | refine dR ?_ | refine dA ?_ _)); refine blk_put (cs := #[.string ((rd_T96 a4 a7).f0), .int .i64 ((rd_T96 a4 a7).f1), .bool ((rd_T96 a4 a7).f2), .slice none 0 0]) ?_ 3 _ rfl; refine blk_put (cs := #[.string ((rd_T96 a4 a7).f0), .int .i64 ((rd_T96 a4 a7).f1), .bool false, .slice none 0 0]) ?_ 2 _ rfl; refine blk_put (cs := #[.string ((rd_T96 a4 a7).f0), .int .i64 0, .bool false, .slice none 0 0]) ?_ 1 _ rfl; refine blk_put (cs := #[.string (⟨#[]⟩ : ByteArray), .int .i64 0, .bool false, .slice none 0 0]) ?_ 0 _ rfl; (with_reducible repeat (first | refine dN ?_ _ | refine dR ?_ | refine dA ?_ _)); exact d1.out) hb); replace HB := bstep HB hb; (try clear hb); (try clear hb2); (try clear hk); (try clear hi)))
    go_roundg k1
    case measure => have := m4.out; omega
    case rel => exact ⟨(wrap64 (a7 + 1)), eqs, H', ⟨by have := m4.out; omega⟩, ⟨bk a6⟩, ⟨bb HB⟩⟩
   rw [if_neg j6] at H
   have m3 := decide_eq_false j6
   clear j6
   have H' := Aside0.mk H
   clear H
   obtain ⟨m9, m8, m7, m6⟩ := cz2 a6
   go_wp2
   go_loopg [46] k1 (fun kq D8 w' => ∃ (a5 : Int), D8 = .int .i64 a5 ∧ Aside0 (types_Valid.l1 kq a3 (a3.length : Int) a5 a4 a3 = some (r1, r2)) ∧ Aside0 (kq ≤ k1) ∧ Aside0 (w'.heap[c0]? = some (.cells #[(.slice b1 a4.length a9), (.slice b0 a3.length a8)] 31 (0, 0))) ∧ Aside0 (Below w.heap.size w w'))
   case atStart => exact ⟨(0), eqs, H', ⟨Nat.le_refl _⟩, ⟨bk a6⟩, ⟨bb HB⟩⟩
   case round =>
    clear H'
    clear m3
    clear m9
    clear m8
    clear m7
    clear m6
    obtain ⟨a5, rfl, HA, p6, a6, HB⟩ := hrel
    cases gk with
    | zero => exact absurd HA.out (by simp [types_Valid.l1])
    | succ k2 =>
     have H := HA.out
     clear HA
     simp only [types_Valid.l1] at H
     by_cases j5 : a5 < (a3.length : Int)
     rotate_left
     ·rw [if_neg j5] at H
      have o2 := decide_eq_false j5
      clear j5
      simp only [Option.some.injEq, Prod.mk.injEq] at H
      obtain ⟨rfl, rfl⟩ := H
      go_wp2
      go_ret2
      exact ⟨erf, bb HB⟩
     rw [if_pos j5] at H
     have o2 := decide_eq_true j5
     clear j5
     obtain ⟨p2, H⟩ := itn H
     have G1 := decide_eq_true p2
     clear p2
     obtain ⟨p1, H⟩ := itn H
     have G0 := decide_eq_true p1
     clear p1
     obtain ⟨h3, p8, H⟩ := obA H
     by_cases h5 : h3 = 0
     rotate_left
     ·rw [if_neg h5] at H
      have o1 := beq_eq_false_iff_ne.mpr h5
      have o0 := bne_iff_ne.mpr h5
      simp only [Option.some.injEq, Prod.mk.injEq] at H
      obtain ⟨rfl, rfl⟩ := H
      have g3 : 0 ≤ a5 := odt
      have g1 : a5 < (a3.length : Int) := odt
      obtain ⟨h0, m1, d8, d7, d6, d5, d4, d3, d2⟩ := at_T101 b8.out a5 g3 g1
      cases m1
      replace d8 := hxc HB d8
      replace d7 := hxc HB d7
      replace d6 := hxc HB d6
      replace d5 := hxc HB d5
      replace d4 := hxc HB d4
      replace d3 := hxc HB d3
      replace d2 := hxc HB d2
      replace g3 := eq_true g3
      replace g1 := eq_true g1
      go_wp2_with (first | ((with_reducible refine gate_dst (N := 8) rfl ?_); (try (refine gate_guard (by rfl) ?_; dsimp only)); refine be 8 #[.string (⟨#[]⟩ : ByteArray), .int .i64 0, .int .i64 0, .int .i64 0, .int .i64 0, .int .i64 0, .int .i64 0] 101 ?_; intro j7 hg G5 hbox hb; have d0 := Aside0.mk (hbox); have o5 := bsz HB hg; replace HB := bstep HB hb; have e7 := blt a6 hg; have e5 := bgt a6 hg; replace a6 := bkb a6 hb; clear hb hbox hg; have F6 := e5.out; have F2 := e7.out; obtain ⟨x9, x8, x7, x6, x5, x4, x3, s0, r9, r8, r7, r6, r5, r4⟩ := cz7 d0; obtain ⟨x2, x1, r3, r0⟩ := cz2 a6) | ((with_reducible refine gate_callee (f := 84) rfl ?_); refine gl 53 Tryz.func84 #[.agg #[.slice b1 a4.length a9, .slice (some h0) a3.length a8], .int .i64 a5] (h := ?_); (with_reducible refine (types_edge.calls k2 _ _ a4 _ _ a3 a5 h3 _ ?b4 ?b3 ?b2 ?b6 p8.out).mono ?_); (case b4 => exact Kd.C_below b9.out (bb HB)); (case b3 => exact c9.out); (case b2 => exact Kd.C_below b8.out (bb HB)); (case b6 => exact c7.out); rintro e G4 ⟨rfl, hb⟩; refine ⟨_, rfl, ?_⟩; replace a6 := Aside0.mk (blk_below (g := c0) (o := .cells #[.slice b1 a4.length a9, .slice (some h0) a3.length a8] 31 (0, 0)) (bkF a6) hb); replace d0 := Aside0.mk (blk_below (g := j7) (o := .cells #[.string ((rd_T101 a3 a5).f0), .int .i64 ((rd_T101 a3 a5).f1), .int .i64 ((rd_T101 a3 a5).f2), .int .i64 ((rd_T101 a3 a5).f3), .int .i64 ((rd_T101 a3 a5).f4), .int .i64 ((rd_T101 a3 a5).f5), .int .i64 ((rd_T101 a3 a5).f6)] 101 (0, 0)) (by (with_reducible repeat (first | refine dN ?_ _ | refine dR ?_ | refine dA ?_ _)); refine blk_put (cs := #[.string ((rd_T101 a3 a5).f0), .int .i64 ((rd_T101 a3 a5).f1), .int .i64 ((rd_T101 a3 a5).f2), .int .i64 ((rd_T101 a3 a5).f3), .int .i64 ((rd_T101 a3 a5).f4), .int .i64 ((rd_T101 a3 a5).f5), .int .i64 0]) ?_ 6 _ rfl; refine blk_put (cs := #[.string ((rd_T101 a3 a5).f0), .int .i64 ((rd_T101 a3 a5).f1), .int .i64 ((rd_T101 a3 a5).f2), .int .i64 ((rd_T101 a3 a5).f3), .int .i64 ((rd_T101 a3 a5).f4), .int .i64 0, .int .i64 0]) ?_ 5 _ rfl; refine blk_put (cs := #[.string ((rd_T101 a3 a5).f0), .int .i64 ((rd_T101 a3 a5).f1), .int .i64 ((rd_T101 a3 a5).f2), .int .i64 ((rd_T101 a3 a5).f3), .int .i64 0, .int .i64 0, .int .i64 0]) ?_ 4 _ rfl; refine blk_put (cs := #[.string ((rd_T101 a3 a5).f0), .int .i64 ((rd_T101 a3 a5).f1), .int .i64 ((rd_T101 a3 a5).f2), .int .i64 0, .int .i64 0, .int .i64 0, .int .i64 0]) ?_ 3 _ rfl; refine blk_put (cs := #[.string ((rd_T101 a3 a5).f0), .int .i64 ((rd_T101 a3 a5).f1), .int .i64 0, .int .i64 0, .int .i64 0, .int .i64 0, .int .i64 0]) ?_ 2 _ rfl; refine blk_put (cs := #[.string ((rd_T101 a3 a5).f0), .int .i64 0, .int .i64 0, .int .i64 0, .int .i64 0, .int .i64 0, .int .i64 0]) ?_ 1 _ rfl; refine blk_put (cs := #[.string (⟨#[]⟩ : ByteArray), .int .i64 0, .int .i64 0, .int .i64 0, .int .i64 0, .int .i64 0, .int .i64 0]) ?_ 0 _ rfl; (with_reducible repeat (first | refine dN ?_ _ | refine dR ?_ | refine dA ?_ _)); exact d0.out) hb); replace HB := bstep HB hb; (try clear hb); (try clear hb2); (try clear hk); (try clear hi); obtain ⟨x0, w8, w5, w4, w2, w1, w0, q9, q8, q7, q6, q5, q4, q3⟩ := cz7 d0))
      go_ret2
      exact ⟨erf, bb HB⟩
     rw [if_pos h5] at H
     have o1 := beq_iff_eq.mpr h5
     have o0 := bne_eq_false_iff_eq.mpr h5
     clear h5
     have H' := Aside0.mk H
     clear H
     have g3 : 0 ≤ a5 := odt
     have g1 : a5 < (a3.length : Int) := odt
     obtain ⟨h0, m1, d8, d7, d6, d5, d4, d3, d2⟩ := at_T101 b8.out a5 g3 g1
     cases m1
     replace d8 := hxc HB d8
     replace d7 := hxc HB d7
     replace d6 := hxc HB d6
     replace d5 := hxc HB d5
     replace d4 := hxc HB d4
     replace d3 := hxc HB d3
     replace d2 := hxc HB d2
     replace g3 := eq_true g3
     replace g1 := eq_true g1
     go_wp2_with (first | ((with_reducible refine gate_dst (N := 8) rfl ?_); (try (refine gate_guard (by rfl) ?_; dsimp only)); refine be 8 #[.string (⟨#[]⟩ : ByteArray), .int .i64 0, .int .i64 0, .int .i64 0, .int .i64 0, .int .i64 0, .int .i64 0] 101 ?_; intro j7 hg G7 hbox hb; have d0 := Aside0.mk (hbox); have o5 := bsz HB hg; replace HB := bstep HB hb; have e7 := blt a6 hg; have e5 := bgt a6 hg; replace a6 := bkb a6 hb; clear hb hbox hg; have F7 := e5.out; have F3 := e7.out; obtain ⟨A6, A4, A2, A0, y9, y8, y7, s9, s8, s7, s6, s5, s4, s3⟩ := cz7 d0; obtain ⟨y6, y5, s2, s1⟩ := cz2 a6) | ((with_reducible refine gate_callee (f := 84) rfl ?_); refine gl 53 Tryz.func84 #[.agg #[.slice b1 a4.length a9, .slice (some h0) a3.length a8], .int .i64 a5] (h := ?_); (with_reducible refine (types_edge.calls k2 _ _ a4 _ _ a3 a5 h3 _ ?b4 ?b3 ?b2 ?b6 p8.out).mono ?_); (case b4 => exact Kd.C_below b9.out (bb HB)); (case b3 => exact c9.out); (case b2 => exact Kd.C_below b8.out (bb HB)); (case b6 => exact c7.out); rintro e G6 ⟨rfl, hb⟩; refine ⟨_, rfl, ?_⟩; replace a6 := Aside0.mk (blk_below (g := c0) (o := .cells #[.slice b1 a4.length a9, .slice (some h0) a3.length a8] 31 (0, 0)) (bkF a6) hb); replace d0 := Aside0.mk (blk_below (g := j7) (o := .cells #[.string ((rd_T101 a3 a5).f0), .int .i64 ((rd_T101 a3 a5).f1), .int .i64 ((rd_T101 a3 a5).f2), .int .i64 ((rd_T101 a3 a5).f3), .int .i64 ((rd_T101 a3 a5).f4), .int .i64 ((rd_T101 a3 a5).f5), .int .i64 ((rd_T101 a3 a5).f6)] 101 (0, 0)) (by (with_reducible repeat (first | refine dN ?_ _ | refine dR ?_ | refine dA ?_ _)); refine blk_put (cs := #[.string ((rd_T101 a3 a5).f0), .int .i64 ((rd_T101 a3 a5).f1), .int .i64 ((rd_T101 a3 a5).f2), .int .i64 ((rd_T101 a3 a5).f3), .int .i64 ((rd_T101 a3 a5).f4), .int .i64 ((rd_T101 a3 a5).f5), .int .i64 0]) ?_ 6 _ rfl; refine blk_put (cs := #[.string ((rd_T101 a3 a5).f0), .int .i64 ((rd_T101 a3 a5).f1), .int .i64 ((rd_T101 a3 a5).f2), .int .i64 ((rd_T101 a3 a5).f3), .int .i64 ((rd_T101 a3 a5).f4), .int .i64 0, .int .i64 0]) ?_ 5 _ rfl; refine blk_put (cs := #[.string ((rd_T101 a3 a5).f0), .int .i64 ((rd_T101 a3 a5).f1), .int .i64 ((rd_T101 a3 a5).f2), .int .i64 ((rd_T101 a3 a5).f3), .int .i64 0, .int .i64 0, .int .i64 0]) ?_ 4 _ rfl; refine blk_put (cs := #[.string ((rd_T101 a3 a5).f0), .int .i64 ((rd_T101 a3 a5).f1), .int .i64 ((rd_T101 a3 a5).f2), .int .i64 0, .int .i64 0, .int .i64 0, .int .i64 0]) ?_ 3 _ rfl; refine blk_put (cs := #[.string ((rd_T101 a3 a5).f0), .int .i64 ((rd_T101 a3 a5).f1), .int .i64 0, .int .i64 0, .int .i64 0, .int .i64 0, .int .i64 0]) ?_ 2 _ rfl; refine blk_put (cs := #[.string ((rd_T101 a3 a5).f0), .int .i64 0, .int .i64 0, .int .i64 0, .int .i64 0, .int .i64 0, .int .i64 0]) ?_ 1 _ rfl; refine blk_put (cs := #[.string (⟨#[]⟩ : ByteArray), .int .i64 0, .int .i64 0, .int .i64 0, .int .i64 0, .int .i64 0, .int .i64 0]) ?_ 0 _ rfl; (with_reducible repeat (first | refine dN ?_ _ | refine dR ?_ | refine dA ?_ _)); exact d0.out) hb); replace HB := bstep HB hb; (try clear hb); (try clear hb2); (try clear hk); (try clear hi)))
     go_roundg k2
     case measure => have := m4.out; have := p6.out; omega
     case rel => exact ⟨(wrap64 (a5 + 1)), eqs, H', ⟨by have := m4.out; have := p6.out; omega⟩, ⟨bk a6⟩, ⟨bb HB⟩⟩
def types_given.f (k : Nat) (a4 : List (S96)) (a3 : List (S101)) (l1 : List Int) : Option (Int) := (types_Valid.f k a4 a3).bind fun g9 => (if g9.2 = 0 then ((any_given.f l1 a4).bind fun g0 => (if g0 = true then (some 6) else (some 0))) else (some g9.2))
theorem types_given.mono : ∀ a0 a1 a2 k, LeO (types_given.f k a0 a1 a2) (types_given.f (k + 1) a0 a1 a2) := by
 intro a0 a1 a2 k
 unfold types_given.f
 repeat' first
   | (with_reducible exact types_Valid.mono _ _ _)
   | (with_reducible exact LeO.refl _)
   | (with_reducible exact LeO.none _)
   | (with_reducible refine LeO.ite ?_ ?_)
   | (with_reducible refine LeO.bind ?_ (fun _ => ?_))
set_option maxHeartbeats 8000000 in
set_option maxRecDepth 100000 in
theorem types_given.calls (k : Nat) (b1 : Option Addr) (a9 : Nat) (a4 : List (S96)) (b0 : Option Addr) (a8 : Nat) (a3 : List (S101)) (A1 : Option Addr) (c1 : Nat) (l1 : List Int) (r : Int) (w : World) (g6 : Kd.C k96 w b1 a4.length a4) (g8 : a4.length ≤ a9) (g5 : Kd.C k101 w b0 a3.length a3) (g7 : a3.length ≤ a8) (o9 : Kd.C (Kd.int .i64) w A1 l1.length l1) (p0 : l1.length ≤ c1) (h : types_given.f k a4 a3 l1 = some r) :
  Calls Tryz.prog 79 #[.agg #[.slice b1 a4.length a9, .slice b0 a3.length a8], .slice A1 l1.length c1] w fun e w' => e = .returned (.int .i64 r) ∧ Below w.heap.size w w' := by
 have hu31 := Tryz.underlying31
 have b9 := Aside0.mk g6
 have c9 := Aside0.mk g8
 clear g6 g8
 have b8 := Aside0.mk g5
 have c7 := Aside0.mk g7
 clear g5 g7
 have p5 := Aside0.mk o9
 have p7 := Aside0.mk p0
 clear o9 p0
 have HB := Aside0.mk (Below.refl w.heap.size w)
 have H : ((types_Valid.f k a4 a3).bind fun g9 => (if g9.2 = 0 then ((any_given.f l1 a4).bind fun g0 => (if g0 = true then (some 6) else (some 0))) else (some g9.2))) = some r := h
 clear h
 obtain ⟨⟨m0, h2⟩, A3, H⟩ := obA H
 replace H : (if h2 = 0 then ((any_given.f l1 a4).bind fun g0 => (if g0 = true then (some 6) else (some 0))) else (some h2)) = some r := H
 by_cases c4 : h2 = 0
 rotate_left
 ·rw [if_neg c4] at H
  have q1 := beq_eq_false_iff_ne.mpr c4
  have q0 := bne_iff_ne.mpr c4
  obtain rfl := Option.some.inj H
  go_enter Tryz.func79, Tryz.ntmps79
  go_wp2_with (first | ((with_reducible refine gate_dst (N := 2) rfl ?_); refine be 2 #[.slice b1 a4.length a9, .slice b0 a3.length a8] 31 ?_; intro e9 hg H3 hbox hb; have b5 := Aside0.mk (hbox); have m5 := bsz HB hg; replace HB := bstep HB hb; clear hb hbox hg; obtain ⟨D4, D3, v7, v6⟩ := cz2 b5) | ((with_reducible refine gate_callee (f := 57) rfl ?_); refine gl 9 Tryz.func57 #[.agg #[.slice b1 a4.length a9, .slice b0 a3.length a8]] (h := ?_); (with_reducible refine (types_Valid.calls k _ _ a4 _ _ a3 m0 h2 _ ?b4 ?b3 ?b2 ?b6 A3.out).mono ?_); (case b4 => exact cb b9 HB); (case b3 => exact c9.out); (case b2 => exact cb b8 HB); (case b6 => exact c7.out); rintro e H2 ⟨rfl, hb⟩; refine ⟨_, rfl, ?_⟩; replace b5 := bkb b5 hb; replace HB := bstep HB hb; (try clear hb); (try clear hb2); (try clear hk); (try clear hi)))
  go_ret
  exact ⟨erf, bb HB⟩
 rw [if_pos c4] at H
 have q1 := beq_iff_eq.mpr c4
 have q0 := bne_eq_false_iff_eq.mpr c4
 clear c4
 obtain ⟨g0, A5, H⟩ := obA H
 by_cases c6 : g0 = true
 ·subst c6
  replace H := ift H
  obtain rfl := Option.some.inj H
  go_enter Tryz.func79, Tryz.ntmps79
  go_wp2_with (first | ((with_reducible refine gate_dst (N := 2) rfl ?_); refine be 2 #[.slice b1 a4.length a9, .slice b0 a3.length a8] 31 ?_; intro e9 hg w7 hbox hb; have b5 := Aside0.mk (hbox); have m5 := bsz HB hg; replace HB := bstep HB hb; clear hb hbox hg; obtain ⟨E7, E6, E1, E0⟩ := cz2 b5) | ((with_reducible refine gate_callee (f := 57) rfl ?_); refine gl 9 Tryz.func57 #[.agg #[.slice b1 a4.length a9, .slice b0 a3.length a8]] (h := ?_); (with_reducible refine (types_Valid.calls k _ _ a4 _ _ a3 m0 h2 _ ?b4 ?b3 ?b2 ?b6 A3.out).mono ?_); (case b4 => exact cb b9 HB); (case b3 => exact c9.out); (case b2 => exact cb b8 HB); (case b6 => exact c7.out); rintro e w9 ⟨rfl, hb⟩; refine ⟨_, rfl, ?_⟩; replace b5 := bkb b5 hb; replace HB := bstep HB hb; (try clear hb); (try clear hb2); (try clear hk); (try clear hi)) | ((with_reducible refine gate_callee (f := 68) rfl ?_); refine gl 17 Tryz.func68 #[.slice A1 l1.length c1, .func (.func 96) #[] #[.pointer (some ⟨e9, 0, none⟩)]] (h := ?_); (with_reducible refine (any_given.calls _ _ l1 e9 b1 a9 a4 (.slice b0 a3.length a8) true _ ?b4 ?b3 ?b2 A5.out).mono ?_); (case b4 => exact cb p5 HB); (case b3 => exact p7.out); (case b2 => exact (bk b5)); rintro e H6 ⟨rfl, hb⟩; refine ⟨_, rfl, ?_⟩; replace b5 := bkb b5 hb; replace HB := bstep HB hb; (try clear hb); (try clear hb2); (try clear hk); (try clear hi)))
  go_ret
  exact ⟨erf, bb HB⟩
 ·replace c6 := Bool.eq_false_iff.mpr c6
  subst c6
  replace H := iff_ H
  obtain rfl := Option.some.inj H
  go_enter Tryz.func79, Tryz.ntmps79
  go_wp2_with (first | ((with_reducible refine gate_dst (N := 2) rfl ?_); refine be 2 #[.slice b1 a4.length a9, .slice b0 a3.length a8] 31 ?_; intro e9 hg D7 hbox hb; have b5 := Aside0.mk (hbox); have m5 := bsz HB hg; replace HB := bstep HB hb; clear hb hbox hg; obtain ⟨j4, j3, j2, j1⟩ := cz2 b5) | ((with_reducible refine gate_callee (f := 57) rfl ?_); refine gl 9 Tryz.func57 #[.agg #[.slice b1 a4.length a9, .slice b0 a3.length a8]] (h := ?_); (with_reducible refine (types_Valid.calls k _ _ a4 _ _ a3 m0 h2 _ ?b4 ?b3 ?b2 ?b6 A3.out).mono ?_); (case b4 => exact cb b9 HB); (case b3 => exact c9.out); (case b2 => exact cb b8 HB); (case b6 => exact c7.out); rintro e H5 ⟨rfl, hb⟩; refine ⟨_, rfl, ?_⟩; replace b5 := bkb b5 hb; replace HB := bstep HB hb; (try clear hb); (try clear hb2); (try clear hk); (try clear hi)) | ((with_reducible refine gate_callee (f := 68) rfl ?_); refine gl 17 Tryz.func68 #[.slice A1 l1.length c1, .func (.func 96) #[] #[.pointer (some ⟨e9, 0, none⟩)]] (h := ?_); (with_reducible refine (any_given.calls _ _ l1 e9 b1 a9 a4 (.slice b0 a3.length a8) false _ ?b4 ?b3 ?b2 A5.out).mono ?_); (case b4 => exact cb p5 HB); (case b3 => exact p7.out); (case b2 => exact (bk b5)); rintro e H4 ⟨rfl, hb⟩; refine ⟨_, rfl, ?_⟩; replace b5 := bkb b5 hb; replace HB := bstep HB hb; (try clear hb); (try clear hb2); (try clear hk); (try clear hi)))
  go_ret
  exact ⟨erf, bb HB⟩
end Go.Proofs.YtfpianecohobjaaGreat.P
