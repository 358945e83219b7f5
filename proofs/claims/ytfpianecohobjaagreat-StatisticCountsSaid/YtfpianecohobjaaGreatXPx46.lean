/- StatisticOf: a part of its proof. No condition. -/
import Derived.Test.YtfpianecohobjaaGreatXPx0
namespace Go.Proofs.YtfpianecohobjaaGreat.P
open Go.RowKit Go.Proofs.YtfpianecohobjaaGreatW.PrintWords Go.Proofs.YtfpianecohobjaaGreatW.PrintLast Go.Proofs.YtfpianecohobjaaGreatW.PrintMore
set_option maxHeartbeats 8000000
set_option maxRecDepth 100000
set_option linter.unusedVariables false
set_option linter.unusedSimpArgs false
def scarfjointref18_compare.f (a6 : Int) (a5 : Int) (a8 : Int) (b1 : Int) (a4 : Int) (a3 : Int) (a7 : Int) (b0 : Int) : Option (Int) := if a6 = a4 then (if a5 = a3 then (some (wrap64 (a8 - a7))) else (some (wrap64 (a5 - a3)))) else (some (wrap64 (a6 - a4)))
theorem scarfjointref18_compare.calls (a6 : Int) (a5 : Int) (a8 : Int) (b1 : Int) (a4 : Int) (a3 : Int) (a7 : Int) (b0 : Int) (r : Int) (w : World) (h : scarfjointref18_compare.f a6 a5 a8 b1 a4 a3 a7 b0 = some r) :
  Calls Tryz.prog 63 #[.agg #[.int .i64 a6, .int .i64 a5, .int .i64 a8, .int .i64 b1], .agg #[.int .i64 a4, .int .i64 a3, .int .i64 a7, .int .i64 b0]] w fun e w' => e = .returned (.int .i64 r) ∧ Below w.heap.size w w' := by
 have hu75 := Tryz.underlying75
 have HB := am (Below.refl w.heap.size w)
 have H : (if a6 = a4 then (if a5 = a3 then (some (wrap64 (a8 - a7))) else (some (wrap64 (a5 - a3)))) else (some (wrap64 (a6 - a4)))) = some r := h
 clear h
 by_cases c3 : a6 = a4
 rotate_left
 ·rw [if_neg c3] at H
  have b9 := beq_eq_false_iff_ne.mpr c3
  have b8 := bne_iff_ne.mpr c3
  obtain rfl := Option.some.inj H
  go_enter Tryz.func63, Tryz.ntmps63
  go_wp2_with (first | ((with_reducible refine gate_dst (N := 2) rfl ?_); refine be 2 #[.int .i64 a6, .int .i64 a5, .int .i64 a8, .int .i64 b1] 75 ?_; intro b3 hg j7 hbox hb; have a0 := am (hbox); have b5 := bsz HB hg; replace HB := bstep HB hb; clear hb hbox hg) | ((with_reducible refine gate_dst (N := 3) rfl ?_); refine be 3 #[.int .i64 a4, .int .i64 a3, .int .i64 a7, .int .i64 b0] 75 ?_; intro b2 hg j6 hbox hb; have a9 := am (hbox); have b4 := bsz HB hg; replace HB := bstep HB hb; have a2 := blt a0 hg; have a1 := bgt a0 hg; replace a0 := bkb a0 hb; clear hb hbox hg; have j2 := a2.out; have j0 := a1.out; obtain ⟨e5, e4, e3, e2, c9, c8, c7, c6⟩ := cz4 a0; obtain ⟨e1, e0, d9, d8, c5, c2, c1, c0⟩ := cz4 a9))
  go_ret
  exact ⟨erf, bb HB⟩
 rw [if_pos c3] at H
 have b9 := beq_iff_eq.mpr c3
 have b8 := bne_eq_false_iff_eq.mpr c3
 clear c3
 by_cases c4 : a5 = a3
 rotate_left
 ·rw [if_neg c4] at H
  have b7 := beq_eq_false_iff_ne.mpr c4
  have b6 := bne_iff_ne.mpr c4
  obtain rfl := Option.some.inj H
  go_enter Tryz.func63, Tryz.ntmps63
  go_wp2_with (first | ((with_reducible refine gate_dst (N := 2) rfl ?_); refine be 2 #[.int .i64 a6, .int .i64 a5, .int .i64 a8, .int .i64 b1] 75 ?_; intro b3 hg j9 hbox hb; have a0 := am (hbox); have b5 := bsz HB hg; replace HB := bstep HB hb; clear hb hbox hg) | ((with_reducible refine gate_dst (N := 3) rfl ?_); refine be 3 #[.int .i64 a4, .int .i64 a3, .int .i64 a7, .int .i64 b0] 75 ?_; intro b2 hg j8 hbox hb; have a9 := am (hbox); have b4 := bsz HB hg; replace HB := bstep HB hb; have a2 := blt a0 hg; have a1 := bgt a0 hg; replace a0 := bkb a0 hb; clear hb hbox hg; have j3 := a2.out; have j1 := a1.out; obtain ⟨g3, g2, g1, g0, d7, d6, d5, d4⟩ := cz4 a0; obtain ⟨e9, e8, e7, e6, d3, d2, d1, d0⟩ := cz4 a9))
  go_ret
  exact ⟨erf, bb HB⟩
 rw [if_pos c4] at H
 have b7 := beq_iff_eq.mpr c4
 have b6 := bne_eq_false_iff_eq.mpr c4
 clear c4
 obtain rfl := Option.some.inj H
 go_enter Tryz.func63, Tryz.ntmps63
 go_wp2_with (first | ((with_reducible refine gate_dst (N := 2) rfl ?_); refine be 2 #[.int .i64 a6, .int .i64 a5, .int .i64 a8, .int .i64 b1] 75 ?_; intro b3 hg w5 hbox hb; have a0 := am (hbox); have b5 := bsz HB hg; replace HB := bstep HB hb; clear hb hbox hg) | ((with_reducible refine gate_dst (N := 3) rfl ?_); refine be 3 #[.int .i64 a4, .int .i64 a3, .int .i64 a7, .int .i64 b0] 75 ?_; intro b2 hg w6 hbox hb; have a9 := am (hbox); have b4 := bsz HB hg; replace HB := bstep HB hb; have a2 := blt a0 hg; have a1 := bgt a0 hg; replace a0 := bkb a0 hb; clear hb hbox hg; have j5 := a2.out; have j4 := a1.out; obtain ⟨h9, h8, h7, h6, h1, h0, g9, g8⟩ := cz4 a0; obtain ⟨h5, h4, h3, h2, g7, g6, g5, g4⟩ := cz4 a9))
 go_ret
 exact ⟨erf, bb HB⟩
end Go.Proofs.YtfpianecohobjaaGreat.P
