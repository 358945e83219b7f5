/- StatisticOf: a part of its proof. No condition. -/
import Derived.Test.YtfpianecohobjaaVPx0
import Derived.Test.YtfpianecohobjaaVPx10
import Derived.Test.YtfpianecohobjaaVPx20
import Derived.Test.YtfpianecohobjaaVPx21
import Derived.Test.YtfpianecohobjaaVPx7
import Derived.Test.YtfpianecohobjaaVPx9
namespace Go.Proofs.Ytfpianecohobjaa.P
open Go.RowKit Go.Proofs.YtfpianecohobjaaW.PrintWords Go.Proofs.YtfpianecohobjaaW.PrintLast Go.Proofs.YtfpianecohobjaaW.PrintMore
set_option maxHeartbeats 8000000
set_option maxRecDepth 100000
set_option linter.unusedVariables false
set_option linter.unusedSimpArgs false
def types_Is.f (k : Nat) (a5 : List (S68)) (a4 : List (S71)) (a1 : Int) (a2 : Int) : Option (Bool) := (types_given.f k a5 a4 (([a1, a2] : List Int))).bind fun a8 => (if a8 = 0 then ((types_is.f k a5 a4 a1 a2).bind fun b0 => (some b0)) else (some false))
theorem types_Is.mono : ∀ a0 a1 a2 a3 k, LeO (types_Is.f k a0 a1 a2 a3) (types_Is.f (k + 1) a0 a1 a2 a3) := by
 intro a0 a1 a2 a3 k
 unfold types_Is.f
 with_reducible repeat' first | exact types_given.mono .. | exact types_is.mono .. | exact LeO.refl _ | exact LeO.none _ | refine LeO.ite ?_ ?_ | refine LeO.bind ?_ fun _ => ?_
theorem types_Is.calls (k : Nat) (b4 : Option Addr) (b2 : Nat) (a5 : List (S68)) (b3 : Option Addr) (b1 : Nat) (a4 : List (S71)) (a1 : Int) (a2 : Int) (r : Bool) (w : World) (c7 : Kd.C k68 w b4 a5.length a5) (c9 : a5.length ≤ b2) (c6 : Kd.C k71 w b3 a4.length a4) (c8 : a4.length ≤ b1) (h : types_Is.f k a5 a4 a1 a2 = some r) :
  Calls Try.prog 20 #[.agg #[.slice b4 a5.length b2, .slice b3 a4.length b1], .int .i64 a1, .int .i64 a2] w fun e w' => e = .returned (.bool r) ∧ Below w.heap.size w w' := by
 have hu25 := Try.underlying25
 have c1 := Aside0.mk c7
 have c3 := Aside0.mk c9
 clear c7 c9
 have c0 := Aside0.mk c6
 have c2 := Aside0.mk c8
 clear c6 c8
 have HB := Aside0.mk (Below.refl w.heap.size w)
 have H : ((types_given.f k a5 a4 (([a1, a2] : List Int))).bind fun a8 => (if a8 = 0 then ((types_is.f k a5 a4 a1 a2).bind fun b0 => (some b0)) else (some false))) = some r := h
 clear h
 obtain ⟨c4, a9⟩ : ∃ y_ : List Int, y_ = (([a1, a2] : List Int)) := ⟨_, rfl⟩
 replace H : ((types_given.f k a5 a4 c4).bind fun a8 => (if a8 = 0 then ((types_is.f k a5 a4 a1 a2).bind fun b0 => (some b0)) else (some false))) = some r := by first | (rw [a9]; with_reducible exact H) | (have H2_ := (Option.bind_some _ _).symm.trans H; rw [a9]; with_reducible exact H2_) | (have H2_ := (Option.bind_some _ _).symm.trans H; with_reducible exact H2_) | with_reducible exact H | (rw [a9]; exact H) | exact H
 have b5 := Aside0.mk a9
 clear a9
 obtain ⟨a8, A4, H⟩ := obA H
 by_cases c5 : a8 = 0
 rotate_left
 ·rw [if_neg c5] at H
  have d6 := beq_eq_false_iff_ne.mpr c5
  have d5 := bne_iff_ne.mpr c5
  obtain rfl := Option.some.inj H
  go_enter Try.func20, Try.ntmps20
  go_wp2_with (first | ((with_reducible refine gate_dst (N := 3) rfl ?_); refine be 3 #[.slice b4 a5.length b2, .slice b3 a4.length b1] 25 ?_; intro d0 hg g3 hbox hb; have a6 := Aside0.mk (hbox); have d1 := bsz HB hg; replace HB := bstep HB hb; clear hb hbox hg; obtain ⟨e4, e3, e0, d9⟩ := cz2 a6) | ((with_reducible refine gate_dst (N := 10) rfl ?_); refine Kd.R_lit (Kd.int .i64) _ 3 ?hg (N := 10) ?hd (xs := ([a1, a2] : List Int)) (inner := [.int .i64 a1, .int .i64 a2]) (ok := fun _ => True) (okp := fun _ => True) ?hr ?hp (fun _ hk => hk) trivial (Below.refl _ _) (Nat.le_refl _) (by simp) ?_; (case hd => rfl); (case hg => rfl); (case hr => first | (go_simp; done) | (go_simp; rfl)); (case hp => exact (Reps.one (show Kd.M (Kd.int .i64) _ _ _ a1 [.int .i64 a1] from rfl) (Reps.one (show Kd.M (Kd.int .i64) _ _ _ a2 [.int .i64 a2] from rfl) (Reps.none _ _)))); intro d2 g2 b6 hb hg_ hnew_; clear hg_ hnew_; (first | rw [← b5.out] at b6 | (simp only [Int.reduceToNat] at b6; rw [← b5.out] at b6)); have a7 := Aside0.mk (Kd.R_lower b6 (below_size (bb HB))); replace a6 := bkb a6 hb; replace HB := bstep HB hb; clear hb b6; obtain ⟨d7, d3, eo19⟩ := Kd.R_slice a7.out; subst eo19) | ((with_reducible refine gate_callee (f := 43) rfl ?_); refine gl 11 Try.func43 #[.agg #[.slice b4 a5.length b2, .slice b3 a4.length b1], .slice d7 c4.length d3] (h := ?_); (with_reducible refine (types_given.calls _ _ _ _ _ _ _ _ _ _ _ _ (cb c1 HB) c3.out (cb c0 HB) c2.out ?b9 ?b8 A4.out).mono ?_); (case b9 => repeat (first | exact (Kd.R_reads' a7.out).2.2 | (with_reducible refine Kd.C_alloc ?_ _) | (with_reducible refine Kd.C_drewN ?_ _) | (with_reducible refine Kd.C_drew ?_))); (case b8 => exact (Kd.R_reads' a7.out).2.1); rintro e g1 ⟨rfl, hb⟩; refine ⟨_, rfl, ?_⟩; replace a7 := kRb a7 hb; replace a6 := bkb a6 hb; replace HB := bstep HB hb; clear hb))
  go_ret
  exact ⟨erf, bb HB⟩
 rw [if_pos c5] at H
 have d6 := beq_iff_eq.mpr c5
 have d5 := bne_eq_false_iff_eq.mpr c5
 clear c5
 obtain ⟨b0, A6, H⟩ := obA H
 obtain rfl := Option.some.inj H
 go_enter Try.func20, Try.ntmps20
 go_wp2_with (first | ((with_reducible refine gate_dst (N := 3) rfl ?_); refine be 3 #[.slice b4 a5.length b2, .slice b3 a4.length b1] 25 ?_; intro d0 hg w7 hbox hb; have a6 := Aside0.mk (hbox); have d1 := bsz HB hg; replace HB := bstep HB hb; clear hb hbox hg; obtain ⟨g0, e9, e8, e7⟩ := cz2 a6) | ((with_reducible refine gate_dst (N := 10) rfl ?_); refine Kd.R_lit (Kd.int .i64) _ 3 ?hg (N := 10) ?hd (xs := ([a1, a2] : List Int)) (inner := [.int .i64 a1, .int .i64 a2]) (ok := fun _ => True) (okp := fun _ => True) ?hr ?hp (fun _ hk => hk) trivial (Below.refl _ _) (Nat.le_refl _) (by simp) ?_; (case hd => rfl); (case hg => rfl); (case hr => first | (go_simp; done) | (go_simp; rfl)); (case hp => exact (Reps.one (show Kd.M (Kd.int .i64) _ _ _ a1 [.int .i64 a1] from rfl) (Reps.one (show Kd.M (Kd.int .i64) _ _ _ a2 [.int .i64 a2] from rfl) (Reps.none _ _)))); intro d2 w9 b7 hb hg_ hnew_; clear hg_ hnew_; (first | rw [← b5.out] at b7 | (simp only [Int.reduceToNat] at b7; rw [← b5.out] at b7)); have a7 := Aside0.mk (Kd.R_lower b7 (below_size (bb HB))); replace a6 := bkb a6 hb; replace HB := bstep HB hb; clear hb b7; obtain ⟨d8, d4, eo11⟩ := Kd.R_slice a7.out; subst eo11) | ((with_reducible refine gate_callee (f := 43) rfl ?_); refine gl 11 Try.func43 #[.agg #[.slice b4 a5.length b2, .slice b3 a4.length b1], .slice d8 c4.length d4] (h := ?_); (with_reducible refine (types_given.calls _ _ _ _ _ _ _ _ _ _ _ _ (cb c1 HB) c3.out (cb c0 HB) c2.out ?b9 ?b8 A4.out).mono ?_); (case b9 => repeat (first | exact (Kd.R_reads' a7.out).2.2 | (with_reducible refine Kd.C_alloc ?_ _) | (with_reducible refine Kd.C_drewN ?_ _) | (with_reducible refine Kd.C_drew ?_))); (case b8 => exact (Kd.R_reads' a7.out).2.1); rintro e g5 ⟨rfl, hb⟩; refine ⟨_, rfl, ?_⟩; replace a6 := bkb a6 hb; replace HB := bstep HB hb; clear hb; obtain ⟨e6, e5, e2, e1⟩ := cz2 a6) | (go_at_call 44; (with_reducible refine (types_is.calls _ _ _ _ _ _ _ _ _ _ _ (cb c1 HB) c3.out (cb c0 HB) c2.out A6.out).mono ?_); rintro e g4 ⟨rfl, hb⟩; replace HB := bstep HB hb; clear hb))
 go_ret
 exact ⟨erf, bb HB⟩
end Go.Proofs.Ytfpianecohobjaa.P
