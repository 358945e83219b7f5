/- StatisticOf: a part of its proof. No condition. -/
import Derived.Test.YtfpianecohobjaaVPx0
import Derived.Test.YtfpianecohobjaaVPx10
import Derived.Test.YtfpianecohobjaaVPx12
import Derived.Test.YtfpianecohobjaaVPx19
import Derived.Test.YtfpianecohobjaaVPx7
namespace Go.Proofs.Ytfpianecohobjaa.P
open Go.RowKit Go.Proofs.YtfpianecohobjaaW.PrintWords Go.Proofs.YtfpianecohobjaaW.PrintLast Go.Proofs.YtfpianecohobjaaW.PrintMore
set_option maxHeartbeats 8000000
set_option maxRecDepth 100000
set_option linter.unusedVariables false
set_option linter.unusedSimpArgs false
def q4_given.f (k : Nat) (a0 : List (S68)) (a3 : List (S71)) (a1 : Int) (a2 : Int) : Option (Int) := (q4_Valid.f k a0 a3).bind fun a4 => (if a4.2 = 0 then ((q4_in.f a1 0 (wrap64 ((a0.length : Int) - 1))).bind fun a7 => (if a7 = true then ((q4_in.f a2 0 (wrap64 ((a0.length : Int) - 1))).bind fun a6 => (if a6 = true then (some 0) else (some 6))) else (some 6))) else (some a4.2))
theorem q4_given.calls (k : Nat) (b1 : Option Addr) (a9 : Nat) (a0 : List (S68)) (b0 : Option Addr) (a8 : Nat) (a3 : List (S71)) (a1 : Int) (a2 : Int) (r : Int) (w : World) (b3 : Kd.C k68 w b1 a0.length a0) (b5 : a0.length ≤ a9) (b2 : Kd.C k71 w b0 a3.length a3) (b4 : a3.length ≤ a8) (h : q4_given.f k a0 a3 a1 a2 = some r) :
  Calls Try.prog 45 #[.agg #[.slice b1 a0.length a9, .slice b0 a3.length a8], .int .i64 a1, .int .i64 a2] w fun e w' => e = .returned (.int .i64 r) ∧ Below w.heap.size w w' := by
 have hu25 := Try.underlying25
 have b7 := Aside0.mk b3
 have b9 := Aside0.mk b5
 clear b3 b5
 have b6 := Aside0.mk b2
 have b8 := Aside0.mk b4
 clear b2 b4
 have HB := Aside0.mk (Below.refl w.heap.size w)
 have H : ((q4_Valid.f k a0 a3).bind fun a4 => (if a4.2 = 0 then ((q4_in.f a1 0 (wrap64 ((a0.length : Int) - 1))).bind fun a7 => (if a7 = true then ((q4_in.f a2 0 (wrap64 ((a0.length : Int) - 1))).bind fun a6 => (if a6 = true then (some 0) else (some 6))) else (some 6))) else (some a4.2))) = some r := h
 clear h
 obtain ⟨⟨d6, c0⟩, A4, H⟩ := obA H
 try dsimp only at H
 by_cases c5 : c0 = 0
 rw [if_pos c5] at H
 have c2 := beq_iff_eq.mpr c5
 have c1 := bne_eq_false_iff_eq.mpr c5
 clear c5
 obtain ⟨a7, A6, H⟩ := obA H
 by_cases c7 : a7 = true
 subst c7
 replace H := ift H
 obtain ⟨a6, A8, H⟩ := obA H
 by_cases c9 : a6 = true
 subst c9
 replace H := ift H
 obtain rfl := Option.some.inj H
 rotate_left
 replace c9 := Bool.eq_false_iff.mpr c9
 subst c9
 replace H := iff_ H
 obtain rfl := Option.some.inj H
 rotate_left
 replace c7 := Bool.eq_false_iff.mpr c7
 subst c7
 replace H := iff_ H
 obtain rfl := Option.some.inj H
 rotate_left
 rw [if_neg c5] at H
 have c2 := beq_eq_false_iff_ne.mpr c5
 have c1 := bne_iff_ne.mpr c5
 obtain rfl := Option.some.inj H
 all_goals
  go_enter Try.func45, Try.ntmps45
  go_wp2_with (first | ((with_reducible refine gate_dst (N := 3) rfl ?_); (try (refine gate_guard (by rfl) ?_; dsimp only)); refine be 3 #[.slice b1 a0.length a9, .slice b0 a3.length a8] 25 ?_; intro d4 hg d8 hbox hb; have a5 := Aside0.mk (hbox); have d5 := bsz HB hg; replace HB := bstep HB hb; clear hb hbox hg; obtain ⟨d3, d2, c8, c6⟩ := cz2 a5) | ((with_reducible refine gate_callee (f := 15) rfl ?_); refine gl 11 Try.func15 #[.agg #[.slice b1 a0.length a9, .slice b0 a3.length a8]] (h := ?_); (with_reducible refine (q4_Valid.calls _ _ _ _ _ _ _ _ _ _ (cb b7 HB) b9.out (cb b6 HB) b8.out A4.out).mono ?_); rintro e d7 ⟨rfl, hb⟩; refine ⟨_, rfl, ?_⟩; replace a5 := bkb a5 hb; replace HB := bstep HB hb; clear hb; obtain ⟨d1, d0, c4, c3⟩ := cz2 a5) | ((with_reducible refine gate_callee (f := 47) rfl ?_); refine gl 22 Try.func47 #[.int .i64 a1, .int .i64 0, .int .i64 (wrap64 ((a0.length : Int) - 1))] (h := ?_); (with_reducible refine (q4_in.calls _ _ _ _ _ A6.out).mono ?_); rintro e w' ⟨rfl, ⟨nd, rfl⟩⟩; refine ⟨_, rfl, ?_⟩) | (go_at_call 47; (with_reducible refine (q4_in.calls _ _ _ _ _ A8.out).mono ?_); rintro e w' ⟨rfl, ⟨nd, rfl⟩⟩))
  go_ret
  exact ⟨erf, bb HB⟩
end Go.Proofs.Ytfpianecohobjaa.P
