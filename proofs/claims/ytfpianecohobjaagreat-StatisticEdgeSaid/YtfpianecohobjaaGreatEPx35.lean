/- StatisticOf: a part of its proof. No condition. -/
import Derived.Test.YtfpianecohobjaaGreatEPx0
import Derived.Test.YtfpianecohobjaaGreatEMc
import Derived.Test.YtfpianecohobjaaGreatEMa
import Derived.Test.YtfpianecohobjaaGreatEH0
import Derived.Test.YtfpianecohobjaaGreatEH1
namespace Go.Proofs.YtfpianecohobjaaGreat.P
open Go.RowKit Go.Proofs.YtfpianecohobjaaGreatW.PrintWords Go.Proofs.YtfpianecohobjaaGreatW.PrintLast Go.Proofs.YtfpianecohobjaaGreatW.PrintMore
set_option maxHeartbeats 8000000
set_option maxRecDepth 100000
set_option linter.unusedVariables false
set_option linter.unusedSimpArgs false
def statistic_number.f (l0 : List (S75)) (a4 : Int) (a3 : Int) (a2 : Int) (a1 : Int) : Option (Int) := (search_counts.f l0 a4 a3 a2 a1).bind fun a0 => (if a0.2 = true then (if 0 ≤ a0.1 then (if a0.1 < (l0.length : Int) then (some ((rd_T75 l0 a0.1).f3)) else (none)) else (none)) else (some 0))
theorem statistic_number.calls (A0 : Option Addr) (c0 : Nat) (l0 : List (S75)) (a4 : Int) (a3 : Int) (a2 : Int) (a1 : Int) (r : Int) (w : World) (b6 : Kd.C k75 w A0 l0.length l0) (b7 : l0.length ≤ c0) (h : statistic_number.f l0 a4 a3 a2 a1 = some r) :
  Calls Tryz.prog 48 #[.slice A0 l0.length c0, .agg #[.int .i64 a4, .int .i64 a3, .int .i64 a2, .int .i64 a1]] w fun e w' => e = .returned (.int .i64 r) ∧ Below w.heap.size w w' := by
 have hu75 := Tryz.underlying75
 have b3 := Aside0.mk b6
 have b8 := Aside0.mk b7
 clear b6 b7
 have HB := Aside0.mk (Below.refl w.heap.size w)
 have H : ((search_counts.f l0 a4 a3 a2 a1).bind fun a0 => (if a0.2 = true then (if 0 ≤ a0.1 then (if a0.1 < (l0.length : Int) then (some ((rd_T75 l0 a0.1).f3)) else (none)) else (none)) else (some 0))) = some r := h
 clear h
 obtain ⟨⟨a6, b9⟩, A3, H⟩ := obA H
 try dsimp only at H
 by_cases c4 : b9 = true
 rotate_left
 ·replace c4 := Bool.eq_false_iff.mpr c4
  subst c4
  replace H := iff_ H
  obtain rfl := Option.some.inj H
  go_enter Tryz.func48, Tryz.ntmps48
  go_wp2_with (first | ((with_reducible refine gate_dst (N := 3) rfl ?_); refine be 3 #[.int .i64 a4, .int .i64 a3, .int .i64 a2, .int .i64 a1] 75 ?_; intro b4 hg e5 hbox hb; have a5 := Aside0.mk (hbox); have b5 := bsz HB hg; replace HB := bstep HB hb; clear hb hbox hg; obtain ⟨d2, d1, d0, c9, c8, c7, c3, c2⟩ := cz4 a5) | ((with_reducible refine gate_callee (f := 75) rfl ?_); refine gl 10 Tryz.func75 #[.slice A0 l0.length c0, .agg #[.int .i64 a4, .int .i64 a3, .int .i64 a2, .int .i64 a1], .func (.func 58) #[] #[]] (h := ?_); (with_reducible refine (search_counts.calls _ _ l0 a4 a3 a2 a1  a6 false _ (cb b3 HB) b8.out A3.out).mono ?_); rintro e e4 ⟨rfl, hb⟩; refine ⟨_, rfl, ?_⟩; replace a5 := bkb a5 hb; replace HB := bstep HB hb; clear hb))
  go_ret
  exact ⟨erf, bb HB⟩
 subst c4
 replace H := ift H
 obtain ⟨c5, H⟩ := itn H
 have e3 := decide_eq_true c5
 clear c5
 by_cases c6 : a6 < (l0.length : Int)
 ·rw [if_pos c6] at H
  have e2 := decide_eq_true c6
  clear c6
  obtain rfl := Option.some.inj H
  go_enter Tryz.func48, Tryz.ntmps48
  go_wp2_with (first | ((with_reducible refine gate_dst (N := 3) rfl ?_); refine be 3 #[.int .i64 a4, .int .i64 a3, .int .i64 a2, .int .i64 a1] 75 ?_; intro b4 hg w7 hbox hb; have a5 := Aside0.mk (hbox); have b5 := bsz HB hg; replace HB := bstep HB hb; clear hb hbox hg; obtain ⟨e0, d9, d8, d7, d6, d5, d4, d3⟩ := cz4 a5) | ((with_reducible refine gate_callee (f := 75) rfl ?_); refine gl 10 Tryz.func75 #[.slice A0 l0.length c0, .agg #[.int .i64 a4, .int .i64 a3, .int .i64 a2, .int .i64 a1], .func (.func 58) #[] #[]] (h := ?_); (with_reducible refine (search_counts.calls _ _ l0 a4 a3 a2 a1  a6 true _ (cb b3 HB) b8.out A3.out).mono ?_); rintro e w9 ⟨rfl, hb⟩; refine ⟨_, rfl, ?_⟩; replace a5 := bkb a5 hb; replace HB := bstep HB hb; clear hb; have b2 : 0 ≤ a6 := odt; have b1 : a6 < (l0.length : Int) := odt; obtain ⟨e1, c1, b0, a9, a8, a7⟩ := at_T75 b3.out a6 b2 b1; cases c1; replace b0 := hxc HB b0; replace a9 := hxc HB a9; replace a8 := hxc HB a8; replace a7 := hxc HB a7; replace b2 := eq_true b2; replace b1 := eq_true b1))
  go_ret
  exact ⟨erf, bb HB⟩
 rw [if_neg c6] at H
 exact absurd H (by simp)
end Go.Proofs.YtfpianecohobjaaGreat.P
