/- StatisticOf: a part of its proof. No condition. -/
import Derived.Test.YtfpianecohobjaaGreatEPx0
import Derived.Test.YtfpianecohobjaaGreatEMh
import Derived.Test.YtfpianecohobjaaGreatEMk
import Derived.Test.YtfpianecohobjaaGreatEPx19
import Derived.Test.YtfpianecohobjaaGreatEPx42
import Derived.Test.YtfpianecohobjaaGreatEMa
import Derived.Test.YtfpianecohobjaaGreatEMf
import Derived.Test.YtfpianecohobjaaGreatEMe
import Derived.Test.YtfpianecohobjaaGreatEPx46
namespace Go.Proofs.YtfpianecohobjaaGreat.P
open Go.RowKit Go.Proofs.YtfpianecohobjaaGreatW.PrintWords Go.Proofs.YtfpianecohobjaaGreatW.PrintLast Go.Proofs.YtfpianecohobjaaGreatW.PrintMore
set_option maxHeartbeats 8000000
set_option maxRecDepth 100000
set_option linter.unusedVariables false
set_option linter.unusedSimpArgs false
def scarfjointref18_Few.f (a0 : List (S75)) (a1 : List (S75)) : Option (Bool) := if (a0.length : Int) ≤ 45 then (some (decide ((a1.length : Int) ≤ 85))) else (some false)
theorem scarfjointref18_Few.calls (a5 : Option Addr) (a3 : Nat) (a0 : List (S75)) (a4 : Option Addr) (a2 : Nat) (a1 : List (S75)) (r : Bool) (w : World) (a7 : Kd.C k75 w a5 a0.length a0) (a9 : a0.length ≤ a3) (a6 : Kd.C k75 w a4 a1.length a1) (a8 : a1.length ≤ a2) (h : scarfjointref18_Few.f a0 a1 = some r) :
  Calls Tryz.prog 24 #[.agg #[.slice a5 a0.length a3, .slice a4 a1.length a2]] w fun e w' => e = .returned (.bool r) ∧ Below w.heap.size w w' := by
 have hu46 := Tryz.underlying46
 have b9 := Aside0.mk a7
 have c1 := Aside0.mk a9
 clear a7 a9
 have b8 := Aside0.mk a6
 have c0 := Aside0.mk a8
 clear a6 a8
 have HB := Aside0.mk (Below.refl w.heap.size w)
 have H : (if (a0.length : Int) ≤ 45 then (some (decide ((a1.length : Int) ≤ 85))) else (some false)) = some r := h
 clear h
 by_cases c2 : (a0.length : Int) ≤ 45
 rw [if_pos c2] at H
 have b2 := decide_eq_true c2
 have b1 : decide (a0.length ≤ 45) = true := decide_eq_true (by omega)
 clear c2
 obtain rfl := Option.some.inj H
 rotate_left
 rw [if_neg c2] at H
 have b2 := decide_eq_false c2
 have b1 : decide (a0.length ≤ 45) = false := decide_eq_false (by omega)
 clear c2
 obtain rfl := Option.some.inj H
 all_goals
  go_enter Tryz.func24, Tryz.ntmps24
  go_wp2_with ((with_reducible refine gate_dst (N := 1) rfl ?_); (try (refine gate_guard (by rfl) ?_; dsimp only)); refine be 1 #[.slice a5 a0.length a3, .slice a4 a1.length a2] 46 ?_; intro b7 hg w3 hbox hb; have b0 := Aside0.mk (hbox); have c3 := bsz HB hg; replace HB := bstep HB hb; clear hb hbox hg; obtain ⟨b6, b5, b4, b3⟩ := cz2 b0)
  go_ret
  exact ⟨by first | rfl | (simp <;> rfl) | (simp [*] <;> rfl), bb HB⟩
end Go.Proofs.YtfpianecohobjaaGreat.P
