/- StatisticOf: a part of its proof. No condition. -/
import Derived.Test.YtfpianecohobjaaGreatXPx0
import Derived.Test.YtfpianecohobjaaGreatXMh
import Derived.Test.YtfpianecohobjaaGreatXMk
import Derived.Test.YtfpianecohobjaaGreatXPx19
import Derived.Test.YtfpianecohobjaaGreatXPx42
import Derived.Test.YtfpianecohobjaaGreatXMa
import Derived.Test.YtfpianecohobjaaGreatXMf
import Derived.Test.YtfpianecohobjaaGreatXMe
import Derived.Test.YtfpianecohobjaaGreatXPx46
namespace Go.Proofs.YtfpianecohobjaaGreat.P
open Go.RowKit Go.Proofs.YtfpianecohobjaaGreatW.PrintWords Go.Proofs.YtfpianecohobjaaGreatW.PrintLast Go.Proofs.YtfpianecohobjaaGreatW.PrintMore
set_option maxHeartbeats 8000000
set_option maxRecDepth 100000
set_option linter.unusedVariables false
set_option linter.unusedSimpArgs false
def scarfjointref18_Few.f (a0 : List (S75)) (a1 : List (S75)) : Option (Bool) := if (a0.length : Int) ≤ 45 then (some (decide ((a1.length : Int) ≤ 85))) else (some false)
theorem scarfjointref18_Few.calls (a6 : Option Addr) (a3 : Nat) (a0 : List (S75)) (a5 : Option Addr) (a2 : Nat) (a1 : List (S75)) (r : Bool) (w : World) (a8 : Kd.C k75 w a6 a0.length a0) (b0 : a0.length ≤ a3) (a7 : Kd.C k75 w a5 a1.length a1) (a9 : a1.length ≤ a2) (h : scarfjointref18_Few.f a0 a1 = some r) :
  Calls Tryz.prog 24 #[.agg #[.slice a6 a0.length a3, .slice a5 a1.length a2]] w fun e w' => e = .returned (.bool r) ∧ Below w.heap.size w w' := by
 have hu46 := Tryz.underlying46
 have c5 := am a8
 have c7 := am b0
 clear a8 b0
 have c4 := am a7
 have c6 := am a9
 clear a7 a9
 have HB := am (Below.refl w.heap.size w)
 have H : (if (a0.length : Int) ≤ 45 then (some (decide ((a1.length : Int) ≤ 85))) else (some false)) = some r := h
 clear h
 by_cases c2 : (a0.length : Int) ≤ 45
 ·rw [if_pos c2] at H
  have b4 := decide_eq_true c2
  have b3 : decide (a0.length ≤ 45) = true := decide_eq_true (by omega)
  clear c2
  obtain rfl := Option.some.inj H
  go_enter Tryz.func24, Tryz.ntmps24
  go_wp2_with ((with_reducible refine gate_dst (N := 1) rfl ?_); (try (refine gate_guard (by rfl) ?_; dsimp only)); refine be 1 #[.slice a6 a0.length a3, .slice a5 a1.length a2] 46 ?_; intro b1 hg w3 hbox hb; have a4 := am (hbox); have b2 := bsz HB hg; replace HB := bstep HB hb; clear hb hbox hg; obtain ⟨c3, c1, b8, b7⟩ := cz2 a4)
  go_ret
  exact ⟨by first | rfl | (simp <;> rfl) | (simp [*] <;> rfl), bb HB⟩
 rw [if_neg c2] at H
 have b4 := decide_eq_false c2
 have b3 : decide (a0.length ≤ 45) = false := decide_eq_false (by omega)
 clear c2
 obtain rfl := Option.some.inj H
 go_enter Tryz.func24, Tryz.ntmps24
 go_wp2_with ((with_reducible refine gate_dst (N := 1) rfl ?_); (try (refine gate_guard (by rfl) ?_; dsimp only)); refine be 1 #[.slice a6 a0.length a3, .slice a5 a1.length a2] 46 ?_; intro b1 hg w5 hbox hb; have a4 := am (hbox); have b2 := bsz HB hg; replace HB := bstep HB hb; clear hb hbox hg; obtain ⟨c0, b9, b6, b5⟩ := cz2 a4)
 go_ret
 exact ⟨by first | rfl | (simp <;> rfl) | (simp [*] <;> rfl), bb HB⟩
end Go.Proofs.YtfpianecohobjaaGreat.P
