/- statisticSums_holds: a part of the proof that the law returns true for every input. No condition. -/
import Derived.Test.YtfpianecohobjaaRows
import Derived.Test.YtfpianecohobjaaVPx46
import Derived.Test.YtfpianecohobjaaVR0
import Derived.Test.YtfpianecohobjaaVT
import Derived.WalkKit
import Derived.ProofKit
import Derived.OpenShut
import Derived.ShutString
import Derived.ChangeOld
import Derived.Below
import Derived.SizedLaws
namespace Go.Proofs.Ytfpianecohobjaa.statisticSums
open Go.ChangeShapes Go.WideShapes Go.ChangeAt Go.RowKit Go.Joins Go.Deep Go.Proofs.Ytfpianecohobjaa.P Go.Proofs.YtfpianecohobjaaW.PrintWords
open Go.ChangeMaps (open_string shut_string)
set_option linter.unusedVariables false
theorem own : ownKnob Try.prog.godebug = none := by kernel_rfl
theorem laidOut : laidOutB Try.prog = true := by kernel_rfl
set_option maxRecDepth 100000 in
theorem lifted (os : Os) (started : os.Started) (H : Type) (enc : TypeId × Value → H) :
    ReturnsInHanded {} Try.checked os 11 .any (Rows.statisticSumsSpec.pre6 enc Try.prog Try.f11 Rows.statisticSumsRow.domain false) (Rows.statisticSumsSpec.post enc Try.prog Try.f11 false true false false) := by
  refine returnsInHanded_of_change_sized (C := Try.checked) own started (by kernel_rfl) Try.func11
    (ChangeSpec.witness6 (enc := enc) (C := Try.checked) false ⟨#[], #[.agg #[.slice none 0 0, .slice none 0 0, .slice none 0 0, .slice none 0 0]], []⟩ 8 (by kernel_rfl) (by kernel_rfl) (by kernel_rfl) (by kernel_rfl)) ?_
  intro W base args ds gs before hval0 hW hcnd hsz0 _
  have hval : ∀ (j : Nat) t v, Try.f11.params[j]? = some t → args[j]? = some v → Value.okWide Try.prog W .any base t v := hval0
  have hW' := hW
  obtain ⟨p, q, hA0, hV, rfl, hfz, hnd⟩ := hW
  have hA : DataW.TrodAll enc Try.prog W 0 (fun _ => true) true Try.f11.params.toList args.toList ds p := hA0
  rw [Try.params11] at hA hval
  obtain ⟨v0, vs0, d0, ds0, p0, q0, hargs, rfl, rfl, h0, r0⟩ := trodAll_cons hA
  obtain ⟨rfl, rfl, rfl⟩ := trodAll_nil r0
  obtain rfl : args = #[v0] := by cases args; simp_all
  obtain ⟨rfl, rfl⟩ := trodVars_none hV
  have k0 := h0
  have lt0 : ∀ x ∈ p0, x.block < W.heap.size := by obtain ⟨m, hm⟩ := k0; exact DataW.trod_lt m _ _ _ hm
  obtain ⟨A0_0, c0_0, l0_0, A0_1, c0_1, l0_1, A0_2, c0_2, l0_2, A0_3, c0_3, l0_3, rfl, hc0_0, hr0_0, g0_0, hc0_1, hr0_1, g0_1, hc0_2, hr0_2, g0_2, hc0_3, hr0_3, g0_3⟩ := open56 (hval 0 56 v0 rfl rfl) h0 (fun n hn => of_decide_eq_true (List.all_eq_true.1 hsz0 n (DataW.weights_mem_each (j := 0) (t := 56) (by first | rfl | kernel_rfl) rfl n hn)))
  clear hA0 hval0 hsz0
  obtain ⟨k, h⟩ := StatisticSums_pure l0_0 l0_1 l0_2 l0_3 g0_0 g0_1 g0_2 g0_3
  refine (scarfjointlaw18_StatisticSums.calls k _ _ l0_0 _ _ l0_1 _ _ l0_2 _ _ l0_3 true rfl W hr0_0 hc0_0 hr0_1 hc0_1 hr0_2 hc0_2 hr0_3 hc0_3 h).mono fun e W' ⟨he, bel⟩ => ?_
  subst he
  exact ⟨_, rfl, _, _, _, [], _, [], hW', trodAll_mk1 (shut_bool Try.underlying4 _), (trodAll_cons_mk (Below.trod laidOut (by kernel_rfl) (of_decide_eq_true (by kernel_rfl)) k0 bel lt0) trodAll_mk0), rfl, bel.frame _, fun h => by cases h⟩
theorem over : Rows.statisticSumsRow.holds Try.pinned (OpenSpec.ofChange Rows.statisticSumsSpec) :=
  OpenClaim.holds_of_wide 11 Try.f11 rfl rfl rfl rfl rfl rfl rfl ⟨rfl, rfl, rfl, rfl, rfl⟩ rfl rfl rfl rfl rfl (by kernel_rfl) Try.func11 (by kernel_rfl)
    (of_decide_eq_true (by kernel_rfl)) (by unfold Func.isWrapper; first | (rw [if_pos (by decide +kernel)]; kernel_rfl) | (rw [if_neg (by decide +kernel)]; exact ⟨rfl, rfl⟩))
    (fun os started H enc _ => lifted os started H enc)
end Go.Proofs.Ytfpianecohobjaa.statisticSums
namespace Go.Proofs.Ytfpianecohobjaa
theorem statisticSums_holds : Rows.StatisticSumsSaid := statisticSums.over
#print axioms statisticSums_holds
end Go.Proofs.Ytfpianecohobjaa
