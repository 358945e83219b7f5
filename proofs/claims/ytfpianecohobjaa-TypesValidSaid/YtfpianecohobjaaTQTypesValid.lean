/- typesValid_holds, typesMeet_holds, typesIs_holds, typesFits_holds: a part of the proof that the law returns true for every input. No condition. -/
import Derived.Test.YtfpianecohobjaaTPx20
import Derived.Test.YtfpianecohobjaaTS2
namespace Go.Proofs.Ytfpianecohobjaa.P
open Go.RowKit Go.Proofs.YtfpianecohobjaaW.PrintWords Go.Proofs.YtfpianecohobjaaW.PrintLast
set_option linter.unusedVariables false
theorem TypesValid_pure : ∀ (l0_0 : List S68) (l0_1 : List S71), (l0_0.length ≤ reachBytes ∧ ∀ x_ ∈ l0_0, good68 x_) → (l0_1.length ≤ reachBytes ∧ ∀ x_ ∈ l0_1, good71 x_) → ∃ k, w4_TypesValid.f k l0_0 l0_1 = some true := by
  intro l l1 hl hl1
  refine Ev.rounds ?_
  unfold w4_TypesValid.f
  refine Ev.bind awake_ev ?_
  simp only [↓reduceIte]
  obtain ⟨b, hb, hQ⟩ := few_ev l l1 hl.2 hl.1 hl1.1
  refine Ev.bind hb ?_
  refine Ev.step (fun k => by rw [w4_TypesValid.j0]) ?_
  cases b
  · simp only [Bool.not_false, ↓reduceIte]; exact Ev.bind awake_ev (Ev.now _)
  · obtain ⟨hs, h30⟩ := hQ rfl
    simp only [Bool.not_true, Bool.false_eq_true, ↓reduceIte]
    refine Ev.bind (valid_ev l l1 hl.2 hs hl1.2 h30) ?_
    refine Ev.bind (rvalid_ev l l1 hl.2 hs hl1.2 h30) ?_
    simp only [↓reduceIte, beq_self_eq_true]; exact Ev.now _
end Go.Proofs.Ytfpianecohobjaa.P
