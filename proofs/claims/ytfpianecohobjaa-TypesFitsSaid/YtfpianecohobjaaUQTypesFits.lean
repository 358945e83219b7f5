/- typesFits_holds: a part of the proof that the law returns true for every input. No condition. -/
import Derived.Test.YtfpianecohobjaaUPx29
import Derived.Test.YtfpianecohobjaaUS4
namespace Go.Proofs.Ytfpianecohobjaa.P
open Go.RowKit Go.Proofs.YtfpianecohobjaaW.PrintWords Go.Proofs.YtfpianecohobjaaW.PrintLast
set_option linter.unusedVariables false
set_option maxRecDepth 100000
set_option linter.unusedSimpArgs false
theorem TypesFits_pure : ∀ (l0_0 : List S68) (l0_1 : List S71) (a1_0 : Int) (a1_1 : Int) (a1_2 : Int), (l0_0.length ≤ reachBytes ∧ ∀ x_ ∈ l0_0, good68 x_) → (l0_1.length ≤ reachBytes ∧ ∀ x_ ∈ l0_1, good71 x_) → (Lit.int .i64 a1_0).wf = true → (Lit.int .i64 a1_1).wf = true → (Lit.int .i64 a1_2).wf = true → ∃ k, w4_TypesFits.f k l0_0 l0_1 a1_0 a1_1 a1_2 = some true := by
  intro l l1 e a b hl hl1 _ _ _
  refine Ev.rounds ?_
  unfold w4_TypesFits.f
  refine Ev.bind awake_ev ?_
  simp only [↓reduceIte]
  obtain ⟨q0, hb, hQ⟩ := few_ev l l1 hl.2 hl.1 hl1.1
  refine Ev.bind hb ?_
  refine Ev.step (fun k => by rw [w4_TypesFits.j0]) ?_
  cases q0
  · simp only [Bool.not_false, ↓reduceIte]; exact Ev.bind awake_ev (Ev.now _)
  · obtain ⟨hs, h30⟩ := hQ rfl
    simp only [Bool.not_true, Bool.false_eq_true, ↓reduceIte]
    refine Ev.bind (Fits_ev l l1 hl.2 hs hl1.2 h30 e a b) ?_
    refine Ev.bind (rFits_ev l l1 hl.2 hs hl1.2 h30 e a b) ?_
    simp only [↓reduceIte, beq_self_eq_true]; exact Ev.now _
end Go.Proofs.Ytfpianecohobjaa.P
