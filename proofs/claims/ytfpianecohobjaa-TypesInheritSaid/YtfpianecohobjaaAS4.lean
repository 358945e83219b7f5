/- typesOrder_holds, typesBounds_holds, typesInherit_holds: a part of the proof that the law returns true for every input. No condition. -/
import Derived.Test.YtfpianecohobjaaAS3
import Derived.Test.YtfpianecohobjaaAPx27
import Derived.Test.YtfpianecohobjaaAPx28
namespace Go.Proofs.Ytfpianecohobjaa.P
open Go.RowKit Go.Proofs.YtfpianecohobjaaW.PrintWords Go.Proofs.YtfpianecohobjaaW.PrintLast
set_option maxRecDepth 100000
set_option linter.unusedVariables false
set_option linter.unusedSimpArgs false
set_option linter.unusedSectionVars false
def fitsE (l : List S68) (l1 : List S71) (e a b : Int) : Bool := if givenE l l1 [a, b] = 0 then (if 0 ≤ e ∧ e < (l1.length : Int) then isB l a (rd_T71 l1 e).f1 && isB l b (rd_T71 l1 e).f2 else false) else false
section
variable (l : List S68) (l1 : List S71) (hg : Good l) (h : Small l) (h1g : ∀ x ∈ l1, good71 x) (h1l : l1.length ≤ 30)
include hg h h1g h1l
theorem Fits_ev (e a b : Int) : Ev (fun k => types_Fits.f k l l1 e a b) (fitsE l l1 e a b) := by
  have h20 := h.1
  have jt : Ev (fun k => types_Fits.j0 k e a b true l l1) false := by
    refine Ev.step (fun k => by rw [types_Fits.j0]) ?_
    simp only [↓reduceIte]; exact Ev.now _
  unfold types_Fits.f fitsE
  refine Ev.bind (given_ev l l1 hg h h1g h1l _) ?_
  by_cases h0 : givenE l l1 [a, b] = 0
  · obtain ⟨hv, hs⟩ := givenE_zero h0
    simp only [h0, ↓reduceIte]
    by_cases h1 : e < 0
    · simp only [h1, show ¬ (0 ≤ e ∧ e < (l1.length : Int)) by omega, ↓reduceIte]; exact jt
    · simp only [h1, ↓reduceIte]
      by_cases h2 : e ≥ (l1.length : Int)
      · simp only [h2, show ¬ (0 ≤ e ∧ e < (l1.length : Int)) by omega, decide_true, ↓reduceIte]; exact jt
      · simp only [h2, decide_false, show (0 ≤ e ∧ e < (l1.length : Int)) by omega, and_self, ↓reduceIte]
        refine Ev.step (fun k => by rw [types_Fits.j0]) ?_
        simp only [Bool.false_eq_true, show 0 ≤ e by omega, show e < (l1.length : Int) by omega, ↓reduceIte]
        refine Ev.bind (is_ev l l1 (validE_up hv) h20 a _ (hs a (by simp)).2) ?_
        cases isB l a (rd_T71 l1 e).f1
        · simp only [Bool.false_eq_true, Bool.false_and, ↓reduceIte]; exact Ev.now _
        · simp only [Bool.true_and, ↓reduceIte]
          exact Ev.bind (is_ev l l1 (validE_up hv) h20 b _ (hs b (by simp)).2) (Ev.now _)
  · simp only [h0, ↓reduceIte]; exact jt
end
end Go.Proofs.Ytfpianecohobjaa.P
