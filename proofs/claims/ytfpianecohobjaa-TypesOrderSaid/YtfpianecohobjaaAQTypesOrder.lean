/- typesOrder_holds, typesBounds_holds, typesInherit_holds: a part of the proof that the law returns true for every input. No condition. -/
import Derived.Test.YtfpianecohobjaaAPx25
import Derived.Test.YtfpianecohobjaaASA
namespace Go.Proofs.Ytfpianecohobjaa.P
open Go.RowKit Go.Proofs.YtfpianecohobjaaW.PrintWords Go.Proofs.YtfpianecohobjaaW.PrintLast
set_option linter.unusedVariables false
set_option maxRecDepth 100000
set_option linter.unusedSimpArgs false
theorem TypesOrder_pure : ∀ (l0 : List S81) (a1_0 : Int) (a1_1 : Int) (a1_2 : Int), (l0.length ≤ reachBytes ∧ ∀ x_ ∈ l0, good81 x_) → (Lit.int .u8 a1_0).wf = true → (Lit.int .u8 a1_1).wf = true → (Lit.int .u8 a1_2).wf = true → ∃ k, w4_TypesOrder.f k l0 a1_0 a1_1 a1_2 = some true := by
  intro l0 p q s hl hp hq hs
  obtain ⟨l, l1, hM, hn0, hn6, h5, hg, hsm, h1g, hv, hu⟩ := made_all l0 [] hl ⟨Nat.zero_le _, fun x hx => by cases hx⟩
  refine Ev.rounds ?_
  unfold w4_TypesOrder.f
  refine Ev.bind awake_ev ?_
  simp only [↓reduceIte]
  refine Ev.bind hM ?_
  have hA := ix p hp l.length hn0
  have hB := ix q hq l.length hn0
  have hC := ix s hs l.length hn0
  simp only [show ¬ ((l.length : Int) = 0) by omega, ↓reduceIte]
  generalize Int.tmod (wrap64 p) (l.length : Int) = A at hA ⊢
  generalize Int.tmod (wrap64 q) (l.length : Int) = B at hB ⊢
  generalize Int.tmod (wrap64 s) (l.length : Int) = C at hC ⊢
  have tail : Ev (fun k => w4_TypesOrder.j0 k A B C false l l1) true := by
    refine Ev.step (fun k => by rw [w4_TypesOrder.j0]) ?_
    simp only [Bool.false_eq_true, ↓reduceIte]
    refine Ev.bind (is_in l l1 hg hsm h1g h5 hv A B hA hB) ?_
    cases h1 : isB l A B
    · simp only [Bool.false_eq_true, ↓reduceIte]; exact Ev.now _
    · simp only [↓reduceIte]
      refine Ev.bind (is_in l l1 hg hsm h1g h5 hv B C hB hC) ?_
      cases h2 : isB l B C
      · simp only [Bool.false_eq_true, ↓reduceIte]; exact Ev.now _
      · simp only [↓reduceIte]
        refine Ev.bind (is_in l l1 hg hsm h1g h5 hv A C hA hC) ?_
        rw [isB_trans hu (by omega) ⟨by omega, hA.2⟩ h1 h2]
        exact Ev.now _
  refine Ev.bind (is_in l l1 hg hsm h1g h5 hv A A hA hA) ?_
  rw [isB_refl l A hA.1]
  simp only [↓reduceIte]
  by_cases hAB : A = B
  · simp only [if_pos hAB]; exact tail
  · simp only [if_neg hAB]
    refine Ev.bind (is_in l l1 hg hsm h1g h5 hv A B hA hB) ?_
    cases h1 : isB l A B
    · simp only [Bool.false_eq_true, ↓reduceIte]; exact tail
    · simp only [↓reduceIte]
      refine Ev.bind (is_in l l1 hg hsm h1g h5 hv B A hB hA) ?_
      cases h2 : isB l B A
      · exact tail
      · exact absurd (isB_anti hu ⟨by omega, hA.2⟩ ⟨by omega, hB.2⟩ h1 h2) hAB
end Go.Proofs.Ytfpianecohobjaa.P
