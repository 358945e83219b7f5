/- typesLists_holds: a part of the proof that the law returns true for every input. No condition. -/
import Derived.Test.YtfpianecohobjaaVPx33
import Derived.Test.YtfpianecohobjaaVS5
namespace Go.Proofs.Ytfpianecohobjaa.P
open Go.RowKit Go.Proofs.YtfpianecohobjaaW.PrintWords Go.Proofs.YtfpianecohobjaaW.PrintLast
set_option linter.unusedVariables false
set_option maxRecDepth 100000
set_option linter.unusedSimpArgs false
theorem TypesLists_pure : ∀ (l0_0 : List S68) (l0_1 : List S71) (a1 : Int), (l0_0.length ≤ reachBytes ∧ ∀ x_ ∈ l0_0, good68 x_) → (l0_1.length ≤ reachBytes ∧ ∀ x_ ∈ l0_1, good71 x_) → (Lit.int .i64 a1).wf = true → ∃ k, w4_TypesLists.f k l0_0 l0_1 a1 = some true := by
  intro l l1 a hl hl1 _
  refine Ev.rounds ?_
  unfold w4_TypesLists.f
  refine Ev.bind awake_ev ?_
  simp only [↓reduceIte]
  obtain ⟨q0, hb, hQ⟩ := few_ev l l1 hl.2 hl.1 hl1.1
  refine Ev.bind hb ?_
  refine Ev.step (fun k => by rw [w4_TypesLists.j0]) ?_
  cases q0
  · simp only [Bool.not_false, ↓reduceIte]; exact Ev.bind awake_ev (Ev.now _)
  · obtain ⟨hs, h30⟩ := hQ rfl
    have h20 := hs.1
    simp only [Bool.not_true, Bool.false_eq_true, ↓reduceIte]
    refine Ev.bind (Ancestors_ev l l1 hl.2 hs hl1.2 h30 a) ?_
    refine Ev.bind (rAncestors_ev l l1 hl.2 hs hl1.2 h30 a) ?_
    refine Ev.bind (Below_ev l l1 hl.2 hs hl1.2 h30 a) ?_
    refine Ev.bind (rBelow_ev l l1 hl.2 hs hl1.2 h30 a) ?_
    refine Ev.bind (Attrs_ev l l1 hl.2 hs hl1.2 h30 a) ?_
    refine Ev.bind (rAttrs_ev l l1 hl.2 hs hl1.2 h30 a) ?_
    simp only [↓reduceIte]
    have e1 : (ancE l l1 a).1.length ≤ 20 := by
      unfold ancE
      split
      · have := chain_len l 20 a; simpa using this
      · simp
    have e2 : (belowE l l1 a).1.length ≤ 20 := by
      unfold belowE
      split
      · have := fl_len (fun j => isB l j a) l.length 0; simp only []; omega
      · simp
    have e3 : (attrsX l l1 a).1.length ≤ 600 ∧ ∀ x ∈ (attrsX l l1 a).1, x.f3.length < 8796093022208 := by
      unfold attrsX
      split
      · next h0 => exact Attrs_facts l l1 hl.2 hs hl1.2 h30 h0
      · exact ⟨by simp, fun x hx => by cases hx⟩
    refine Ev.bind (EqualI_ev _ (by omega)) ?_
    simp only [↓reduceIte]
    refine Ev.bind (EqualI_ev _ (by omega)) ?_
    simp only [↓reduceIte]
    refine Ev.bind (SameAttrs_ev _ (by omega) e3.2) ?_
    exact Ev.now _
end Go.Proofs.Ytfpianecohobjaa.P
