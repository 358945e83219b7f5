/- typesOrder_holds, typesBounds_holds, typesInherit_holds: a part of the proof that the law returns true for every input. No condition. -/
import Derived.Test.YtfpianecohobjaaAPx26
import Derived.Test.YtfpianecohobjaaASA
namespace Go.Proofs.Ytfpianecohobjaa.P
open Go.RowKit Go.Proofs.YtfpianecohobjaaW.PrintWords Go.Proofs.YtfpianecohobjaaW.PrintLast
set_option linter.unusedVariables false
set_option maxRecDepth 100000
set_option linter.unusedSimpArgs false
theorem TypesBounds_pure : ∀ (l0 : List S81) (a1_0 : Int) (a1_1 : Int) (a1_2 : Int), (l0.length ≤ reachBytes ∧ ∀ x_ ∈ l0, good81 x_) → (Lit.int .u8 a1_0).wf = true → (Lit.int .u8 a1_1).wf = true → (Lit.int .u8 a1_2).wf = true → ∃ k, w4_TypesBounds.f k l0 a1_0 a1_1 a1_2 = some true := by
  intro l0 p q s hl hp hq hs
  obtain ⟨l, l1, hM, hn0, hn6, h5, hg, hsm, h1g, hv, hu⟩ := made_all l0 [] hl ⟨Nat.zero_le _, fun x hx => by cases hx⟩
  refine Ev.rounds ?_
  unfold w4_TypesBounds.f
  refine Ev.bind awake_ev ?_
  simp only [↓reduceIte]
  refine Ev.bind hM ?_
  have hA := ix p hp l.length hn0
  have hB := ix q hq l.length hn0
  have hC := ix s hs l.length hn0
  simp only [show ¬ ((l.length : Int) = 0) by omega, ↓reduceIte]
  generalize Int.tmod (wrap64 p) (l.length : Int) = A at hA ⊢
  generalize Int.tmod (wrap64 q) (l.length : Int) = B at hB ⊢
  generalize Int.tmod (wrap64 s) (l.length : Int) = C at hC ⊢
  have aA : At l A := ⟨by omega, hA.2⟩
  have aB : At l B := ⟨by omega, hB.2⟩
  have aC : At l C := ⟨by omega, hC.2⟩
  have h20 : l.length ≤ 20 := by omega
  have is_ := is_in l l1 hg hsm h1g h5 hv
  have hgz := given_zero hv hA hB
  have j3 : ∀ above, above = (isB l A C && isB l B C) → Ev (fun k => w4_TypesBounds.j3 k A B C (joinX l l1 A B).1 (joinX l l1 A B).2 above l l1) true := by
    intro above hab
    have hj : joinX l l1 A B = joinE l B 20 A := by unfold joinX; rw [if_pos hgz]
    rw [hj]
    refine Ev.step (fun k => by rw [w4_TypesBounds.j3]) ?_
    rcases joinE_spec hu h20 B 20 A aA (by omega) (by omega) with ⟨j, e, j0, ja, jm, jb, jc⟩ | ⟨e, jc⟩
    · rw [e]
      simp only [↓reduceIte]
      have hAj : isB l A j = true := (isB_iff l A j).2 jm
      refine Ev.bind (is_ A j hA ⟨j0, ja.2⟩) ?_
      rw [hAj]
      simp only [↓reduceIte]
      refine Ev.bind (is_ B j hB ⟨j0, ja.2⟩) ?_
      rw [jb]
      simp only [↓reduceIte]
      refine Ev.bind (is_ j C ⟨j0, ja.2⟩ hC) ?_
      have : above = isB l j C := by
        rw [hab, Bool.eq_iff_iff, Bool.and_eq_true]
        constructor
        · rintro ⟨h1, h2⟩; exact jc C ((isB_iff l A C).1 h1) h2
        · intro h1; exact ⟨isB_trans hu h20 aA hAj h1, isB_trans hu h20 aB jb h1⟩
      rw [this]
      simp only [beq_self_eq_true]
      exact Ev.now _
    · rw [e]
      simp only [show ¬ ((10 : Int) = 0) by omega, ↓reduceIte]
      have : above = false := by
        rw [hab]
        cases h1 : isB l A C
        · rfl
        · rw [jc C ((isB_iff l A C).1 h1)]; rfl
      rw [this]
      exact Ev.now _
  have j2 : Ev (fun k => w4_TypesBounds.j2 k A B C false l l1) true := by
    refine Ev.step (fun k => by rw [w4_TypesBounds.j2]) ?_
    simp only [Bool.false_eq_true, ↓reduceIte]
    refine Ev.bind (Join_ev l l1 hg hsm h1g (by omega) A B) ?_
    refine Ev.bind (is_ A C hA hC) ?_
    cases h1 : isB l A C
    · simp only [Bool.false_eq_true, ↓reduceIte]; exact j3 false (by rw [h1]; rfl)
    · simp only [↓reduceIte]
      refine Ev.bind (is_ B C hB hC) ?_
      exact j3 _ (by rw [h1]; rfl)
  have meet : ∃ m e, meetE l l1 A B = (m, e) ∧ ((e = 0 ∧ (0 ≤ m ∧ m < (l.length : Int)) ∧ isB l m A = true ∧ isB l m B = true ∧ (isB l C A && isB l C B) = isB l C m) ∨ (e = 13 ∧ (isB l C A && isB l C B) = false)) := by
    unfold meetE
    rw [if_pos hgz]
    cases h1 : isB l A B
    · cases h2 : isB l B A
      · refine ⟨0, 13, by simp, Or.inr ⟨rfl, ?_⟩⟩
        cases h3 : isB l C A
        · rfl
        · cases h4 : isB l C B
          · rfl
          · rcases isB_comp hu h20 aC h3 h4 with h | h
            · rw [h1] at h; cases h
            · rw [h2] at h; cases h
      · refine ⟨B, 0, by simp, Or.inl ⟨rfl, hB, h2, isB_refl l B hB.1, ?_⟩⟩
        rw [Bool.eq_iff_iff, Bool.and_eq_true]
        exact ⟨fun h => h.2, fun h => ⟨isB_trans hu h20 aC h h2, h⟩⟩
    · refine ⟨A, 0, by simp, Or.inl ⟨rfl, hA, isB_refl l A hA.1, h1, ?_⟩⟩
      rw [Bool.eq_iff_iff, Bool.and_eq_true]
      exact ⟨fun h => h.1, fun h => ⟨h, isB_trans hu h20 aC h h1⟩⟩
  obtain ⟨m, e, hm, hcase⟩ := meet
  have hmev := Meet_ev l l1 hg hsm h1g (by omega) A B
  rw [hm] at hmev
  have key : Ev (fun k => w4_TypesBounds.j0 k A B C m e (isB l C A && isB l C B) l l1) true := by
    refine Ev.step (fun k => by rw [w4_TypesBounds.j0]) ?_
    rcases hcase with ⟨rfl, hmn, h1, h2, h3⟩ | ⟨rfl, h3⟩
    · simp only [↓reduceIte]
      refine Ev.bind (is_ m A hmn hA) ?_
      rw [h1]
      simp only [↓reduceIte]
      refine Ev.bind (is_ m B hmn hB) ?_
      rw [h2]
      simp only [↓reduceIte]
      refine Ev.bind (is_ C m hC hmn) ?_
      rw [h3]
      refine Ev.step (fun k => by rw [w4_TypesBounds.j1]) ?_
      simp only [bne_self_eq_false, Bool.false_eq_true, ↓reduceIte]
      exact j2
    · simp only [show ¬ ((13 : Int) = 0) by omega, ↓reduceIte]
      rw [h3]
      refine Ev.step (fun k => by rw [w4_TypesBounds.j1]) ?_
      simp only [show ¬ ((13 : Int) = 0) by omega, Bool.false_eq_true, ↓reduceIte]
      exact j2
  refine Ev.bind hmev ?_
  refine Ev.bind (is_ C A hC hA) ?_
  cases h1 : isB l C A
  · rw [h1] at key
    simp only [Bool.false_eq_true, ↓reduceIte]; exact key
  · rw [h1] at key
    simp only [↓reduceIte]
    refine Ev.bind (is_ C B hC hB) ?_
    exact key
end Go.Proofs.Ytfpianecohobjaa.P
