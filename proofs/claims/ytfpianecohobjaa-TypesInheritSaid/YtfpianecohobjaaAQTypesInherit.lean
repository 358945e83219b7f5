/- typesOrder_holds, typesBounds_holds, typesInherit_holds: a part of the proof that the law returns true for every input. No condition. -/
import Derived.Test.YtfpianecohobjaaAPx34
import Derived.Test.YtfpianecohobjaaASA
import Derived.Test.YtfpianecohobjaaAS4
namespace Go.Proofs.Ytfpianecohobjaa.P
open Go.RowKit Go.Proofs.YtfpianecohobjaaW.PrintWords Go.Proofs.YtfpianecohobjaaW.PrintLast
set_option linter.unusedVariables false
set_option maxRecDepth 100000
set_option linter.unusedSimpArgs false
theorem TypesInherit_pure : ∀ (l0 : List S81) (l1 : List S81) (a2_0 : Int) (a2_1 : Int) (a2_2 : Int) (a2_3 : Int) (a2_4 : Int), (l0.length ≤ reachBytes ∧ ∀ x_ ∈ l0, good81 x_) → (l1.length ≤ reachBytes ∧ ∀ x_ ∈ l1, good81 x_) → (Lit.int .u8 a2_0).wf = true → (Lit.int .u8 a2_1).wf = true → (Lit.int .u8 a2_2).wf = true → (Lit.int .u8 a2_3).wf = true → (Lit.int .u8 a2_4).wf = true → ∃ k, w4_TypesInherit.f k l0 l1 a2_0 a2_1 a2_2 a2_3 a2_4 = some true := by
  intro x0 x1 p q s t u hx0 hx1 hp hq hs ht hu8
  obtain ⟨l, l1, hM, hn0, hn6, h5, hg, hsm, h1g, hv, hu⟩ := made_all x0 x1 hx0 hx1
  refine Ev.rounds ?_
  unfold w4_TypesInherit.f
  refine Ev.bind awake_ev ?_
  simp only [↓reduceIte]
  refine Ev.bind hM ?_
  have hA := ix p hp l.length hn0
  have hB := ix q hq l.length hn0
  have hC := ix s hs l.length hn0
  have hD := ix t ht l.length hn0
  simp only [show ¬ ((l.length : Int) = 0) by omega, ↓reduceIte]
  generalize Int.tmod (wrap64 p) (l.length : Int) = A at hA ⊢
  generalize Int.tmod (wrap64 q) (l.length : Int) = B at hB ⊢
  generalize Int.tmod (wrap64 s) (l.length : Int) = C at hC ⊢
  generalize Int.tmod (wrap64 t) (l.length : Int) = D at hD ⊢
  have aA : At l A := ⟨by omega, hA.2⟩
  have aC : At l C := ⟨by omega, hC.2⟩
  have h20 : l.length ≤ 20 := by omega
  have is_ := is_in l l1 hg hsm h1g h5 hv
  have fits : ∀ e a b, 0 ≤ e ∧ e < (l1.length : Int) → (0 ≤ a ∧ a < (l.length : Int)) → (0 ≤ b ∧ b < (l.length : Int)) → Ev (fun k => types_Fits.f k l l1 e a b) (isB l a (rd_T71 l1 e).f1 && isB l b (rd_T71 l1 e).f2) := by
    intro e a b he ha hb
    have := Fits_ev l l1 hg hsm h1g (by omega) e a b
    unfold fitsE at this
    rwa [if_pos (given_zero hv ha hb), if_pos he] at this
  have tail : Ev (fun k => w4_TypesInherit.j0 k A B C D p q s t u l l1) true := by
    refine Ev.step (fun k => by rw [w4_TypesInherit.j0]) ?_
    by_cases h0 : (l1.length : Int) = 0
    · simp only [if_pos h0]; exact Ev.now _
    · simp only [if_neg h0]
      have hE := ix u hu8 l1.length (by omega)
      generalize Int.tmod (wrap64 u) (l1.length : Int) = E at hE ⊢
      refine Ev.bind (fits E B D hE hB hD) ?_
      cases h1 : (isB l B (rd_T71 l1 E).f1 && isB l D (rd_T71 l1 E).f2)
      · simp only [Bool.false_eq_true, ↓reduceIte]; exact Ev.now _
      · simp only [↓reduceIte]
        rw [Bool.and_eq_true] at h1
        refine Ev.bind (is_ A B hA hB) ?_
        cases h2 : isB l A B
        · simp only [Bool.false_eq_true, ↓reduceIte]; exact Ev.now _
        · simp only [↓reduceIte]
          refine Ev.bind (is_ C D hC hD) ?_
          cases h3 : isB l C D
          · simp only [Bool.false_eq_true, ↓reduceIte]; exact Ev.now _
          · simp only [↓reduceIte]
            refine Ev.bind (fits E A C hE hA hC) ?_
            rw [isB_trans hu h20 aA h2 h1.1, isB_trans hu h20 aC h3 h1.2]
            exact Ev.now _
  refine Ev.bind (is_ A B hA hB) ?_
  cases h1 : isB l A B
  · simp only [Bool.false_eq_true, ↓reduceIte]; exact tail
  · simp only [↓reduceIte]
    obtain ⟨r, hr⟩ := isB_attrs hu h20 aA h1
    have gA : givenE l l1 [A] = 0 := by rw [← given_aa]; exact given_zero hv hA hA
    have gB : givenE l l1 [B] = 0 := by rw [← given_aa]; exact given_zero hv hB hB
    have eA := Attrs_ev l l1 hg hsm h1g (by omega) A
    have eB := Attrs_ev l l1 hg hsm h1g (by omega) B
    have fA := Attrs_facts l l1 hg hsm h1g (by omega) gA
    have fB := Attrs_facts l l1 hg hsm h1g (by omega) gB
    unfold attrsX at eA eB
    rw [if_pos gA] at eA
    rw [if_pos gB] at eB
    refine Ev.bind eA ?_
    refine Ev.bind eB ?_
    have hle : (attrsE l 20 B).length ≤ (attrsE l 20 A).length := by rw [hr, List.length_append]; omega
    have htk : (attrsE l 20 A).take (attrsE l 20 B).length = attrsE l 20 B := by rw [hr, List.take_left]
    simp only [show ¬ (((attrsE l 20 A).length : Int) < ((attrsE l 20 B).length : Int)) by omega, show (0 : Int) ≤ ((attrsE l 20 B).length : Int) by omega, show (((attrsE l 20 B).length : Int) ≤ ((attrsE l 20 A).length : Int)) by omega, ↓reduceIte, Int.toNat_natCast, htk]
    refine Ev.bind (SameAttrs_ev _ (by omega) fB.2) ?_
    simp only [↓reduceIte]
    exact tail
end Go.Proofs.Ytfpianecohobjaa.P
