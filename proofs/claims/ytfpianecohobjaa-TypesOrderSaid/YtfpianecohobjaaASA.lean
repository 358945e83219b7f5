/- typesOrder_holds, typesBounds_holds, typesInherit_holds: a part of the proof that the law returns true for every input. No condition. -/
import Derived.Test.YtfpianecohobjaaAS9
namespace Go.Proofs.Ytfpianecohobjaa.P
open Go.RowKit Go.Proofs.YtfpianecohobjaaW.PrintWords Go.Proofs.YtfpianecohobjaaW.PrintLast
set_option linter.unusedVariables false
set_option linter.unusedSectionVars false
set_option linter.unusedSimpArgs false
theorem made_all (x0 x1 : List S81) (h0 : x0.length ≤ reachBytes ∧ ∀ x ∈ x0, good81 x) (h1 : x1.length ≤ reachBytes ∧ ∀ x ∈ x1, good81 x) :
    ∃ l l1, Ev (fun k => q4_Made.f k x0 x1) (l, l1) ∧ 0 < l.length ∧ l.length ≤ 6 ∧ l1.length ≤ 5 ∧ Good l ∧ Small l ∧ (∀ x ∈ l1, good71 x) ∧ (validE l l1).2 = 0 ∧ AllUp l := by
  obtain ⟨⟨l, l1⟩, hM, hN, hE⟩ := Made_ev x0 x1 h0.2 h1.2 h0.1 h1.1
  exact ⟨l, l1, hM, hN.1, hN.2.1, hE.1, made_good hN, made_small hN, made_good1 hN hE, made_valid hN hE, made_up hN⟩
theorem ix (a : Int) (ha : (Lit.int .u8 a).wf = true) (n : Nat) (hn : 0 < n) : 0 ≤ Int.tmod (wrap64 a) (n : Int) ∧ Int.tmod (wrap64 a) (n : Int) < (n : Int) := by
  have := u8_wf ha
  rw [w64 _ (by omega) (by omega)]
  exact tmod_lt a this.1 n hn
theorem given_zero {l : List S68} {l1 : List S71} (hv : (validE l l1).2 = 0) {a b : Int} (ha : 0 ≤ a ∧ a < (l.length : Int)) (hb : 0 ≤ b ∧ b < (l.length : Int)) : givenE l l1 [a, b] = 0 := by
  unfold givenE
  rw [if_pos hv]
  simp only [List.all_cons, List.all_nil, Bool.and_true, insideB, ha.1, ha.2, hb.1, hb.2, decide_true, Bool.and_self, if_true]
section facts
variable (l : List S68) (l1 : List S71) (hg : Good l) (h : Small l) (h1g : ∀ x ∈ l1, good71 x) (h1l : l1.length ≤ 5) (hv : (validE l l1).2 = 0)
include hg h h1g h1l hv
theorem is_in (a b : Int) (ha : 0 ≤ a ∧ a < (l.length : Int)) (hb : 0 ≤ b ∧ b < (l.length : Int)) : Ev (fun k => types_Is.f k l l1 a b) (isB l a b) := by
  have := Is_ev l l1 hg h h1g (by omega) a b
  rwa [isE_isB hv ha hb] at this
end facts
end Go.Proofs.Ytfpianecohobjaa.P
