/- typesOrder_holds, typesBounds_holds, typesInherit_holds: a part of the proof that the law returns true for every input. No condition. -/
import Derived.Test.YtfpianecohobjaaAS5
namespace Go.Proofs.Ytfpianecohobjaa.P
open Go.RowKit Go.Proofs.YtfpianecohobjaaW.PrintWords Go.Proofs.YtfpianecohobjaaW.PrintLast
set_option linter.unusedVariables false
set_option linter.unusedSectionVars false
set_option linter.unusedSimpArgs false
theorem chain_fuel {l : List S68} (hu : AllUp l) : ∀ (n m : Nat) (a : Int), At l a → a < (n : Int) → a < (m : Int) → chain l n a = chain l m a
  | n, m, a, ha, hn, hm => by
    rcases Int.lt_or_le a 0 with hc | hc
    · rw [chain_neg _ _ _ hc, chain_neg _ _ _ hc]
    · cases n with
      | zero => omega
      | succ n =>
        cases m with
        | zero => omega
        | succ m =>
          obtain ⟨h1, h2⟩ := up_at hu ha hc
          rw [chain_pos _ _ _ hc, chain_pos _ _ _ hc, chain_fuel hu n m _ h1 (by omega) (by omega)]
theorem chain_at {l : List S68} (hu : AllUp l) : ∀ (n : Nat) (a : Int), At l a → ∀ x ∈ chain l n a, 0 ≤ x ∧ At l x
  | 0, a, _, x, hx => by cases hx
  | n + 1, a, ha, x, hx => by
    rcases Int.lt_or_le a 0 with hc | hc
    · rw [chain_neg _ _ _ hc] at hx; cases hx
    · rw [chain_pos _ _ _ hc] at hx
      obtain ⟨h1, h2⟩ := up_at hu ha hc
      rcases List.mem_cons.1 hx with rfl | hx
      · exact ⟨hc, ha⟩
      · exact chain_at hu n _ h1 x hx
theorem chain_trans {l : List S68} (hu : AllUp l) : ∀ (n : Nat) (a b : Int), At l a → a < (n : Int) → b ∈ chain l n a → ∀ x ∈ chain l n b, x ∈ chain l n a
  | 0, a, b, _, _, hb, x, hx => by cases hb
  | n + 1, a, b, ha, hn, hb, x, hx => by
    rcases Int.lt_or_le a 0 with hc | hc
    · rw [chain_neg _ _ _ hc] at hb; cases hb
    · obtain ⟨h1, h2⟩ := up_at hu ha hc
      have hb' := hb
      rw [chain_pos _ _ _ hc] at hb
      rcases List.mem_cons.1 hb with rfl | hb
      · exact hx
      · have hbl := chain_le hu n _ h1 b hb
        have hba := chain_at hu n _ h1 b hb
        rw [chain_fuel hu (n + 1) n b hba.2 (by omega) (by omega)] at hx
        rw [chain_pos _ _ _ hc]
        exact List.mem_cons_of_mem _ (chain_trans hu n _ b h1 (by omega) hb x hx)
theorem isB_iff (l : List S68) (a b : Int) : isB l a b = true ↔ b ∈ chain l 20 a := by
  unfold isB
  rw [List.any_eq_true]
  constructor
  · rintro ⟨x, hx, he⟩
    obtain rfl : x = b := by simpa using he
    exact hx
  · intro h; exact ⟨b, h, by simp⟩
theorem isB_refl (l : List S68) (a : Int) (ha : 0 ≤ a) : isB l a a = true := by
  rw [isB_iff, chain_pos _ _ _ ha]; exact List.mem_cons_self
theorem isB_le {l : List S68} (hu : AllUp l) {a b : Int} (ha : At l a) (h : isB l a b = true) : b ≤ a := chain_le hu 20 a ha b ((isB_iff l a b).1 h)
theorem isB_anti {l : List S68} (hu : AllUp l) {a b : Int} (ha : At l a) (hb : At l b) (h : isB l a b = true) (h' : isB l b a = true) : a = b :=
  Int.le_antisymm (isB_le hu hb h') (isB_le hu ha h)
theorem isB_trans {l : List S68} (hu : AllUp l) (h20 : l.length ≤ 20) {a b c : Int} (ha : At l a) (h : isB l a b = true) (h' : isB l b c = true) : isB l a c = true := by
  have := ha.2
  rw [isB_iff] at h h' ⊢
  exact chain_trans hu 20 a b ha (by omega) h c h'
theorem isE_isB {l : List S68} {l1 : List S71} (hv : (validE l l1).2 = 0) {a b : Int} (ha : 0 ≤ a ∧ a < (l.length : Int)) (hb : 0 ≤ b ∧ b < (l.length : Int)) : isE l l1 a b = isB l a b := by
  have : givenE l l1 [a, b] = 0 := by
    unfold givenE
    rw [if_pos hv]
    simp only [List.all_cons, List.all_nil, Bool.and_true, insideB, ha.1, ha.2, hb.1, hb.2, decide_true, Bool.and_self, if_true]
  unfold isE
  rw [if_pos this]
end Go.Proofs.Ytfpianecohobjaa.P
