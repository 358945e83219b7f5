/- typesOrder_holds, typesBounds_holds, typesInherit_holds: a part of the proof that the law returns true for every input. No condition. -/
import Derived.Test.YtfpianecohobjaaAS7
namespace Go.Proofs.Ytfpianecohobjaa.P
open Go.RowKit Go.Proofs.YtfpianecohobjaaW.PrintWords Go.Proofs.YtfpianecohobjaaW.PrintLast
set_option linter.unusedVariables false
set_option linter.unusedSectionVars false
set_option linter.unusedSimpArgs false
theorem chain_comp {l : List S68} (hu : AllUp l) : ∀ (n : Nat) (c a b : Int), At l c → c < (n : Int) → a ∈ chain l n c → b ∈ chain l n c → b ∈ chain l n a ∨ a ∈ chain l n b
  | 0, c, a, b, _, _, ha, _ => by cases ha
  | n + 1, c, a, b, hc, hn, ha, hb => by
    rcases Int.lt_or_le c 0 with h0 | h0
    · rw [chain_neg _ _ _ h0] at ha; cases ha
    · obtain ⟨h1, h2⟩ := up_at hu hc h0
      have ha' := ha
      have hb' := hb
      rw [chain_pos _ _ _ h0] at ha hb
      rcases List.mem_cons.1 ha with rfl | ha
      · exact Or.inl hb'
      · rcases List.mem_cons.1 hb with rfl | hb
        · exact Or.inr ha'
        · have hla := chain_le hu n _ h1 a ha
          have hlb := chain_le hu n _ h1 b hb
          have hpa := chain_at hu n _ h1 a ha
          have hpb := chain_at hu n _ h1 b hb
          rw [chain_fuel hu (n + 1) n a hpa.2 (by omega) (by omega), chain_fuel hu (n + 1) n b hpb.2 (by omega) (by omega)]
          exact chain_comp hu n _ a b h1 (by omega) ha hb
theorem isB_comp {l : List S68} (hu : AllUp l) (h20 : l.length ≤ 20) {a b c : Int} (hc : At l c) (ha : isB l c a = true) (hb : isB l c b = true) : isB l a b = true ∨ isB l b a = true := by
  have := hc.2
  simp only [isB_iff] at *
  exact chain_comp hu 20 c a b hc (by omega) ha hb
theorem joinE_spec {l : List S68} (hu : AllUp l) (h20 : l.length ≤ 20) (b : Int) : ∀ (n : Nat) (x : Int), At l x → x < (n : Int) → n ≤ 20 →
    ((∃ j, joinE l b n x = (j, 0) ∧ 0 ≤ j ∧ At l j ∧ j ∈ chain l n x ∧ isB l b j = true ∧ ∀ c ∈ chain l n x, isB l b c = true → isB l j c = true) ∨ (joinE l b n x = (0, 10) ∧ ∀ c ∈ chain l n x, isB l b c = false))
  | 0, x, hx, hn, _ => Or.inr ⟨rfl, fun c hc => by cases hc⟩
  | n + 1, x, hx, hn, hm => by
    rcases Int.lt_or_le x 0 with h0 | h0
    · refine Or.inr ⟨?_, fun c hc => by rw [chain_neg _ _ _ h0] at hc; cases hc⟩
      unfold joinE; rw [if_pos h0]
    · obtain ⟨h1, h2⟩ := up_at hu hx h0
      cases hq : isB l b x
      · have e : joinE l b (n + 1) x = joinE l b n (rd_T68 l x).f1 := by
          rw [joinE, if_neg (by omega), if_neg (by simp [hq])]
        rw [e]
        rcases joinE_spec hu h20 b n _ h1 (by omega) (by omega) with ⟨j, hj, hj0, hja, hjm, hjb, hjc⟩ | ⟨hj, hjc⟩
        · refine Or.inl ⟨j, hj, hj0, hja, ?_, hjb, ?_⟩
          · rw [chain_pos _ _ _ h0]; exact List.mem_cons_of_mem _ hjm
          · intro c hc hcb
            rw [chain_pos _ _ _ h0] at hc
            rcases List.mem_cons.1 hc with rfl | hc
            · rw [hq] at hcb; cases hcb
            · exact hjc c hc hcb
        · refine Or.inr ⟨hj, ?_⟩
          intro c hc
          rw [chain_pos _ _ _ h0] at hc
          rcases List.mem_cons.1 hc with rfl | hc
          · exact hq
          · exact hjc c hc
      · refine Or.inl ⟨x, ?_, h0, hx, ?_, hq, ?_⟩
        · rw [joinE, if_neg (by omega), if_pos hq]
        · rw [chain_pos _ _ _ h0]; exact List.mem_cons_self
        · intro c hc _
          have := hx.2
          rw [isB_iff, chain_fuel hu 20 (n + 1) x hx (by omega) (by omega)]
          exact hc
/-- The attributes of a subtype begin with its supertype's. -/
theorem attrs_fuel {l : List S68} (hu : AllUp l) : ∀ (n m : Nat) (a : Int), At l a → a < (n : Int) → a < (m : Int) → attrsE l n a = attrsE l m a
  | n, m, a, ha, hn, hm => by
    rcases Int.lt_or_le a 0 with hc | hc
    · rw [attrsE_neg _ _ _ hc, attrsE_neg _ _ _ hc]
    · cases n with
      | zero => omega
      | succ n =>
        cases m with
        | zero => omega
        | succ m =>
          obtain ⟨h1, h2⟩ := up_at hu ha hc
          rw [attrsE_pos _ _ _ hc, attrsE_pos _ _ _ hc, attrs_fuel hu n m _ h1 (by omega) (by omega)]
theorem attrs_prefix {l : List S68} (hu : AllUp l) : ∀ (n : Nat) (a b : Int), At l a → a < (n : Int) → b ∈ chain l n a → ∃ r, attrsE l n a = attrsE l n b ++ r
  | 0, a, b, _, _, hb => by cases hb
  | n + 1, a, b, ha, hn, hb => by
    rcases Int.lt_or_le a 0 with hc | hc
    · rw [chain_neg _ _ _ hc] at hb; cases hb
    · obtain ⟨h1, h2⟩ := up_at hu ha hc
      rw [chain_pos _ _ _ hc] at hb
      rcases List.mem_cons.1 hb with rfl | hb
      · exact ⟨[], by simp⟩
      · have hbl := chain_le hu n _ h1 b hb
        have hba := chain_at hu n _ h1 b hb
        obtain ⟨r, hr⟩ := attrs_prefix hu n _ b h1 (by omega) hb
        refine ⟨r ++ (rd_T68 l a).f3, ?_⟩
        rw [attrsE_pos _ _ _ hc, hr, attrs_fuel hu (n + 1) n b hba.2 (by omega) (by omega), List.append_assoc]
theorem isB_attrs {l : List S68} (hu : AllUp l) (h20 : l.length ≤ 20) {a b : Int} (ha : At l a) (h : isB l a b = true) : ∃ r, attrsE l 20 a = attrsE l 20 b ++ r := by
  have := ha.2
  exact attrs_prefix hu 20 a b ha (by omega) ((isB_iff l a b).1 h)
end Go.Proofs.Ytfpianecohobjaa.P
