/- typesOrder_holds, typesBounds_holds, typesInherit_holds: a part of the proof that the law returns true for every input. No condition. -/
import Derived.Test.YtfpianecohobjaaAS3
import Derived.Test.YtfpianecohobjaaAPx29
import Derived.Test.YtfpianecohobjaaAPx30
import Derived.Test.YtfpianecohobjaaAPx32
namespace Go.Proofs.Ytfpianecohobjaa.P
open Go.RowKit Go.Proofs.YtfpianecohobjaaW.PrintWords Go.Proofs.YtfpianecohobjaaW.PrintLast
set_option maxRecDepth 100000
set_option linter.unusedVariables false
set_option linter.unusedSimpArgs false
set_option linter.unusedSectionVars false
/-- The numbers from i on, m of them, that q takes. -/
def fl (q : Int → Bool) : Nat → Nat → List Int
  | 0, _ => []
  | m + 1, i => if q (i : Int) = true then (i : Int) :: fl q m (i + 1) else fl q m (i + 1)
theorem fl_succ (q : Int → Bool) (m i : Nat) : fl q (m + 1) i = if q (i : Int) = true then (i : Int) :: fl q m (i + 1) else fl q m (i + 1) := rfl
theorem chain_le {l : List S68} (hu : AllUp l) : ∀ (n : Nat) (a : Int), At l a → ∀ x ∈ chain l n a, x ≤ a
  | 0, a, _, x, hx => by cases hx
  | n + 1, a, ha, x, hx => by
    rcases Int.lt_or_le a 0 with hc | hc
    · rw [chain_neg _ _ _ hc] at hx; cases hx
    · rw [chain_pos _ _ _ hc] at hx
      obtain ⟨h1, h2⟩ := up_at hu ha hc
      rcases List.mem_cons.1 hx with rfl | hx
      · exact Int.le_refl _
      · have := chain_le hu n _ h1 x hx; omega
section
variable (l : List S68) (l1 : List S71) (hu : AllUp l) (h20 : l.length ≤ 20)
include hu h20
end
theorem eta77 (x : S77) : (⟨x.f0, x.f1, x.f2, x.f3⟩ : S77) = x := rfl
theorem attrs_copy (t : List S77) (h8 : t.length ≤ 9223372036854775806) (ht : ∀ x ∈ t, x.f3.length < 8796093022208) : ∀ (m i : Nat), i + m = t.length → Ev (fun k => types_Attrs.l0 k t (t.length : Int) (i : Int)) (t, 0)
  | 0, i, hi => by
    refine Ev.step (fun k => by rw [types_Attrs.l0]) ?_
    simp only [show ¬ ((i : Int) < (t.length : Int)) by omega, ↓reduceIte]; exact Ev.now _
  | m + 1, i, hi => by
    have hil : i < t.length := by omega
    have hx := ht _ (List.getElem_mem hil)
    refine Ev.step (fun k => by rw [types_Attrs.l0]) ?_
    simp only [show ((i : Int) < (t.length : Int)) by omega, show (0 : Int) ≤ (i : Int) by omega, ↓reduceIte]
    rw [rd77_nat _ _ hil, w64 _ (by omega) (by omega), Int.toNat_natCast]
    unfold clone_string.f
    simp only [hx, ↓reduceIte, Option.bind_some, eta77]
    rw [List.set_getElem_self]
    exact attrs_copy t h8 ht m (i + 1) (by omega)
theorem scan_zero {F : Nat → Int} : ∀ (m i : Nat), scan F m i = 0 → ∀ j, i ≤ j → j < i + m → F j = 0
  | 0, i, _, j, h1, h2 => by omega
  | m + 1, i, h, j, h1, h2 => by
    unfold scan at h
    split at h
    · next h0 =>
      rcases Nat.lt_or_eq_of_le h1 with h1 | rfl
      · exact scan_zero m (i + 1) h j (by omega) (by omega)
      · exact h0
    · next h0 => exact absurd h h0
theorem attrE_zero {pre : List S77} {a : S77} (h : attrE pre a = 0) : a.f3.length ≤ 20 := by
  unfold attrE at h
  split at h
  · split at h
    · exact absurd h (by decide)
    · unfold boundsE at h
      split at h
      · next h0 =>
        unfold namesE at h0
        split at h0
        · exact absurd h0 (by decide)
        · omega
      · next h0 => exact absurd h h0
  · exact absurd h (by decide)
theorem own_names {l : List S68} {i : Nat} (h : nodeE l i = 0) : ∀ x ∈ (rd_T68 l (i : Int)).f3, x.f3.length ≤ 20 := by
  intro x hx
  unfold nodeE at h
  split at h
  · split at h
    · exact absurd h (by decide)
    · split at h
      · exact absurd h (by decide)
      · split at h
        · exact absurd h (by decide)
        · split at h
          · exact absurd h (by decide)
          · obtain ⟨u, hu⟩ := attrsE_own l 19 (i : Int) (by omega)
            rw [hu] at h
            obtain ⟨q, hq, rfl⟩ := List.getElem_of_mem hx
            have := scan_zero _ _ h (u.length + q) (by simp) (by simp; omega)
            unfold attrF at this
            have := attrE_zero this
            rw [rd77_nat _ _ (by simp; omega), List.getElem_append_right (by omega)] at this
            simpa using this
  · exact absurd h (by decide)
theorem attrsE_names {l : List S68} (hv : ∀ j, j < l.length → nodeE l j = 0) : ∀ (n i : Nat), i < l.length → ∀ x ∈ attrsE l n (i : Int), x.f3.length ≤ 20
  | 0, i, _ => fun x hx => by cases hx
  | n + 1, i, hi => by
    intro x hx
    obtain ⟨h4, h5⟩ := nodeE_zero (hv i hi)
    rw [attrsE_pos _ _ _ (by omega)] at hx
    rcases List.mem_append.1 hx with hx | hx
    · rcases Int.lt_or_le (rd_T68 l (i : Int)).f1 0 with hc | hc
      · rw [attrsE_neg _ _ _ hc] at hx; cases hx
      · obtain ⟨p, hp⟩ : ∃ p : Nat, (rd_T68 l (i : Int)).f1 = (p : Int) := ⟨(rd_T68 l (i : Int)).f1.toNat, by omega⟩
        rw [hp] at hx h5
        exact attrsE_names hv n p (by omega) x hx
    · exact own_names (hv i hi) x hx
theorem Strings_loop (l : List ByteArray) (hl : l.length ≤ 9223372036854775806) : ∀ (m i : Nat), i + m = l.length → Ev (fun k => q4_Strings.l0 k l l (i : Int)) true
  | 0, i, hi => by
    refine Ev.step (fun k => by rw [q4_Strings.l0]) ?_
    simp only [show ¬ ((i : Int) < (l.length : Int)) by omega, ↓reduceIte]; exact Ev.now _
  | m + 1, i, hi => by
    refine Ev.step (fun k => by rw [q4_Strings.l0]) ?_
    simp only [show ((i : Int) < (l.length : Int)) by omega, show (0 : Int) ≤ (i : Int) by omega, ↓reduceIte]
    rw [w64 _ (by omega) (by omega)]; exact Strings_loop l hl m (i + 1) (by omega)
theorem Strings_ev (l : List ByteArray) (hl : l.length ≤ 9223372036854775806) : Ev (fun k => q4_Strings.f k l l) true := by
  unfold q4_Strings.f
  simp only [↓reduceIte]; exact Strings_loop l hl _ 0 (Nat.zero_add _)
theorem SameAttrs_loop (l : List S77) (hl : l.length ≤ 9223372036854775806) (ht : ∀ x ∈ l, x.f3.length < 8796093022208) : ∀ (m i : Nat), i + m = l.length → Ev (fun k => q4_SameAttrs.l0 k l l (i : Int)) true
  | 0, i, hi => by
    refine Ev.step (fun k => by rw [q4_SameAttrs.l0]) ?_
    simp only [show ¬ ((i : Int) < (l.length : Int)) by omega, ↓reduceIte]; exact Ev.now _
  | m + 1, i, hi => by
    have hil : i < l.length := by omega
    have hx := ht _ (List.getElem_mem hil)
    refine Ev.step (fun k => by rw [q4_SameAttrs.l0]) ?_
    simp only [show ((i : Int) < (l.length : Int)) by omega, show (0 : Int) ≤ (i : Int) by omega, ↓reduceIte]
    rw [rd77_nat _ _ hil]
    refine Ev.bind (Strings_ev _ (by omega)) ?_
    simp only [↓reduceIte]
    rw [w64 _ (by omega) (by omega)]; exact SameAttrs_loop l hl ht m (i + 1) (by omega)
theorem SameAttrs_ev (l : List S77) (hl : l.length ≤ 9223372036854775806) (ht : ∀ x ∈ l, x.f3.length < 8796093022208) : Ev (fun k => q4_SameAttrs.f k l l) true := by
  unfold q4_SameAttrs.f
  simp only [↓reduceIte]; exact SameAttrs_loop l hl ht _ 0 (Nat.zero_add _)
def attrsX (l : List S68) (l1 : List S71) (a : Int) : List S77 × Int := if givenE l l1 [a] = 0 then (attrsE l 20 a, 0) else ([], givenE l l1 [a])
theorem given_aa (l : List S68) (l1 : List S71) (a : Int) : givenE l l1 [a, a] = givenE l l1 [a] := by
  unfold givenE
  simp only [List.all_cons, List.all_nil, Bool.and_true, Bool.and_self]
section
variable (l : List S68) (l1 : List S71) (hg : Good l) (h : Small l) (h1g : ∀ x ∈ l1, good71 x) (h1l : l1.length ≤ 30)
include hg h h1g h1l
theorem Attrs_facts {a : Int} (h0 : givenE l l1 [a] = 0) : (attrsE l 20 a).length ≤ 600 ∧ ∀ x ∈ attrsE l 20 a, x.f3.length < 8796093022208 := by
  have h20 := h.1
  obtain ⟨hv, hs⟩ := givenE_zero h0
  obtain ⟨h1, h2⟩ := hs a (by simp)
  have h22 := h2.2
  obtain ⟨j, rfl⟩ : ∃ j : Nat, a = (j : Int) := ⟨a.toNat, by omega⟩
  have h3 := attrsE_len h 20 j (by omega) (by omega) (fun q _ hq => validE_up hv q hq)
  refine ⟨by omega, fun x hx => ?_⟩
  have := attrsE_names (validE_zero hv).2.2.2.1 20 j (by omega) x hx
  omega
theorem Attrs_ev (a : Int) : Ev (fun k => types_Attrs.f k l l1 a) (attrsX l l1 a) := by
  have h20 := h.1
  unfold types_Attrs.f attrsX
  refine Ev.bind (given_ev l l1 hg h h1g h1l _) ?_
  by_cases h0 : givenE l l1 [a] = 0
  · obtain ⟨hv, hs⟩ := givenE_zero h0
    obtain ⟨f1, f2⟩ := Attrs_facts l l1 hg h h1g h1l h0
    obtain ⟨h1, h2⟩ := hs a (by simp)
    have h22 := h2.2
    obtain ⟨j, rfl⟩ : ∃ j : Nat, a = (j : Int) := ⟨a.toNat, by omega⟩
    simp only [h0, ↓reduceIte]
    refine Ev.bind (attrs_ev l l1 h 20 j (Nat.le_refl _) (by omega) (by omega) (fun q _ hq => validE_up hv q hq)) ?_
    exact attrs_copy _ (by omega) f2 _ 0 (Nat.zero_add _)
  · simp only [h0, ↓reduceIte]; exact Ev.now _
end
end Go.Proofs.Ytfpianecohobjaa.P
