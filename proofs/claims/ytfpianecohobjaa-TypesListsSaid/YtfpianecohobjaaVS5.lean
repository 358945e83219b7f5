/- typesLists_holds: a part of the proof that the law returns true for every input. No condition. -/
import Derived.Test.YtfpianecohobjaaVS3
import Derived.Test.YtfpianecohobjaaVPx29
import Derived.Test.YtfpianecohobjaaVPx30
import Derived.Test.YtfpianecohobjaaVPx32
namespace Go.Proofs.Ytfpianecohobjaa.P
open Go.RowKit Go.Proofs.YtfpianecohobjaaW.PrintWords Go.Proofs.YtfpianecohobjaaW.PrintLast
set_option maxRecDepth 100000
set_option linter.unusedVariables false
set_option linter.unusedSimpArgs false
set_option linter.unusedSectionVars false
/-- The numbers from i on, m of them, that q takes. -/
def fl (q : Int → Bool) : Nat → Nat → List Int
  | 0, _ => []
  | m + 1, i => if q (i : Int) = true then (i : Int) :: fl q m (i + 1) else fl q m (i + 1)
theorem fl_succ (q : Int → Bool) (m i : Nat) : fl q (m + 1) i = if q (i : Int) = true then (i : Int) :: fl q m (i + 1) else fl q m (i + 1) := rfl
theorem fl_add (q : Int → Bool) : ∀ (m n i : Nat), fl q (m + n) i = fl q m i ++ fl q n (i + m)
  | 0, n, i => by simp [fl]
  | m + 1, n, i => by
    rw [show m + 1 + n = (m + n) + 1 by omega, fl_succ, fl_succ, fl_add q m n (i + 1), show i + 1 + m = i + (m + 1) by omega]
    split <;> simp
theorem fl_congr {q q' : Int → Bool} : ∀ (m i : Nat), (∀ j : Nat, i ≤ j → j < i + m → q (j : Int) = q' (j : Int)) → fl q m i = fl q' m i
  | 0, i, _ => rfl
  | m + 1, i, h => by
    unfold fl
    rw [h i (Nat.le_refl _) (by omega), fl_congr m (i + 1) (fun j h1 h2 => h j (by omega) (by omega))]
theorem fl_none {q : Int → Bool} : ∀ (m i : Nat), (∀ j : Nat, i ≤ j → j < i + m → q (j : Int) = false) → fl q m i = []
  | 0, i, _ => rfl
  | m + 1, i, h => by
    unfold fl
    rw [h i (Nat.le_refl _) (by omega), fl_none m (i + 1) (fun j h1 h2 => h j (by omega) (by omega))]
    rfl
theorem fl_len (q : Int → Bool) : ∀ (m i : Nat), (fl q m i).length ≤ m
  | 0, i => Nat.le_refl _
  | m + 1, i => by
    unfold fl
    have := fl_len q m (i + 1)
    split
    · simp; omega
    · omega
theorem chain_le {l : List S68} (hu : AllUp l) : ∀ (n : Nat) (a : Int), At l a → ∀ x ∈ chain l n a, x ≤ a
  | 0, a, _, x, hx => by cases hx
  | n + 1, a, ha, x, hx => by
    rcases Int.lt_or_le a 0 with hc | hc
    · rw [chain_neg _ _ _ hc] at hx; cases hx
    · rw [chain_pos _ _ _ hc] at hx
      obtain ⟨h1, h2⟩ := up_at hu ha hc
      rcases List.mem_cons.1 hx with rfl | hx
      · exact Int.le_refl _
      · have := chain_le hu n _ h1 x hx; omega
theorem any_ne {l : List Int} {b : Int} (h : ∀ x ∈ l, x < b) : l.any (fun x => x == b) = false := by
  rw [List.any_eq_false]
  intro x hx
  have := h x hx
  simp; omega
theorem chain_fl {l : List S68} (hu : AllUp l) : ∀ (n : Nat) (a : Int), At l a → a < (n : Int) → (chain l n a).reverse = fl (fun j => (chain l n a).any (fun x => x == j)) (a + 1).toNat 0
  | n, a, ha, hn => by
    rcases Int.lt_or_le a 0 with hc | hc
    · have ha1 := ha.1
      rw [chain_neg _ _ _ hc, show (a + 1).toNat = 0 by omega]; rfl
    · cases n with
      | zero => omega
      | succ n =>
        obtain ⟨h1, h2⟩ := up_at hu ha hc
        have h11 := h1.1
        have ih := chain_fl hu n _ h1 (by omega)
        obtain ⟨j, rfl⟩ : ∃ j : Nat, a = (j : Int) := ⟨a.toNat, by omega⟩
        obtain ⟨p, hp⟩ : ∃ p : Nat, (rd_T68 l (j : Int)).f1 + 1 = (p : Int) := ⟨((rd_T68 l (j : Int)).f1 + 1).toNat, by omega⟩
        have hle := chain_le hu n _ h1
        rw [chain_pos _ _ _ hc, List.reverse_cons, ih, hp]
        rw [show ((j : Int) + 1).toNat = p + ((j - p) + 1) by omega, show ((p : Int)).toNat = p by omega, fl_add, fl_add]
        have e1 : fl (fun x => (chain l n (rd_T68 l (j : Int)).f1).any (fun y => y == x)) p 0 = fl (fun x => ((j : Int) :: chain l n (rd_T68 l (j : Int)).f1).any (fun y => y == x)) p 0 := by
          refine fl_congr _ _ fun q _ hq => ?_
          rw [List.any_cons, show ((j : Int) == (q : Int)) = false by simp; omega, Bool.false_or]
        have e2 : fl (fun x => ((j : Int) :: chain l n (rd_T68 l (j : Int)).f1).any (fun y => y == x)) (j - p) (0 + p) = [] := by
          refine fl_none _ _ fun q h1 h2 => ?_
          rw [List.any_cons, show ((j : Int) == (q : Int)) = false by simp; omega, Bool.false_or]
          refine any_ne fun x hx => ?_
          have := hle x hx; omega
        have e3 : fl (fun x => ((j : Int) :: chain l n (rd_T68 l (j : Int)).f1).any (fun y => y == x)) 1 (0 + p + (j - p)) = [(j : Int)] := by
          rw [show 0 + p + (j - p) = j by omega]
          unfold fl
          rw [List.any_cons, show ((j : Int) == (j : Int)) = true by simp, Bool.true_or]
          rfl
        rw [e1, e2, e3, List.nil_append]
section
variable (l : List S68) (l1 : List S71) (hu : AllUp l) (h20 : l.length ≤ 20)
include hu h20
theorem ranc_loop (a : Nat) (ha : a < l.length) : ∀ (m i : Nat) (acc : List Int), i + m = a + 1 → acc.length ≤ i → Ev (fun k => q4_Ancestors.l0 k (a : Int) acc (i : Int) l l1) (acc ++ fl (fun j => isB l (a : Int) j) m i, 0)
  | 0, i, acc, hi, hl => by
    refine Ev.step (fun k => by rw [q4_Ancestors.l0]) ?_
    simp only [show ¬ ((i : Int) ≤ (a : Int)) by omega, ↓reduceIte, fl, List.append_nil]; exact Ev.now _
  | m + 1, i, acc, hi, hl => by
    refine Ev.step (fun k => by rw [q4_Ancestors.l0]) ?_
    simp only [show ((i : Int) ≤ (a : Int)) by omega, ↓reduceIte]
    refine Ev.bind (below1_ev l l1 hu h20 (a : Int) (i : Int) ⟨by omega, by omega⟩ (by omega)) ?_
    rw [w64 _ (by omega) (by omega)]
    unfold fl
    cases hq : isB l (a : Int) (i : Int)
    · simp only [Bool.false_eq_true, ↓reduceIte]; exact ranc_loop a ha m (i + 1) acc (by omega) (by omega)
    · simp only [show acc.length < 17592186044416 by omega, ↓reduceIte]
      have := ranc_loop a ha m (i + 1) (acc ++ [(i : Int)]) (by omega) (by simp; omega)
      rw [List.append_assoc] at this; exact this
theorem below_loop (a : Int) : ∀ (m i : Nat) (acc : List Int), i + m = l.length → acc.length ≤ i → Ev (fun k => types_Below.l0 k a acc (l.length : Int) (i : Int) l l1) (acc ++ fl (fun j => isB l j a) m i, 0)
  | 0, i, acc, hi, hl => by
    refine Ev.step (fun k => by rw [types_Below.l0]) ?_
    simp only [show ¬ ((i : Int) < (l.length : Int)) by omega, ↓reduceIte, fl, List.append_nil]; exact Ev.now _
  | m + 1, i, acc, hi, hl => by
    refine Ev.step (fun k => by rw [types_Below.l0]) ?_
    simp only [show ((i : Int) < (l.length : Int)) by omega, ↓reduceIte]
    refine Ev.bind (is_ev l l1 hu h20 (i : Int) a ⟨by omega, by omega⟩) ?_
    rw [w64 _ (by omega) (by omega)]
    unfold fl
    cases hq : isB l (i : Int) a
    · simp only [Bool.false_eq_true, ↓reduceIte]; exact below_loop a m (i + 1) acc (by omega) (by omega)
    · simp only [show acc.length < 17592186044416 by omega, ↓reduceIte]
      have := below_loop a m (i + 1) (acc ++ [(i : Int)]) (by omega) (by simp; omega)
      rw [List.append_assoc] at this; exact this
theorem rbelow_loop (a : Int) (ha : 0 ≤ a) : ∀ (m i : Nat) (acc : List Int), i + m = l.length → acc.length ≤ i → Ev (fun k => q4_Below.l0 k a acc (i : Int) l l1) (acc ++ fl (fun j => isB l j a) m i, 0)
  | 0, i, acc, hi, hl => by
    refine Ev.step (fun k => by rw [q4_Below.l0]) ?_
    simp only [show ¬ ((i : Int) < (l.length : Int)) by omega, ↓reduceIte, fl, List.append_nil]; exact Ev.now _
  | m + 1, i, acc, hi, hl => by
    refine Ev.step (fun k => by rw [q4_Below.l0]) ?_
    simp only [show ((i : Int) < (l.length : Int)) by omega, ↓reduceIte]
    refine Ev.bind (below1_ev l l1 hu h20 (i : Int) a ⟨by omega, by omega⟩ ha) ?_
    rw [w64 _ (by omega) (by omega)]
    unfold fl
    cases hq : isB l (i : Int) a
    · simp only [Bool.false_eq_true, ↓reduceIte]; exact rbelow_loop a ha m (i + 1) acc (by omega) (by omega)
    · simp only [show acc.length < 17592186044416 by omega, ↓reduceIte]
      have := rbelow_loop a ha m (i + 1) (acc ++ [(i : Int)]) (by omega) (by simp; omega)
      rw [List.append_assoc] at this; exact this
end
theorem eta77 (x : S77) : (⟨x.f0, x.f1, x.f2, x.f3⟩ : S77) = x := rfl
theorem attrs_copy (t : List S77) (h8 : t.length ≤ 9223372036854775806) (ht : ∀ x ∈ t, x.f3.length < 8796093022208) : ∀ (m i : Nat), i + m = t.length → Ev (fun k => types_Attrs.l0 k t (t.length : Int) (i : Int)) (t, 0)
  | 0, i, hi => by
    refine Ev.step (fun k => by rw [types_Attrs.l0]) ?_
    simp only [show ¬ ((i : Int) < (t.length : Int)) by omega, ↓reduceIte]; exact Ev.now _
  | m + 1, i, hi => by
    have hil : i < t.length := by omega
    have hx := ht _ (List.getElem_mem hil)
    refine Ev.step (fun k => by rw [types_Attrs.l0]) ?_
    simp only [show ((i : Int) < (t.length : Int)) by omega, show (0 : Int) ≤ (i : Int) by omega, ↓reduceIte]
    rw [rd77_nat _ _ hil, w64 _ (by omega) (by omega), Int.toNat_natCast]
    unfold clone_string.f
    simp only [hx, ↓reduceIte, Option.bind_some, eta77]
    rw [List.set_getElem_self]
    exact attrs_copy t h8 ht m (i + 1) (by omega)
theorem rattrs_copy (t : List S77) (h8 : t.length < 2513169434916) (ht : ∀ x ∈ t, x.f3.length < 8796093022208) : ∀ (m i : Nat), i + m = t.length → Ev (fun k => q4_Attrs.l0 k (t.take i) t (i : Int)) (t, 0)
  | 0, i, hi => by
    refine Ev.step (fun k => by rw [q4_Attrs.l0]) ?_
    rw [List.take_of_length_le (by omega)]
    simp only [show ¬ ((i : Int) < (t.length : Int)) by omega, ↓reduceIte]; exact Ev.now _
  | m + 1, i, hi => by
    have hil : i < t.length := by omega
    have hx := ht _ (List.getElem_mem hil)
    refine Ev.step (fun k => by rw [q4_Attrs.l0]) ?_
    rw [rd77_nat _ _ hil, w64 _ (by omega) (by omega)]
    simp only [show ((i : Int) < (t.length : Int)) by omega, show (0 : Int) ≤ (i : Int) by omega, ↓reduceIte, Option.bind_some, List.length_nil, Nat.zero_add, hx, List.nil_append, List.length_take, show min i t.length < 2513169434916 by omega, eta77]
    have := rattrs_copy t h8 ht m (i + 1) (by omega)
    rw [List.take_succ_eq_append_getElem hil] at this
    exact this
theorem scan_zero {F : Nat → Int} : ∀ (m i : Nat), scan F m i = 0 → ∀ j, i ≤ j → j < i + m → F j = 0
  | 0, i, _, j, h1, h2 => by omega
  | m + 1, i, h, j, h1, h2 => by
    unfold scan at h
    split at h
    · next h0 =>
      rcases Nat.lt_or_eq_of_le h1 with h1 | rfl
      · exact scan_zero m (i + 1) h j (by omega) (by omega)
      · exact h0
    · next h0 => exact absurd h h0
theorem attrE_zero {pre : List S77} {a : S77} (h : attrE pre a = 0) : a.f3.length ≤ 20 := by
  unfold attrE at h
  split at h
  · split at h
    · exact absurd h (by decide)
    · unfold boundsE at h
      split at h
      · next h0 =>
        unfold namesE at h0
        split at h0
        · exact absurd h0 (by decide)
        · omega
      · next h0 => exact absurd h h0
  · exact absurd h (by decide)
theorem own_names {l : List S68} {i : Nat} (h : nodeE l i = 0) : ∀ x ∈ (rd_T68 l (i : Int)).f3, x.f3.length ≤ 20 := by
  intro x hx
  unfold nodeE at h
  split at h
  · split at h
    · exact absurd h (by decide)
    · split at h
      · exact absurd h (by decide)
      · split at h
        · exact absurd h (by decide)
        · split at h
          · exact absurd h (by decide)
          · obtain ⟨u, hu⟩ := attrsE_own l 19 (i : Int) (by omega)
            rw [hu] at h
            obtain ⟨q, hq, rfl⟩ := List.getElem_of_mem hx
            have := scan_zero _ _ h (u.length + q) (by simp) (by simp; omega)
            unfold attrF at this
            have := attrE_zero this
            rw [rd77_nat _ _ (by simp; omega), List.getElem_append_right (by omega)] at this
            simpa using this
  · exact absurd h (by decide)
theorem attrsE_names {l : List S68} (hv : ∀ j, j < l.length → nodeE l j = 0) : ∀ (n i : Nat), i < l.length → ∀ x ∈ attrsE l n (i : Int), x.f3.length ≤ 20
  | 0, i, _ => fun x hx => by cases hx
  | n + 1, i, hi => by
    intro x hx
    obtain ⟨h4, h5⟩ := nodeE_zero (hv i hi)
    rw [attrsE_pos _ _ _ (by omega)] at hx
    rcases List.mem_append.1 hx with hx | hx
    · rcases Int.lt_or_le (rd_T68 l (i : Int)).f1 0 with hc | hc
      · rw [attrsE_neg _ _ _ hc] at hx; cases hx
      · obtain ⟨p, hp⟩ : ∃ p : Nat, (rd_T68 l (i : Int)).f1 = (p : Int) := ⟨(rd_T68 l (i : Int)).f1.toNat, by omega⟩
        rw [hp] at hx h5
        exact attrsE_names hv n p (by omega) x hx
    · exact own_names (hv i hi) x hx
theorem EqualI_loop (l : List Int) (hl : l.length ≤ 9223372036854775806) : ∀ (m i : Nat), i + m = l.length → Ev (fun k => slices_Equal_int_int.l0 k l l (l.length : Int) (i : Int)) true
  | 0, i, hi => by
    refine Ev.step (fun k => by rw [slices_Equal_int_int.l0]) ?_
    simp only [show ¬ ((i : Int) < (l.length : Int)) by omega, ↓reduceIte]; exact Ev.now _
  | m + 1, i, hi => by
    refine Ev.step (fun k => by rw [slices_Equal_int_int.l0]) ?_
    simp only [show ((i : Int) < (l.length : Int)) by omega, show (0 : Int) ≤ (i : Int) by omega, ↓reduceIte]
    rw [w64 _ (by omega) (by omega)]; exact EqualI_loop l hl m (i + 1) (by omega)
theorem EqualI_ev (l : List Int) (hl : l.length ≤ 9223372036854775806) : Ev (fun k => slices_Equal_int_int.f k l l) true := by
  unfold slices_Equal_int_int.f
  simp only [↓reduceIte]; exact EqualI_loop l hl _ 0 (Nat.zero_add _)
theorem Strings_loop (l : List ByteArray) (hl : l.length ≤ 9223372036854775806) : ∀ (m i : Nat), i + m = l.length → Ev (fun k => q4_Strings.l0 k l l (i : Int)) true
  | 0, i, hi => by
    refine Ev.step (fun k => by rw [q4_Strings.l0]) ?_
    simp only [show ¬ ((i : Int) < (l.length : Int)) by omega, ↓reduceIte]; exact Ev.now _
  | m + 1, i, hi => by
    refine Ev.step (fun k => by rw [q4_Strings.l0]) ?_
    simp only [show ((i : Int) < (l.length : Int)) by omega, show (0 : Int) ≤ (i : Int) by omega, ↓reduceIte]
    rw [w64 _ (by omega) (by omega)]; exact Strings_loop l hl m (i + 1) (by omega)
theorem Strings_ev (l : List ByteArray) (hl : l.length ≤ 9223372036854775806) : Ev (fun k => q4_Strings.f k l l) true := by
  unfold q4_Strings.f
  simp only [↓reduceIte]; exact Strings_loop l hl _ 0 (Nat.zero_add _)
theorem SameAttrs_loop (l : List S77) (hl : l.length ≤ 9223372036854775806) (ht : ∀ x ∈ l, x.f3.length < 8796093022208) : ∀ (m i : Nat), i + m = l.length → Ev (fun k => q4_SameAttrs.l0 k l l (i : Int)) true
  | 0, i, hi => by
    refine Ev.step (fun k => by rw [q4_SameAttrs.l0]) ?_
    simp only [show ¬ ((i : Int) < (l.length : Int)) by omega, ↓reduceIte]; exact Ev.now _
  | m + 1, i, hi => by
    have hil : i < l.length := by omega
    have hx := ht _ (List.getElem_mem hil)
    refine Ev.step (fun k => by rw [q4_SameAttrs.l0]) ?_
    simp only [show ((i : Int) < (l.length : Int)) by omega, show (0 : Int) ≤ (i : Int) by omega, ↓reduceIte]
    rw [rd77_nat _ _ hil]
    refine Ev.bind (Strings_ev _ (by omega)) ?_
    simp only [↓reduceIte]
    rw [w64 _ (by omega) (by omega)]; exact SameAttrs_loop l hl ht m (i + 1) (by omega)
theorem SameAttrs_ev (l : List S77) (hl : l.length ≤ 9223372036854775806) (ht : ∀ x ∈ l, x.f3.length < 8796093022208) : Ev (fun k => q4_SameAttrs.f k l l) true := by
  unfold q4_SameAttrs.f
  simp only [↓reduceIte]; exact SameAttrs_loop l hl ht _ 0 (Nat.zero_add _)
def ancE (l : List S68) (l1 : List S71) (a : Int) : List Int × Int := if givenE l l1 [a] = 0 then ((chain l 20 a).reverse, 0) else ([], givenE l l1 [a])
def belowE (l : List S68) (l1 : List S71) (a : Int) : List Int × Int := if givenE l l1 [a] = 0 then (fl (fun j => isB l j a) l.length 0, 0) else ([], givenE l l1 [a])
def attrsX (l : List S68) (l1 : List S71) (a : Int) : List S77 × Int := if givenE l l1 [a] = 0 then (attrsE l 20 a, 0) else ([], givenE l l1 [a])
theorem given_aa (l : List S68) (l1 : List S71) (a : Int) : givenE l l1 [a, a] = givenE l l1 [a] := by
  unfold givenE
  simp only [List.all_cons, List.all_nil, Bool.and_true, Bool.and_self]
section
variable (l : List S68) (l1 : List S71) (hg : Good l) (h : Small l) (h1g : ∀ x ∈ l1, good71 x) (h1l : l1.length ≤ 30)
include hg h h1g h1l
theorem Ancestors_ev (a : Int) : Ev (fun k => types_Ancestors.f k l l1 a) (ancE l l1 a) := by
  have h20 := h.1
  unfold types_Ancestors.f ancE
  refine Ev.bind (given_ev l l1 hg h h1g h1l _) ?_
  by_cases h0 : givenE l l1 [a] = 0
  · obtain ⟨hv, hs⟩ := givenE_zero h0
    simp only [h0, ↓reduceIte]
    exact Ev.bind (line_ev l l1 (validE_up hv) h20 a (hs a (by simp)).2) (Ev.now _)
  · simp only [h0, ↓reduceIte]; exact Ev.now _
theorem rAncestors_ev (a : Int) : Ev (fun k => q4_Ancestors.f k l l1 a) (ancE l l1 a) := by
  have h20 := h.1
  unfold q4_Ancestors.f ancE
  refine Ev.bind (rgiven_ev l l1 hg h h1g h1l _ _) ?_
  rw [given_aa]
  by_cases h0 : givenE l l1 [a] = 0
  · obtain ⟨hv, hs⟩ := givenE_zero h0
    obtain ⟨h1, h2⟩ := hs a (by simp)
    have h22 := h2.2
    simp only [h0, ↓reduceIte]
    rw [chain_fl (validE_up hv) 20 a h2 (by omega)]
    obtain ⟨j, rfl⟩ : ∃ j : Nat, a = (j : Int) := ⟨a.toNat, by omega⟩
    rw [show ((j : Int) + 1).toNat = j + 1 by omega]
    have := ranc_loop l l1 (validE_up hv) h20 j (by omega) (j + 1) 0 [] (by omega) (by simp)
    exact this
  · simp only [h0, ↓reduceIte]; exact Ev.now _
theorem Below_ev (a : Int) : Ev (fun k => types_Below.f k l l1 a) (belowE l l1 a) := by
  have h20 := h.1
  unfold types_Below.f belowE
  refine Ev.bind (given_ev l l1 hg h h1g h1l _) ?_
  by_cases h0 : givenE l l1 [a] = 0
  · obtain ⟨hv, hs⟩ := givenE_zero h0
    simp only [h0, ↓reduceIte]
    exact below_loop l l1 (validE_up hv) h20 a l.length 0 [] (by omega) (by simp)
  · simp only [h0, ↓reduceIte]; exact Ev.now _
theorem rBelow_ev (a : Int) : Ev (fun k => q4_Below.f k l l1 a) (belowE l l1 a) := by
  have h20 := h.1
  unfold q4_Below.f belowE
  refine Ev.bind (rgiven_ev l l1 hg h h1g h1l _ _) ?_
  rw [given_aa]
  by_cases h0 : givenE l l1 [a] = 0
  · obtain ⟨hv, hs⟩ := givenE_zero h0
    simp only [h0, ↓reduceIte]
    exact rbelow_loop l l1 (validE_up hv) h20 a (hs a (by simp)).1 l.length 0 [] (by omega) (by simp)
  · simp only [h0, ↓reduceIte]; exact Ev.now _
theorem Attrs_facts {a : Int} (h0 : givenE l l1 [a] = 0) : (attrsE l 20 a).length ≤ 600 ∧ ∀ x ∈ attrsE l 20 a, x.f3.length < 8796093022208 := by
  have h20 := h.1
  obtain ⟨hv, hs⟩ := givenE_zero h0
  obtain ⟨h1, h2⟩ := hs a (by simp)
  have h22 := h2.2
  obtain ⟨j, rfl⟩ : ∃ j : Nat, a = (j : Int) := ⟨a.toNat, by omega⟩
  have h3 := attrsE_len h 20 j (by omega) (by omega) (fun q _ hq => validE_up hv q hq)
  refine ⟨by omega, fun x hx => ?_⟩
  have := attrsE_names (validE_zero hv).2.2.2.1 20 j (by omega) x hx
  omega
theorem Attrs_ev (a : Int) : Ev (fun k => types_Attrs.f k l l1 a) (attrsX l l1 a) := by
  have h20 := h.1
  unfold types_Attrs.f attrsX
  refine Ev.bind (given_ev l l1 hg h h1g h1l _) ?_
  by_cases h0 : givenE l l1 [a] = 0
  · obtain ⟨hv, hs⟩ := givenE_zero h0
    obtain ⟨f1, f2⟩ := Attrs_facts l l1 hg h h1g h1l h0
    obtain ⟨h1, h2⟩ := hs a (by simp)
    have h22 := h2.2
    obtain ⟨j, rfl⟩ : ∃ j : Nat, a = (j : Int) := ⟨a.toNat, by omega⟩
    simp only [h0, ↓reduceIte]
    refine Ev.bind (attrs_ev l l1 h 20 j (Nat.le_refl _) (by omega) (by omega) (fun q _ hq => validE_up hv q hq)) ?_
    exact attrs_copy _ (by omega) f2 _ 0 (Nat.zero_add _)
  · simp only [h0, ↓reduceIte]; exact Ev.now _
theorem rAttrs_ev (a : Int) : Ev (fun k => q4_Attrs.f k l l1 a) (attrsX l l1 a) := by
  have h20 := h.1
  unfold q4_Attrs.f attrsX
  refine Ev.bind (rgiven_ev l l1 hg h h1g h1l _ _) ?_
  rw [given_aa]
  by_cases h0 : givenE l l1 [a] = 0
  · obtain ⟨hv, hs⟩ := givenE_zero h0
    obtain ⟨f1, f2⟩ := Attrs_facts l l1 hg h h1g h1l h0
    obtain ⟨h1, h2⟩ := hs a (by simp)
    have h22 := h2.2
    obtain ⟨j, rfl⟩ : ∃ j : Nat, a = (j : Int) := ⟨a.toNat, by omega⟩
    simp only [h0, ↓reduceIte]
    refine Ev.bind (rattrs_ev l l1 h 20 j (Nat.le_refl _) (by omega) (by omega) (fun q _ hq => validE_up hv q hq)) ?_
    exact rattrs_copy _ (by omega) f2 _ 0 (Nat.zero_add _)
  · simp only [h0, ↓reduceIte]; exact Ev.now _
end
end Go.Proofs.Ytfpianecohobjaa.P
