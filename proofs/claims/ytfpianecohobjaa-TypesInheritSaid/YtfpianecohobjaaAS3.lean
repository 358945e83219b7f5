/- typesOrder_holds, typesBounds_holds, typesInherit_holds: a part of the proof that the law returns true for every input. No condition. -/
import Derived.Test.YtfpianecohobjaaAS2
import Derived.Test.YtfpianecohobjaaAPx23
namespace Go.Proofs.Ytfpianecohobjaa.P
open Go.RowKit Go.Proofs.YtfpianecohobjaaW.PrintWords Go.Proofs.YtfpianecohobjaaW.PrintLast
set_option maxRecDepth 100000
set_option linter.unusedVariables false
set_option linter.unusedSimpArgs false
set_option linter.unusedSectionVars false
def AllUp (l : List S68) : Prop := ∀ j : Nat, j < l.length → -1 ≤ (rd_T68 l (j : Int)).f1 ∧ (rd_T68 l (j : Int)).f1 < (j : Int)
theorem firstE_zero {F : Nat → Int} {nm : Nat → ByteArray} {r : ByteArray × Int} : ∀ (m i : Nat), (firstE F nm r m i).2 = 0 → (∀ j, i ≤ j → j < i + m → F j = 0) ∧ r.2 = 0
  | 0, i, h => ⟨fun j h1 h2 => by omega, h⟩
  | m + 1, i, h => by
    unfold firstE at h
    split at h
    · next h0 =>
      obtain ⟨h1, h2⟩ := firstE_zero m (i + 1) h
      refine ⟨fun j hj hk => ?_, h2⟩
      rcases Nat.lt_or_eq_of_le hj with hj | rfl
      · exact h1 j hj (by omega)
      · exact h0
    · next h0 => exact absurd h h0
theorem validE_zero {l : List S68} {l1 : List S71} (h : (validE l l1).2 = 0) : 0 < l.length ∧ l.length ≤ 12 ∧ l1.length ≤ 20 ∧ (∀ j, j < l.length → nodeE l j = 0) ∧ (∀ j, j < l1.length → edgeE l l1 j = 0) := by
  unfold validE at h
  split at h
  · exact absurd h (by simp)
  · split at h
    · exact absurd h (by simp)
    · split at h
      · exact absurd h (by simp)
      · obtain ⟨h1, h2⟩ := firstE_zero _ _ h
        obtain ⟨h3, _⟩ := firstE_zero _ _ h2
        exact ⟨by omega, by omega, by omega, fun j hj => h1 j (by omega) (by omega), fun j hj => h3 j (by omega) (by omega)⟩
theorem validE_up {l : List S68} {l1 : List S71} (h : (validE l l1).2 = 0) : AllUp l := fun j hj => nodeE_zero ((validE_zero h).2.2.2.1 j hj)
theorem rd_nat (l : List Int) (i : Nat) (h : i < l.length) : rd l (i : Int) = l[i] := by unfold rd; simp [h]
theorem IndexI_ev (l : List Int) (a : Int) (hl : l.length ≤ 9223372036854775807) : ∀ (m i : Nat), i + m = l.length →
    ∃ r, Ev (fun k => slices_Index_int_int.l0 k l a (l.length : Int) (i : Int)) r ∧ decide (r ≥ 0) = (l.drop i).any (fun x => x == a)
  | 0, i, h => ⟨-1, Ev.step (fun k => by rw [slices_Index_int_int.l0]) (by simp only [show ¬ ((i : Int) < (l.length : Int)) by omega, ↓reduceIte]; exact Ev.now _), by
      rw [List.drop_eq_nil_of_le (by omega)]; rfl⟩
  | m + 1, i, h => by
    have hi : i < l.length := by omega
    have hd := List.drop_eq_getElem_cons hi
    have hr := rd_nat l i hi
    by_cases he : a = l[i]
    · refine ⟨(i : Int), Ev.step (fun k => by rw [slices_Index_int_int.l0]) ?_, ?_⟩
      · simp only [hr, show ((i : Int) < (l.length : Int)) by omega, show (0 : Int) ≤ (i : Int) by omega, he, if_true, ↓reduceIte]; exact Ev.now _
      · rw [hd, List.any_cons, he]; simp
    · obtain ⟨r, hr', hp⟩ := IndexI_ev l a hl m (i + 1) (by omega)
      refine ⟨r, Ev.step (fun k => by rw [slices_Index_int_int.l0]) ?_, ?_⟩
      · simp only [hr, show ((i : Int) < (l.length : Int)) by omega, show (0 : Int) ≤ (i : Int) by omega, he, if_true, if_false, ↓reduceIte]
        rw [w64 _ (by omega) (by omega)]; exact hr'
      · rw [hd, hp, List.any_cons]
        have : (l[i] == a) = false := by simpa using fun h => he h.symm
        rw [this]; rfl
theorem ContainsI_ev (l : List Int) (a : Int) (hl : l.length ≤ 9223372036854775807) : Ev (fun k => slices_Contains_int_int.f k l a) (l.any (fun x => x == a)) := by
  obtain ⟨r, hr, hp⟩ := IndexI_ev l a hl l.length 0 (by omega)
  unfold slices_Contains_int_int.f slices_Index_int_int.f
  refine Ev.bind hr ?_
  rw [hp]; exact Ev.now _
theorem Reverse_loop : ∀ (m : Nat) (x : List Int) (i j : Nat), x.length ≤ 9223372036854775807 → i + j + 1 = x.length → j ≤ i + m →
    ∃ r, Ev (fun k => slices_Reverse_int_int.l0 k x (i : Int) (j : Int)) r ∧ r.length = x.length ∧ ∀ p, p < x.length → r[p]? = if i ≤ p ∧ p ≤ j then x[x.length - 1 - p]? else x[p]?
  | m, x, i, j, hx, hij, hm => by
    by_cases hc : i < j
    · cases m with
      | zero => omega
      | succ m =>
        obtain ⟨r, hr, hl, hp⟩ := Reverse_loop m ((x.set i x[j]).set j x[i]) (i + 1) (j - 1) (by simpa using hx) (by simp; omega) (by omega)
        refine ⟨r, Ev.step (fun k => by rw [slices_Reverse_int_int.l0]) ?_, by simpa using hl, fun p hpl => ?_⟩
        · simp only [show ((i : Int) < (j : Int)) by omega, show (0 : Int) ≤ (j : Int) by omega, show ((j : Int) < (x.length : Int)) by omega, show (0 : Int) ≤ (i : Int) by omega, show ((i : Int) < (x.length : Int)) by omega, ↓reduceIte]
          rw [rd_nat _ _ (by omega), rd_nat _ _ (by omega), w64 _ (by omega) (by omega), w64 _ (by omega) (by omega), Int.toNat_natCast, Int.toNat_natCast, show ((j : Int) - 1) = ((j - 1 : Nat) : Int) by omega]
          exact hr
        · have := hp p (by simpa using hpl)
          rw [this]
          simp only [List.length_set, List.getElem?_set]
          by_cases h1 : i ≤ p ∧ p ≤ j
          · rw [if_pos h1]
            by_cases h2 : i + 1 ≤ p ∧ p ≤ j - 1
            · rw [if_pos h2, if_neg (by omega), if_neg (by omega)]
            · rw [if_neg h2]
              by_cases h3 : p = i
              · subst h3
                rw [if_neg (by omega), if_pos rfl, if_pos hpl]
                rw [show x.length - 1 - p = j by omega, List.getElem?_eq_getElem (by omega)]
              · obtain rfl : p = j := by omega
                rw [if_pos rfl, if_pos (by simpa using hpl)]
                rw [show x.length - 1 - p = i by omega, List.getElem?_eq_getElem (by omega)]
          · rw [if_neg h1, if_neg (by omega), if_neg (by omega), if_neg (by omega)]
    · refine ⟨x, Ev.step (fun k => by rw [slices_Reverse_int_int.l0]) ?_, rfl, fun p hpl => ?_⟩
      · simp only [show ¬ ((i : Int) < (j : Int)) by omega, ↓reduceIte]; exact Ev.now _
      · split
        · rw [show x.length - 1 - p = p by omega]
        · rfl
theorem Reverse_ev (l : List Int) (hl : l.length ≤ 9223372036854775807) : Ev (fun k => slices_Reverse_int_int.f k l) l.reverse := by
  unfold slices_Reverse_int_int.f
  by_cases h0 : l.length = 0
  · obtain rfl := List.length_eq_zero_iff.mp h0
    refine Ev.step (fun k => by rw [slices_Reverse_int_int.l0]) ?_
    rw [show wrap64 ((([] : List Int).length : Int) - 1) = -1 from w64 _ (by simp) (by simp)]
    simp only [show ¬ ((0 : Int) < -1) by decide, ↓reduceIte]; exact Ev.now _
  · obtain ⟨r, hr, hlr, hp⟩ := Reverse_loop l.length l 0 (l.length - 1) hl (by omega) (by omega)
    have : r = l.reverse := by
      refine List.ext_getElem? fun p => ?_
      by_cases h : p < l.length
      · rw [hp p h, if_pos (by omega), List.getElem?_reverse h]
      · rw [List.getElem?_eq_none (by omega), List.getElem?_eq_none (by simp; omega)]
    rw [← this, w64 _ (by omega) (by omega), show ((l.length : Int) - 1) = ((l.length - 1 : Nat) : Int) by omega]
    exact hr
def chain (l : List S68) : Nat → Int → List Int
  | 0, _ => []
  | n + 1, i => if i < 0 then [] else i :: chain l n (rd_T68 l i).f1
theorem chain_neg (l : List S68) (n : Nat) (i : Int) (hi : i < 0) : chain l n i = [] := by
  cases n with
  | zero => rfl
  | succ n => exact if_pos hi
theorem chain_pos (l : List S68) (n : Nat) (i : Int) (hi : 0 ≤ i) : chain l (n + 1) i = i :: chain l n (rd_T68 l i).f1 := if_neg (by omega)
theorem chain_len (l : List S68) : ∀ (n : Nat) (i : Int), (chain l n i).length ≤ n
  | 0, i => Nat.le_refl _
  | n + 1, i => by
    unfold chain
    split
    · exact Nat.zero_le _
    · exact Nat.succ_le_succ (chain_len l n _)
def isB (l : List S68) (a b : Int) : Bool := (chain l 20 a).any (fun x => x == b)
/-- A type's number, or -1. -/
def At (l : List S68) (i : Int) : Prop := -1 ≤ i ∧ i < (l.length : Int)
theorem up_at {l : List S68} (hu : AllUp l) {i : Int} (hi : At l i) (h0 : 0 ≤ i) : At l (rd_T68 l i).f1 ∧ (rd_T68 l i).f1 < i := by
  obtain ⟨j, rfl⟩ : ∃ j : Nat, i = (j : Int) := ⟨i.toNat, by omega⟩
  have hi2 := hi.2
  obtain ⟨h1, h2⟩ := hu j (by omega)
  exact ⟨⟨h1, by omega⟩, h2⟩
section
variable (l : List S68) (l1 : List S71) (hu : AllUp l) (h20 : l.length ≤ 20)
include hu h20
theorem line_loop : ∀ (n : Nat) (i : Int) (acc : List Int), At l i → i < (n : Int) → acc.length + n ≤ 9223372036 → Ev (fun k => types_line.l0 k i acc l l1) (acc ++ chain l n i).reverse
  | n, i, acc, hi, hn, ha => by
    rcases Int.lt_or_le i 0 with hc | hc
    · rw [chain_neg _ _ _ hc, List.append_nil]
      refine Ev.step (fun k => by rw [types_line.l0]) ?_
      simp only [show ¬ (i ≥ 0) by omega, ↓reduceIte]
      exact Ev.bind (Reverse_ev acc (by omega)) (Ev.now _)
    · cases n with
      | zero => omega
      | succ n =>
        obtain ⟨h1, h2⟩ := up_at hu hi hc
        have hi2 := hi.2
        refine Ev.step (fun k => by rw [types_line.l0]) ?_
        simp only [show (i ≥ 0) by omega, show acc.length < 17592186044416 by omega, hc, hi2, ↓reduceIte]
        rw [chain_pos _ _ _ hc]
        have := line_loop n (rd_T68 l i).f1 (acc ++ [i]) h1 (by omega) (by simp; omega)
        rw [List.append_assoc] at this
        exact this
theorem line_ev (i : Int) (hi : At l i) : Ev (fun k => types_line.f k l l1 i) (chain l 20 i).reverse := by
  have hi2 := hi.2
  have := line_loop l l1 hu h20 20 i [] hi (by omega) (by simp)
  exact this
theorem is_ev (a b : Int) (ha : At l a) : Ev (fun k => types_is.f k l l1 a b) (isB l a b) := by
  unfold types_is.f
  refine Ev.bind (line_ev l l1 hu h20 a ha) ?_
  have hl : (chain l 20 a).reverse.length ≤ 9223372036854775807 := by have := chain_len l 20 a; simp; omega
  refine Ev.bind (ContainsI_ev _ b hl) ?_
  rw [List.any_reverse]; exact Ev.now _
def joinE (l : List S68) (b : Int) : Nat → Int → Int × Int
  | 0, _ => (0, 10)
  | n + 1, x => if x < 0 then (0, 10) else if isB l b x = true then (x, 0) else joinE l b n (rd_T68 l x).f1
theorem joinE_neg (b : Int) (n : Nat) (i : Int) (hi : i < 0) : joinE l b n i = (0, 10) := by
  cases n with
  | zero => rfl
  | succ n => exact if_pos hi
theorem join_loop (b : Int) (hb : At l b) : ∀ (n : Nat) (x : Int), At l x → x < (n : Int) → Ev (fun k => types_Join.l0 k b x l l1) (joinE l b n x)
  | n, x, hx, hn => by
    rcases Int.lt_or_le x 0 with hc | hc
    · rw [joinE_neg l hu h20 _ _ _ hc]
      refine Ev.step (fun k => by rw [types_Join.l0]) ?_
      simp only [show ¬ (x ≥ 0) by omega, ↓reduceIte]; exact Ev.now _
    · cases n with
      | zero => omega
      | succ n =>
        obtain ⟨h1, h2⟩ := up_at hu hx hc
        have hi2 := hx.2
        refine Ev.step (fun k => by rw [types_Join.l0]) ?_
        simp only [show (x ≥ 0) by omega, hc, hi2, ↓reduceIte]
        refine Ev.bind (is_ev l l1 hu h20 b x hb) ?_
        unfold joinE
        rw [if_neg (show ¬ x < 0 by omega)]
        cases isB l b x
        · simp only [Bool.false_eq_true, ↓reduceIte]; exact join_loop b hb n _ h1 (by omega)
        · simp only [↓reduceIte]; exact Ev.now _
end
def givenE (l : List S68) (l1 : List S71) (s : List Int) : Int := if (validE l l1).2 = 0 then (if s.all (fun x => insideB x l) = true then 0 else 6) else (validE l l1).2
theorem givenE_zero {l : List S68} {l1 : List S71} {s : List Int} (h : givenE l l1 s = 0) : (validE l l1).2 = 0 ∧ ∀ x ∈ s, 0 ≤ x ∧ At l x := by
  unfold givenE at h
  split at h
  · next h0 =>
    refine ⟨h0, fun x hx => ?_⟩
    split at h
    · next h1 =>
      have := List.all_eq_true.1 h1 x hx
      unfold insideB at this
      simp at this
      exact ⟨this.1, ⟨by omega, this.2⟩⟩
    · exact absurd h (by decide)
  · next h0 => exact absurd h h0
section
variable (l : List S68) (l1 : List S71) (hg : Good l) (h : Small l) (h1g : ∀ x ∈ l1, good71 x) (h1l : l1.length ≤ 30)
include hg h h1g h1l
theorem given_ev (s : List Int) : Ev (fun k => types_given.f k l l1 s) (givenE l l1 s) := by
  unfold types_given.f givenE any_given.f
  refine Ev.bind (valid_ev l l1 hg h h1g h1l) ?_
  by_cases h0 : (validE l l1).2 = 0
  · simp only [h0, ↓reduceIte, Option.bind_some]
    have e : (s.any fun a => decide (a < 0) || decide ((l.length : Int) ≤ a)) = !(s.all (fun x => insideB x l)) := by
      rw [List.all_eq_not_any_not, Bool.not_not]
      congr 1
      funext x; unfold insideB
      rw [Bool.eq_iff_iff]; simp
    rw [e]
    cases s.all (fun x => insideB x l)
    · simp only [Bool.not_false, ↓reduceIte, Bool.false_eq_true]; exact Ev.now _
    · simp only [Bool.not_true, ↓reduceIte, Bool.false_eq_true]; exact Ev.now _
  · simp only [h0, ↓reduceIte]; exact Ev.now _
def isE (l : List S68) (l1 : List S71) (a b : Int) : Bool := if givenE l l1 [a, b] = 0 then isB l a b else false
theorem Is_ev (a b : Int) : Ev (fun k => types_Is.f k l l1 a b) (isE l l1 a b) := by
  have h20 := h.1
  unfold types_Is.f isE
  refine Ev.bind (given_ev l l1 hg h h1g h1l _) ?_
  by_cases h0 : givenE l l1 [a, b] = 0
  · obtain ⟨hv, hs⟩ := givenE_zero h0
    simp only [h0, ↓reduceIte]
    exact Ev.bind (is_ev l l1 (validE_up hv) h20 a b (hs a (by simp)).2) (Ev.now _)
  · simp only [h0, ↓reduceIte]; exact Ev.now _
def meetE (l : List S68) (l1 : List S71) (a b : Int) : Int × Int := if givenE l l1 [a, b] = 0 then (if isB l a b = true then (a, 0) else if isB l b a = true then (b, 0) else (0, 13)) else (0, givenE l l1 [a, b])
theorem Meet_ev (a b : Int) : Ev (fun k => types_Meet.f k l l1 a b) (meetE l l1 a b) := by
  have h20 := h.1
  unfold types_Meet.f meetE
  refine Ev.bind (given_ev l l1 hg h h1g h1l _) ?_
  by_cases h0 : givenE l l1 [a, b] = 0
  · obtain ⟨hv, hs⟩ := givenE_zero h0
    simp only [h0, ↓reduceIte]
    refine Ev.bind (is_ev l l1 (validE_up hv) h20 a b (hs a (by simp)).2) ?_
    cases isB l a b
    · simp only [Bool.false_eq_true, ↓reduceIte]
      refine Ev.bind (is_ev l l1 (validE_up hv) h20 b a (hs b (by simp)).2) ?_
      cases isB l b a
      · simp only [Bool.false_eq_true, ↓reduceIte]; exact Ev.now _
      · simp only [↓reduceIte]; exact Ev.now _
    · simp only [↓reduceIte]; exact Ev.now _
  · simp only [h0, ↓reduceIte]; exact Ev.now _
def joinX (l : List S68) (l1 : List S71) (a b : Int) : Int × Int := if givenE l l1 [a, b] = 0 then joinE l b 20 a else (0, givenE l l1 [a, b])
theorem Join_ev (a b : Int) : Ev (fun k => types_Join.f k l l1 a b) (joinX l l1 a b) := by
  have h20 := h.1
  unfold types_Join.f joinX
  refine Ev.bind (given_ev l l1 hg h h1g h1l _) ?_
  by_cases h0 : givenE l l1 [a, b] = 0
  · obtain ⟨hv, hs⟩ := givenE_zero h0
    have ha := (hs a (by simp)).2
    have ha2 := ha.2
    simp only [h0, ↓reduceIte]
    exact join_loop l l1 (validE_up hv) h20 b (hs b (by simp)).2 20 a ha (by omega)
  · simp only [h0, ↓reduceIte]; exact Ev.now _
end
end Go.Proofs.Ytfpianecohobjaa.P
