/- typesLists_holds: a part of the proof that the law returns true for every input. No condition. -/
import Derived.Test.YtfpianecohobjaaVS0
namespace Go.Proofs.Ytfpianecohobjaa.P
open Go.RowKit Go.Proofs.YtfpianecohobjaaW.PrintWords Go.Proofs.YtfpianecohobjaaW.PrintLast
set_option maxRecDepth 100000
set_option linter.unusedVariables false
set_option linter.unusedSimpArgs false
theorem reach_num : reachBytes = 140737488351232 := rfl
/-- The first error among m in a row. -/
def scan (F : Nat → Int) : Nat → Nat → Int
  | 0, _ => 0
  | m + 1, i => if F i = 0 then scan F m (i + 1) else F i
theorem take_nat {α : Type} (l : List α) (i : Nat) : l.take ((i : Int)).toNat = l.take i := by rw [Int.toNat_natCast]
theorem rdOf_nat {α : Type} (d : α) (l : List α) (i : Nat) (h : i < l.length) : rdOf d l (i : Int) = l[i] := by unfold rdOf; simp [h]
theorem rd68_nat (l : List S68) (i : Nat) (h : i < l.length) : rd_T68 l (i : Int) = l[i] := by unfold rd_T68; simp [h]
theorem rd71_nat (l : List S71) (i : Nat) (h : i < l.length) : rd_T71 l (i : Int) = l[i] := by unfold rd_T71; simp [h]
theorem rd77_nat (l : List S77) (i : Nat) (h : i < l.length) : rd_T77 l (i : Int) = l[i] := by unfold rd_T77; simp [h]
def namesF (l : List ByteArray) (i : Nat) : Int := if nameB (rdOf ByteArray.empty l (i : Int)) = true then (if (l.take i).any (fun x => x.toList == (rdOf ByteArray.empty l (i : Int)).toList) = true then 5 else 0) else 2
def namesE (l : List ByteArray) : Int := if (l.length : Int) > 20 then 3 else scan (namesF l) l.length 0
def goodN (l : List ByteArray) : Prop := l.length ≤ reachBytes ∧ ∀ x ∈ l, x.size ≤ reachBytes
theorem names_loop (l : List ByteArray) (hl : goodN l) : ∀ (m i : Nat), i + m = l.length → Ev (fun k => types_names.l0 k l l (l.length : Int) (i : Int)) (scan (namesF l) m i)
  | 0, i, h => by
    refine Ev.step (fun k => by rw [types_names.l0]) ?_
    simp only [show ¬ ((i : Int) < (l.length : Int)) by omega, ↓reduceIte]; exact Ev.now _
  | m + 1, i, h => by
    have hn := reach_num
    have hi : i < l.length := by omega
    have hs : (rdOf ByteArray.empty l (i : Int)).size ≤ 9223372036854775807 := by
      rw [rdOf_nat _ _ _ hi]; have := hl.2 _ (List.getElem_mem hi); omega
    have hL := hl.1
    refine Ev.step (fun k => by rw [types_names.l0]) ?_
    simp only [show ((i : Int) < (l.length : Int)) by omega, show (0 : Int) ≤ (i : Int) by omega, show (i : Int) ≤ (l.length : Int) by omega, ↓reduceIte]
    refine Ev.bind (IsName_ev _ hs) ?_
    have ih := names_loop l hl m (i + 1) (by omega)
    unfold scan
    cases hb : nameB (rdOf ByteArray.empty l (i : Int))
    · have : namesF l i = 2 := by unfold namesF; simp [hb]
      simp only [this, Bool.false_eq_true, ↓reduceIte]; exact Ev.now _
    · simp only [↓reduceIte]
      refine Ev.bind (Contains_ev _ _ (by rw [take_nat, List.length_take]; omega)) ?_
      rw [take_nat]
      cases hc : (l.take i).any (fun x => x.toList == (rdOf ByteArray.empty l (i : Int)).toList)
      · have : namesF l i = 0 := by unfold namesF; simp only [hb, hc, Bool.false_eq_true, ↓reduceIte]
        simp only [this, Bool.false_eq_true, ↓reduceIte]
        rw [w64 _ (by omega) (by omega)]; exact ih
      · have : namesF l i = 5 := by unfold namesF; simp only [hb, hc, ↓reduceIte]
        simp only [this, ↓reduceIte]; exact Ev.now _
theorem names_ev (l : List ByteArray) (hl : goodN l) : Ev (fun k => types_names.f k l) (namesE l) := by
  unfold types_names.f namesE
  by_cases h : (l.length : Int) > 20
  · simp only [h, ↓reduceIte]; exact Ev.now _
  · simp only [h, ↓reduceIte]; exact names_loop l hl _ 0 (by omega)
theorem any_take_succ {α : Type} (q : α → Bool) (l : List α) (j m : Nat) (h : j < l.length) : ((l.drop j).take (m + 1)).any q = (q l[j] || ((l.drop (j + 1)).take m).any q) := by
  rw [List.drop_eq_getElem_cons h, List.take_succ_cons, List.any_cons]
theorem rnames_dup (l : List ByteArray) (hl : goodN l) (i : Nat) (hi : i < l.length) (r : Int) (hr : Ev (fun k => q4_names.l0 k l ((i : Int) + 1)) r) : ∀ (m j : Nat), j + m = i →
    Ev (fun k => q4_names.l1 k l (i : Int) (j : Int)) (if ((l.drop j).take m).any (fun x => x.toList == (rdOf ByteArray.empty l (i : Int)).toList) = true then 5 else r)
  | 0, j, h => by
    have hn := reach_num
    have hL := hl.1
    refine Ev.step (fun k => by rw [q4_names.l1]) ?_
    simp only [show ¬ ((j : Int) < (i : Int)) by omega, ↓reduceIte, List.take_zero, List.any_nil, Bool.false_eq_true]
    rw [w64 _ (by omega) (by omega)]; exact hr
  | m + 1, j, h => by
    have hn := reach_num
    have hL := hl.1
    have hj : j < l.length := by omega
    refine Ev.step (fun k => by rw [q4_names.l1]) ?_
    rw [any_take_succ _ _ _ _ hj, rdOf_nat _ _ _ hj]
    simp only [show ((j : Int) < (i : Int)) by omega, show (0 : Int) ≤ (j : Int) by omega, show ((j : Int) < (l.length : Int)) by omega, show (0 : Int) ≤ (i : Int) by omega, show ((i : Int) < (l.length : Int)) by omega, ↓reduceIte]
    by_cases he : (l[j]).toList = (rdOf ByteArray.empty l (i : Int)).toList
    · simp only [he, ↓reduceIte, beq_self_eq_true, Bool.true_or]; exact Ev.now _
    · simp only [he, ↓reduceIte, beq_eq_false_iff_ne.mpr he, Bool.false_or]
      rw [w64 _ (by omega) (by omega)]; exact rnames_dup l hl i hi r hr m (j + 1) (by omega)
theorem rnames_loop (l : List ByteArray) (hl : goodN l) : ∀ (m i : Nat), i + m = l.length → Ev (fun k => q4_names.l0 k l (i : Int)) (scan (namesF l) m i)
  | 0, i, h => by
    refine Ev.step (fun k => by rw [q4_names.l0]) ?_
    simp only [show ¬ ((i : Int) < (l.length : Int)) by omega, ↓reduceIte]; exact Ev.now _
  | m + 1, i, h => by
    have hn := reach_num
    have hi : i < l.length := by omega
    have hs : (rdOf ByteArray.empty l (i : Int)).size ≤ 9223372036854775807 := by
      rw [rdOf_nat _ _ _ hi]; have := hl.2 _ (List.getElem_mem hi); omega
    refine Ev.step (fun k => by rw [q4_names.l0]) ?_
    simp only [show ((i : Int) < (l.length : Int)) by omega, show (0 : Int) ≤ (i : Int) by omega, ↓reduceIte]
    refine Ev.bind (rIsName_ev _ hs) ?_
    have ih := rnames_loop l hl m (i + 1) (by omega)
    have hd := rnames_dup l hl i hi _ ih i 0 (by omega)
    unfold scan
    cases hb : nameB (rdOf ByteArray.empty l (i : Int))
    · have : namesF l i = 2 := by unfold namesF; simp [hb]
      simp only [this, Bool.false_eq_true, ↓reduceIte]; exact Ev.now _
    · simp only [↓reduceIte]
      rw [List.drop_zero] at hd
      cases hc : (l.take i).any (fun x => x.toList == (rdOf ByteArray.empty l (i : Int)).toList)
      · have : namesF l i = 0 := by unfold namesF; simp only [hb, hc, Bool.false_eq_true, ↓reduceIte]
        simp only [this, ↓reduceIte]
        simp only [hc, Bool.false_eq_true, ↓reduceIte] at hd; exact hd
      · have : namesF l i = 5 := by unfold namesF; simp only [hb, hc, ↓reduceIte]
        simp only [this, show ¬ ((5 : Int) = 0) by decide, ↓reduceIte]
        simp only [hc, ↓reduceIte] at hd; exact hd
theorem rnames_ev (l : List ByteArray) (hl : goodN l) : Ev (fun k => q4_names.f k l) (namesE l) := by
  unfold q4_names.f namesE
  by_cases h : (l.length : Int) > 20
  · simp only [h, ↓reduceIte]; exact Ev.now _
  · simp only [h, ↓reduceIte]; exact rnames_loop l hl _ 0 (by omega)
def boundsE (a1 a2 : Int) (l3 : List ByteArray) : Int := if namesE l3 = 0 then (if 0 < l3.length then (if a1 = 0 ∧ a2 = (l3.length : Int) - 1 then 0 else 6) else (if -1000000 ≤ a1 ∧ a1 ≤ a2 ∧ a2 ≤ 1000000 then 0 else 6)) else namesE l3
def attrE (pre : List S77) (a : S77) : Int := if nameB a.f0 = true then (if pre.any (fun m => m.f0.toList == a.f0.toList) = true then 5 else boundsE a.f1 a.f2 a.f3) else 2
theorem namesE_nil : namesE [] = 0 := rfl
theorem in_ev (a b c : Int) : q4_in.f a b c = some (decide (b ≤ a) && decide (a ≤ c)) := by
  unfold q4_in.f
  by_cases h : a ≥ b
  · simp only [h, ↓reduceIte]; simp [show b ≤ a from h]
  · simp only [h, ↓reduceIte]; simp [show ¬ b ≤ a from h]
theorem attr_j0 (b : Bool) (a0 : ByteArray) (a1 a2 : Int) (l3 : List ByteArray) (hl : goodN l3) (hb : l3.length = 0 → b = (decide (-1000000 ≤ a1 ∧ a1 ≤ a2 ∧ a2 ≤ 1000000))) (h0 : namesE l3 = 0) :
    Ev (fun k => types_attribute.j0 k b a0 a1 a2 l3) (boundsE a1 a2 l3) := by
  have hn := reach_num
  have hL := hl.1
  refine Ev.step (fun k => by rw [types_attribute.j0]) ?_
  unfold boundsE
  rw [if_pos h0]
  by_cases hz : l3.length = 0
  · have hb := hb hz
    simp only [show ¬ ((l3.length : Int) > 0) by omega, show ¬ (0 < l3.length) by omega, ↓reduceIte, hb, decide_eq_true_eq]
    by_cases hc : -1000000 ≤ a1 ∧ a1 ≤ a2 ∧ a2 ≤ 1000000
    · simp only [if_pos hc]; exact Ev.now _
    · simp only [if_neg hc]; exact Ev.now _
  · rw [w64 _ (by omega) (by omega)]
    simp only [show ((l3.length : Int) > 0) by omega, show (0 < l3.length) by omega, ↓reduceIte]
    by_cases h1 : a1 = 0
    · by_cases h2 : a2 = (l3.length : Int) - 1
      · simp only [h1, h2, ↓reduceIte, and_self]; exact Ev.now _
      · simp only [h1, h2, ↓reduceIte, and_false]; exact Ev.now _
    · simp only [h1, ↓reduceIte, false_and]; exact Ev.now _
theorem attribute_ev (pre : List S77) (a : S77) (hs : a.f0.size ≤ reachBytes) (hl : goodN a.f3) : Ev (fun k => types_attribute.f k a.f0 a.f1 a.f2 a.f3 pre) (attrE pre a) := by
  have hn := reach_num
  unfold types_attribute.f attrE any_attr.f
  refine Ev.bind (IsName_ev _ (by omega)) ?_
  cases hb : nameB a.f0
  · simp only [Bool.false_eq_true, ↓reduceIte]; exact Ev.now _
  · simp only [↓reduceIte, Option.bind_some]
    cases hp : pre.any (fun m => m.f0.toList == a.f0.toList)
    · simp only [Bool.false_eq_true, ↓reduceIte]
      refine Ev.bind (names_ev _ hl) ?_
      by_cases h0 : namesE a.f3 = 0
      · simp only [h0, ↓reduceIte]
        by_cases h1 : -1000000 ≤ a.f1
        · by_cases h2 : a.f1 ≤ a.f2
          · simp only [h1, h2, ↓reduceIte]; exact attr_j0 _ _ _ _ _ hl (fun _ => by simp [h1, h2]) h0
          · simp only [h1, h2, ↓reduceIte]; exact attr_j0 _ _ _ _ _ hl (fun _ => by simp [h1, h2]) h0
        · simp only [h1, ↓reduceIte]; exact attr_j0 _ _ _ _ _ hl (fun _ => by simp [h1]) h0
      · have : boundsE a.f1 a.f2 a.f3 = namesE a.f3 := by unfold boundsE; rw [if_neg h0]
        simp only [h0, ↓reduceIte, this]; exact Ev.now _
    · simp only [↓reduceIte]; exact Ev.now _
theorem rattribute_ev (a0 : ByteArray) (a1 a2 : Int) (l3 : List ByteArray) (hl : goodN l3) : Ev (fun k => q4_attribute.f k a0 a1 a2 l3) (boundsE a1 a2 l3) := by
  have hn := reach_num
  have hL := hl.1
  unfold q4_attribute.f
  by_cases hz : l3.length = 0
  · obtain rfl : l3 = [] := List.length_eq_zero_iff.mp hz
    unfold boundsE
    simp only [namesE_nil, List.length_nil, Nat.lt_irrefl, ↓reduceIte, in_ev, Option.bind_some, show ((0 : Nat) : Int) = 0 from rfl]
    by_cases hc : -1000000 ≤ a1 ∧ a1 ≤ a2 ∧ a2 ≤ 1000000
    · obtain ⟨h1, h2, h3⟩ := hc
      simp only [show a1 ≤ 1000000 by omega, h1, h2, h3, decide_true, Bool.and_self, ↓reduceIte, and_self]; exact Ev.now _
    · simp only [if_neg hc]
      by_cases h1 : (decide ((-1000000 : Int) ≤ a1) && decide (a1 ≤ 1000000)) = true
      · simp only [h1, ↓reduceIte]
        have h2 : (decide (a1 ≤ a2) && decide (a2 ≤ 1000000)) = false := by
          simp at h1 ⊢; omega
        simp only [h2, Bool.false_eq_true, ↓reduceIte]; exact Ev.now _
      · simp only [h1, ↓reduceIte]; exact Ev.now _
  · simp only [show ¬ ((l3.length : Int) = 0) by omega, ↓reduceIte]
    refine Ev.bind (rnames_ev _ hl) ?_
    unfold boundsE
    by_cases h0 : namesE l3 = 0
    · rw [w64 _ (by omega) (by omega)]
      simp only [h0, ↓reduceIte, show (0 < l3.length) by omega]
      by_cases h1 : a1 = 0
      · by_cases h2 : a2 = (l3.length : Int) - 1
        · simp only [h1, h2, ↓reduceIte, and_self]; exact Ev.now _
        · simp only [h1, h2, ↓reduceIte, and_false]; exact Ev.now _
      · simp only [h1, ↓reduceIte, false_and]; exact Ev.now _
    · simp only [h0, ↓reduceIte]; exact Ev.now _
def attrsE (l : List S68) : Nat → Int → List S77
  | 0, _ => []
  | n + 1, i => if i < 0 then [] else attrsE l n (rd_T68 l i).f1 ++ (rd_T68 l i).f3
/-- The supertypes lie before their subtypes, up to i. -/
def Up (l : List S68) (i : Nat) : Prop := ∀ j : Nat, j ≤ i → j < l.length → -1 ≤ (rd_T68 l (j : Int)).f1 ∧ (rd_T68 l (j : Int)).f1 < (j : Int)
def Small (l : List S68) : Prop := l.length ≤ 20 ∧ ∀ x ∈ l, x.f3.length ≤ 30
theorem small_rd {l : List S68} (h : Small l) (i : Nat) (hi : i < l.length) : (rd_T68 l (i : Int)).f3.length ≤ 30 := by
  rw [rd68_nat _ _ hi]; exact h.2 _ (List.getElem_mem hi)
theorem attrsE_len {l : List S68} (h : Small l) : ∀ (n i : Nat), i < n → i < l.length → Up l i → (attrsE l n (i : Int)).length ≤ 30 * n
  | n + 1, i, hn, hi, hu => by
    have h3 := small_rd h i hi
    obtain ⟨h4, h5⟩ := hu i (Nat.le_refl _) hi
    unfold attrsE
    rw [if_neg (by omega), List.length_append]
    rcases Int.lt_or_le (rd_T68 l (i : Int)).f1 0 with hc | hc
    · have : attrsE l n (rd_T68 l (i : Int)).f1 = [] := by
        cases n with
        | zero => rfl
        | succ n => unfold attrsE; rw [if_pos hc]
      rw [this]; simp; omega
    · obtain ⟨p, hp⟩ : ∃ p : Nat, (rd_T68 l (i : Int)).f1 = (p : Int) := ⟨(rd_T68 l (i : Int)).f1.toNat, by omega⟩
      rw [hp] at h5 ⊢
      have := attrsE_len h n p (by omega) (by omega) (fun j hj hjl => hu j (by omega) hjl)
      omega
theorem attrsE_neg (l : List S68) (n : Nat) (i : Int) (hi : i < 0) : attrsE l n i = [] := by
  cases n with
  | zero => rfl
  | succ n => unfold attrsE; rw [if_pos hi]
theorem attrsE_pos (l : List S68) (n : Nat) (i : Int) (hi : 0 ≤ i) : attrsE l (n + 1) i = attrsE l n (rd_T68 l i).f1 ++ (rd_T68 l i).f3 := if_neg (by omega)
theorem attrs_ev (l : List S68) (l1 : List S71) (h : Small l) : ∀ (n i : Nat), n ≤ 20 → i < n → i < l.length → Up l i → Ev (fun k => types_attrs.f k l l1 (i : Int)) (attrsE l n (i : Int))
  | n + 1, i, h20, hn, hi, hu => by
    have h3 := small_rd h i hi
    obtain ⟨h4, h5⟩ := hu i (Nat.le_refl _) hi
    refine Ev.step (fun k => by rw [types_attrs.f]) ?_
    simp only [show ((i : Int) < (l.length : Int)) by omega, show (0 : Int) ≤ (i : Int) by omega, ↓reduceIte]
    rw [attrsE_pos _ _ _ (by omega)]
    rcases Int.lt_or_le (rd_T68 l (i : Int)).f1 0 with hc | hc
    · rw [attrsE_neg _ _ _ hc]
      simp only [show ¬ ((rd_T68 l (i : Int)).f1 ≥ 0) by omega, ↓reduceIte, List.length_nil, show 0 + (rd_T68 l (i : Int)).f3.length < 2513169434916 by omega]
      exact Ev.now _
    · obtain ⟨p, hp⟩ : ∃ p : Nat, (rd_T68 l (i : Int)).f1 = (p : Int) := ⟨(rd_T68 l (i : Int)).f1.toNat, by omega⟩
      rw [hp] at h5 ⊢
      have hu' : Up l p := fun j hj hjl => hu j (by omega) hjl
      have ih := attrs_ev l l1 h n p (by omega) (by omega) (by omega) hu'
      have hl := attrsE_len h n p (by omega) (by omega) hu'
      simp only [show ((p : Int) ≥ 0) by omega, ↓reduceIte]
      refine Ev.bind ih ?_
      simp only [show (attrsE l n (p : Int)).length + (rd_T68 l (i : Int)).f3.length < 2513169434916 by omega, ↓reduceIte]
      exact Ev.now _
theorem rattrs_ev (l : List S68) (l1 : List S71) (h : Small l) : ∀ (n i : Nat), n ≤ 20 → i < n → i < l.length → Up l i → Ev (fun k => q4_attrs.f k l l1 (i : Int)) (attrsE l n (i : Int))
  | n + 1, i, h20, hn, hi, hu => by
    have h3 := small_rd h i hi
    obtain ⟨h4, h5⟩ := hu i (Nat.le_refl _) hi
    refine Ev.step (fun k => by rw [q4_attrs.f]) ?_
    simp only [show ((i : Int) < (l.length : Int)) by omega, show (0 : Int) ≤ (i : Int) by omega, show ¬ ((i : Int) < 0) by omega, ↓reduceIte, Option.bind_some, List.length_nil, List.nil_append, Nat.zero_add]
    rw [attrsE_pos _ _ _ (by omega)]
    rcases Int.lt_or_le (rd_T68 l (i : Int)).f1 0 with hc | hc
    · rw [attrsE_neg _ _ _ hc]
      refine Ev.bind (a := []) ?_ ?_
      · refine Ev.step (fun k => by rw [q4_attrs.f]) ?_
        simp only [hc, ↓reduceIte]; exact Ev.now _
      · simp only [List.length_nil, Nat.zero_add, show (0 : Nat) < 2513169434916 by omega, show (rd_T68 l (i : Int)).f3.length < 2513169434916 by omega, ↓reduceIte]
        exact Ev.now _
    · obtain ⟨p, hp⟩ : ∃ p : Nat, (rd_T68 l (i : Int)).f1 = (p : Int) := ⟨(rd_T68 l (i : Int)).f1.toNat, by omega⟩
      rw [hp] at h5 ⊢
      have hu' : Up l p := fun j hj hjl => hu j (by omega) hjl
      have ih := rattrs_ev l l1 h n p (by omega) (by omega) (by omega) hu'
      have hl := attrsE_len h n p (by omega) (by omega) hu'
      refine Ev.bind ih ?_
      simp only [show (attrsE l n (p : Int)).length < 2513169434916 by omega, show (attrsE l n (p : Int)).length + (rd_T68 l (i : Int)).f3.length < 2513169434916 by omega, ↓reduceIte]
      exact Ev.now _
def Good (l : List S68) : Prop := ∀ x ∈ l, good68 x
theorem good_rd {l : List S68} (h : Good l) (i : Nat) (hi : i < l.length) : good68 (rd_T68 l (i : Int)) := by
  rw [rd68_nat _ _ hi]; exact h _ (List.getElem_mem hi)
theorem attrsE_good {l : List S68} (h : Good l) : ∀ (n i : Nat), i < l.length → Up l i → ∀ x ∈ attrsE l n (i : Int), good77 x
  | 0, i, _, _ => fun x hx => by cases hx
  | n + 1, i, hi, hu => by
    intro x hx
    obtain ⟨h4, h5⟩ := hu i (Nat.le_refl _) hi
    unfold attrsE at hx
    rw [if_neg (by omega)] at hx
    rcases List.mem_append.1 hx with hx | hx
    · rcases Int.lt_or_le (rd_T68 l (i : Int)).f1 0 with hc | hc
      · rw [attrsE_neg _ _ _ hc] at hx; cases hx
      · obtain ⟨p, hp⟩ : ∃ p : Nat, (rd_T68 l (i : Int)).f1 = (p : Int) := ⟨(rd_T68 l (i : Int)).f1.toNat, by omega⟩
        rw [hp] at hx h5
        exact attrsE_good h n p (by omega) (fun j hj hjl => hu j (by omega) hjl) x hx
    · exact (good_rd h i hi).2.2.2.2 x hx
def attrF (t : List S77) (j : Nat) : Int := attrE (t.take j) (rd_T77 t (j : Int))
def nodeE (l : List S68) (i : Nat) : Int :=
  if nameB (rd_T68 l (i : Int)).f0 = true then
    if (l.take i).any (fun m => m.f0.toList == (rd_T68 l (i : Int)).f0.toList) = true then 5
    else if (rd_T68 l (i : Int)).f1 < -1 ∨ (rd_T68 l (i : Int)).f1 ≥ (i : Int) then 6
    else if ((rd_T68 l (i : Int)).f3.length : Int) > 4 then 3
    else if ((attrsE l 20 (i : Int)).length : Int) > 8 then 3
    else scan (attrF (attrsE l 20 (i : Int))) (rd_T68 l (i : Int)).f3.length ((attrsE l 20 (i : Int)).length - (rd_T68 l (i : Int)).f3.length)
  else 2
theorem node_loop (t : List S77) (ht : ∀ x ∈ t, good77 x) (h8 : t.length ≤ 9223372036854775806) : ∀ (m j : Nat), j + m = t.length → Ev (fun k => types_node.l0 k t (j : Int)) (scan (attrF t) m j)
  | 0, j, h => by
    refine Ev.step (fun k => by rw [types_node.l0]) ?_
    simp only [show ¬ ((j : Int) < (t.length : Int)) by omega, ↓reduceIte]; exact Ev.now _
  | m + 1, j, h => by
    have hj : j < t.length := by omega
    have hg : good77 (rd_T77 t (j : Int)) := by rw [rd77_nat _ _ hj]; exact ht _ (List.getElem_mem hj)
    refine Ev.step (fun k => by rw [types_node.l0]) ?_
    simp only [show ((j : Int) < (t.length : Int)) by omega, show ((j : Int) ≤ (t.length : Int)) by omega, show (0 : Int) ≤ (j : Int) by omega, ↓reduceIte, take_nat]
    refine Ev.bind (attribute_ev (t.take j) _ hg.1 hg.2.2.2) ?_
    unfold scan
    by_cases h0 : attrF t j = 0
    · have h0' : attrE (t.take j) (rd_T77 t (j : Int)) = 0 := h0
      simp only [h0, h0', ↓reduceIte]
      rw [w64 _ (by omega) (by omega)]; exact node_loop t ht h8 m (j + 1) (by omega)
    · have h0' : ¬ attrE (t.take j) (rd_T77 t (j : Int)) = 0 := h0
      simp only [h0, h0', ↓reduceIte]; exact Ev.now _
theorem attrsE_own (l : List S68) (n : Nat) (i : Int) (hi : 0 ≤ i) : ∃ u, attrsE l (n + 1) i = u ++ (rd_T68 l i).f3 := ⟨_, by unfold attrsE; rw [if_neg (by omega)]⟩
theorem node_ev (l : List S68) (l1 : List S71) (hg : Good l) (h : Small l) (i : Nat) (hi : i < l.length) (hu : ∀ j : Nat, j < i → -1 ≤ (rd_T68 l (j : Int)).f1 ∧ (rd_T68 l (j : Int)).f1 < (j : Int)) :
    Ev (fun k => types_node.f k l l1 (i : Int)) (nodeE l i) := by
  have hn := reach_num
  have hx := good_rd hg i hi
  have h20 := h.1
  have h30 := small_rd h i hi
  unfold types_node.f nodeE any_node.f
  simp only [show ((i : Int) < (l.length : Int)) by omega, show (0 : Int) ≤ (i : Int) by omega, show ((i : Int) ≤ (l.length : Int)) by omega, ↓reduceIte, take_nat, Option.bind_some]
  refine Ev.bind (IsName_ev _ (by have := hx.1; omega)) ?_
  cases hb : nameB (rd_T68 l (i : Int)).f0
  · simp only [Bool.false_eq_true, ↓reduceIte]; exact Ev.now _
  · simp only [↓reduceIte]
    cases hp : (l.take i).any (fun m => m.f0.toList == (rd_T68 l (i : Int)).f0.toList)
    · simp only [Bool.false_eq_true, ↓reduceIte]
      by_cases h1 : (rd_T68 l (i : Int)).f1 < -1
      · simp only [h1, ↓reduceIte, true_or]
        refine Ev.step (fun k => by rw [types_node.j0]) ?_
        simp only [↓reduceIte]; exact Ev.now _
      · by_cases h2 : (rd_T68 l (i : Int)).f1 ≥ (i : Int)
        · simp only [h1, h2, ↓reduceIte, or_true, decide_true]
          refine Ev.step (fun k => by rw [types_node.j0]) ?_
          simp only [↓reduceIte]; exact Ev.now _
        · simp only [h1, h2, ↓reduceIte, or_self, decide_false]
          refine Ev.step (fun k => by rw [types_node.j0]) ?_
          simp only [Bool.false_eq_true, ↓reduceIte]
          by_cases h4 : ((rd_T68 l (i : Int)).f3.length : Int) > 4
          · simp only [h4, ↓reduceIte]; exact Ev.now _
          · simp only [h4, ↓reduceIte]
            have hup : Up l i := fun j hj hjl => by
              rcases Nat.lt_or_eq_of_le hj with hj | rfl
              · exact hu j hj
              · exact ⟨by omega, by omega⟩
            refine Ev.bind (attrs_ev l l1 h 20 i (Nat.le_refl _) (by omega) hi hup) ?_
            obtain ⟨u, hu'⟩ := attrsE_own l 19 (i : Int) (by omega)
            have hgt := attrsE_good hg 20 i hi hup
            have hlen : (attrsE l 20 (i : Int)).length = u.length + (rd_T68 l (i : Int)).f3.length := by rw [hu', List.length_append]
            have hle := attrsE_len h 20 i (by omega) hi hup
            generalize attrsE l 20 (i : Int) = t at hgt hlen hle ⊢
            by_cases h8 : (t.length : Int) > 8
            · simp only [h8, ↓reduceIte]; exact Ev.now _
            · simp only [h8, ↓reduceIte]
              rw [w64 _ (by omega) (by omega), show ((t.length : Int) - ((rd_T68 l (i : Int)).f3.length : Int)) = ((t.length - (rd_T68 l (i : Int)).f3.length : Nat) : Int) by omega]
              exact node_loop t hgt (by omega) _ _ (by omega)
    · simp only [↓reduceIte]; exact Ev.now _
theorem rl2_tail (t : List S77) (ht : ∀ x ∈ t, good77 x) (h8 : t.length ≤ 9223372036854775806) (j : Nat) (hj : j < t.length) (r : Int) (hr : Ev (fun k => q4_node.l1 k t ((j : Int) + 1)) r) :
    Ev (fun k => q4_node.l2 k t (j : Int) (j : Int)) (if boundsE (rd_T77 t (j : Int)).f1 (rd_T77 t (j : Int)).f2 (rd_T77 t (j : Int)).f3 = 0 then r else boundsE (rd_T77 t (j : Int)).f1 (rd_T77 t (j : Int)).f2 (rd_T77 t (j : Int)).f3) := by
  have hg : good77 (rd_T77 t (j : Int)) := by rw [rd77_nat _ _ hj]; exact ht _ (List.getElem_mem hj)
  refine Ev.step (fun k => by rw [q4_node.l2]) ?_
  simp only [show ¬ ((j : Int) < (j : Int)) by omega, show ((j : Int) < (t.length : Int)) by omega, show (0 : Int) ≤ (j : Int) by omega, ↓reduceIte]
  refine Ev.bind (rattribute_ev _ _ _ _ hg.2.2.2) ?_
  by_cases h0 : boundsE (rd_T77 t (j : Int)).f1 (rd_T77 t (j : Int)).f2 (rd_T77 t (j : Int)).f3 = 0
  · simp only [h0, ↓reduceIte]; rw [w64 _ (by omega) (by omega)]; exact hr
  · simp only [h0, ↓reduceIte]; exact Ev.now _
theorem rl2_dup (t : List S77) (h8 : t.length ≤ 9223372036854775806) (i : Nat) (hi : i < t.length) (r : Int) (hr : Ev (fun k => q4_node.l2 k t (i : Int) (i : Int)) r) : ∀ (m j : Nat), j + m = i →
    Ev (fun k => q4_node.l2 k t (i : Int) (j : Int)) (if ((t.drop j).take m).any (fun x => x.f0.toList == (rd_T77 t (i : Int)).f0.toList) = true then 5 else r)
  | 0, j, h => by
    obtain rfl : j = i := by omega
    simp only [List.take_zero, List.any_nil, Bool.false_eq_true, ↓reduceIte]; exact hr
  | m + 1, j, h => by
    have hj : j < t.length := by omega
    refine Ev.step (fun k => by rw [q4_node.l2]) ?_
    rw [any_take_succ _ _ _ _ hj, rd77_nat _ _ hj]
    simp only [show ((j : Int) < (i : Int)) by omega, show (0 : Int) ≤ (j : Int) by omega, show ((j : Int) < (t.length : Int)) by omega, show (0 : Int) ≤ (i : Int) by omega, show ((i : Int) < (t.length : Int)) by omega, ↓reduceIte]
    by_cases he : (t[j]).f0.toList = (rd_T77 t (i : Int)).f0.toList
    · simp only [he, ↓reduceIte, beq_self_eq_true, Bool.true_or]; exact Ev.now _
    · simp only [he, ↓reduceIte, beq_eq_false_iff_ne.mpr he, Bool.false_or]
      rw [w64 _ (by omega) (by omega)]; exact rl2_dup t h8 i hi r hr m (j + 1) (by omega)
theorem rnode_loop (t : List S77) (ht : ∀ x ∈ t, good77 x) (h8 : t.length ≤ 9223372036854775806) : ∀ (m j : Nat), j + m = t.length → Ev (fun k => q4_node.l1 k t (j : Int)) (scan (attrF t) m j)
  | 0, j, h => by
    refine Ev.step (fun k => by rw [q4_node.l1]) ?_
    simp only [show ¬ ((j : Int) < (t.length : Int)) by omega, ↓reduceIte]; exact Ev.now _
  | m + 1, j, h => by
    have hn := reach_num
    have hj : j < t.length := by omega
    have hg : good77 (rd_T77 t (j : Int)) := by rw [rd77_nat _ _ hj]; exact ht _ (List.getElem_mem hj)
    have ih := rnode_loop t ht h8 m (j + 1) (by omega)
    have hd := rl2_dup t h8 j hj _ (rl2_tail t ht h8 j hj _ ih) j 0 (by omega)
    rw [List.drop_zero] at hd
    refine Ev.step (fun k => by rw [q4_node.l1]) ?_
    simp only [show ((j : Int) < (t.length : Int)) by omega, show (0 : Int) ≤ (j : Int) by omega, ↓reduceIte]
    refine Ev.bind (rIsName_ev _ (by have := hg.1; omega)) ?_
    unfold scan
    cases hb : nameB (rd_T77 t (j : Int)).f0
    · have : attrF t j = 2 := by unfold attrF attrE; simp [hb]
      simp only [this, Bool.false_eq_true, ↓reduceIte]; exact Ev.now _
    · simp only [↓reduceIte]
      cases hc : (t.take j).any (fun x => x.f0.toList == (rd_T77 t (j : Int)).f0.toList)
      · have e : attrF t j = boundsE (rd_T77 t (j : Int)).f1 (rd_T77 t (j : Int)).f2 (rd_T77 t (j : Int)).f3 := by unfold attrF attrE; simp only [hb, hc, Bool.false_eq_true, ↓reduceIte]
        simp only [hc, Bool.false_eq_true, ↓reduceIte] at hd
        rw [e]; exact hd
      · have e : attrF t j = 5 := by unfold attrF attrE; simp only [hb, hc, ↓reduceIte]
        simp only [hc, ↓reduceIte] at hd
        rw [e]; exact hd
theorem rnode_dup (l : List S68) (l1 : List S71) (h20 : l.length ≤ 9223372036854775806) (i : Nat) (hi : i < l.length) (a0 : ByteArray) (a1 : Int) (a2 : Bool) (a3 : List S77) (r : Int) (hr : Ev (fun k => q4_node.l0 k (i : Int) (i : Int) l l1 a0 a1 a2 a3) r) : ∀ (m j : Nat), j + m = i →
    Ev (fun k => q4_node.l0 k (i : Int) (j : Int) l l1 a0 a1 a2 a3) (if ((l.drop j).take m).any (fun x => x.f0.toList == a0.toList) = true then 5 else r)
  | 0, j, h => by
    obtain rfl : j = i := by omega
    simp only [List.take_zero, List.any_nil, Bool.false_eq_true, ↓reduceIte]; exact hr
  | m + 1, j, h => by
    have hj : j < l.length := by omega
    refine Ev.step (fun k => by rw [q4_node.l0]) ?_
    rw [any_take_succ _ _ _ _ hj, rd68_nat _ _ hj]
    simp only [show ((j : Int) < (i : Int)) by omega, show (0 : Int) ≤ (j : Int) by omega, show ((j : Int) < (l.length : Int)) by omega, ↓reduceIte]
    by_cases he : (l[j]).f0.toList = a0.toList
    · simp only [he, ↓reduceIte, beq_self_eq_true, Bool.true_or]; exact Ev.now _
    · simp only [he, ↓reduceIte, beq_eq_false_iff_ne.mpr he, Bool.false_or]
      rw [w64 _ (by omega) (by omega)]; exact rnode_dup l l1 h20 i hi a0 a1 a2 a3 r hr m (j + 1) (by omega)
theorem rnode_ev (l : List S68) (l1 : List S71) (hg : Good l) (h : Small l) (i : Nat) (hi : i < l.length) (hu : ∀ j : Nat, j < i → -1 ≤ (rd_T68 l (j : Int)).f1 ∧ (rd_T68 l (j : Int)).f1 < (j : Int)) :
    Ev (fun k => q4_node.f k l l1 (i : Int)) (nodeE l i) := by
  have hn := reach_num
  have hx := good_rd hg i hi
  have h20 := h.1
  have h30 := small_rd h i hi
  have tail : Ev (fun k => q4_node.l0 k (i : Int) (i : Int) l l1 (rd_T68 l (i : Int)).f0 (rd_T68 l (i : Int)).f1 (rd_T68 l (i : Int)).f2 (rd_T68 l (i : Int)).f3) (if (rd_T68 l (i : Int)).f1 < -1 ∨ (rd_T68 l (i : Int)).f1 ≥ (i : Int) then 6
    else if ((rd_T68 l (i : Int)).f3.length : Int) > 4 then 3
    else if ((attrsE l 20 (i : Int)).length : Int) > 8 then 3
    else scan (attrF (attrsE l 20 (i : Int))) (rd_T68 l (i : Int)).f3.length ((attrsE l 20 (i : Int)).length - (rd_T68 l (i : Int)).f3.length)) := by
    refine Ev.step (fun k => by rw [q4_node.l0]) ?_
    rw [w64 ((i : Int) - 1) (by omega) (by omega)]
    simp only [show ¬ ((i : Int) < (i : Int)) by omega, ↓reduceIte, in_ev, Option.bind_some]
    by_cases h1 : (rd_T68 l (i : Int)).f1 < -1 ∨ (rd_T68 l (i : Int)).f1 ≥ (i : Int)
    · have : (decide ((-1 : Int) ≤ (rd_T68 l (i : Int)).f1) && decide ((rd_T68 l (i : Int)).f1 ≤ (i : Int) - 1)) = false := by simp; omega
      simp only [this, if_pos h1, Bool.false_eq_true, ↓reduceIte]; exact Ev.now _
    · have : (decide ((-1 : Int) ≤ (rd_T68 l (i : Int)).f1) && decide ((rd_T68 l (i : Int)).f1 ≤ (i : Int) - 1)) = true := by simp; omega
      simp only [this, if_neg h1, ↓reduceIte]
      have hup : Up l i := fun j hj hjl => by
        rcases Nat.lt_or_eq_of_le hj with hj | rfl
        · exact hu j hj
        · exact ⟨by omega, by omega⟩
      refine Ev.bind (rattrs_ev l l1 h 20 i (Nat.le_refl _) (by omega) hi hup) ?_
      obtain ⟨u, hu'⟩ := attrsE_own l 19 (i : Int) (by omega)
      have hgt := attrsE_good hg 20 i hi hup
      have hlen : (attrsE l 20 (i : Int)).length = u.length + (rd_T68 l (i : Int)).f3.length := by rw [hu', List.length_append]
      have hle := attrsE_len h 20 i (by omega) hi hup
      generalize attrsE l 20 (i : Int) = t at hgt hlen hle ⊢
      by_cases h4 : ((rd_T68 l (i : Int)).f3.length : Int) > 4
      · simp only [h4, ↓reduceIte]
        refine Ev.step (fun k => by rw [q4_node.j1]) ?_
        simp only [↓reduceIte]; exact Ev.now _
      · simp only [h4, ↓reduceIte]
        refine Ev.step (fun k => by rw [q4_node.j1]) ?_
        by_cases h8 : (t.length : Int) > 8
        · simp only [h8, decide_true, ↓reduceIte]; exact Ev.now _
        · simp only [h8, decide_false, Bool.false_eq_true, ↓reduceIte]
          rw [w64 _ (by omega) (by omega), show ((t.length : Int) - ((rd_T68 l (i : Int)).f3.length : Int)) = ((t.length - (rd_T68 l (i : Int)).f3.length : Nat) : Int) by omega]
          exact rnode_loop t hgt (by omega) _ _ (by omega)
  have hd := rnode_dup l l1 (by omega) i hi _ _ _ _ _ tail i 0 (by omega)
  rw [List.drop_zero] at hd
  unfold q4_node.f nodeE
  simp only [show ((i : Int) < (l.length : Int)) by omega, show (0 : Int) ≤ (i : Int) by omega, ↓reduceIte]
  refine Ev.bind (rIsName_ev _ (by have := hx.1; omega)) ?_
  cases hb : nameB (rd_T68 l (i : Int)).f0
  · simp only [Bool.false_eq_true, ↓reduceIte]; exact Ev.now _
  · simp only [↓reduceIte]; exact hd
def insideB (x : Int) (l : List S68) : Bool := decide (0 ≤ x) && decide (x < (l.length : Int))
def boundB (a b : Int) : Bool := (decide (0 ≤ a) && decide (a ≤ 40)) && (decide (b = -1) || (decide (a ≤ b) && decide (b ≤ 40)))
def edgeE (l : List S68) (l1 : List S71) (i : Nat) : Int :=
  if nameB (rd_T71 l1 (i : Int)).f0 = true then
    if (l1.take i).any (fun m => m.f0.toList == (rd_T71 l1 (i : Int)).f0.toList) = true then 5
    else if (insideB (rd_T71 l1 (i : Int)).f1 l && insideB (rd_T71 l1 (i : Int)).f2 l && (boundB (rd_T71 l1 (i : Int)).f3 (rd_T71 l1 (i : Int)).f4 && boundB (rd_T71 l1 (i : Int)).f5 (rd_T71 l1 (i : Int)).f6)) = true then 0 else 6
  else 2
theorem bounded_ev (a b : Int) : types_bounded.f a b = some (boundB a b) := by
  unfold types_bounded.f boundB
  by_cases h1 : a ≥ 0 <;> by_cases h2 : a ≤ 40 <;> by_cases h3 : b = -1 <;> by_cases h4 : b ≥ a <;> by_cases h5 : b ≤ 40 <;>
    simp only [h1, h2, h3, h4, h5, ↓reduceIte, decide_true, decide_false, Bool.true_and, Bool.false_and, Bool.or_true, Bool.true_or, Bool.or_false, Bool.false_or, Bool.and_true, Bool.and_false, show 0 ≤ a ↔ a ≥ 0 from Iff.rfl, show a ≤ b ↔ b ≥ a from Iff.rfl] <;> simp_all
theorem rbound_ev (a b : Int) : q4_bound.f a b = some (boundB a b) := by
  unfold q4_bound.f boundB
  simp only [in_ev, Option.bind_some]
  by_cases h1 : (decide ((0 : Int) ≤ a) && decide (a ≤ 40)) = true
  · simp only [h1, ↓reduceIte, Bool.true_and]
    by_cases h3 : b = -1
    · simp only [h3, ↓reduceIte, decide_true, Bool.true_or]
    · simp only [h3, ↓reduceIte, decide_false, Bool.false_or]
  · simp only [h1, ↓reduceIte]; simp only [Bool.not_eq_true] at h1; simp only [h1, Bool.false_and, Bool.false_eq_true, ↓reduceIte]
theorem edge_ev (l : List S68) (l1 : List S71) (h1g : ∀ x ∈ l1, good71 x) (h1l : l1.length ≤ 9223372036854775806) (i : Nat) (hi : i < l1.length) : Ev (fun k => types_edge.f k l l1 (i : Int)) (edgeE l l1 i) := by
  have hn := reach_num
  have hx : good71 (rd_T71 l1 (i : Int)) := by rw [rd71_nat _ _ hi]; exact h1g _ (List.getElem_mem hi)
  unfold types_edge.f edgeE any_edge.f edge_inside.f
  simp only [show ((i : Int) < (l1.length : Int)) by omega, show (0 : Int) ≤ (i : Int) by omega, show ((i : Int) ≤ (l1.length : Int)) by omega, ↓reduceIte, take_nat, Option.bind_some]
  refine Ev.bind (IsName_ev _ (by have := hx.1; omega)) ?_
  generalize rd_T71 l1 (i : Int) = x
  cases hb : nameB x.f0
  · simp only [Bool.false_eq_true, ↓reduceIte]; exact Ev.now _
  · simp only [↓reduceIte]
    cases hp : (l1.take i).any (fun m => m.f0.toList == x.f0.toList)
    · simp only [Bool.false_eq_true, ↓reduceIte]
      have j0 : ∀ b : Bool, Ev (fun k => types_edge.j0 k b x.f0 x.f1 x.f2 x.f3 x.f4 x.f5 x.f6) (if (!b && (boundB x.f3 x.f4 && boundB x.f5 x.f6)) = true then 0 else 6) := by
        intro b
        refine Ev.step (fun k => by rw [types_edge.j0]) ?_
        simp only [bounded_ev, Option.bind_some]
        cases b <;> cases boundB x.f3 x.f4 <;> cases boundB x.f5 x.f6 <;> simp only [Bool.not_false, Bool.not_true, Bool.true_and, Bool.false_and, Bool.and_self, Bool.and_false, Bool.false_eq_true, ↓reduceIte] <;> exact Ev.now _
      change Ev (fun k => if insideB x.f1 l = true then types_edge.j0 k (!insideB x.f2 l) x.f0 x.f1 x.f2 x.f3 x.f4 x.f5 x.f6 else types_edge.j0 k true x.f0 x.f1 x.f2 x.f3 x.f4 x.f5 x.f6) _
      cases insideB x.f1 l
      · simp only [Bool.false_eq_true, ↓reduceIte, Bool.false_and]
        have := j0 true; simpa using this
      · simp only [↓reduceIte, Bool.true_and]
        have := j0 (!insideB x.f2 l); simpa using this
    · simp only [↓reduceIte]; exact Ev.now _
theorem redge_dup (l : List S68) (l1 : List S71) (h20 : l1.length ≤ 9223372036854775806) (i : Nat) (hi : i < l1.length) (a0 : ByteArray) (a1 a2 a3 a4 a5 a6 : Int) (r : Int) (hr : Ev (fun k => q4_edge.l0 k (i : Int) (i : Int) l l1 a0 a1 a2 a3 a4 a5 a6) r) : ∀ (m j : Nat), j + m = i →
    Ev (fun k => q4_edge.l0 k (i : Int) (j : Int) l l1 a0 a1 a2 a3 a4 a5 a6) (if ((l1.drop j).take m).any (fun x => x.f0.toList == a0.toList) = true then 5 else r)
  | 0, j, h => by
    obtain rfl : j = i := by omega
    simp only [List.take_zero, List.any_nil, Bool.false_eq_true, ↓reduceIte]; exact hr
  | m + 1, j, h => by
    have hj : j < l1.length := by omega
    refine Ev.step (fun k => by rw [q4_edge.l0]) ?_
    rw [any_take_succ _ _ _ _ hj, rd71_nat _ _ hj]
    simp only [show ((j : Int) < (i : Int)) by omega, show (0 : Int) ≤ (j : Int) by omega, show ((j : Int) < (l1.length : Int)) by omega, ↓reduceIte]
    by_cases he : (l1[j]).f0.toList = a0.toList
    · simp only [he, ↓reduceIte, beq_self_eq_true, Bool.true_or]; exact Ev.now _
    · simp only [he, ↓reduceIte, beq_eq_false_iff_ne.mpr he, Bool.false_or]
      rw [w64 _ (by omega) (by omega)]; exact redge_dup l l1 h20 i hi a0 a1 a2 a3 a4 a5 a6 r hr m (j + 1) (by omega)
theorem redge_ev (l : List S68) (l1 : List S71) (hl : l.length ≤ 9223372036854775806) (h1g : ∀ x ∈ l1, good71 x) (h1l : l1.length ≤ 9223372036854775806) (i : Nat) (hi : i < l1.length) : Ev (fun k => q4_edge.f k l l1 (i : Int)) (edgeE l l1 i) := by
  have hn := reach_num
  have hx : good71 (rd_T71 l1 (i : Int)) := by rw [rd71_nat _ _ hi]; exact h1g _ (List.getElem_mem hi)
  have tail : ∀ x : S71, Ev (fun k => q4_edge.l0 k (i : Int) (i : Int) l l1 x.f0 x.f1 x.f2 x.f3 x.f4 x.f5 x.f6) (if (insideB x.f1 l && insideB x.f2 l && (boundB x.f3 x.f4 && boundB x.f5 x.f6)) = true then 0 else 6) := by
    intro x
    refine Ev.step (fun k => by rw [q4_edge.l0]) ?_
    rw [w64 ((l.length : Int) - 1) (by omega) (by omega)]
    simp only [show ¬ ((i : Int) < (i : Int)) by omega, ↓reduceIte, in_ev, rbound_ev, Option.bind_some]
    have hin : ∀ y : Int, (decide ((0 : Int) ≤ y) && decide (y ≤ (l.length : Int) - 1)) = insideB y l := by
      intro y; unfold insideB; rw [Bool.eq_iff_iff]; simp only [Bool.and_eq_true, decide_eq_true_eq]; omega
    rw [hin, hin]
    cases insideB x.f1 l <;> cases insideB x.f2 l <;> cases boundB x.f3 x.f4 <;> cases boundB x.f5 x.f6 <;> simp only [Bool.true_and, Bool.false_and, Bool.and_self, Bool.and_false, Bool.false_eq_true, ↓reduceIte] <;> exact Ev.now _
  have hd := redge_dup l l1 (by omega) i hi _ _ _ _ _ _ _ _ (tail (rd_T71 l1 (i : Int))) i 0 (by omega)
  rw [List.drop_zero] at hd
  unfold q4_edge.f edgeE
  simp only [show ((i : Int) < (l1.length : Int)) by omega, show (0 : Int) ≤ (i : Int) by omega, ↓reduceIte]
  refine Ev.bind (rIsName_ev _ (by have := hx.1; omega)) ?_
  cases hb : nameB (rd_T71 l1 (i : Int)).f0
  · simp only [Bool.false_eq_true, ↓reduceIte]; exact Ev.now _
  · simp only [↓reduceIte]; exact hd
end Go.Proofs.Ytfpianecohobjaa.P
