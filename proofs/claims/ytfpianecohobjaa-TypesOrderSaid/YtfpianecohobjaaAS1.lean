/- typesOrder_holds, typesBounds_holds, typesInherit_holds: a part of the proof that the law returns true for every input. No condition. -/
import Derived.Test.YtfpianecohobjaaAS0
namespace Go.Proofs.Ytfpianecohobjaa.P
open Go.RowKit Go.Proofs.YtfpianecohobjaaW.PrintWords Go.Proofs.YtfpianecohobjaaW.PrintLast
set_option maxRecDepth 100000
set_option linter.unusedVariables false
set_option linter.unusedSimpArgs false
theorem reach_num : reachBytes = 140737488351232 := rfl
/-- The first error among m in a row. -/
def scan (F : Nat → Int) : Nat → Nat → Int
  | 0, _ => 0
  | m + 1, i => if F i = 0 then scan F m (i + 1) else F i
theorem take_nat {α : Type} (l : List α) (i : Nat) : l.take ((i : Int)).toNat = l.take i := by rw [Int.toNat_natCast]
theorem rdOf_nat {α : Type} (d : α) (l : List α) (i : Nat) (h : i < l.length) : rdOf d l (i : Int) = l[i] := by unfold rdOf; simp [h]
theorem rd68_nat (l : List S68) (i : Nat) (h : i < l.length) : rd_T68 l (i : Int) = l[i] := by unfold rd_T68; simp [h]
theorem rd71_nat (l : List S71) (i : Nat) (h : i < l.length) : rd_T71 l (i : Int) = l[i] := by unfold rd_T71; simp [h]
theorem rd77_nat (l : List S77) (i : Nat) (h : i < l.length) : rd_T77 l (i : Int) = l[i] := by unfold rd_T77; simp [h]
def namesF (l : List ByteArray) (i : Nat) : Int := if nameB (rdOf ByteArray.empty l (i : Int)) = true then (if (l.take i).any (fun x => x.toList == (rdOf ByteArray.empty l (i : Int)).toList) = true then 5 else 0) else 2
def namesE (l : List ByteArray) : Int := if (l.length : Int) > 20 then 3 else scan (namesF l) l.length 0
def goodN (l : List ByteArray) : Prop := l.length ≤ reachBytes ∧ ∀ x ∈ l, x.size ≤ reachBytes
theorem names_loop (l : List ByteArray) (hl : goodN l) : ∀ (m i : Nat), i + m = l.length → Ev (fun k => types_names.l0 k l l (l.length : Int) (i : Int)) (scan (namesF l) m i)
  | 0, i, h => by
    refine Ev.step (fun k => by rw [types_names.l0]) ?_
    simp only [show ¬ ((i : Int) < (l.length : Int)) by omega, ↓reduceIte]; exact Ev.now _
  | m + 1, i, h => by
    have hn := reach_num
    have hi : i < l.length := by omega
    have hs : (rdOf ByteArray.empty l (i : Int)).size ≤ 9223372036854775807 := by
      rw [rdOf_nat _ _ _ hi]; have := hl.2 _ (List.getElem_mem hi); omega
    have hL := hl.1
    refine Ev.step (fun k => by rw [types_names.l0]) ?_
    simp only [show ((i : Int) < (l.length : Int)) by omega, show (0 : Int) ≤ (i : Int) by omega, show (i : Int) ≤ (l.length : Int) by omega, ↓reduceIte]
    refine Ev.bind (IsName_ev _ hs) ?_
    have ih := names_loop l hl m (i + 1) (by omega)
    unfold scan
    cases hb : nameB (rdOf ByteArray.empty l (i : Int))
    · have : namesF l i = 2 := by unfold namesF; simp [hb]
      simp only [this, Bool.false_eq_true, ↓reduceIte]; exact Ev.now _
    · simp only [↓reduceIte]
      refine Ev.bind (Contains_ev _ _ (by rw [take_nat, List.length_take]; omega)) ?_
      rw [take_nat]
      cases hc : (l.take i).any (fun x => x.toList == (rdOf ByteArray.empty l (i : Int)).toList)
      · have : namesF l i = 0 := by unfold namesF; simp only [hb, hc, Bool.false_eq_true, ↓reduceIte]
        simp only [this, Bool.false_eq_true, ↓reduceIte]
        rw [w64 _ (by omega) (by omega)]; exact ih
      · have : namesF l i = 5 := by unfold namesF; simp only [hb, hc, ↓reduceIte]
        simp only [this, ↓reduceIte]; exact Ev.now _
theorem names_ev (l : List ByteArray) (hl : goodN l) : Ev (fun k => types_names.f k l) (namesE l) := by
  unfold types_names.f namesE
  by_cases h : (l.length : Int) > 20
  · simp only [h, ↓reduceIte]; exact Ev.now _
  · simp only [h, ↓reduceIte]; exact names_loop l hl _ 0 (by omega)
def boundsE (a1 a2 : Int) (l3 : List ByteArray) : Int := if namesE l3 = 0 then (if 0 < l3.length then (if a1 = 0 ∧ a2 = (l3.length : Int) - 1 then 0 else 6) else (if -1000000 ≤ a1 ∧ a1 ≤ a2 ∧ a2 ≤ 1000000 then 0 else 6)) else namesE l3
def attrE (pre : List S77) (a : S77) : Int := if nameB a.f0 = true then (if pre.any (fun m => m.f0.toList == a.f0.toList) = true then 5 else boundsE a.f1 a.f2 a.f3) else 2
theorem namesE_nil : namesE [] = 0 := rfl
theorem attr_j0 (b : Bool) (a0 : ByteArray) (a1 a2 : Int) (l3 : List ByteArray) (hl : goodN l3) (hb : l3.length = 0 → b = (decide (-1000000 ≤ a1 ∧ a1 ≤ a2 ∧ a2 ≤ 1000000))) (h0 : namesE l3 = 0) :
    Ev (fun k => types_attribute.j0 k b a0 a1 a2 l3) (boundsE a1 a2 l3) := by
  have hn := reach_num
  have hL := hl.1
  refine Ev.step (fun k => by rw [types_attribute.j0]) ?_
  unfold boundsE
  rw [if_pos h0]
  by_cases hz : l3.length = 0
  · have hb := hb hz
    simp only [show ¬ ((l3.length : Int) > 0) by omega, show ¬ (0 < l3.length) by omega, ↓reduceIte, hb, decide_eq_true_eq]
    by_cases hc : -1000000 ≤ a1 ∧ a1 ≤ a2 ∧ a2 ≤ 1000000
    · simp only [if_pos hc]; exact Ev.now _
    · simp only [if_neg hc]; exact Ev.now _
  · rw [w64 _ (by omega) (by omega)]
    simp only [show ((l3.length : Int) > 0) by omega, show (0 < l3.length) by omega, ↓reduceIte]
    by_cases h1 : a1 = 0
    · by_cases h2 : a2 = (l3.length : Int) - 1
      · simp only [h1, h2, ↓reduceIte, and_self]; exact Ev.now _
      · simp only [h1, h2, ↓reduceIte, and_false]; exact Ev.now _
    · simp only [h1, ↓reduceIte, false_and]; exact Ev.now _
theorem attribute_ev (pre : List S77) (a : S77) (hs : a.f0.size ≤ reachBytes) (hl : goodN a.f3) : Ev (fun k => types_attribute.f k a.f0 a.f1 a.f2 a.f3 pre) (attrE pre a) := by
  have hn := reach_num
  unfold types_attribute.f attrE any_attr.f
  refine Ev.bind (IsName_ev _ (by omega)) ?_
  cases hb : nameB a.f0
  · simp only [Bool.false_eq_true, ↓reduceIte]; exact Ev.now _
  · simp only [↓reduceIte, Option.bind_some]
    cases hp : pre.any (fun m => m.f0.toList == a.f0.toList)
    · simp only [Bool.false_eq_true, ↓reduceIte]
      refine Ev.bind (names_ev _ hl) ?_
      by_cases h0 : namesE a.f3 = 0
      · simp only [h0, ↓reduceIte]
        by_cases h1 : -1000000 ≤ a.f1
        · by_cases h2 : a.f1 ≤ a.f2
          · simp only [h1, h2, ↓reduceIte]; exact attr_j0 _ _ _ _ _ hl (fun _ => by simp [h1, h2]) h0
          · simp only [h1, h2, ↓reduceIte]; exact attr_j0 _ _ _ _ _ hl (fun _ => by simp [h1, h2]) h0
        · simp only [h1, ↓reduceIte]; exact attr_j0 _ _ _ _ _ hl (fun _ => by simp [h1]) h0
      · have : boundsE a.f1 a.f2 a.f3 = namesE a.f3 := by unfold boundsE; rw [if_neg h0]
        simp only [h0, ↓reduceIte, this]; exact Ev.now _
    · simp only [↓reduceIte]; exact Ev.now _
def attrsE (l : List S68) : Nat → Int → List S77
  | 0, _ => []
  | n + 1, i => if i < 0 then [] else attrsE l n (rd_T68 l i).f1 ++ (rd_T68 l i).f3
/-- The supertypes lie before their subtypes, up to i. -/
def Up (l : List S68) (i : Nat) : Prop := ∀ j : Nat, j ≤ i → j < l.length → -1 ≤ (rd_T68 l (j : Int)).f1 ∧ (rd_T68 l (j : Int)).f1 < (j : Int)
def Small (l : List S68) : Prop := l.length ≤ 20 ∧ ∀ x ∈ l, x.f3.length ≤ 30
theorem small_rd {l : List S68} (h : Small l) (i : Nat) (hi : i < l.length) : (rd_T68 l (i : Int)).f3.length ≤ 30 := by
  rw [rd68_nat _ _ hi]; exact h.2 _ (List.getElem_mem hi)
theorem attrsE_len {l : List S68} (h : Small l) : ∀ (n i : Nat), i < n → i < l.length → Up l i → (attrsE l n (i : Int)).length ≤ 30 * n
  | n + 1, i, hn, hi, hu => by
    have h3 := small_rd h i hi
    obtain ⟨h4, h5⟩ := hu i (Nat.le_refl _) hi
    unfold attrsE
    rw [if_neg (by omega), List.length_append]
    rcases Int.lt_or_le (rd_T68 l (i : Int)).f1 0 with hc | hc
    · have : attrsE l n (rd_T68 l (i : Int)).f1 = [] := by
        cases n with
        | zero => rfl
        | succ n => unfold attrsE; rw [if_pos hc]
      rw [this]; simp; omega
    · obtain ⟨p, hp⟩ : ∃ p : Nat, (rd_T68 l (i : Int)).f1 = (p : Int) := ⟨(rd_T68 l (i : Int)).f1.toNat, by omega⟩
      rw [hp] at h5 ⊢
      have := attrsE_len h n p (by omega) (by omega) (fun j hj hjl => hu j (by omega) hjl)
      omega
theorem attrsE_neg (l : List S68) (n : Nat) (i : Int) (hi : i < 0) : attrsE l n i = [] := by
  cases n with
  | zero => rfl
  | succ n => unfold attrsE; rw [if_pos hi]
theorem attrsE_pos (l : List S68) (n : Nat) (i : Int) (hi : 0 ≤ i) : attrsE l (n + 1) i = attrsE l n (rd_T68 l i).f1 ++ (rd_T68 l i).f3 := if_neg (by omega)
theorem attrs_ev (l : List S68) (l1 : List S71) (h : Small l) : ∀ (n i : Nat), n ≤ 20 → i < n → i < l.length → Up l i → Ev (fun k => types_attrs.f k l l1 (i : Int)) (attrsE l n (i : Int))
  | n + 1, i, h20, hn, hi, hu => by
    have h3 := small_rd h i hi
    obtain ⟨h4, h5⟩ := hu i (Nat.le_refl _) hi
    refine Ev.step (fun k => by rw [types_attrs.f]) ?_
    simp only [show ((i : Int) < (l.length : Int)) by omega, show (0 : Int) ≤ (i : Int) by omega, ↓reduceIte]
    rw [attrsE_pos _ _ _ (by omega)]
    rcases Int.lt_or_le (rd_T68 l (i : Int)).f1 0 with hc | hc
    · rw [attrsE_neg _ _ _ hc]
      simp only [show ¬ ((rd_T68 l (i : Int)).f1 ≥ 0) by omega, ↓reduceIte, List.length_nil, show 0 + (rd_T68 l (i : Int)).f3.length < 2513169434916 by omega]
      exact Ev.now _
    · obtain ⟨p, hp⟩ : ∃ p : Nat, (rd_T68 l (i : Int)).f1 = (p : Int) := ⟨(rd_T68 l (i : Int)).f1.toNat, by omega⟩
      rw [hp] at h5 ⊢
      have hu' : Up l p := fun j hj hjl => hu j (by omega) hjl
      have ih := attrs_ev l l1 h n p (by omega) (by omega) (by omega) hu'
      have hl := attrsE_len h n p (by omega) (by omega) hu'
      simp only [show ((p : Int) ≥ 0) by omega, ↓reduceIte]
      refine Ev.bind ih ?_
      simp only [show (attrsE l n (p : Int)).length + (rd_T68 l (i : Int)).f3.length < 2513169434916 by omega, ↓reduceIte]
      exact Ev.now _
def Good (l : List S68) : Prop := ∀ x ∈ l, good68 x
theorem good_rd {l : List S68} (h : Good l) (i : Nat) (hi : i < l.length) : good68 (rd_T68 l (i : Int)) := by
  rw [rd68_nat _ _ hi]; exact h _ (List.getElem_mem hi)
theorem attrsE_good {l : List S68} (h : Good l) : ∀ (n i : Nat), i < l.length → Up l i → ∀ x ∈ attrsE l n (i : Int), good77 x
  | 0, i, _, _ => fun x hx => by cases hx
  | n + 1, i, hi, hu => by
    intro x hx
    obtain ⟨h4, h5⟩ := hu i (Nat.le_refl _) hi
    unfold attrsE at hx
    rw [if_neg (by omega)] at hx
    rcases List.mem_append.1 hx with hx | hx
    · rcases Int.lt_or_le (rd_T68 l (i : Int)).f1 0 with hc | hc
      · rw [attrsE_neg _ _ _ hc] at hx; cases hx
      · obtain ⟨p, hp⟩ : ∃ p : Nat, (rd_T68 l (i : Int)).f1 = (p : Int) := ⟨(rd_T68 l (i : Int)).f1.toNat, by omega⟩
        rw [hp] at hx h5
        exact attrsE_good h n p (by omega) (fun j hj hjl => hu j (by omega) hjl) x hx
    · exact (good_rd h i hi).2.2.2.2 x hx
def attrF (t : List S77) (j : Nat) : Int := attrE (t.take j) (rd_T77 t (j : Int))
def nodeE (l : List S68) (i : Nat) : Int :=
  if nameB (rd_T68 l (i : Int)).f0 = true then
    if (l.take i).any (fun m => m.f0.toList == (rd_T68 l (i : Int)).f0.toList) = true then 5
    else if (rd_T68 l (i : Int)).f1 < -1 ∨ (rd_T68 l (i : Int)).f1 ≥ (i : Int) then 6
    else if ((rd_T68 l (i : Int)).f3.length : Int) > 4 then 3
    else if ((attrsE l 20 (i : Int)).length : Int) > 8 then 3
    else scan (attrF (attrsE l 20 (i : Int))) (rd_T68 l (i : Int)).f3.length ((attrsE l 20 (i : Int)).length - (rd_T68 l (i : Int)).f3.length)
  else 2
theorem node_loop (t : List S77) (ht : ∀ x ∈ t, good77 x) (h8 : t.length ≤ 9223372036854775806) : ∀ (m j : Nat), j + m = t.length → Ev (fun k => types_node.l0 k t (j : Int)) (scan (attrF t) m j)
  | 0, j, h => by
    refine Ev.step (fun k => by rw [types_node.l0]) ?_
    simp only [show ¬ ((j : Int) < (t.length : Int)) by omega, ↓reduceIte]; exact Ev.now _
  | m + 1, j, h => by
    have hj : j < t.length := by omega
    have hg : good77 (rd_T77 t (j : Int)) := by rw [rd77_nat _ _ hj]; exact ht _ (List.getElem_mem hj)
    refine Ev.step (fun k => by rw [types_node.l0]) ?_
    simp only [show ((j : Int) < (t.length : Int)) by omega, show ((j : Int) ≤ (t.length : Int)) by omega, show (0 : Int) ≤ (j : Int) by omega, ↓reduceIte, take_nat]
    refine Ev.bind (attribute_ev (t.take j) _ hg.1 hg.2.2.2) ?_
    unfold scan
    by_cases h0 : attrF t j = 0
    · have h0' : attrE (t.take j) (rd_T77 t (j : Int)) = 0 := h0
      simp only [h0, h0', ↓reduceIte]
      rw [w64 _ (by omega) (by omega)]; exact node_loop t ht h8 m (j + 1) (by omega)
    · have h0' : ¬ attrE (t.take j) (rd_T77 t (j : Int)) = 0 := h0
      simp only [h0, h0', ↓reduceIte]; exact Ev.now _
theorem attrsE_own (l : List S68) (n : Nat) (i : Int) (hi : 0 ≤ i) : ∃ u, attrsE l (n + 1) i = u ++ (rd_T68 l i).f3 := ⟨_, by unfold attrsE; rw [if_neg (by omega)]⟩
theorem node_ev (l : List S68) (l1 : List S71) (hg : Good l) (h : Small l) (i : Nat) (hi : i < l.length) (hu : ∀ j : Nat, j < i → -1 ≤ (rd_T68 l (j : Int)).f1 ∧ (rd_T68 l (j : Int)).f1 < (j : Int)) :
    Ev (fun k => types_node.f k l l1 (i : Int)) (nodeE l i) := by
  have hn := reach_num
  have hx := good_rd hg i hi
  have h20 := h.1
  have h30 := small_rd h i hi
  unfold types_node.f nodeE any_node.f
  simp only [show ((i : Int) < (l.length : Int)) by omega, show (0 : Int) ≤ (i : Int) by omega, show ((i : Int) ≤ (l.length : Int)) by omega, ↓reduceIte, take_nat, Option.bind_some]
  refine Ev.bind (IsName_ev _ (by have := hx.1; omega)) ?_
  cases hb : nameB (rd_T68 l (i : Int)).f0
  · simp only [Bool.false_eq_true, ↓reduceIte]; exact Ev.now _
  · simp only [↓reduceIte]
    cases hp : (l.take i).any (fun m => m.f0.toList == (rd_T68 l (i : Int)).f0.toList)
    · simp only [Bool.false_eq_true, ↓reduceIte]
      by_cases h1 : (rd_T68 l (i : Int)).f1 < -1
      · simp only [h1, ↓reduceIte, true_or]
        refine Ev.step (fun k => by rw [types_node.j0]) ?_
        simp only [↓reduceIte]; exact Ev.now _
      · by_cases h2 : (rd_T68 l (i : Int)).f1 ≥ (i : Int)
        · simp only [h1, h2, ↓reduceIte, or_true, decide_true]
          refine Ev.step (fun k => by rw [types_node.j0]) ?_
          simp only [↓reduceIte]; exact Ev.now _
        · simp only [h1, h2, ↓reduceIte, or_self, decide_false]
          refine Ev.step (fun k => by rw [types_node.j0]) ?_
          simp only [Bool.false_eq_true, ↓reduceIte]
          by_cases h4 : ((rd_T68 l (i : Int)).f3.length : Int) > 4
          · simp only [h4, ↓reduceIte]; exact Ev.now _
          · simp only [h4, ↓reduceIte]
            have hup : Up l i := fun j hj hjl => by
              rcases Nat.lt_or_eq_of_le hj with hj | rfl
              · exact hu j hj
              · exact ⟨by omega, by omega⟩
            refine Ev.bind (attrs_ev l l1 h 20 i (Nat.le_refl _) (by omega) hi hup) ?_
            obtain ⟨u, hu'⟩ := attrsE_own l 19 (i : Int) (by omega)
            have hgt := attrsE_good hg 20 i hi hup
            have hlen : (attrsE l 20 (i : Int)).length = u.length + (rd_T68 l (i : Int)).f3.length := by rw [hu', List.length_append]
            have hle := attrsE_len h 20 i (by omega) hi hup
            generalize attrsE l 20 (i : Int) = t at hgt hlen hle ⊢
            by_cases h8 : (t.length : Int) > 8
            · simp only [h8, ↓reduceIte]; exact Ev.now _
            · simp only [h8, ↓reduceIte]
              rw [w64 _ (by omega) (by omega), show ((t.length : Int) - ((rd_T68 l (i : Int)).f3.length : Int)) = ((t.length - (rd_T68 l (i : Int)).f3.length : Nat) : Int) by omega]
              exact node_loop t hgt (by omega) _ _ (by omega)
    · simp only [↓reduceIte]; exact Ev.now _
def insideB (x : Int) (l : List S68) : Bool := decide (0 ≤ x) && decide (x < (l.length : Int))
def boundB (a b : Int) : Bool := (decide (0 ≤ a) && decide (a ≤ 40)) && (decide (b = -1) || (decide (a ≤ b) && decide (b ≤ 40)))
def edgeE (l : List S68) (l1 : List S71) (i : Nat) : Int :=
  if nameB (rd_T71 l1 (i : Int)).f0 = true then
    if (l1.take i).any (fun m => m.f0.toList == (rd_T71 l1 (i : Int)).f0.toList) = true then 5
    else if (insideB (rd_T71 l1 (i : Int)).f1 l && insideB (rd_T71 l1 (i : Int)).f2 l && (boundB (rd_T71 l1 (i : Int)).f3 (rd_T71 l1 (i : Int)).f4 && boundB (rd_T71 l1 (i : Int)).f5 (rd_T71 l1 (i : Int)).f6)) = true then 0 else 6
  else 2
theorem bounded_ev (a b : Int) : types_bounded.f a b = some (boundB a b) := by
  unfold types_bounded.f boundB
  by_cases h1 : a ≥ 0 <;> by_cases h2 : a ≤ 40 <;> by_cases h3 : b = -1 <;> by_cases h4 : b ≥ a <;> by_cases h5 : b ≤ 40 <;>
    simp only [h1, h2, h3, h4, h5, ↓reduceIte, decide_true, decide_false, Bool.true_and, Bool.false_and, Bool.or_true, Bool.true_or, Bool.or_false, Bool.false_or, Bool.and_true, Bool.and_false, show 0 ≤ a ↔ a ≥ 0 from Iff.rfl, show a ≤ b ↔ b ≥ a from Iff.rfl] <;> simp_all
theorem edge_ev (l : List S68) (l1 : List S71) (h1g : ∀ x ∈ l1, good71 x) (h1l : l1.length ≤ 9223372036854775806) (i : Nat) (hi : i < l1.length) : Ev (fun k => types_edge.f k l l1 (i : Int)) (edgeE l l1 i) := by
  have hn := reach_num
  have hx : good71 (rd_T71 l1 (i : Int)) := by rw [rd71_nat _ _ hi]; exact h1g _ (List.getElem_mem hi)
  unfold types_edge.f edgeE any_edge.f edge_inside.f
  simp only [show ((i : Int) < (l1.length : Int)) by omega, show (0 : Int) ≤ (i : Int) by omega, show ((i : Int) ≤ (l1.length : Int)) by omega, ↓reduceIte, take_nat, Option.bind_some]
  refine Ev.bind (IsName_ev _ (by have := hx.1; omega)) ?_
  generalize rd_T71 l1 (i : Int) = x
  cases hb : nameB x.f0
  · simp only [Bool.false_eq_true, ↓reduceIte]; exact Ev.now _
  · simp only [↓reduceIte]
    cases hp : (l1.take i).any (fun m => m.f0.toList == x.f0.toList)
    · simp only [Bool.false_eq_true, ↓reduceIte]
      have j0 : ∀ b : Bool, Ev (fun k => types_edge.j0 k b x.f0 x.f1 x.f2 x.f3 x.f4 x.f5 x.f6) (if (!b && (boundB x.f3 x.f4 && boundB x.f5 x.f6)) = true then 0 else 6) := by
        intro b
        refine Ev.step (fun k => by rw [types_edge.j0]) ?_
        simp only [bounded_ev, Option.bind_some]
        cases b <;> cases boundB x.f3 x.f4 <;> cases boundB x.f5 x.f6 <;> simp only [Bool.not_false, Bool.not_true, Bool.true_and, Bool.false_and, Bool.and_self, Bool.and_false, Bool.false_eq_true, ↓reduceIte] <;> exact Ev.now _
      change Ev (fun k => if insideB x.f1 l = true then types_edge.j0 k (!insideB x.f2 l) x.f0 x.f1 x.f2 x.f3 x.f4 x.f5 x.f6 else types_edge.j0 k true x.f0 x.f1 x.f2 x.f3 x.f4 x.f5 x.f6) _
      cases insideB x.f1 l
      · simp only [Bool.false_eq_true, ↓reduceIte, Bool.false_and]
        have := j0 true; simpa using this
      · simp only [↓reduceIte, Bool.true_and]
        have := j0 (!insideB x.f2 l); simpa using this
    · simp only [↓reduceIte]; exact Ev.now _
end Go.Proofs.Ytfpianecohobjaa.P
