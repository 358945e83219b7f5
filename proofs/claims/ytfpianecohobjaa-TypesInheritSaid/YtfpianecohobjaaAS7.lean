/- typesOrder_holds, typesBounds_holds, typesInherit_holds: a part of the proof that the law returns true for every input. No condition. -/
import Derived.Test.YtfpianecohobjaaAS6
namespace Go.Proofs.Ytfpianecohobjaa.P
open Go.RowKit Go.Proofs.YtfpianecohobjaaW.PrintWords Go.Proofs.YtfpianecohobjaaW.PrintLast
set_option maxRecDepth 100000
set_option linter.unusedVariables false
set_option linter.unusedSectionVars false
set_option linter.unusedSimpArgs false
def nmB (i : Nat) : ByteArray := (⟨#[65, 66, 67, 68, 69, 70]⟩ : ByteArray).extract i (i + 1)
def anB (i : Nat) : ByteArray := (⟨#[117, 118, 119, 120, 121, 122]⟩ : ByteArray).extract i (i + 1)
def enB (i : Nat) : ByteArray := (⟨#[101, 102, 103, 104, 105]⟩ : ByteArray).extract i (i + 1)
def offon : List ByteArray := [(⟨#[111, 102, 102]⟩ : ByteArray), (⟨#[111, 110]⟩ : ByteArray)]
theorem six {P : Nat → Prop} (h0 : P 0) (h1 : P 1) (h2 : P 2) (h3 : P 3) (h4 : P 4) (h5 : P 5) : ∀ i, i < 6 → P i := by
  intro i hi
  have : i = 0 ∨ i = 1 ∨ i = 2 ∨ i = 3 ∨ i = 4 ∨ i = 5 := by omega
  rcases this with rfl | rfl | rfl | rfl | rfl | rfl <;> assumption
theorem nm_name : ∀ i, i < 6 → nameB (nmB i) = true := six (by kernel_rfl) (by kernel_rfl) (by kernel_rfl) (by kernel_rfl) (by kernel_rfl) (by kernel_rfl)
theorem an_name : ∀ i, i < 6 → nameB (anB i) = true := six (by kernel_rfl) (by kernel_rfl) (by kernel_rfl) (by kernel_rfl) (by kernel_rfl) (by kernel_rfl)
theorem five {P : Nat → Prop} (h0 : P 0) (h1 : P 1) (h2 : P 2) (h3 : P 3) (h4 : P 4) : ∀ i, i < 5 → P i := by
  intro i hi
  have : i = 0 ∨ i = 1 ∨ i = 2 ∨ i = 3 ∨ i = 4 := by omega
  rcases this with rfl | rfl | rfl | rfl | rfl <;> assumption
theorem en_name : ∀ i, i < 5 → nameB (enB i) = true := five (by kernel_rfl) (by kernel_rfl) (by kernel_rfl) (by kernel_rfl) (by kernel_rfl)
theorem nm_size : ∀ i, i < 6 → (nmB i).size = 1 := six rfl rfl rfl rfl rfl rfl
theorem an_size : ∀ i, i < 6 → (anB i).size = 1 := six rfl rfl rfl rfl rfl rfl
theorem en_size : ∀ i, i < 5 → (enB i).size = 1 := by
  intro i hi
  have : i = 0 ∨ i = 1 ∨ i = 2 ∨ i = 3 ∨ i = 4 := by omega
  rcases this with rfl | rfl | rfl | rfl | rfl <;> rfl
theorem nm_byte : ∀ i, i < 6 → (nmB i).data.toList = [UInt8.ofNat (65 + i)] := six rfl rfl rfl rfl rfl rfl
theorem an_byte : ∀ i, i < 6 → (anB i).data.toList = [UInt8.ofNat (117 + i)] := six rfl rfl rfl rfl rfl rfl
theorem en_byte : ∀ i, i < 5 → (enB i).data.toList = [UInt8.ofNat (101 + i)] := by
  intro i hi
  have : i = 0 ∨ i = 1 ∨ i = 2 ∨ i = 3 ∨ i = 4 := by omega
  rcases this with rfl | rfl | rfl | rfl | rfl <;> rfl
theorem byte_ne (c i j : Nat) (hc : c < 200) (hi : i < 6) (hj : j < i) : ([UInt8.ofNat (c + j)] == [UInt8.ofNat (c + i)]) = false := by
  have : UInt8.ofNat (c + j) ≠ UInt8.ofNat (c + i) := by
    intro h
    have := congrArg UInt8.toNat h
    simp only [UInt8.toNat_ofNat'] at this
    omega
  simp only [beq_eq_false_iff_ne, ne_eq, List.cons.injEq, and_true]
  exact this
theorem nm_ne (i j : Nat) (hi : i < 6) (hj : j < i) : ((nmB j).toList == (nmB i).toList) = false := by
  rw [toList_data, toList_data, nm_byte i hi, nm_byte j (by omega)]; exact byte_ne 65 i j (by omega) hi hj
theorem an_ne (i j : Nat) (hi : i < 6) (hj : j < i) : ((anB j).toList == (anB i).toList) = false := by
  rw [toList_data, toList_data, an_byte i hi, an_byte j (by omega)]; exact byte_ne 117 i j (by omega) hi hj
theorem en_ne (i j : Nat) (hi : i < 5) (hj : j < i) : ((enB j).toList == (enB i).toList) = false := by
  rw [toList_data, toList_data, en_byte i hi, en_byte j (by omega)]; exact byte_ne 101 i j (by omega) (by omega) hj
theorem offon_names : namesE offon = 0 := by kernel_rfl
theorem offon_good : goodN offon := by
  have hn := reach_num
  refine ⟨by show 2 ≤ reachBytes; omega, ?_⟩
  intro x hx
  rcases List.mem_cons.1 hx with rfl | hx
  · show 3 ≤ reachBytes; omega
  · rcases List.mem_cons.1 hx with rfl | hx
    · show 2 ≤ reachBytes; omega
    · cases hx
theorem i64_wf {x : Int} (h0 : -9223372036854775808 ≤ x) (h1 : x ≤ 9223372036854775807) : (Lit.int .i64 x).wf = true := by
  simp only [Lit.wf, IntKind.min, IntKind.max, IntKind.signed, IntKind.bits, Bool.and_eq_true, decide_eq_true_eq, ite_true]
  omega
/-- The attributes of the node type i of a description. -/
def MadeA (i : Nat) (s : List S77) : Prop := s = [] ∨ ∃ a : S77, s = [a] ∧ a.f0 = anB i ∧ ((a.f1 = -3 ∧ 3 ≤ a.f2 ∧ a.f2 ≤ 11 ∧ a.f3 = []) ∨ (a.f1 = 0 ∧ a.f2 = 1 ∧ a.f3 = offon))
def MadeT (i : Nat) (x : S68) : Prop := x.f0 = nmB i ∧ -1 ≤ x.f1 ∧ x.f1 < (i : Int) ∧ MadeA i x.f3
def MadeN (l : List S68) : Prop := 1 ≤ l.length ∧ l.length ≤ 6 ∧ ∀ i : Nat, i < l.length → MadeT i (rd_T68 l (i : Int))
def MadeG (n : Nat) (i : Nat) (x : S71) : Prop := x.f0 = enB i ∧ (0 ≤ x.f1 ∧ x.f1 < (n : Int)) ∧ (0 ≤ x.f2 ∧ x.f2 < (n : Int)) ∧ x.f3 = 0 ∧ x.f4 = -1 ∧ x.f5 = 0 ∧ x.f6 = -1
def MadeE (n : Nat) (l1 : List S71) : Prop := l1.length ≤ 5 ∧ ∀ i : Nat, i < l1.length → MadeG n i (rd_T71 l1 (i : Int))
theorem firstE_all {F : Nat → Int} {nm : Nat → ByteArray} {r : ByteArray × Int} : ∀ (m i : Nat), (∀ j, i ≤ j → j < i + m → F j = 0) → firstE F nm r m i = r
  | 0, i, _ => rfl
  | m + 1, i, h => by
    unfold firstE
    rw [if_pos (h i (Nat.le_refl _) (by omega))]
    exact firstE_all m (i + 1) (fun j h1 h2 => h j (by omega) (by omega))
section made
variable {l : List S68} (h : MadeN l)
include h
theorem made_up : AllUp l := fun j hj => ⟨(h.2.2 j hj).2.1, (h.2.2 j hj).2.2.1⟩
theorem made_attrs_mem : ∀ (n : Nat) (i : Int), At l i → ∀ x ∈ attrsE l n i, ∃ j : Nat, (j : Int) ≤ i ∧ j < l.length ∧ x ∈ (rd_T68 l (j : Int)).f3
  | 0, i, hi, x, hx => by cases hx
  | n + 1, i, hi, x, hx => by
    rcases Int.lt_or_le i 0 with hc | hc
    · rw [attrsE_neg _ _ _ hc] at hx; cases hx
    · rw [attrsE_pos _ _ _ hc] at hx
      obtain ⟨h1, h2⟩ := up_at (made_up h) hi hc
      rcases List.mem_append.1 hx with hx | hx
      · obtain ⟨j, hj, hl, hm⟩ := made_attrs_mem n _ h1 x hx
        exact ⟨j, by omega, hl, hm⟩
      · have := hi.2
        exact ⟨i.toNat, by omega, by omega, by rw [Int.toNat_of_nonneg hc]; exact hx⟩
theorem made_own (i : Nat) (hi : i < l.length) : (rd_T68 l (i : Int)).f3.length ≤ 1 := by
  rcases (h.2.2 i hi).2.2.2 with e | ⟨a, e, _⟩ <;> rw [e] <;> simp
theorem made_attrs_len : ∀ (n : Nat) (i : Int), At l i → ((attrsE l n i).length : Int) ≤ i + 1
  | 0, i, hi => by have := hi.1; simp [attrsE]; omega
  | n + 1, i, hi => by
    rcases Int.lt_or_le i 0 with hc | hc
    · have := hi.1
      rw [attrsE_neg _ _ _ hc]; simp; omega
    · obtain ⟨h1, h2⟩ := up_at (made_up h) hi hc
      have h3 := made_attrs_len n _ h1
      have := hi.2
      have h4 := made_own h i.toNat (by omega)
      rw [Int.toNat_of_nonneg hc] at h4
      rw [attrsE_pos _ _ _ hc, List.length_append]; omega
theorem made_bounds (i : Nat) (hi : i < l.length) (a : S77) (ha : (rd_T68 l (i : Int)).f3 = [a]) : a.f0 = anB i ∧ boundsE a.f1 a.f2 a.f3 = 0 := by
  rcases (h.2.2 i hi).2.2.2 with e | ⟨b, e, h0, h1⟩
  · rw [e] at ha; cases ha
  · rw [ha] at e
    obtain rfl : a = b := by simpa using e
    refine ⟨h0, ?_⟩
    rcases h1 with ⟨e1, e2, e3, e4⟩ | ⟨e1, e2, e3⟩
    · unfold boundsE
      rw [e4, namesE_nil, if_pos rfl, if_neg (by simp), if_pos (by omega)]
    · unfold boundsE
      rw [e3, offon_names, if_pos rfl, if_pos (by decide), if_pos ⟨e1, e2⟩]
theorem made_nodeE (i : Nat) (hi : i < l.length) : nodeE l i = 0 := by
  have h6 := h.2.1
  obtain ⟨h0, h1, h2, h3⟩ := h.2.2 i hi
  have hA : At l (i : Int) := ⟨by omega, by omega⟩
  have hlen := made_attrs_len h 20 (i : Int) hA
  have hown := made_own h i hi
  unfold nodeE
  rw [h0, nm_name i (by omega), if_pos rfl]
  rw [if_neg (by
    rw [Bool.not_eq_true, List.any_eq_false]
    intro m hm
    obtain ⟨j, hj, rfl⟩ := List.getElem_of_mem hm
    rw [List.length_take] at hj
    rw [List.getElem_take]
    have e := (h.2.2 j (by omega)).1
    rw [rd68_nat _ _ (by omega)] at e
    rw [e, nm_ne i j (by omega) (by omega)]; simp)]
  rw [if_neg (by omega), if_neg (by omega), if_neg (by omega)]
  rcases h3 with e | ⟨a, e, _⟩
  · rw [e]; rfl
  · rw [e]
    obtain ⟨b0, b1⟩ := made_bounds h i hi a e
    have ht : attrsE l 20 (i : Int) = attrsE l 19 (rd_T68 l (i : Int)).f1 ++ [a] := by rw [attrsE_pos _ _ _ (by omega), e]
    rw [ht]
    generalize hp : attrsE l 19 (rd_T68 l (i : Int)).f1 = p
    have hF : attrF (p ++ [a]) p.length = 0 := by
      unfold attrF
      rw [List.take_left, rd77_nat _ _ (by simp)]
      simp only [List.getElem_append_right (Nat.le_refl _), Nat.sub_self, List.getElem_cons_zero]
      unfold attrE
      rw [b0, an_name i (by omega), if_pos rfl, if_neg, b1]
      rw [Bool.not_eq_true, List.any_eq_false]
      intro m hm
      rw [← hp] at hm
      obtain ⟨h1', h2'⟩ := up_at (made_up h) hA (by omega)
      obtain ⟨j, hj, hl, hmj⟩ := made_attrs_mem h 19 _ h1' m hm
      rcases (h.2.2 j hl).2.2.2 with e' | ⟨b, e', hb0, _⟩
      · rw [e'] at hmj; cases hmj
      · rw [e'] at hmj
        obtain rfl : m = b := by simpa using hmj
        rw [hb0, an_ne i j (by omega) (by omega)]; simp
    show scan (attrF (p ++ [a])) 1 ((p ++ [a]).length - 1) = 0
    have : (p ++ [a]).length - 1 = p.length := by simp
    rw [this]
    unfold scan
    rw [if_pos hF]; rfl
theorem made_good : Good l := by
  have hn := reach_num
  intro x hx
  obtain ⟨i, hi, rfl⟩ := List.getElem_of_mem hx
  have h6 := h.2.1
  obtain ⟨h0, h1, h2, h3⟩ := h.2.2 i hi
  rw [rd68_nat _ _ hi] at h0 h1 h2 h3
  refine ⟨?_, i64_wf (by omega) (by omega), trivial, ?_⟩
  · rw [h0, nm_size i (by omega)]; omega
  · rcases h3 with e | ⟨a, e, ha, hb⟩
    · rw [e]; exact ⟨Nat.zero_le _, fun x hx => by cases hx⟩
    · rw [e]
      refine ⟨by show 1 ≤ reachBytes; omega, fun y hy => ?_⟩
      obtain rfl : y = a := by simpa using hy
      rcases hb with ⟨b1, b2, b3, b4⟩ | ⟨b1, b2, b3⟩
      · refine ⟨by rw [ha, an_size i (by omega)]; omega, i64_wf (by omega) (by omega), i64_wf (by omega) (by omega), ?_⟩
        rw [b4]; exact ⟨Nat.zero_le _, fun x hx => by cases hx⟩
      · refine ⟨by rw [ha, an_size i (by omega)]; omega, i64_wf (by omega) (by omega), i64_wf (by omega) (by omega), ?_⟩
        rw [b3]; exact offon_good
theorem made_good1 {l1 : List S71} (h1 : MadeE l.length l1) : ∀ x ∈ l1, good71 x := by
  have hn := reach_num
  have h6 := h.2.1
  have h5 := h1.1
  intro x hx
  obtain ⟨i, hi, rfl⟩ := List.getElem_of_mem hx
  obtain ⟨e0, e1, e2, e3, e4, e5, e6⟩ := h1.2 i hi
  rw [rd71_nat _ _ hi] at e0 e1 e2 e3 e4 e5 e6
  exact ⟨by rw [e0, en_size i (by omega)]; omega, i64_wf (by omega) (by omega), i64_wf (by omega) (by omega), i64_wf (by omega) (by omega), i64_wf (by omega) (by omega), i64_wf (by omega) (by omega), i64_wf (by omega) (by omega)⟩
theorem made_small : Small l := by
  have h6 := h.2.1
  refine ⟨by omega, ?_⟩
  intro x hx
  obtain ⟨i, hi, rfl⟩ := List.getElem_of_mem hx
  have := made_own h i hi
  rw [rd68_nat _ _ hi] at this
  omega
theorem made_edgeE {l1 : List S71} (h1 : MadeE l.length l1) (i : Nat) (hi : i < l1.length) : edgeE l l1 i = 0 := by
  have h5 := h1.1
  obtain ⟨e0, e1, e2, e3, e4, e5, e6⟩ := h1.2 i hi
  unfold edgeE
  rw [e0, en_name i (by omega), if_pos rfl]
  rw [if_neg (by
    rw [Bool.not_eq_true, List.any_eq_false]
    intro m hm
    obtain ⟨j, hj, rfl⟩ := List.getElem_of_mem hm
    rw [List.length_take] at hj
    rw [List.getElem_take]
    have e := (h1.2 j (by omega)).1
    rw [rd71_nat _ _ (by omega)] at e
    rw [e, en_ne i j (by omega) (by omega)]; simp)]
  rw [e3, e4, e5, e6, if_pos]
  simp only [insideB, boundB, e1.1, e1.2, e2.1, e2.2, decide_true, Bool.and_true, Bool.true_and]
  decide
theorem made_valid {l1 : List S71} (h1 : MadeE l.length l1) : (validE l l1).2 = 0 := by
  have h6 := h.2.1
  have h0 := h.1
  have h5 := h1.1
  unfold validE
  rw [if_neg (by omega), if_neg (by omega), if_neg (by omega)]
  rw [firstE_all _ _ (fun j _ hj => made_nodeE h j (by omega)), firstE_all _ _ (fun j _ hj => made_edgeE h h1 j (by omega))]
end made
end Go.Proofs.Ytfpianecohobjaa.P
