/- typesOrder_holds, typesBounds_holds, typesInherit_holds: a part of the proof that the law returns true for every input. No condition. -/
import Derived.Test.YtfpianecohobjaaAS8
import Derived.Test.YtfpianecohobjaaAPx24
namespace Go.Proofs.Ytfpianecohobjaa.P
open Go.RowKit Go.Proofs.YtfpianecohobjaaW.PrintWords Go.Proofs.YtfpianecohobjaaW.PrintLast
set_option maxRecDepth 100000
set_option linter.unusedVariables false
set_option linter.unusedSectionVars false
set_option linter.unusedSimpArgs false
theorem u8_wf {x : Int} (h : (Lit.int .u8 x).wf = true) : 0 ≤ x ∧ x ≤ 255 := by
  simp only [Lit.wf, IntKind.min, IntKind.max, IntKind.signed, IntKind.bits, Bool.and_eq_true, decide_eq_true_eq, Bool.false_eq_true, ite_false] at h
  omega
theorem rd81_nat (l : List S81) (i : Nat) (h : i < l.length) : rd_T81 l (i : Int) = l[i] := by
  rw [show rd_T81 l (i : Int) = rdOf z81 l (i : Int) from rfl, rdOf_nat _ _ _ h]
theorem good81_rd {l : List S81} (h : ∀ x ∈ l, good81 x) (i : Nat) (hi : i < l.length) : good81 (rd_T81 l (i : Int)) := by
  rw [rd81_nat _ _ hi]; exact h _ (List.getElem_mem hi)
theorem tmod_lt (x : Int) (h0 : 0 ≤ x) (n : Nat) (hn : 0 < n) : 0 ≤ Int.tmod x (n : Int) ∧ Int.tmod x (n : Int) < (n : Int) := by
  rw [Int.tmod_eq_emod_of_nonneg h0]
  exact ⟨Int.emod_nonneg _ (by omega), Int.emod_lt_of_pos _ (by omega)⟩
theorem rd68_push {l : List S68} {x : S68} (j : Nat) (hj : j < (l ++ [x]).length) : rd_T68 (l ++ [x]) (j : Int) = if h : j < l.length then rd_T68 l (j : Int) else x := by
  rw [rd68_nat _ _ hj]
  split
  · next h => rw [rd68_nat _ _ h, List.getElem_append_left h]
  · next h =>
    have : j = l.length := by rw [List.length_append] at hj; simp at hj; omega
    subst this
    simp
theorem rd71_push {l : List S71} {x : S71} (j : Nat) (hj : j < (l ++ [x]).length) : rd_T71 (l ++ [x]) (j : Int) = if h : j < l.length then rd_T71 l (j : Int) else x := by
  rw [rd71_nat _ _ hj]
  split
  · next h => rw [rd71_nat _ _ h, List.getElem_append_left h]
  · next h =>
    have : j = l.length := by rw [List.length_append] at hj; simp at hj; omega
    subst this
    simp
section made
variable (x0 x1 : List S81) (hg0 : ∀ x ∈ x0, good81 x) (hg1 : ∀ x ∈ x1, good81 x) (hl0 : x0.length ≤ reachBytes) (hl1 : x1.length ≤ reachBytes)
include hg0 hg1 hl0 hl1
theorem made_edges (l : List S68) (hl : 1 ≤ l.length ∧ l.length ≤ 6) : ∀ (m i : Nat) (acc : List S71), i + m = 5 → acc.length = i → (∀ j : Nat, j < acc.length → MadeG l.length j (rd_T71 acc (j : Int))) →
    ∃ l1, Ev (fun k => q4_Made.l1 k x1 (i : Int) l acc) (l, l1) ∧ MadeE l.length l1
  | 0, i, acc, hi, ha, hm => ⟨acc, by
      refine Ev.step (fun k => by rw [q4_Made.l1]) ?_
      simp only [show ¬ ((i : Int) < 5) by omega, ↓reduceIte, ite_self]; exact Ev.now _, by omega, hm⟩
  | m + 1, i, acc, hi, ha, hm => by
    have hn := reach_num
    by_cases hlt : i < x1.length
    · have hx := good81_rd hg1 i hlt
      have hp := u8_wf hx.1
      have hq := u8_wf hx.2
      have t1 := tmod_lt (rd_T81 x1 (i : Int)).f0 hp.1 l.length (by omega)
      have t2 := tmod_lt (rd_T81 x1 (i : Int)).f1 hq.1 l.length (by omega)
      obtain ⟨l1, h1, h2⟩ := made_edges l hl m (i + 1) (acc ++ [⟨enB i, Int.tmod (rd_T81 x1 (i : Int)).f0 (l.length : Int), Int.tmod (rd_T81 x1 (i : Int)).f1 (l.length : Int), 0, -1, 0, -1⟩]) (by omega) (by simp [ha]) (by
        intro j hj
        rw [rd71_push j hj]
        split
        · next h => exact hm j h
        · next h =>
          have : j = i := by rw [List.length_append] at hj; simp at hj; omega
          subst this
          exact ⟨rfl, t1, t2, rfl, rfl, rfl, rfl⟩)
      refine ⟨l1, Ev.step (fun k => by rw [q4_Made.l1]) ?_, h2⟩
      rw [w64 ((i : Int) + 1) (by omega) (by omega), w64 _ (by omega) (by omega), w64 _ (by omega) (by omega)]
      simp only [show ((i : Int) < (x1.length : Int)) by omega, show ((i : Int) < 5) by omega, show (0 : Int) ≤ (i : Int) by omega, show ((i : Int) ≤ (i : Int) + 1) by omega, show ((i : Int) + 1 ≤ 5) by omega, show ¬ ((l.length : Int) = 0) by omega, show acc.length < 2199023255552 by omega, ↓reduceIte]
      exact h1
    · refine ⟨acc, Ev.step (fun k => by rw [q4_Made.l1]) ?_, by omega, hm⟩
      simp only [show ¬ ((i : Int) < (x1.length : Int)) by omega, ↓reduceIte]; exact Ev.now _
theorem made_node (acc : List S68) (i : Nat) (hi : i < 6) (ha : acc.length = i) (p q : Int) (hp : 0 ≤ p ∧ p ≤ 255) (hq : 0 ≤ q ∧ q ≤ 255)
    (hm : ∀ x : S68, MadeT i x → ∃ r, Ev (fun k => q4_Made.l0 k x0 x1 ((i : Int) + 1) (acc ++ [x])) r ∧ MadeN r.1 ∧ MadeE r.1.length r.2) :
    ∃ r, Ev (fun k => q4_Made.j2 k x0 x1 (i : Int) acc p q) r ∧ MadeN r.1 ∧ MadeE r.1.length r.2 := by
  have t1 := tmod_lt p hp.1 (i + 1) (by omega)
  rw [show ((i + 1 : Nat) : Int) = (i : Int) + 1 by omega] at t1
  have hd : 0 ≤ Int.tdiv q 4 % 256 % 9 ∧ Int.tdiv q 4 % 256 % 9 ≤ 8 := by omega
  by_cases c1 : Int.tmod q 4 = 1
  · obtain ⟨r, h1, h2⟩ := hm ⟨nmB i, Int.tmod p ((i : Int) + 1) - 1, (Int.tdiv p 16 % 4) == 3, [⟨anB i, -3, 3 + Int.tdiv q 4 % 256 % 9, []⟩]⟩ ⟨rfl, by show -1 ≤ Int.tmod p ((i : Int) + 1) - 1; omega, by show Int.tmod p ((i : Int) + 1) - 1 < (i : Int); omega, Or.inr ⟨_, rfl, rfl, Or.inl ⟨rfl, by show 3 ≤ 3 + Int.tdiv q 4 % 256 % 9; omega, by show 3 + Int.tdiv q 4 % 256 % 9 ≤ 11; omega, rfl⟩⟩⟩
    refine ⟨r, Ev.step (fun k => by rw [q4_Made.j2]) ?_, h2⟩
    rw [w64 ((i : Int) + 1) (by omega) (by omega), w64 p (by omega) (by omega), w64 (Int.tmod p ((i : Int) + 1) - 1) (by omega) (by omega)]
    simp only [c1, show (0 : Int) ≤ (i : Int) by omega, show ((i : Int) ≤ (i : Int) + 1) by omega, show ((i : Int) + 1 ≤ 6) by omega, show ¬ ((i : Int) + 1 = 0) by omega, show acc.length < 2513169434916 by omega, ↓reduceIte]
    exact h1
  · by_cases c2 : Int.tmod q 4 = 2
    · obtain ⟨r, h1, h2⟩ := hm ⟨nmB i, Int.tmod p ((i : Int) + 1) - 1, (Int.tdiv p 16 % 4) == 3, [⟨anB i, 0, 1, offon⟩]⟩ ⟨rfl, by show -1 ≤ Int.tmod p ((i : Int) + 1) - 1; omega, by show Int.tmod p ((i : Int) + 1) - 1 < (i : Int); omega, Or.inr ⟨_, rfl, rfl, Or.inr ⟨rfl, rfl, rfl⟩⟩⟩
      refine ⟨r, Ev.step (fun k => by rw [q4_Made.j2]) ?_, h2⟩
      rw [w64 ((i : Int) + 1) (by omega) (by omega), w64 p (by omega) (by omega), w64 (Int.tmod p ((i : Int) + 1) - 1) (by omega) (by omega)]
      simp only [c2, show ¬ ((2 : Int) = 1) by omega, show (0 : Int) ≤ (i : Int) by omega, show ((i : Int) ≤ (i : Int) + 1) by omega, show ((i : Int) + 1 ≤ 6) by omega, show ¬ ((i : Int) + 1 = 0) by omega, show acc.length < 2513169434916 by omega, ↓reduceIte]
      exact h1
    · obtain ⟨r, h1, h2⟩ := hm ⟨nmB i, Int.tmod p ((i : Int) + 1) - 1, (Int.tdiv p 16 % 4) == 3, []⟩ ⟨rfl, by show -1 ≤ Int.tmod p ((i : Int) + 1) - 1; omega, by show Int.tmod p ((i : Int) + 1) - 1 < (i : Int); omega, Or.inl rfl⟩
      refine ⟨r, Ev.step (fun k => by rw [q4_Made.j2]) ?_, h2⟩
      rw [w64 ((i : Int) + 1) (by omega) (by omega), w64 p (by omega) (by omega), w64 (Int.tmod p ((i : Int) + 1) - 1) (by omega) (by omega)]
      simp only [c1, c2, show (0 : Int) ≤ (i : Int) by omega, show ((i : Int) ≤ (i : Int) + 1) by omega, show ((i : Int) + 1 ≤ 6) by omega, show ¬ ((i : Int) + 1 = 0) by omega, show acc.length < 2513169434916 by omega, ↓reduceIte]
      exact h1
theorem made_nodes : ∀ (m i : Nat) (acc : List S68), i + m = 6 → acc.length = i → (∀ j : Nat, j < acc.length → MadeT j (rd_T68 acc (j : Int))) →
    ∃ r, Ev (fun k => q4_Made.l0 k x0 x1 (i : Int) acc) r ∧ MadeN r.1 ∧ MadeE r.1.length r.2
  | m, i, acc, hi, ha, hm => by
    have hn := reach_num
    have stop : 1 ≤ i → ∃ r, Ev (fun k => q4_Made.j1 k x0 x1 (i : Int) false acc) r ∧ MadeN r.1 ∧ MadeE r.1.length r.2 := by
      intro h1
      obtain ⟨l1, e1, e2⟩ := made_edges x0 x1 hg0 hg1 hl0 hl1 acc (by omega) 5 0 [] (by omega) rfl (fun j hj => absurd hj (Nat.not_lt_zero _))
      refine ⟨(acc, l1), Ev.step (fun k => by rw [q4_Made.j1]) ?_, ⟨by show 1 ≤ acc.length; omega, by show acc.length ≤ 6; omega, hm⟩, e2⟩
      simp only [Bool.false_eq_true, ↓reduceIte]; exact e1
    have go : i < 6 → (∀ x : S68, MadeT i x → ∃ r, Ev (fun k => q4_Made.l0 k x0 x1 ((i : Int) + 1) (acc ++ [x])) r ∧ MadeN r.1 ∧ MadeE r.1.length r.2) → ∃ r, Ev (fun k => q4_Made.j1 k x0 x1 (i : Int) true acc) r ∧ MadeN r.1 ∧ MadeE r.1.length r.2 := by
      intro h6 hr
      by_cases hlt : i < x0.length
      · have hx := good81_rd hg0 i hlt
        obtain ⟨r, e1, e2⟩ := made_node x0 x1 hg0 hg1 hl0 hl1 acc i h6 ha _ _ (u8_wf hx.1) (u8_wf hx.2) hr
        refine ⟨r, Ev.step (fun k => by rw [q4_Made.j1]) ?_, e2⟩
        simp only [show ((i : Int) < (x0.length : Int)) by omega, show (0 : Int) ≤ (i : Int) by omega, ↓reduceIte]; exact e1
      · obtain ⟨r, e1, e2⟩ := made_node x0 x1 hg0 hg1 hl0 hl1 acc i h6 ha 0 0 (by omega) (by omega) hr
        refine ⟨r, Ev.step (fun k => by rw [q4_Made.j1]) ?_, e2⟩
        simp only [show ¬ ((i : Int) < (x0.length : Int)) by omega, ↓reduceIte]; exact e1
    cases m with
    | zero =>
      obtain ⟨r, e1, e2⟩ := stop (by omega)
      refine ⟨r, Ev.step (fun k => by rw [q4_Made.l0]) ?_, e2⟩
      simp only [show ¬ ((i : Int) = 0) by omega, show decide ((i : Int) < 6) = false by exact decide_eq_false (by omega), ↓reduceIte, ite_self]; exact e1
    | succ m =>
      have rec_ := go (by omega) (fun x hx => by
        have := made_nodes m (i + 1) (acc ++ [x]) (by omega) (by simp [ha]) (fun j hj => by
          rw [rd68_push j hj]
          split
          · next h => exact hm j h
          · next h =>
            have : j = i := by rw [List.length_append] at hj; simp at hj; omega
            subst this; exact hx)
        exact this)
      by_cases h0 : i = 0
      · obtain ⟨r, e1, e2⟩ := rec_
        refine ⟨r, Ev.step (fun k => by rw [q4_Made.l0]) ?_, e2⟩
        simp only [show ((i : Int) = 0) by omega, ↓reduceIte]
        rw [show ((i : Int)) = 0 by omega] at e1
        exact e1
      · by_cases hlt : i < x0.length
        · obtain ⟨r, e1, e2⟩ := rec_
          refine ⟨r, Ev.step (fun k => by rw [q4_Made.l0]) ?_, e2⟩
          simp only [show ¬ ((i : Int) = 0) by omega, show ((i : Int) < (x0.length : Int)) by omega, show decide ((i : Int) < 6) = true by exact decide_eq_true (by omega), ↓reduceIte]; exact e1
        · obtain ⟨r, e1, e2⟩ := stop (by omega)
          refine ⟨r, Ev.step (fun k => by rw [q4_Made.l0]) ?_, e2⟩
          simp only [show ¬ ((i : Int) = 0) by omega, show ¬ ((i : Int) < (x0.length : Int)) by omega, ↓reduceIte]; exact e1
theorem Made_ev : ∃ r, Ev (fun k => q4_Made.f k x0 x1) r ∧ MadeN r.1 ∧ MadeE r.1.length r.2 := by
  have := made_nodes x0 x1 hg0 hg1 hl0 hl1 6 0 [] (by omega) rfl (fun j hj => absurd hj (Nat.not_lt_zero _))
  exact this
end made
end Go.Proofs.Ytfpianecohobjaa.P
