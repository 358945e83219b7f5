/- typesLists_holds: a part of the proof that the law returns true for every input. No condition. -/
import Derived.Test.YtfpianecohobjaaVS1
namespace Go.Proofs.Ytfpianecohobjaa.P
open Go.RowKit Go.Proofs.YtfpianecohobjaaW.PrintWords Go.Proofs.YtfpianecohobjaaW.PrintLast
set_option maxRecDepth 100000
set_option linter.unusedVariables false
set_option linter.unusedSimpArgs false
set_option linter.unusedSectionVars false
def firstE (F : Nat → Int) (nm : Nat → ByteArray) (r : ByteArray × Int) : Nat → Nat → ByteArray × Int
  | 0, _ => r
  | m + 1, i => if F i = 0 then firstE F nm r m (i + 1) else (nm i, F i)
def validE (l : List S68) (l1 : List S71) : ByteArray × Int :=
  if (l.length : Int) = 0 then ((⟨#[]⟩ : ByteArray), 7) else if (l.length : Int) > 12 then ((⟨#[]⟩ : ByteArray), 3) else if (l1.length : Int) > 20 then ((⟨#[]⟩ : ByteArray), 3)
  else firstE (nodeE l) (fun i => (rd_T68 l (i : Int)).f0) (firstE (edgeE l l1) (fun i => (rd_T71 l1 (i : Int)).f0) ((⟨#[]⟩ : ByteArray), 0) l1.length 0) l.length 0
theorem nodeE_zero {l : List S68} {i : Nat} (h : nodeE l i = 0) : -1 ≤ (rd_T68 l (i : Int)).f1 ∧ (rd_T68 l (i : Int)).f1 < (i : Int) := by
  unfold nodeE at h
  split at h
  · split at h
    · exact absurd h (by decide)
    · split at h
      · exact absurd h (by decide)
      · omega
  · exact absurd h (by decide)
section
variable (l : List S68) (l1 : List S71) (hg : Good l) (h : Small l) (h1g : ∀ x ∈ l1, good71 x) (h1l : l1.length ≤ 30)
include hg h h1g h1l
theorem valid_edges : ∀ (m i : Nat), i + m = l1.length → Ev (fun k => types_Valid.l1 k l1 (l1.length : Int) (i : Int) l l1) (firstE (edgeE l l1) (fun i => (rd_T71 l1 (i : Int)).f0) ((⟨#[]⟩ : ByteArray), 0) m i)
  | 0, i, hi => by
    refine Ev.step (fun k => by rw [types_Valid.l1]) ?_
    simp only [show ¬ ((i : Int) < (l1.length : Int)) by omega, ↓reduceIte]; exact Ev.now _
  | m + 1, i, hi => by
    refine Ev.step (fun k => by rw [types_Valid.l1]) ?_
    simp only [show ((i : Int) < (l1.length : Int)) by omega, show (0 : Int) ≤ (i : Int) by omega, ↓reduceIte]
    refine Ev.bind (edge_ev l l1 h1g (by omega) i (by omega)) ?_
    unfold firstE
    by_cases h0 : edgeE l l1 i = 0
    · simp only [h0, ↓reduceIte]; rw [w64 _ (by omega) (by omega)]; exact valid_edges m (i + 1) (by omega)
    · simp only [h0, ↓reduceIte]; exact Ev.now _
theorem valid_nodes : ∀ (m i : Nat), i + m = l.length → (∀ j : Nat, j < i → -1 ≤ (rd_T68 l (j : Int)).f1 ∧ (rd_T68 l (j : Int)).f1 < (j : Int)) →
    Ev (fun k => types_Valid.l0 k l (l.length : Int) (i : Int) l l1) (firstE (nodeE l) (fun i => (rd_T68 l (i : Int)).f0) (firstE (edgeE l l1) (fun i => (rd_T71 l1 (i : Int)).f0) ((⟨#[]⟩ : ByteArray), 0) l1.length 0) m i)
  | 0, i, hi, hu => by
    refine Ev.step (fun k => by rw [types_Valid.l0]) ?_
    simp only [show ¬ ((i : Int) < (l.length : Int)) by omega, ↓reduceIte]; exact valid_edges l l1 hg h h1g h1l _ 0 (by omega)
  | m + 1, i, hi, hu => by
    have h20 := h.1
    refine Ev.step (fun k => by rw [types_Valid.l0]) ?_
    simp only [show ((i : Int) < (l.length : Int)) by omega, show (0 : Int) ≤ (i : Int) by omega, ↓reduceIte]
    refine Ev.bind (node_ev l l1 hg h i (by omega) hu) ?_
    unfold firstE
    by_cases h0 : nodeE l i = 0
    · simp only [h0, ↓reduceIte]; rw [w64 _ (by omega) (by omega)]
      exact valid_nodes m (i + 1) (by omega) (fun j hj => by
        rcases Nat.lt_or_eq_of_le (Nat.le_of_lt_succ hj) with hj | rfl
        · exact hu j hj
        · exact nodeE_zero h0)
    · simp only [h0, ↓reduceIte]; exact Ev.now _
theorem valid_ev : Ev (fun k => types_Valid.f k l l1) (validE l l1) := by
  unfold types_Valid.f validE
  by_cases h0 : (l.length : Int) = 0
  · simp only [if_pos h0]; exact Ev.now _
  · by_cases h1 : (l.length : Int) > 12
    · simp only [if_neg h0, if_pos h1]; exact Ev.now _
    · by_cases h2 : (l1.length : Int) > 20
      · simp only [if_neg h0, if_neg h1, if_pos h2]; exact Ev.now _
      · simp only [if_neg h0, if_neg h1, if_neg h2]; exact valid_nodes l l1 hg h h1g h1l _ 0 (by omega) (fun j hj => by omega)
theorem rvalid_edges : ∀ (m i : Nat), i + m = l1.length → Ev (fun k => q4_Valid.l1 k (i : Int) l l1) (firstE (edgeE l l1) (fun i => (rd_T71 l1 (i : Int)).f0) ((⟨#[]⟩ : ByteArray), 0) m i)
  | 0, i, hi => by
    refine Ev.step (fun k => by rw [q4_Valid.l1]) ?_
    simp only [show ¬ ((i : Int) < (l1.length : Int)) by omega, ↓reduceIte]; exact Ev.now _
  | m + 1, i, hi => by
    have h20 := h.1
    refine Ev.step (fun k => by rw [q4_Valid.l1]) ?_
    simp only [show ((i : Int) < (l1.length : Int)) by omega, show (0 : Int) ≤ (i : Int) by omega, ↓reduceIte]
    refine Ev.bind (redge_ev l l1 (by omega) h1g (by omega) i (by omega)) ?_
    unfold firstE
    by_cases h0 : edgeE l l1 i = 0
    · simp only [h0, ↓reduceIte]; rw [w64 _ (by omega) (by omega)]; exact rvalid_edges m (i + 1) (by omega)
    · simp only [h0, ↓reduceIte]; exact Ev.now _
theorem rvalid_nodes : ∀ (m i : Nat), i + m = l.length → (∀ j : Nat, j < i → -1 ≤ (rd_T68 l (j : Int)).f1 ∧ (rd_T68 l (j : Int)).f1 < (j : Int)) →
    Ev (fun k => q4_Valid.l0 k (i : Int) l l1) (firstE (nodeE l) (fun i => (rd_T68 l (i : Int)).f0) (firstE (edgeE l l1) (fun i => (rd_T71 l1 (i : Int)).f0) ((⟨#[]⟩ : ByteArray), 0) l1.length 0) m i)
  | 0, i, hi, hu => by
    refine Ev.step (fun k => by rw [q4_Valid.l0]) ?_
    simp only [show ¬ ((i : Int) < (l.length : Int)) by omega, ↓reduceIte]; exact rvalid_edges l l1 hg h h1g h1l _ 0 (by omega)
  | m + 1, i, hi, hu => by
    have h20 := h.1
    refine Ev.step (fun k => by rw [q4_Valid.l0]) ?_
    simp only [show ((i : Int) < (l.length : Int)) by omega, show (0 : Int) ≤ (i : Int) by omega, ↓reduceIte]
    refine Ev.bind (rnode_ev l l1 hg h i (by omega) hu) ?_
    unfold firstE
    by_cases h0 : nodeE l i = 0
    · simp only [h0, ↓reduceIte]; rw [w64 _ (by omega) (by omega)]
      exact rvalid_nodes m (i + 1) (by omega) (fun j hj => by
        rcases Nat.lt_or_eq_of_le (Nat.le_of_lt_succ hj) with hj | rfl
        · exact hu j hj
        · exact nodeE_zero h0)
    · simp only [h0, ↓reduceIte]; exact Ev.now _
theorem rvalid_ev : Ev (fun k => q4_Valid.f k l l1) (validE l l1) := by
  unfold q4_Valid.f validE
  by_cases h0 : (l.length : Int) = 0
  · simp only [if_pos h0]; exact Ev.now _
  · by_cases h1 : (l.length : Int) > 12
    · simp only [if_neg h0, if_pos h1]
      refine Ev.step (fun k => by rw [q4_Valid.j0]) ?_
      simp only [↓reduceIte]; exact Ev.now _
    · simp only [if_neg h0, if_neg h1]
      refine Ev.step (fun k => by rw [q4_Valid.j0]) ?_
      by_cases h2 : (l1.length : Int) > 20
      · simp only [h2, decide_true, ↓reduceIte]; exact Ev.now _
      · simp only [h2, decide_false, Bool.false_eq_true, ↓reduceIte]; exact rvalid_nodes l l1 hg h h1g h1l _ 0 (by omega) (fun j hj => by omega)
end
section
variable (l : List S68) (l1 : List S71)
theorem few_edges (h1l : l1.length ≤ reachBytes) : ∀ (m i : Nat), i + m = l1.length → ∃ b, Ev (fun k => q4_Few.l3 k (i : Int) l l1) b
  | 0, i, hi => ⟨_, by
    refine Ev.step (fun k => by rw [q4_Few.l3]) ?_
    simp only [show ¬ ((i : Int) < (l1.length : Int)) by omega, ↓reduceIte]; exact Ev.now true⟩
  | m + 1, i, hi => by
    have hn := reach_num
    by_cases hc : ((rd_T71 l1 (i : Int)).f0.size : Int) > 40
    · refine ⟨false, Ev.step (fun k => by rw [q4_Few.l3]) ?_⟩
      simp only [show ((i : Int) < (l1.length : Int)) by omega, show (0 : Int) ≤ (i : Int) by omega, hc, ↓reduceIte]; exact Ev.now _
    · obtain ⟨b, hb⟩ := few_edges h1l m (i + 1) (by omega)
      refine ⟨b, Ev.step (fun k => by rw [q4_Few.l3]) ?_⟩
      simp only [show ((i : Int) < (l1.length : Int)) by omega, show (0 : Int) ≤ (i : Int) by omega, hc, ↓reduceIte]
      rw [w64 _ (by omega) (by omega)]; exact hb
theorem few_l2 (Q : Bool → Prop) (hQ : Q false) (x3 x4 x5 : Int) (a0 : ByteArray) (a1 a2 : Int) (a3 : List ByteArray) (ha : a3.length ≤ reachBytes) (cont : ∃ b, Ev (fun k => q4_Few.l1 k x3 x4 (wrap64 (x5 + 1)) l l1) b ∧ Q b) : ∀ (m q : Nat), q + m = a3.length → ∃ b, Ev (fun k => q4_Few.l2 k x3 x4 x5 (q : Int) l l1 a0 a1 a2 a3) b ∧ Q b
  | 0, q, hq => by
    obtain ⟨b, hb, hQb⟩ := cont
    refine ⟨b, Ev.step (fun k => by rw [q4_Few.l2]) ?_, hQb⟩
    simp only [show ¬ ((q : Int) < (a3.length : Int)) by omega, ↓reduceIte]; exact hb
  | m + 1, q, hq => by
    have hn := reach_num
    by_cases hc : ((rdOf ByteArray.empty a3 (q : Int)).size : Int) > 40
    · refine ⟨false, Ev.step (fun k => by rw [q4_Few.l2]) ?_, hQ⟩
      simp only [show ((q : Int) < (a3.length : Int)) by omega, show (0 : Int) ≤ (q : Int) by omega, hc, ↓reduceIte]; exact Ev.now _
    · obtain ⟨b, hb, hQb⟩ := few_l2 Q hQ x3 x4 x5 a0 a1 a2 a3 ha cont m (q + 1) (by omega)
      refine ⟨b, Ev.step (fun k => by rw [q4_Few.l2]) ?_, hQb⟩
      simp only [show ((q : Int) < (a3.length : Int)) by omega, show (0 : Int) ≤ (q : Int) by omega, hc, ↓reduceIte]
      rw [w64 _ (by omega) (by omega)]; exact hb
theorem few_l1 (Q : Bool → Prop) (hQ : Q false) (x3 : Int) (i : Nat) (hi : i < l.length) (hg : good68 (rd_T68 l (i : Int))) (cont : ∃ b, Ev (fun k => q4_Few.l0 k x3 (wrap64 ((i : Int) + 1)) l l1) b ∧ Q b) :
    ∀ (m j : Nat), j + m = (rd_T68 l (i : Int)).f3.length → ∃ b, Ev (fun k => q4_Few.l1 k x3 (i : Int) (j : Int) l l1) b ∧ Q b
  | 0, j, hj => by
    obtain ⟨b, hb, hQb⟩ := cont
    refine ⟨b, Ev.step (fun k => by rw [q4_Few.l1]) ?_, hQb⟩
    simp only [show ((i : Int) < (l.length : Int)) by omega, show (0 : Int) ≤ (i : Int) by omega, show ¬ ((j : Int) < ((rd_T68 l (i : Int)).f3.length : Int)) by omega, ↓reduceIte]; exact hb
  | m + 1, j, hj => by
    have hn := reach_num
    have hl := hg.2.2.2.1
    have ih := few_l1 Q hQ x3 i hi hg cont m (j + 1) (by omega)
    have ih' : ∃ b, Ev (fun k => q4_Few.l1 k x3 (i : Int) (wrap64 ((j : Int) + 1)) l l1) b ∧ Q b := by rw [w64 _ (by omega) (by omega)]; exact ih
    have hx : good77 (rd_T77 (rd_T68 l (i : Int)).f3 (j : Int)) := by rw [rd77_nat _ _ (by omega)]; exact hg.2.2.2.2 _ (List.getElem_mem _)
    have step : ∀ c : Bool, ∃ b, Ev (fun k => q4_Few.j4 k x3 (i : Int) (j : Int) c l l1 (rd_T77 (rd_T68 l (i : Int)).f3 (j : Int)).f0 (rd_T77 (rd_T68 l (i : Int)).f3 (j : Int)).f1 (rd_T77 (rd_T68 l (i : Int)).f3 (j : Int)).f2 (rd_T77 (rd_T68 l (i : Int)).f3 (j : Int)).f3) b ∧ Q b := by
      intro c
      cases c
      · obtain ⟨b, hb, hQb⟩ := few_l2 l l1 Q hQ x3 (i : Int) (j : Int) (rd_T77 (rd_T68 l (i : Int)).f3 (j : Int)).f0 (rd_T77 (rd_T68 l (i : Int)).f3 (j : Int)).f1 (rd_T77 (rd_T68 l (i : Int)).f3 (j : Int)).f2 _ hx.2.2.2.1 ih' _ 0 (Nat.zero_add _)
        refine ⟨b, Ev.step (fun k => by rw [q4_Few.j4]) ?_, hQb⟩
        simp only [Bool.false_eq_true, ↓reduceIte]; exact hb
      · refine ⟨false, Ev.step (fun k => by rw [q4_Few.j4]) ?_, hQ⟩
        simp only [↓reduceIte]; exact Ev.now _
    by_cases hc : ((rd_T77 (rd_T68 l (i : Int)).f3 (j : Int)).f0.size : Int) > 40
    · obtain ⟨b, hb, hQb⟩ := step true
      refine ⟨b, Ev.step (fun k => by rw [q4_Few.l1]) ?_, hQb⟩
      simp only [show ((i : Int) < (l.length : Int)) by omega, show (0 : Int) ≤ (i : Int) by omega, show (0 : Int) ≤ (j : Int) by omega, show ((j : Int) < ((rd_T68 l (i : Int)).f3.length : Int)) by omega, ↓reduceIte, hc]; exact hb
    · obtain ⟨b, hb, hQb⟩ := step (decide (((rd_T77 (rd_T68 l (i : Int)).f3 (j : Int)).f3.length : Int) > 25))
      refine ⟨b, Ev.step (fun k => by rw [q4_Few.l1]) ?_, hQb⟩
      simp only [show ((i : Int) < (l.length : Int)) by omega, show (0 : Int) ≤ (i : Int) by omega, show (0 : Int) ≤ (j : Int) by omega, show ((j : Int) < ((rd_T68 l (i : Int)).f3.length : Int)) by omega, ↓reduceIte, hc]; exact hb
def FewOk (b : Bool) : Prop := b = true → ∀ j : Nat, j < l.length → (rd_T68 l (j : Int)).f3.length ≤ 30
theorem few_nodes (hg : Good l) (hl : l.length ≤ reachBytes) (h1l : l1.length ≤ reachBytes) : ∀ (m i s : Nat), i + m = l.length → s ≤ 30 → (∀ j : Nat, j < i → (rd_T68 l (j : Int)).f3.length ≤ 30) → ∃ b, Ev (fun k => q4_Few.l0 k (s : Int) (i : Int) l l1) b ∧ FewOk l b
  | 0, i, s, hi, hs, hu => by
    obtain ⟨b, hb⟩ := few_edges l l1 h1l _ 0 (Nat.zero_add _)
    refine ⟨b, Ev.step (fun k => by rw [q4_Few.l0]) ?_, fun _ j hj => hu j (by omega)⟩
    simp only [show ¬ ((i : Int) < (l.length : Int)) by omega, ↓reduceIte]; exact hb
  | m + 1, i, s, hi, hs, hu => by
    have hn := reach_num
    have hx := good_rd hg i (by omega)
    have hle := hx.2.2.2.1
    have hQ : FewOk l false := fun h => absurd h (by decide)
    by_cases hc : (s : Int) + ((rd_T68 l (i : Int)).f3.length : Int) > 30
    · refine ⟨false, Ev.step (fun k => by rw [q4_Few.l0]) ?_, hQ⟩
      rw [w64 ((s : Int) + ((rd_T68 l (i : Int)).f3.length : Int)) (by omega) (by omega)]
      simp only [show ((i : Int) < (l.length : Int)) by omega, show (0 : Int) ≤ (i : Int) by omega, ↓reduceIte, hc]
      refine Ev.step (fun k => by rw [q4_Few.j2]) ?_
      simp only [↓reduceIte]; exact Ev.now _
    · obtain ⟨b, hb, hQb⟩ := few_nodes hg hl h1l m (i + 1) (s + (rd_T68 l (i : Int)).f3.length) (by omega) (by omega) (fun j hj => by
        rcases Nat.lt_or_eq_of_le (Nat.le_of_lt_succ hj) with hj | rfl
        · exact hu j hj
        · omega)
      have cont : ∃ b, Ev (fun k => q4_Few.l0 k ((s + (rd_T68 l (i : Int)).f3.length : Nat) : Int) (wrap64 ((i : Int) + 1)) l l1) b ∧ FewOk l b := ⟨b, by rw [w64 _ (by omega) (by omega)]; exact hb, hQb⟩
      obtain ⟨b', hb', hQb'⟩ := few_l1 l l1 (FewOk l) hQ _ i (by omega) hx cont _ 0 (Nat.zero_add _)
      by_cases hz : ((rd_T68 l (i : Int)).f0.size : Int) > 40
      · refine ⟨false, Ev.step (fun k => by rw [q4_Few.l0]) ?_, hQ⟩
        rw [w64 ((s : Int) + ((rd_T68 l (i : Int)).f3.length : Int)) (by omega) (by omega)]
        simp only [show ((i : Int) < (l.length : Int)) by omega, show (0 : Int) ≤ (i : Int) by omega, ↓reduceIte, hc, hz, decide_true]
        refine Ev.step (fun k => by rw [q4_Few.j2]) ?_
        simp only [↓reduceIte]; exact Ev.now _
      · refine ⟨b', Ev.step (fun k => by rw [q4_Few.l0]) ?_, hQb'⟩
        rw [w64 ((s : Int) + ((rd_T68 l (i : Int)).f3.length : Int)) (by omega) (by omega)]
        simp only [show ((i : Int) < (l.length : Int)) by omega, show (0 : Int) ≤ (i : Int) by omega, ↓reduceIte, hc, hz, decide_false]
        refine Ev.step (fun k => by rw [q4_Few.j2]) ?_
        simp only [Bool.false_eq_true, ↓reduceIte]
        rw [show ((s : Int) + ((rd_T68 l (i : Int)).f3.length : Int)) = ((s + (rd_T68 l (i : Int)).f3.length : Nat) : Int) by omega]
        exact hb'
theorem few_ev (hg : Good l) (hl : l.length ≤ reachBytes) (h1l : l1.length ≤ reachBytes) : ∃ b, Ev (fun k => q4_Few.f k l l1) b ∧ (b = true → Small l ∧ l1.length ≤ 30) := by
  unfold q4_Few.f
  by_cases h0 : (l.length : Int) > 20
  · refine ⟨false, ?_, fun h => absurd h (by decide)⟩
    simp only [if_pos h0]
    refine Ev.step (fun k => by rw [q4_Few.j0]) ?_
    simp only [↓reduceIte]; exact Ev.now _
  · simp only [if_neg h0]
    by_cases h2 : (l1.length : Int) > 30
    · refine ⟨false, ?_, fun h => absurd h (by decide)⟩
      refine Ev.step (fun k => by rw [q4_Few.j0]) ?_
      simp only [h2, decide_true, ↓reduceIte]; exact Ev.now _
    · obtain ⟨b, hb, hQ⟩ := few_nodes l l1 hg hl h1l l.length 0 0 (by omega) (by omega) (fun j hj => by omega)
      refine ⟨b, ?_, fun h => ⟨⟨by omega, fun x hx => ?_⟩, by omega⟩⟩
      · refine Ev.step (fun k => by rw [q4_Few.j0]) ?_
        simp only [h2, decide_false, Bool.false_eq_true, ↓reduceIte]; exact hb
      · obtain ⟨j, hj, rfl⟩ := List.getElem_of_mem hx
        have := hQ h j hj
        rwa [rd68_nat _ _ hj] at this
end
theorem awake_ev : Ev (fun k => w4_awake.f k) true := Ev.of (fun k => w4_awake.mono k) (k := 60) (by kernel_rfl)
end Go.Proofs.Ytfpianecohobjaa.P
