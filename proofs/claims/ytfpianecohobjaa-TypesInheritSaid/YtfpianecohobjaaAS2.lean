/- typesOrder_holds, typesBounds_holds, typesInherit_holds: a part of the proof that the law returns true for every input. No condition. -/
import Derived.Test.YtfpianecohobjaaAS1
namespace Go.Proofs.Ytfpianecohobjaa.P
open Go.RowKit Go.Proofs.YtfpianecohobjaaW.PrintWords Go.Proofs.YtfpianecohobjaaW.PrintLast
set_option maxRecDepth 100000
set_option linter.unusedVariables false
set_option linter.unusedSimpArgs false
set_option linter.unusedSectionVars false
def firstE (F : Nat → Int) (nm : Nat → ByteArray) (r : ByteArray × Int) : Nat → Nat → ByteArray × Int
  | 0, _ => r
  | m + 1, i => if F i = 0 then firstE F nm r m (i + 1) else (nm i, F i)
def validE (l : List S68) (l1 : List S71) : ByteArray × Int :=
  if (l.length : Int) = 0 then ((⟨#[]⟩ : ByteArray), 7) else if (l.length : Int) > 12 then ((⟨#[]⟩ : ByteArray), 3) else if (l1.length : Int) > 20 then ((⟨#[]⟩ : ByteArray), 3)
  else firstE (nodeE l) (fun i => (rd_T68 l (i : Int)).f0) (firstE (edgeE l l1) (fun i => (rd_T71 l1 (i : Int)).f0) ((⟨#[]⟩ : ByteArray), 0) l1.length 0) l.length 0
theorem nodeE_zero {l : List S68} {i : Nat} (h : nodeE l i = 0) : -1 ≤ (rd_T68 l (i : Int)).f1 ∧ (rd_T68 l (i : Int)).f1 < (i : Int) := by
  unfold nodeE at h
  split at h
  · split at h
    · exact absurd h (by decide)
    · split at h
      · exact absurd h (by decide)
      · omega
  · exact absurd h (by decide)
section
variable (l : List S68) (l1 : List S71) (hg : Good l) (h : Small l) (h1g : ∀ x ∈ l1, good71 x) (h1l : l1.length ≤ 30)
include hg h h1g h1l
theorem valid_edges : ∀ (m i : Nat), i + m = l1.length → Ev (fun k => types_Valid.l1 k l1 (l1.length : Int) (i : Int) l l1) (firstE (edgeE l l1) (fun i => (rd_T71 l1 (i : Int)).f0) ((⟨#[]⟩ : ByteArray), 0) m i)
  | 0, i, hi => by
    refine Ev.step (fun k => by rw [types_Valid.l1]) ?_
    simp only [show ¬ ((i : Int) < (l1.length : Int)) by omega, ↓reduceIte]; exact Ev.now _
  | m + 1, i, hi => by
    refine Ev.step (fun k => by rw [types_Valid.l1]) ?_
    simp only [show ((i : Int) < (l1.length : Int)) by omega, show (0 : Int) ≤ (i : Int) by omega, ↓reduceIte]
    refine Ev.bind (edge_ev l l1 h1g (by omega) i (by omega)) ?_
    unfold firstE
    by_cases h0 : edgeE l l1 i = 0
    · simp only [h0, ↓reduceIte]; rw [w64 _ (by omega) (by omega)]; exact valid_edges m (i + 1) (by omega)
    · simp only [h0, ↓reduceIte]; exact Ev.now _
theorem valid_nodes : ∀ (m i : Nat), i + m = l.length → (∀ j : Nat, j < i → -1 ≤ (rd_T68 l (j : Int)).f1 ∧ (rd_T68 l (j : Int)).f1 < (j : Int)) →
    Ev (fun k => types_Valid.l0 k l (l.length : Int) (i : Int) l l1) (firstE (nodeE l) (fun i => (rd_T68 l (i : Int)).f0) (firstE (edgeE l l1) (fun i => (rd_T71 l1 (i : Int)).f0) ((⟨#[]⟩ : ByteArray), 0) l1.length 0) m i)
  | 0, i, hi, hu => by
    refine Ev.step (fun k => by rw [types_Valid.l0]) ?_
    simp only [show ¬ ((i : Int) < (l.length : Int)) by omega, ↓reduceIte]; exact valid_edges l l1 hg h h1g h1l _ 0 (by omega)
  | m + 1, i, hi, hu => by
    have h20 := h.1
    refine Ev.step (fun k => by rw [types_Valid.l0]) ?_
    simp only [show ((i : Int) < (l.length : Int)) by omega, show (0 : Int) ≤ (i : Int) by omega, ↓reduceIte]
    refine Ev.bind (node_ev l l1 hg h i (by omega) hu) ?_
    unfold firstE
    by_cases h0 : nodeE l i = 0
    · simp only [h0, ↓reduceIte]; rw [w64 _ (by omega) (by omega)]
      exact valid_nodes m (i + 1) (by omega) (fun j hj => by
        rcases Nat.lt_or_eq_of_le (Nat.le_of_lt_succ hj) with hj | rfl
        · exact hu j hj
        · exact nodeE_zero h0)
    · simp only [h0, ↓reduceIte]; exact Ev.now _
theorem valid_ev : Ev (fun k => types_Valid.f k l l1) (validE l l1) := by
  unfold types_Valid.f validE
  by_cases h0 : (l.length : Int) = 0
  · simp only [if_pos h0]; exact Ev.now _
  · by_cases h1 : (l.length : Int) > 12
    · simp only [if_neg h0, if_pos h1]; exact Ev.now _
    · by_cases h2 : (l1.length : Int) > 20
      · simp only [if_neg h0, if_neg h1, if_pos h2]; exact Ev.now _
      · simp only [if_neg h0, if_neg h1, if_neg h2]; exact valid_nodes l l1 hg h h1g h1l _ 0 (by omega) (fun j hj => by omega)
end
section
variable (l : List S68) (l1 : List S71)
end
theorem awake_ev : Ev (fun k => w4_awake.f k) true := Ev.of (fun k => w4_awake.mono k) (k := 60) (by kernel_rfl)
end Go.Proofs.Ytfpianecohobjaa.P
