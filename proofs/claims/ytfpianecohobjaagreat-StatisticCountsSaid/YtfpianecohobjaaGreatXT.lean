/- StatisticOf: a part of its proof. No condition. -/
import Derived.Test.YtfpianecohobjaaGreatXS
import Derived.Test.YtfpianecohobjaaGreatXH2
import Derived.Test.YtfpianecohobjaaGreatXPx46
import Derived.Test.YtfpianecohobjaaGreatXMh
import Derived.Test.YtfpianecohobjaaGreatXMk
import Derived.Test.YtfpianecohobjaaGreatXMj
import Derived.Test.YtfpianecohobjaaGreatXMd
import Derived.Test.YtfpianecohobjaaGreatXPx54
namespace Go.Proofs.YtfpianecohobjaaGreat.P
open Go.RowKit Go.Proofs.YtfpianecohobjaaGreatW.PrintWords Go.Proofs.YtfpianecohobjaaGreatW.PrintLast
set_option maxRecDepth 100000
set_option linter.unusedVariables false
set_option linter.unusedSimpArgs false
set_option linter.unusedSectionVars false
def kEq (a b : S75) : Prop := a.f0 = b.f0 ∧ a.f1 = b.f1 ∧ a.f2 = b.f2
def kIn (a : S75) : Prop := (0 ≤ a.f0 ∧ a.f0 ≤ 1000) ∧ (0 ≤ a.f1 ∧ a.f1 ≤ 1000) ∧ (0 ≤ a.f2 ∧ a.f2 ≤ 1000)
theorem cmp_eq {a b : S75} (ha : kIn a) (hb : kIn b) : cmpE a.f0 a.f1 a.f2 b.f0 b.f1 b.f2 = 0 ↔ kEq a b := by
 unfold kIn at ha hb
 unfold cmpE kEq
 rw [w64 (a.f0 - b.f0) (by omega) (by omega), w64 (a.f1 - b.f1) (by omega) (by omega), w64 (a.f2 - b.f2) (by omega) (by omega)]
 split
 · split <;> omega
 · omega
theorem rcmp_f (a b : S75) : scarfjointref18_compare.f a.f0 a.f1 a.f2 a.f3 b.f0 b.f1 b.f2 b.f3 = some (cmpE a.f0 a.f1 a.f2 b.f0 b.f1 b.f2) ∨ ¬ (kIn a ∧ kIn b) := by
 by_cases h : kIn a ∧ kIn b
 · left
   obtain ⟨ha, hb⟩ := h
   unfold kIn at ha hb
   unfold scarfjointref18_compare.f cmpE
   rw [w64 (a.f0 - b.f0) (by omega) (by omega), w64 (a.f1 - b.f1) (by omega) (by omega), w64 (a.f2 - b.f2) (by omega) (by omega)]
   by_cases h0 : a.f0 = b.f0
   · have e0 : a.f0 - b.f0 = 0 := by omega
     by_cases h1 : a.f1 = b.f1
     · have e1 : a.f1 - b.f1 = 0 := by omega
       simp only [h0, h1, e0, e1, ↓reduceIte]
       simp
     · have e1 : ¬ (a.f1 - b.f1 = 0) := by omega
       simp only [h1, e0, e1, ↓reduceIte, if_pos h0]
   · have e0 : ¬ (a.f0 - b.f0 = 0) := by omega
     simp only [h0, e0, ↓reduceIte]
 · exact Or.inr h
theorem rcmp_in {a b : S75} (ha : kIn a) (hb : kIn b) : scarfjointref18_compare.f a.f0 a.f1 a.f2 a.f3 b.f0 b.f1 b.f2 b.f3 = some (cmpE a.f0 a.f1 a.f2 b.f0 b.f1 b.f2) := by
 rcases rcmp_f a b with h | h
 · exact h
 · exact absurd ⟨ha, hb⟩ h
theorem rd75_nat (l : List S75) (i : Nat) (h : i < l.length) : rd_T75 l (i : Int) = l[i] := by unfold rd_T75; simp [h]
def sumE : List S75 → Int
 | [] => 0
 | y :: l => y.f3 + sumE l
theorem scan_succ (F : Nat → Int) (m i : Nat) : scan F (m + 1) i = if F i = 0 then scan F m (i + 1) else F i := rfl
section typed
variable (l : List S96) (l1 : List S101) (hg : Good l) (h : Small l) (h1g : ∀ x ∈ l1, good101 x) (h1l : l1.length ≤ 30) (g : List Int) (es : List S56)
include hg h h1g h1l
end typed
section of
variable (l : List S96) (l1 : List S101) (hg : Good l) (h : Small l) (h1g : ∀ x ∈ l1, good101 x) (h1l : l1.length ≤ 30) (g : List Int) (es : List S56)
include hg h h1g h1l
end of
def isIn (a n : Int) : Bool := decide (0 ≤ a) && decide (a < n)
theorem is_f (a n : Int) : statistic_is.f a n = some (isIn a n) := by
 unfold statistic_is.f isIn
 by_cases h : 0 ≤ a
 · rw [if_pos h]; simp [h]
 · rw [if_neg h]; simp [h]
def cmpAtE (l : List S75) (i : Nat) : Int := cmpE (rd_T75 l ((i : Int) - 1)).f0 (rd_T75 l ((i : Int) - 1)).f1 (rd_T75 l ((i : Int) - 1)).f2 (rd_T75 l (i : Int)).f0 (rd_T75 l (i : Int)).f1 (rd_T75 l (i : Int)).f2
def ordE (l : List S75) (i : Nat) : Int := if 0 < i then (if cmpAtE l i ≥ 0 then 12 else 0) else 0
def nBad (l : List S96) (c : S75) : Bool := !(isIn c.f0 (l.length : Int) && (decide (c.f1 = 0) && (decide (c.f2 = 0) && (decide (1 ≤ c.f3) && decide (c.f3 ≤ 40)))))
def sN (l : List S96) (ns : List S75) (i : Nat) : Int := if nBad l (rd_T75 ns (i : Int)) = true then 6 else ordE ns i
def eBad (l : List S96) (l1 : List S101) (c : S75) : Bool := !(isIn c.f0 (l1.length : Int) && (isIn c.f1 (l.length : Int) && (isIn c.f2 (l.length : Int) && (decide (1 ≤ c.f3) && decide (c.f3 ≤ 80)))))
def hasE (ns : List S75) (a : Int) : Bool := ns.any fun c => c.f0 == a
def sE (l : List S96) (l1 : List S101) (ns es : List S75) (i : Nat) : Int := if eBad l l1 (rd_T75 es (i : Int)) = true then 6 else if fitsE l l1 (rd_T75 es (i : Int)).f0 (rd_T75 es (i : Int)).f1 (rd_T75 es (i : Int)).f2 = true then (if (hasE ns (rd_T75 es (i : Int)).f1 && hasE ns (rd_T75 es (i : Int)).f2) = true then ordE es i else 10) else 13
def sumV (es : List S75) : Int := if sumE es > 80 then 3 else 0
def sEdgesV (l : List S96) (l1 : List S101) (ns es : List S75) : Int := if scan (sE l l1 ns es) es.length 0 = 0 then sumV es else scan (sE l l1 ns es) es.length 0
def sNodesV (l : List S96) (l1 : List S101) (ns es : List S75) : Int := if sumE ns > 40 then 3 else sEdgesV l l1 ns es
def sValidE (l : List S96) (l1 : List S101) (ns es : List S75) : Int := if (validE l l1).2 = 0 then (if scan (sN l ns) ns.length 0 = 0 then sNodesV l l1 ns es else scan (sN l ns) ns.length 0) else (validE l l1).2
theorem total_loop (l : List S75) (hl : l.length ≤ 1000) (hn : ∀ y ∈ l, 1 ≤ y.f3 ∧ y.f3 ≤ 80) : ∀ (m i : Nat) (a : Int), i + m = l.length → 0 ≤ a ∧ a ≤ 80 * (i : Int) → Ev (fun k => statistic_total.l0 k a l (l.length : Int) (i : Int)) (a + sumE (l.drop i))
 | 0, i, a, hi, ha => by
  refine Ev.step (fun k => by rw [statistic_total.l0]) ?_
  rw [List.drop_eq_nil_of_le (by omega)]
  simp only [show ¬ ((i : Int) < (l.length : Int)) by omega, ↓reduceIte, sumE, Int.add_zero]; exact Ev.now _
 | m + 1, i, a, hi, ha => by
  have hil : i < l.length := by omega
  have hy := hn _ (List.getElem_mem hil)
  refine Ev.step (fun k => by rw [statistic_total.l0]) ?_
  simp only [show ((i : Int) < (l.length : Int)) by omega, show (0 : Int) ≤ (i : Int) by omega, ↓reduceIte, rd75_nat l i hil]
  rw [w64 _ (by omega) (by omega), w64 _ (by omega) (by omega), List.drop_eq_getElem_cons hil, sumE, ← Int.add_assoc]
  exact total_loop l hl hn m (i + 1) _ (by omega) (by omega)
theorem total_ev (l : List S75) (hl : l.length ≤ 1000) (hn : ∀ y ∈ l, 1 ≤ y.f3 ∧ y.f3 ≤ 80) : Ev (fun k => statistic_total.f k l) (sumE l) := by
 have := total_loop l hl hn l.length 0 0 (by omega) (by omega)
 rw [Int.zero_add, List.drop_zero] at this
 exact this
theorem compare_ev (a0 a1 a2 a3 b0 b1 b2 b3 : Int) : Ev (fun k => statistic_compare.f k a0 a1 a2 a3 b0 b1 b2 b3) (cmpE a0 a1 a2 b0 b1 b2) := Ev.of (fun k => statistic_compare.mono _ _ _ _ _ _ _ _ k) (k := 5) (compare_f a0 a1 a2 a3 b0 b1 b2 b3)
section sval
variable (l : List S96) (l1 : List S101) (hg : Good l) (h : Small l) (h1g : ∀ x ∈ l1, good101 x) (h1l : l1.length ≤ 30) (ns es : List S75) (hn : ns.length ≤ 1000) (he : es.length ≤ 1000)
include hg h h1g h1l hn he
theorem sval_edges : ∀ (m i : Nat), i + m = es.length → (∀ j, j < i → sE l l1 ns es j = 0) → Ev (fun k => statistic_Valid.l1 k es (es.length : Int) (i : Int) l l1 ns es) (if scan (sE l l1 ns es) m i = 0 then sumV es else scan (sE l l1 ns es) m i)
 | 0, i, hi, hp => by
  refine Ev.step (fun k => by rw [statistic_Valid.l1]) ?_
  simp only [show ¬ ((i : Int) < (es.length : Int)) by omega, ↓reduceIte, scan]
  refine Ev.bind (total_ev es he (fun y hy => ?_)) ?_
  · obtain ⟨j, hj, rfl⟩ := List.getElem_of_mem hy
    have := hp j (by omega)
    unfold sE at this
    split at this
    · exact absurd this (by decide)
    · next hb =>
      rw [rd75_nat _ _ hj] at hb
      simp [eBad] at hb
      omega
  · unfold sumV
    by_cases hs : sumE es > 80
    · simp only [hs, ↓reduceIte]; exact Ev.now _
    · simp only [hs, ↓reduceIte]; exact Ev.now _
 | m + 1, i, hi, hp => by
  have next_ : sE l l1 ns es i = 0 → Ev (fun k => statistic_Valid.l1 k es (es.length : Int) (wrap64 ((i : Int) + 1)) l l1 ns es) (if scan (sE l l1 ns es) (m + 1) i = 0 then sumV es else scan (sE l l1 ns es) (m + 1) i) := fun h0 => by
   rw [scan_succ, if_pos h0, w64 _ (by omega) (by omega)]
   exact sval_edges m (i + 1) (by omega) (fun j hj => by
    rcases Nat.lt_or_eq_of_le (Nat.le_of_lt_succ hj) with h1 | rfl
    · exact hp j h1
    · exact h0)
  have stop_ : ∀ e : Int, sE l l1 ns es i = e → e ≠ 0 → (if scan (sE l l1 ns es) (m + 1) i = 0 then sumV es else scan (sE l l1 ns es) (m + 1) i) = e := fun e h1 h2 => by
   rw [scan_succ, h1, if_neg h2, if_neg h2]
  refine Ev.step (fun k => by rw [statistic_Valid.l1]) ?_
  simp only [show ((i : Int) < (es.length : Int)) by omega, show (0 : Int) ≤ (i : Int) by omega, ↓reduceIte, is_f, Option.bind_some]
  generalize hc : rd_T75 es (i : Int) = c
  have bad : eBad l l1 c = true → Ev (fun k => statistic_Valid.j3 k (i : Int) es (es.length : Int) (i : Int) true l l1 ns es c.f0 c.f1 c.f2 c.f3) (if scan (sE l l1 ns es) (m + 1) i = 0 then sumV es else scan (sE l l1 ns es) (m + 1) i) := fun hb => by
   rw [stop_ 6 (by unfold sE; rw [hc, if_pos hb]) (by decide)]
   refine Ev.step (fun k => by rw [statistic_Valid.j3]) ?_
   simp only [↓reduceIte]; exact Ev.now _
  have j4 : eBad l l1 c = false → fitsE l l1 c.f0 c.f1 c.f2 = true → ∀ b : Bool, b = !(hasE ns c.f1 && hasE ns c.f2) → Ev (fun k => statistic_Valid.j4 k (i : Int) es (es.length : Int) (i : Int) b l l1 ns es c.f0 c.f1 c.f2 c.f3) (if scan (sE l l1 ns es) (m + 1) i = 0 then sumV es else scan (sE l l1 ns es) (m + 1) i) := fun hb hf b hbb => by
   refine Ev.step (fun k => by rw [statistic_Valid.j4]) ?_
   cases hh : (hasE ns c.f1 && hasE ns c.f2)
   · rw [hh] at hbb
     rw [stop_ 10 (by unfold sE; rw [hc, if_neg (by simp [hb]), if_pos hf, if_neg (by simp [hh])]) (by decide), hbb]
     simp only [Bool.not_false, ↓reduceIte]; exact Ev.now _
   · rw [hh] at hbb
     have e0 : sE l l1 ns es i = ordE es i := by unfold sE; rw [hc, if_neg (by simp [hb]), if_pos hf, if_pos hh]
     rw [hbb]
     simp only [Bool.not_true, Bool.false_eq_true, ↓reduceIte]
     by_cases hi0 : 0 < i
     · rw [w64 ((i : Int) - 1) (by omega) (by omega)]
       simp only [show (i : Int) > 0 by omega, show (0 : Int) ≤ (i : Int) - 1 by omega, show (i : Int) - 1 < (es.length : Int) by omega, ↓reduceIte]
       refine Ev.bind (compare_ev _ _ _ _ _ _ _ _) ?_
       have e1 : ordE es i = if cmpE (rd_T75 es ((i : Int) - 1)).f0 (rd_T75 es ((i : Int) - 1)).f1 (rd_T75 es ((i : Int) - 1)).f2 c.f0 c.f1 c.f2 ≥ 0 then 12 else 0 := by
        unfold ordE cmpAtE; rw [if_pos hi0, hc]
       by_cases ho : cmpE (rd_T75 es ((i : Int) - 1)).f0 (rd_T75 es ((i : Int) - 1)).f1 (rd_T75 es ((i : Int) - 1)).f2 c.f0 c.f1 c.f2 ≥ 0
       · rw [if_pos ho] at e1
         rw [stop_ 12 (by rw [e0, e1]) (by decide)]
         simp only [ho, ↓reduceIte]; exact Ev.now _
       · rw [if_neg ho] at e1
         simp only [ho, ↓reduceIte]
         exact next_ (by rw [e0, e1])
     · simp only [show ¬ ((i : Int) > 0) by omega, ↓reduceIte]
       exact next_ (by rw [e0]; unfold ordE; rw [if_neg hi0])
  have good : eBad l l1 c = false → Ev (fun k => statistic_Valid.j3 k (i : Int) es (es.length : Int) (i : Int) false l l1 ns es c.f0 c.f1 c.f2 c.f3) (if scan (sE l l1 ns es) (m + 1) i = 0 then sumV es else scan (sE l l1 ns es) (m + 1) i) := fun hb => by
   refine Ev.step (fun k => by rw [statistic_Valid.j3]) ?_
   simp only [Bool.false_eq_true, ↓reduceIte]
   refine Ev.bind (Fits_ev l l1 hg h h1g h1l _ _ _) ?_
   cases hf : fitsE l l1 c.f0 c.f1 c.f2
   · rw [stop_ 13 (by unfold sE; rw [hc, if_neg (by simp [hb]), if_neg (by simp [hf])]) (by decide)]
     simp only [Bool.false_eq_true, ↓reduceIte]; exact Ev.now _
   · simp only [↓reduceIte, statistic_has.f, any_has.f, Option.bind_some]
     have j := j4 hb hf
     unfold hasE at j
     cases h1 : ns.any (fun m => m.f0 == c.f1)
     · simp only [Bool.false_eq_true, ↓reduceIte]; exact j true (by rw [h1]; rfl)
     · simp only [↓reduceIte]; exact j _ (by rw [h1]; rfl)
  cases h0 : isIn c.f0 (l1.length : Int)
  · simp only [Bool.false_eq_true, ↓reduceIte]; exact bad (by simp [eBad, h0])
  · simp only [↓reduceIte]
    cases h1 : isIn c.f1 (l.length : Int)
    · simp only [Bool.false_eq_true, ↓reduceIte]; exact bad (by simp [eBad, h1])
    · simp only [↓reduceIte]
      cases h2 : isIn c.f2 (l.length : Int)
      · simp only [Bool.false_eq_true, ↓reduceIte]; exact bad (by simp [eBad, h2])
      · simp only [↓reduceIte]
        by_cases h3 : c.f3 < 1
        · simp only [h3, ↓reduceIte]; exact bad (by simp [eBad]; omega)
        · simp only [h3, ↓reduceIte]
          by_cases h4 : c.f3 > 80
          · rw [decide_eq_true h4]; exact bad (by simp [eBad]; omega)
          · rw [decide_eq_false h4]; exact good (by simp [eBad, h0, h1, h2]; omega)
theorem sval_nodes : ∀ (m i : Nat), i + m = ns.length → (∀ j, j < i → sN l ns j = 0) → Ev (fun k => statistic_Valid.l0 k ns (ns.length : Int) (i : Int) l l1 ns es) (if scan (sN l ns) m i = 0 then sNodesV l l1 ns es else scan (sN l ns) m i)
 | 0, i, hi, hp => by
  refine Ev.step (fun k => by rw [statistic_Valid.l0]) ?_
  simp only [show ¬ ((i : Int) < (ns.length : Int)) by omega, ↓reduceIte, scan]
  refine Ev.bind (total_ev ns hn (fun y hy => ?_)) ?_
  · obtain ⟨j, hj, rfl⟩ := List.getElem_of_mem hy
    have := hp j (by omega)
    unfold sN at this
    split at this
    · exact absurd this (by decide)
    · next hb =>
      rw [rd75_nat _ _ hj] at hb
      simp [nBad] at hb
      omega
  · unfold sNodesV
    by_cases hs : sumE ns > 40
    · simp only [hs, ↓reduceIte]; exact Ev.now _
    · simp only [hs, ↓reduceIte]
      exact sval_edges l l1 hg h h1g h1l ns es hn he es.length 0 (by omega) (fun j hj => absurd hj (Nat.not_lt_zero _))
 | m + 1, i, hi, hp => by
  have next_ : sN l ns i = 0 → Ev (fun k => statistic_Valid.l0 k ns (ns.length : Int) (wrap64 ((i : Int) + 1)) l l1 ns es) (if scan (sN l ns) (m + 1) i = 0 then sNodesV l l1 ns es else scan (sN l ns) (m + 1) i) := fun h0 => by
   rw [scan_succ, if_pos h0, w64 _ (by omega) (by omega)]
   exact sval_nodes m (i + 1) (by omega) (fun j hj => by
    rcases Nat.lt_or_eq_of_le (Nat.le_of_lt_succ hj) with h1 | rfl
    · exact hp j h1
    · exact h0)
  have stop_ : ∀ e : Int, sN l ns i = e → e ≠ 0 → (if scan (sN l ns) (m + 1) i = 0 then sNodesV l l1 ns es else scan (sN l ns) (m + 1) i) = e := fun e h1 h2 => by
   rw [scan_succ, h1, if_neg h2, if_neg h2]
  refine Ev.step (fun k => by rw [statistic_Valid.l0]) ?_
  simp only [show ((i : Int) < (ns.length : Int)) by omega, show (0 : Int) ≤ (i : Int) by omega, ↓reduceIte, is_f, Option.bind_some]
  generalize hc : rd_T75 ns (i : Int) = c
  have bad : nBad l c = true → Ev (fun k => statistic_Valid.j1 k (i : Int) ns (ns.length : Int) (i : Int) true l l1 ns es c.f0 c.f1 c.f2 c.f3) (if scan (sN l ns) (m + 1) i = 0 then sNodesV l l1 ns es else scan (sN l ns) (m + 1) i) := fun hb => by
   rw [stop_ 6 (by unfold sN; rw [hc, if_pos hb]) (by decide)]
   refine Ev.step (fun k => by rw [statistic_Valid.j1]) ?_
   simp only [↓reduceIte]; exact Ev.now _
  have good : nBad l c = false → Ev (fun k => statistic_Valid.j1 k (i : Int) ns (ns.length : Int) (i : Int) false l l1 ns es c.f0 c.f1 c.f2 c.f3) (if scan (sN l ns) (m + 1) i = 0 then sNodesV l l1 ns es else scan (sN l ns) (m + 1) i) := fun hb => by
   have e0 : sN l ns i = ordE ns i := by unfold sN; rw [hc, if_neg (by simp [hb])]
   refine Ev.step (fun k => by rw [statistic_Valid.j1]) ?_
   simp only [Bool.false_eq_true, ↓reduceIte]
   by_cases hi0 : 0 < i
   · rw [w64 ((i : Int) - 1) (by omega) (by omega)]
     simp only [show (i : Int) > 0 by omega, show (0 : Int) ≤ (i : Int) - 1 by omega, show (i : Int) - 1 < (ns.length : Int) by omega, ↓reduceIte]
     refine Ev.bind (compare_ev _ _ _ _ _ _ _ _) ?_
     have e1 : ordE ns i = if cmpE (rd_T75 ns ((i : Int) - 1)).f0 (rd_T75 ns ((i : Int) - 1)).f1 (rd_T75 ns ((i : Int) - 1)).f2 c.f0 c.f1 c.f2 ≥ 0 then 12 else 0 := by
      unfold ordE cmpAtE; rw [if_pos hi0, hc]
     by_cases ho : cmpE (rd_T75 ns ((i : Int) - 1)).f0 (rd_T75 ns ((i : Int) - 1)).f1 (rd_T75 ns ((i : Int) - 1)).f2 c.f0 c.f1 c.f2 ≥ 0
     · rw [if_pos ho] at e1
       rw [stop_ 12 (by rw [e0, e1]) (by decide)]
       simp only [ho, ↓reduceIte]; exact Ev.now _
     · rw [if_neg ho] at e1
       simp only [ho, ↓reduceIte]
       exact next_ (by rw [e0, e1])
   · simp only [show ¬ ((i : Int) > 0) by omega, ↓reduceIte]
     exact next_ (by rw [e0]; unfold ordE; rw [if_neg hi0])
  cases h0 : isIn c.f0 (l.length : Int)
  · simp only [Bool.false_eq_true, ↓reduceIte]; exact bad (by simp [nBad, h0])
  · simp only [↓reduceIte]
    by_cases h1 : c.f1 = 0
    · simp only [h1, ↓reduceIte]
      rw [h1] at bad good
      by_cases h2 : c.f2 = 0
      · simp only [h2, ↓reduceIte]
        rw [h2] at bad good
        by_cases h3 : c.f3 < 1
        · simp only [h3, ↓reduceIte]; exact bad (by simp [nBad]; omega)
        · simp only [h3, ↓reduceIte]
          by_cases h4 : c.f3 > 40
          · rw [decide_eq_true h4]; exact bad (by simp [nBad]; omega)
          · rw [decide_eq_false h4]; exact good (by simp [nBad, h0, h1, h2]; omega)
      · simp only [h2, ↓reduceIte]; exact bad (by simp [nBad, h2])
    · simp only [h1, ↓reduceIte]; exact bad (by simp [nBad, h1])
theorem sval_ev : Ev (fun k => statistic_Valid.f k l l1 ns es) (sValidE l l1 ns es) := by
 unfold statistic_Valid.f sValidE
 refine Ev.bind (valid_ev l l1 hg h h1g h1l) ?_
 by_cases hv : (validE l l1).2 = 0
 · simp only [hv, ↓reduceIte]; exact sval_nodes l l1 hg h h1g h1l ns es hn he ns.length 0 (by omega) (fun j hj => absurd hj (Nat.not_lt_zero _))
 · simp only [hv, ↓reduceIte]; exact Ev.now _
end sval
theorem ris_f (a n : Int) : scarfjointref18_is.f a n = some (isIn a n) := by
 unfold scarfjointref18_is.f isIn
 by_cases h : 0 ≤ a
 · rw [if_pos h]; simp [h]
 · rw [if_neg h]; simp [h]
theorem rtotal_loop (l : List S75) (hl : l.length ≤ 1000) (hn : ∀ y ∈ l, 1 ≤ y.f3 ∧ y.f3 ≤ 80) : ∀ (m i : Nat) (a : Int), i + m = l.length → 0 ≤ a ∧ a ≤ 80 * (i : Int) → Ev (fun k => scarfjointref18_total.l0 k l a (i : Int)) (a + sumE (l.drop i))
 | 0, i, a, hi, ha => by
  refine Ev.step (fun k => by rw [scarfjointref18_total.l0]) ?_
  rw [List.drop_eq_nil_of_le (by omega)]
  simp only [show ¬ ((i : Int) < (l.length : Int)) by omega, ↓reduceIte, sumE, Int.add_zero]; exact Ev.now _
 | m + 1, i, a, hi, ha => by
  have hil : i < l.length := by omega
  have hy := hn _ (List.getElem_mem hil)
  refine Ev.step (fun k => by rw [scarfjointref18_total.l0]) ?_
  simp only [show ((i : Int) < (l.length : Int)) by omega, show (0 : Int) ≤ (i : Int) by omega, ↓reduceIte, rd75_nat l i hil]
  rw [w64 _ (by omega) (by omega), w64 _ (by omega) (by omega), List.drop_eq_getElem_cons hil, sumE, ← Int.add_assoc]
  exact rtotal_loop l hl hn m (i + 1) _ (by omega) (by omega)
theorem rtotal_ev (l : List S75) (hl : l.length ≤ 1000) (hn : ∀ y ∈ l, 1 ≤ y.f3 ∧ y.f3 ≤ 80) : Ev (fun k => scarfjointref18_total.f k l) (sumE l) := by
 have := rtotal_loop l hl hn l.length 0 0 (by omega) (by omega)
 rw [Int.zero_add, List.drop_zero] at this
 exact this
theorem n_kIn_of {l : List S96} {c : S75} (h : Small l) (hb : nBad l c = false) : kIn c := by
 have := h.1
 simp [nBad, isIn] at hb
 unfold kIn; omega
theorem n_kIn {l : List S96} {ns : List S75} {i : Nat} (h : Small l) (hz : sN l ns i = 0) : kIn (rd_T75 ns (i : Int)) := by
 unfold sN at hz
 split at hz
 · exact absurd hz (by decide)
 · next hb => exact n_kIn_of h (by simpa using hb)
theorem e_kIn_of {l : List S96} {l1 : List S101} {c : S75} (h : Small l) (h1l : l1.length ≤ 30) (hb : eBad l l1 c = false) : kIn c := by
 have := h.1
 simp [eBad, isIn] at hb
 unfold kIn; omega
theorem e_kIn {l : List S96} {l1 : List S101} {ns es : List S75} {i : Nat} (h : Small l) (h1l : l1.length ≤ 30) (hz : sE l l1 ns es i = 0) : kIn (rd_T75 es (i : Int)) := by
 unfold sE at hz
 split at hz
 · exact absurd hz (by decide)
 · next hb => exact e_kIn_of h h1l (by simpa using hb)
theorem n_facts {l : List S96} {ns : List S75} {i : Nat} (hz : sN l ns i = 0) : (rd_T75 ns (i : Int)).f1 = 0 ∧ (rd_T75 ns (i : Int)).f2 = 0 ∧ 1 ≤ (rd_T75 ns (i : Int)).f3 ∧ (rd_T75 ns (i : Int)).f3 ≤ 40 := by
 unfold sN at hz
 split at hz
 · exact absurd hz (by decide)
 · next hb => simp [nBad] at hb; omega
theorem number_loop {l : List S96} (h : Small l) (ns : List S75) (hn : ns.length ≤ 1000) (hok : ∀ j, j < ns.length → sN l ns j = 0) (a : Int) (ha : 0 ≤ a ∧ a ≤ 1000) : ∀ (m i : Nat), i + m = ns.length →
 ∃ r, Ev (fun k => scarfjointref18_number.l0 k ns (i : Int) a 0 0 0) r ∧ (r = 0 → (ns.drop i).any (fun c => c.f0 == a) = false) ∧ ((ns.drop i).any (fun c => c.f0 == a) = false → r = 0)
 | 0, i, hi => ⟨0, by
  refine Ev.step (fun k => by rw [scarfjointref18_number.l0]) ?_
  simp only [show ¬ ((i : Int) < (ns.length : Int)) by omega, ↓reduceIte]; exact Ev.now _, fun _ => by rw [List.drop_eq_nil_of_le (by omega)]; rfl, fun _ => rfl⟩
 | m + 1, i, hi => by
  have hil : i < ns.length := by omega
  have hz := hok i hil
  have hk := n_kIn h hz
  have hf := n_facts hz
  rw [rd75_nat ns i hil] at hk hf
  have hb : kIn (⟨a, 0, 0, 0⟩ : S75) := ⟨ha, ⟨(by decide : (0 : Int) ≤ 0), (by decide : (0 : Int) ≤ 1000)⟩, ⟨(by decide : (0 : Int) ≤ 0), (by decide : (0 : Int) ≤ 1000)⟩⟩
  have hc := rcmp_in hk hb
  have he := cmp_eq hk hb
  simp only at hc he
  rw [List.drop_eq_getElem_cons hil, List.any_cons]
  by_cases hq : ns[i].f0 = a
  · have h0 := he.2 ⟨hq, hf.1, hf.2.1⟩
    refine ⟨ns[i].f3, Ev.step (fun k => by rw [scarfjointref18_number.l0]) ?_, fun hh => by omega, fun hh => by simp [hq] at hh⟩
    simp only [show ((i : Int) < (ns.length : Int)) by omega, show (0 : Int) ≤ (i : Int) by omega, ↓reduceIte, rd75_nat ns i hil]
    rw [hc, h0]
    simp only [Option.bind_some, ↓reduceIte]; exact Ev.now _
  · have h0 : ¬ (cmpE ns[i].f0 ns[i].f1 ns[i].f2 a 0 0 = 0) := fun hh => hq (he.1 hh).1
    obtain ⟨r, hr, e1, e2⟩ := number_loop h ns hn hok a ha m (i + 1) (by omega)
    refine ⟨r, Ev.step (fun k => by rw [scarfjointref18_number.l0]) ?_, fun hh => by rw [e1 hh]; simp [hq], fun hh => e2 (by simp [hq] at hh; simpa using hh)⟩
    simp only [show ((i : Int) < (ns.length : Int)) by omega, show (0 : Int) ≤ (i : Int) by omega, ↓reduceIte, rd75_nat ns i hil]
    rw [hc]
    simp only [Option.bind_some, h0, ↓reduceIte]
    rw [w64 _ (by omega) (by omega)]
    exact hr
theorem number_ev {l : List S96} (h : Small l) (ns : List S75) (hn : ns.length ≤ 1000) (hok : ∀ j, j < ns.length → sN l ns j = 0) (a : Int) (ha : 0 ≤ a ∧ a ≤ 1000) :
 ∃ r, Ev (fun k => scarfjointref18_number.f k ns a 0 0 0) r ∧ (r = 0 → hasE ns a = false) ∧ (hasE ns a = false → r = 0) := by
 obtain ⟨r, h1, h2, h3⟩ := number_loop h ns hn hok a ha ns.length 0 (by omega)
 exact ⟨r, h1, h2, h3⟩
section sval
variable (l : List S96) (l1 : List S101) (hg : Good l) (h : Small l) (h1g : ∀ x ∈ l1, good101 x) (h1l : l1.length ≤ 30) (ns es : List S75) (hn : ns.length ≤ 1000) (he : es.length ≤ 1000)
include hg h h1g h1l hn he
theorem rsval_edges (hok : ∀ j, j < ns.length → sN l ns j = 0) : ∀ (m i : Nat), i + m = es.length → (∀ j, j < i → sE l l1 ns es j = 0) → Ev (fun k => scarfjointref18_Valid.l1 k (i : Int) l l1 ns es) (if scan (sE l l1 ns es) m i = 0 then sumV es else scan (sE l l1 ns es) m i)
 | 0, i, hi, hp => by
  refine Ev.step (fun k => by rw [scarfjointref18_Valid.l1]) ?_
  simp only [show ¬ ((i : Int) < (es.length : Int)) by omega, ↓reduceIte, scan]
  refine Ev.bind (rtotal_ev es he (fun y hy => ?_)) ?_
  · obtain ⟨j, hj, rfl⟩ := List.getElem_of_mem hy
    have := hp j (by omega)
    unfold sE at this
    split at this
    · exact absurd this (by decide)
    · next hb =>
      rw [rd75_nat _ _ hj] at hb
      simp [eBad] at hb
      omega
  · unfold sumV
    by_cases hs : sumE es > 80
    · simp only [hs, ↓reduceIte]; exact Ev.now _
    · simp only [hs, ↓reduceIte]; exact Ev.now _
 | m + 1, i, hi, hp => by
  have next_ : sE l l1 ns es i = 0 → Ev (fun k => scarfjointref18_Valid.l1 k (wrap64 ((i : Int) + 1)) l l1 ns es) (if scan (sE l l1 ns es) (m + 1) i = 0 then sumV es else scan (sE l l1 ns es) (m + 1) i) := fun h0 => by
   rw [scan_succ, if_pos h0, w64 _ (by omega) (by omega)]
   exact rsval_edges hok m (i + 1) (by omega) (fun j hj => by
    rcases Nat.lt_or_eq_of_le (Nat.le_of_lt_succ hj) with h1 | rfl
    · exact hp j h1
    · exact h0)
  have stop_ : ∀ e : Int, sE l l1 ns es i = e → e ≠ 0 → (if scan (sE l l1 ns es) (m + 1) i = 0 then sumV es else scan (sE l l1 ns es) (m + 1) i) = e := fun e h1 h2 => by
   rw [scan_succ, h1, if_neg h2, if_neg h2]
  refine Ev.step (fun k => by rw [scarfjointref18_Valid.l1]) ?_
  simp only [show ((i : Int) < (es.length : Int)) by omega, show (0 : Int) ≤ (i : Int) by omega, ↓reduceIte, ris_f, Option.bind_some]
  generalize hc : rd_T75 es (i : Int) = c
  have bad : eBad l l1 c = true → Ev (fun k => scarfjointref18_Valid.j3 k (i : Int) true l l1 ns es c.f0 c.f1 c.f2 c.f3) (if scan (sE l l1 ns es) (m + 1) i = 0 then sumV es else scan (sE l l1 ns es) (m + 1) i) := fun hb => by
   rw [stop_ 6 (by unfold sE; rw [hc, if_pos hb]) (by decide)]
   refine Ev.step (fun k => by rw [scarfjointref18_Valid.j3]) ?_
   simp only [↓reduceIte]; exact Ev.now _
  have j4 : eBad l l1 c = false → fitsE l l1 c.f0 c.f1 c.f2 = true → ∀ b : Bool, b = !(hasE ns c.f1 && hasE ns c.f2) → Ev (fun k => scarfjointref18_Valid.j4 k (i : Int) b l l1 ns es c.f0 c.f1 c.f2 c.f3) (if scan (sE l l1 ns es) (m + 1) i = 0 then sumV es else scan (sE l l1 ns es) (m + 1) i) := fun hb hf b hbb => by
   refine Ev.step (fun k => by rw [scarfjointref18_Valid.j4]) ?_
   cases hh : (hasE ns c.f1 && hasE ns c.f2)
   · rw [hh] at hbb
     rw [stop_ 10 (by unfold sE; rw [hc, if_neg (by simp [hb]), if_pos hf, if_neg (by simp [hh])]) (by decide), hbb]
     simp only [Bool.not_false, ↓reduceIte]; exact Ev.now _
   · rw [hh] at hbb
     have e0 : sE l l1 ns es i = ordE es i := by unfold sE; rw [hc, if_neg (by simp [hb]), if_pos hf, if_pos hh]
     rw [hbb]
     simp only [Bool.not_true, Bool.false_eq_true, ↓reduceIte]
     by_cases hi0 : 0 < i
     · rw [w64 ((i : Int) - 1) (by omega) (by omega)]
       simp only [show (i : Int) > 0 by omega, show (0 : Int) ≤ (i : Int) - 1 by omega, show (i : Int) - 1 < (es.length : Int) by omega, ↓reduceIte]
       have hci := rcmp_in (a := rd_T75 es ((i : Int) - 1)) (b := c) (by rw [show ((i : Int) - 1) = ((i - 1 : Nat) : Int) by omega]; exact e_kIn h h1l (hp (i - 1) (by omega))) (e_kIn_of h h1l hb)
       rw [hci]
       simp only [Option.bind_some]
       have e1 : ordE es i = if cmpE (rd_T75 es ((i : Int) - 1)).f0 (rd_T75 es ((i : Int) - 1)).f1 (rd_T75 es ((i : Int) - 1)).f2 c.f0 c.f1 c.f2 ≥ 0 then 12 else 0 := by
        unfold ordE cmpAtE; rw [if_pos hi0, hc]
       by_cases ho : cmpE (rd_T75 es ((i : Int) - 1)).f0 (rd_T75 es ((i : Int) - 1)).f1 (rd_T75 es ((i : Int) - 1)).f2 c.f0 c.f1 c.f2 ≥ 0
       · rw [if_pos ho] at e1
         rw [stop_ 12 (by rw [e0, e1]) (by decide)]
         simp only [ho, ↓reduceIte]; exact Ev.now _
       · rw [if_neg ho] at e1
         simp only [ho, ↓reduceIte]
         exact next_ (by rw [e0, e1])
     · simp only [show ¬ ((i : Int) > 0) by omega, ↓reduceIte]
       exact next_ (by rw [e0]; unfold ordE; rw [if_neg hi0])
  have good : eBad l l1 c = false → Ev (fun k => scarfjointref18_Valid.j3 k (i : Int) false l l1 ns es c.f0 c.f1 c.f2 c.f3) (if scan (sE l l1 ns es) (m + 1) i = 0 then sumV es else scan (sE l l1 ns es) (m + 1) i) := fun hb => by
   refine Ev.step (fun k => by rw [scarfjointref18_Valid.j3]) ?_
   simp only [Bool.false_eq_true, ↓reduceIte]
   refine Ev.bind (rFits_ev l l1 hg h h1g h1l _ _ _) ?_
   cases hf : fitsE l l1 c.f0 c.f1 c.f2
   · rw [stop_ 13 (by unfold sE; rw [hc, if_neg (by simp [hb]), if_neg (by simp [hf])]) (by decide)]
     simp only [Bool.false_eq_true, ↓reduceIte]; exact Ev.now _
   · simp only [↓reduceIte]
     have j := j4 hb hf
     have hk := e_kIn_of h h1l hb
     obtain ⟨r1, hr1, e1⟩ := number_ev h ns hn hok c.f1 hk.2.1
     obtain ⟨r2, hr2, e2⟩ := number_ev h ns hn hok c.f2 hk.2.2
     refine Ev.bind hr1 ?_
     by_cases z1 : r1 = 0
     · simp only [z1, ↓reduceIte]
       exact j true (by rw [e1.1 z1]; rfl)
     · simp only [z1, ↓reduceIte]
       refine Ev.bind hr2 ?_
       have f1 : hasE ns c.f1 = true := by
        cases hh : hasE ns c.f1
        · exact absurd (e1.2 hh) z1
        · rfl
       by_cases z2 : r2 = 0
       · exact j (r2 == 0) (by rw [f1, e2.1 z2, z2]; rfl)
       · have f2 : hasE ns c.f2 = true := by
          cases hh : hasE ns c.f2
          · exact absurd (e2.2 hh) z2
          · rfl
         exact j (r2 == 0) (by rw [f1, f2]; simp [z2])
  cases h0 : isIn c.f0 (l1.length : Int)
  · simp only [Bool.false_eq_true, ↓reduceIte]; exact bad (by simp [eBad, h0])
  · simp only [↓reduceIte]
    cases h1 : isIn c.f1 (l.length : Int)
    · simp only [Bool.false_eq_true, ↓reduceIte]; exact bad (by simp [eBad, h1])
    · simp only [↓reduceIte]
      cases h2 : isIn c.f2 (l.length : Int)
      · simp only [Bool.false_eq_true, ↓reduceIte]; exact bad (by simp [eBad, h2])
      · simp only [↓reduceIte]
        by_cases h3 : c.f3 < 1
        · simp only [h3, ↓reduceIte]; exact bad (by simp [eBad]; omega)
        · simp only [h3, ↓reduceIte]
          by_cases h4 : c.f3 > 80
          · rw [decide_eq_true h4]; exact bad (by simp [eBad]; omega)
          · rw [decide_eq_false h4]; exact good (by simp [eBad, h0, h1, h2]; omega)
theorem rsval_nodes : ∀ (m i : Nat), i + m = ns.length → (∀ j, j < i → sN l ns j = 0) → Ev (fun k => scarfjointref18_Valid.l0 k (i : Int) l l1 ns es) (if scan (sN l ns) m i = 0 then sNodesV l l1 ns es else scan (sN l ns) m i)
 | 0, i, hi, hp => by
  refine Ev.step (fun k => by rw [scarfjointref18_Valid.l0]) ?_
  simp only [show ¬ ((i : Int) < (ns.length : Int)) by omega, ↓reduceIte, scan]
  refine Ev.bind (rtotal_ev ns hn (fun y hy => ?_)) ?_
  · obtain ⟨j, hj, rfl⟩ := List.getElem_of_mem hy
    have := hp j (by omega)
    unfold sN at this
    split at this
    · exact absurd this (by decide)
    · next hb =>
      rw [rd75_nat _ _ hj] at hb
      simp [nBad] at hb
      omega
  · unfold sNodesV
    by_cases hs : sumE ns > 40
    · simp only [hs, ↓reduceIte]; exact Ev.now _
    · simp only [hs, ↓reduceIte]
      exact rsval_edges l l1 hg h h1g h1l ns es hn he (fun j hj => hp j (by omega)) es.length 0 (by omega) (fun j hj => absurd hj (Nat.not_lt_zero _))
 | m + 1, i, hi, hp => by
  have next_ : sN l ns i = 0 → Ev (fun k => scarfjointref18_Valid.l0 k (wrap64 ((i : Int) + 1)) l l1 ns es) (if scan (sN l ns) (m + 1) i = 0 then sNodesV l l1 ns es else scan (sN l ns) (m + 1) i) := fun h0 => by
   rw [scan_succ, if_pos h0, w64 _ (by omega) (by omega)]
   exact rsval_nodes m (i + 1) (by omega) (fun j hj => by
    rcases Nat.lt_or_eq_of_le (Nat.le_of_lt_succ hj) with h1 | rfl
    · exact hp j h1
    · exact h0)
  have stop_ : ∀ e : Int, sN l ns i = e → e ≠ 0 → (if scan (sN l ns) (m + 1) i = 0 then sNodesV l l1 ns es else scan (sN l ns) (m + 1) i) = e := fun e h1 h2 => by
   rw [scan_succ, h1, if_neg h2, if_neg h2]
  refine Ev.step (fun k => by rw [scarfjointref18_Valid.l0]) ?_
  simp only [show ((i : Int) < (ns.length : Int)) by omega, show (0 : Int) ≤ (i : Int) by omega, ↓reduceIte, ris_f, Option.bind_some]
  generalize hc : rd_T75 ns (i : Int) = c
  have bad : nBad l c = true → Ev (fun k => scarfjointref18_Valid.j1 k (i : Int) true l l1 ns es c.f0 c.f1 c.f2 c.f3) (if scan (sN l ns) (m + 1) i = 0 then sNodesV l l1 ns es else scan (sN l ns) (m + 1) i) := fun hb => by
   rw [stop_ 6 (by unfold sN; rw [hc, if_pos hb]) (by decide)]
   refine Ev.step (fun k => by rw [scarfjointref18_Valid.j1]) ?_
   simp only [↓reduceIte]; exact Ev.now _
  have good : nBad l c = false → Ev (fun k => scarfjointref18_Valid.j1 k (i : Int) false l l1 ns es c.f0 c.f1 c.f2 c.f3) (if scan (sN l ns) (m + 1) i = 0 then sNodesV l l1 ns es else scan (sN l ns) (m + 1) i) := fun hb => by
   have e0 : sN l ns i = ordE ns i := by unfold sN; rw [hc, if_neg (by simp [hb])]
   refine Ev.step (fun k => by rw [scarfjointref18_Valid.j1]) ?_
   simp only [Bool.false_eq_true, ↓reduceIte]
   by_cases hi0 : 0 < i
   · rw [w64 ((i : Int) - 1) (by omega) (by omega)]
     simp only [show (i : Int) > 0 by omega, show (0 : Int) ≤ (i : Int) - 1 by omega, show (i : Int) - 1 < (ns.length : Int) by omega, ↓reduceIte]
     have hci := rcmp_in (a := rd_T75 ns ((i : Int) - 1)) (b := c) (by rw [show ((i : Int) - 1) = ((i - 1 : Nat) : Int) by omega]; exact n_kIn h (hp (i - 1) (by omega))) (n_kIn_of h hb)
     rw [hci]
     simp only [Option.bind_some]
     have e1 : ordE ns i = if cmpE (rd_T75 ns ((i : Int) - 1)).f0 (rd_T75 ns ((i : Int) - 1)).f1 (rd_T75 ns ((i : Int) - 1)).f2 c.f0 c.f1 c.f2 ≥ 0 then 12 else 0 := by
      unfold ordE cmpAtE; rw [if_pos hi0, hc]
     by_cases ho : cmpE (rd_T75 ns ((i : Int) - 1)).f0 (rd_T75 ns ((i : Int) - 1)).f1 (rd_T75 ns ((i : Int) - 1)).f2 c.f0 c.f1 c.f2 ≥ 0
     · rw [if_pos ho] at e1
       rw [stop_ 12 (by rw [e0, e1]) (by decide)]
       simp only [ho, ↓reduceIte]; exact Ev.now _
     · rw [if_neg ho] at e1
       simp only [ho, ↓reduceIte]
       exact next_ (by rw [e0, e1])
   · simp only [show ¬ ((i : Int) > 0) by omega, ↓reduceIte]
     exact next_ (by rw [e0]; unfold ordE; rw [if_neg hi0])
  cases h0 : isIn c.f0 (l.length : Int)
  · simp only [Bool.false_eq_true, ↓reduceIte]; exact bad (by simp [nBad, h0])
  · simp only [↓reduceIte]
    by_cases h1 : c.f1 = 0
    · simp only [h1, ↓reduceIte]
      rw [h1] at bad good
      by_cases h2 : c.f2 = 0
      · simp only [h2, ↓reduceIte]
        rw [h2] at bad good
        by_cases h3 : c.f3 < 1
        · simp only [h3, ↓reduceIte]; exact bad (by simp [nBad]; omega)
        · simp only [h3, ↓reduceIte]
          by_cases h4 : c.f3 > 40
          · rw [decide_eq_true h4]; exact bad (by simp [nBad]; omega)
          · rw [decide_eq_false h4]; exact good (by simp [nBad, h0, h1, h2]; omega)
      · simp only [h2, ↓reduceIte]; exact bad (by simp [nBad, h2])
    · simp only [h1, ↓reduceIte]; exact bad (by simp [nBad, h1])
theorem rsval_ev : Ev (fun k => scarfjointref18_Valid.f k l l1 ns es) (sValidE l l1 ns es) := by
 unfold scarfjointref18_Valid.f sValidE
 refine Ev.bind (rvalid_ev l l1 hg h h1g h1l) ?_
 by_cases hv : (validE l l1).2 = 0
 · simp only [hv, ↓reduceIte]; exact rsval_nodes l l1 hg h h1g h1l ns es hn he ns.length 0 (by omega) (fun j hj => absurd hj (Nat.not_lt_zero _))
 · simp only [hv, ↓reduceIte]; exact Ev.now _
end sval
theorem copied_f (a b : List S75) (ha : a.length ≤ 1000) (hb : b.length ≤ 1000) : scarfjointref18_Copied.f a b = some (a, b) := by
 unfold scarfjointref18_Copied.f
 simp only [Option.bind_some, List.length_nil, List.nil_append]
 rw [if_pos (by omega), if_pos (by omega)]
def nSum (l : List S96) (l1 : List S101) (ns : List S75) (a : Int) : Nat → Nat → Int → Int
 | 0, _, x => x
 | m + 1, i, x => nSum l l1 ns a m (i + 1) (if isE l l1 (rd_T75 ns (i : Int)).f0 a = true then wrap64 (x + (rd_T75 ns (i : Int)).f3) else x)
theorem nSum_succ (l : List S96) (l1 : List S101) (ns : List S75) (a : Int) (m i : Nat) (x : Int) : nSum l l1 ns a (m + 1) i x = nSum l l1 ns a m (i + 1) (if isE l l1 (rd_T75 ns (i : Int)).f0 a = true then wrap64 (x + (rd_T75 ns (i : Int)).f3) else x) := rfl
def eOk (l : List S96) (l1 : List S101) (e a b : Int) (c : S75) : Bool := decide (c.f0 = e) && (isE l l1 c.f1 a && isE l l1 c.f2 b)
def eSum (l : List S96) (l1 : List S101) (es : List S75) (e a b : Int) : Nat → Nat → Int → Int
 | 0, _, x => x
 | m + 1, i, x => eSum l l1 es e a b m (i + 1) (if eOk l l1 e a b (rd_T75 es (i : Int)) = true then wrap64 (x + (rd_T75 es (i : Int)).f3) else x)
theorem eSum_succ (l : List S96) (l1 : List S101) (es : List S75) (e a b : Int) (m i : Nat) (x : Int) : eSum l l1 es e a b (m + 1) i x = eSum l l1 es e a b m (i + 1) (if eOk l l1 e a b (rd_T75 es (i : Int)) = true then wrap64 (x + (rd_T75 es (i : Int)).f3) else x) := rfl
def nodesV (l : List S96) (l1 : List S101) (ns es : List S75) (a : Int) : Int × Int := if sValidE l l1 ns es = 0 then (if isIn a (l.length : Int) = true then (nSum l l1 ns a ns.length 0 0, 0) else (0, 6)) else (0, sValidE l l1 ns es)
def edgesV (l : List S96) (l1 : List S101) (ns es : List S75) (e a b : Int) : Int × Int := if sValidE l l1 ns es = 0 then (if (isIn e (l1.length : Int) && (isIn a (l.length : Int) && isIn b (l.length : Int))) = true then (eSum l l1 es e a b es.length 0 0, 0) else (0, 6)) else (0, sValidE l l1 ns es)
section sums
variable (l : List S96) (l1 : List S101) (hg : Good l) (h : Small l) (h1g : ∀ x ∈ l1, good101 x) (h1l : l1.length ≤ 30) (ns es : List S75) (hn : ns.length ≤ 1000) (he : es.length ≤ 1000)
include hg h h1g h1l hn he
theorem nodes_loop (a : Int) : ∀ (m i : Nat) (x : Int), i + m = ns.length → Ev (fun k => statistic_Nodes.l0 k a x ns (ns.length : Int) (i : Int) l l1) (nSum l l1 ns a m i x, 0)
 | 0, i, x, hi => by
  refine Ev.step (fun k => by rw [statistic_Nodes.l0]) ?_
  simp only [show ¬ ((i : Int) < (ns.length : Int)) by omega, ↓reduceIte]; exact Ev.now _
 | m + 1, i, x, hi => by
  refine Ev.step (fun k => by rw [statistic_Nodes.l0]) ?_
  simp only [show ((i : Int) < (ns.length : Int)) by omega, show (0 : Int) ≤ (i : Int) by omega, ↓reduceIte]
  refine Ev.bind (Is_ev l l1 hg h h1g h1l _ _) ?_
  have w : wrap64 ((i : Int) + 1) = ((i + 1 : Nat) : Int) := by rw [w64 _ (by omega) (by omega)]; omega
  rw [w, nSum_succ]
  cases isE l l1 (rd_T75 ns (i : Int)).f0 a
  · simp only [Bool.false_eq_true, ↓reduceIte]; exact nodes_loop a m (i + 1) _ (by omega)
  · simp only [↓reduceIte]; exact nodes_loop a m (i + 1) _ (by omega)
theorem rnodes_loop (a : Int) : ∀ (m i : Nat) (x : Int), i + m = ns.length → Ev (fun k => scarfjointref18_Nodes.l0 k a x (i : Int) l l1 ns es) (nSum l l1 ns a m i x, 0)
 | 0, i, x, hi => by
  refine Ev.step (fun k => by rw [scarfjointref18_Nodes.l0]) ?_
  simp only [show ¬ ((i : Int) < (ns.length : Int)) by omega, ↓reduceIte]; exact Ev.now _
 | m + 1, i, x, hi => by
  refine Ev.step (fun k => by rw [scarfjointref18_Nodes.l0]) ?_
  simp only [show ((i : Int) < (ns.length : Int)) by omega, show (0 : Int) ≤ (i : Int) by omega, ↓reduceIte]
  refine Ev.bind (rIs_ev l l1 hg h h1g h1l _ _) ?_
  have w : wrap64 ((i : Int) + 1) = ((i + 1 : Nat) : Int) := by rw [w64 _ (by omega) (by omega)]; omega
  rw [w, nSum_succ]
  cases isE l l1 (rd_T75 ns (i : Int)).f0 a
  · simp only [Bool.false_eq_true, ↓reduceIte]; exact rnodes_loop a m (i + 1) _ (by omega)
  · simp only [↓reduceIte]; exact rnodes_loop a m (i + 1) _ (by omega)
theorem Nodes_ev (a : Int) : Ev (fun k => statistic_Nodes.f k l l1 ns es a) (nodesV l l1 ns es a) := by
 unfold statistic_Nodes.f nodesV
 refine Ev.bind (sval_ev l l1 hg h h1g h1l ns es hn he) ?_
 by_cases h0 : sValidE l l1 ns es = 0
 · simp only [h0, ↓reduceIte, is_f, Option.bind_some]
   cases isIn a (l.length : Int)
   · simp only [Bool.false_eq_true, ↓reduceIte]; exact Ev.now _
   · simp only [↓reduceIte]; exact nodes_loop l l1 hg h h1g h1l ns es hn he a ns.length 0 0 (by omega)
 · simp only [h0, ↓reduceIte]; exact Ev.now _
theorem rNodes_ev (a : Int) : Ev (fun k => scarfjointref18_Nodes.f k l l1 ns es a) (nodesV l l1 ns es a) := by
 unfold scarfjointref18_Nodes.f nodesV
 refine Ev.bind (rsval_ev l l1 hg h h1g h1l ns es hn he) ?_
 by_cases h0 : sValidE l l1 ns es = 0
 · simp only [h0, ↓reduceIte, ris_f, Option.bind_some]
   cases isIn a (l.length : Int)
   · simp only [Bool.false_eq_true, ↓reduceIte]; exact Ev.now _
   · simp only [↓reduceIte]; exact rnodes_loop l l1 hg h h1g h1l ns es hn he a ns.length 0 0 (by omega)
 · simp only [h0, ↓reduceIte]; exact Ev.now _
theorem edges_loop (e a b : Int) : ∀ (m i : Nat) (x : Int), i + m = es.length → Ev (fun k => statistic_Edges.l0 k e a b x es (es.length : Int) (i : Int) l l1) (eSum l l1 es e a b m i x, 0)
 | 0, i, x, hi => by
  refine Ev.step (fun k => by rw [statistic_Edges.l0]) ?_
  simp only [show ¬ ((i : Int) < (es.length : Int)) by omega, ↓reduceIte]; exact Ev.now _
 | m + 1, i, x, hi => by
  refine Ev.step (fun k => by rw [statistic_Edges.l0]) ?_
  simp only [show ((i : Int) < (es.length : Int)) by omega, show (0 : Int) ≤ (i : Int) by omega, ↓reduceIte]
  have w : wrap64 ((i : Int) + 1) = ((i + 1 : Nat) : Int) := by rw [w64 _ (by omega) (by omega)]; omega
  rw [w, eSum_succ]
  have ok : ∀ t : Bool, eOk l l1 e a b (rd_T75 es (i : Int)) = t → Ev (fun k => statistic_Edges.l0 k e a b (if t = true then wrap64 (x + (rd_T75 es (i : Int)).f3) else x) es (es.length : Int) ((i + 1 : Nat) : Int) l l1) (eSum l l1 es e a b m (i + 1) (if eOk l l1 e a b (rd_T75 es (i : Int)) = true then wrap64 (x + (rd_T75 es (i : Int)).f3) else x), 0) := fun t ht => by
   rw [ht]; exact edges_loop e a b m (i + 1) _ (by omega)
  by_cases h0 : (rd_T75 es (i : Int)).f0 = e
  · simp only [h0, ↓reduceIte]
    refine Ev.bind (Is_ev l l1 hg h h1g h1l _ _) ?_
    cases h1 : isE l l1 (rd_T75 es (i : Int)).f1 a
    · simp only [Bool.false_eq_true, ↓reduceIte]; exact ok false (by simp [eOk, h1])
    · simp only [↓reduceIte]
      refine Ev.bind (Is_ev l l1 hg h h1g h1l _ _) ?_
      cases h2 : isE l l1 (rd_T75 es (i : Int)).f2 b
      · simp only [Bool.false_eq_true, ↓reduceIte]; exact ok false (by simp [eOk, h2])
      · simp only [↓reduceIte]; exact ok true (by simp [eOk, h0, h1, h2])
  · simp only [h0, ↓reduceIte]; exact ok false (by simp [eOk, h0])
theorem redges_loop (e a b : Int) : ∀ (m i : Nat) (x : Int), i + m = es.length → Ev (fun k => scarfjointref18_Edges.l0 k e a b x (i : Int) l l1 ns es) (eSum l l1 es e a b m i x, 0)
 | 0, i, x, hi => by
  refine Ev.step (fun k => by rw [scarfjointref18_Edges.l0]) ?_
  simp only [show ¬ ((i : Int) < (es.length : Int)) by omega, ↓reduceIte]; exact Ev.now _
 | m + 1, i, x, hi => by
  refine Ev.step (fun k => by rw [scarfjointref18_Edges.l0]) ?_
  simp only [show ((i : Int) < (es.length : Int)) by omega, show (0 : Int) ≤ (i : Int) by omega, ↓reduceIte]
  have w : wrap64 ((i : Int) + 1) = ((i + 1 : Nat) : Int) := by rw [w64 _ (by omega) (by omega)]; omega
  rw [w, eSum_succ]
  have ok : ∀ t : Bool, eOk l l1 e a b (rd_T75 es (i : Int)) = t → Ev (fun k => scarfjointref18_Edges.l0 k e a b (if t = true then wrap64 (x + (rd_T75 es (i : Int)).f3) else x) ((i + 1 : Nat) : Int) l l1 ns es) (eSum l l1 es e a b m (i + 1) (if eOk l l1 e a b (rd_T75 es (i : Int)) = true then wrap64 (x + (rd_T75 es (i : Int)).f3) else x), 0) := fun t ht => by
   rw [ht]; exact redges_loop e a b m (i + 1) _ (by omega)
  by_cases h0 : (rd_T75 es (i : Int)).f0 = e
  · simp only [h0, ↓reduceIte]
    refine Ev.bind (rIs_ev l l1 hg h h1g h1l _ _) ?_
    cases h1 : isE l l1 (rd_T75 es (i : Int)).f1 a
    · simp only [Bool.false_eq_true, ↓reduceIte]; exact ok false (by simp [eOk, h1])
    · simp only [↓reduceIte]
      refine Ev.bind (rIs_ev l l1 hg h h1g h1l _ _) ?_
      cases h2 : isE l l1 (rd_T75 es (i : Int)).f2 b
      · simp only [Bool.false_eq_true, ↓reduceIte]; exact ok false (by simp [eOk, h2])
      · simp only [↓reduceIte]; exact ok true (by simp [eOk, h0, h1, h2])
  · simp only [h0, ↓reduceIte]; exact ok false (by simp [eOk, h0])
theorem Edges_ev (e a b : Int) : Ev (fun k => statistic_Edges.f k l l1 ns es e a b) (edgesV l l1 ns es e a b) := by
 have no : Ev (fun k => statistic_Edges.j0 k e a b true l l1 ns es) (0, 6) := by
  refine Ev.step (fun k => by rw [statistic_Edges.j0]) ?_
  simp only [↓reduceIte]; exact Ev.now _
 have yes : Ev (fun k => statistic_Edges.j0 k e a b false l l1 ns es) (eSum l l1 es e a b es.length 0 0, 0) := by
  refine Ev.step (fun k => by rw [statistic_Edges.j0]) ?_
  simp only [Bool.false_eq_true, ↓reduceIte]; exact edges_loop l l1 hg h h1g h1l ns es hn he e a b es.length 0 0 (by omega)
 unfold statistic_Edges.f edgesV
 refine Ev.bind (sval_ev l l1 hg h h1g h1l ns es hn he) ?_
 by_cases h0 : sValidE l l1 ns es = 0
 · simp only [h0, ↓reduceIte, is_f, Option.bind_some]
   cases isIn e (l1.length : Int) <;> cases isIn a (l.length : Int) <;> cases isIn b (l.length : Int) <;> simp only [Bool.false_eq_true, ↓reduceIte, Bool.not_true, Bool.not_false, Bool.and_true, Bool.true_and, Bool.and_false, Bool.false_and, Bool.and_self] <;> first | exact no | exact yes
 · simp only [h0, ↓reduceIte]; exact Ev.now _
theorem rEdges_ev (e a b : Int) : Ev (fun k => scarfjointref18_Edges.f k l l1 ns es e a b) (edgesV l l1 ns es e a b) := by
 have no : Ev (fun k => scarfjointref18_Edges.j0 k e a b true l l1 ns es) (0, 6) := by
  refine Ev.step (fun k => by rw [scarfjointref18_Edges.j0]) ?_
  simp only [↓reduceIte]; exact Ev.now _
 have yes : Ev (fun k => scarfjointref18_Edges.j0 k e a b false l l1 ns es) (eSum l l1 es e a b es.length 0 0, 0) := by
  refine Ev.step (fun k => by rw [scarfjointref18_Edges.j0]) ?_
  simp only [Bool.false_eq_true, ↓reduceIte]; exact redges_loop l l1 hg h h1g h1l ns es hn he e a b es.length 0 0 (by omega)
 unfold scarfjointref18_Edges.f edgesV
 refine Ev.bind (rsval_ev l l1 hg h h1g h1l ns es hn he) ?_
 by_cases h0 : sValidE l l1 ns es = 0
 · simp only [h0, ↓reduceIte, ris_f, Option.bind_some]
   cases isIn e (l1.length : Int) <;> cases isIn a (l.length : Int) <;> cases isIn b (l.length : Int) <;> simp only [Bool.false_eq_true, ↓reduceIte, Bool.not_true, Bool.not_false, Bool.and_true, Bool.true_and, Bool.and_false, Bool.false_and, Bool.and_self] <;> first | exact no | exact yes
 · simp only [h0, ↓reduceIte]; exact Ev.now _
end sums
theorem awake_ev1 : Ev (fun k => scarfjointlaw18_awake.f k) true := Ev.of (fun k => scarfjointlaw18_awake.mono k) (k := 60) (by kernel_rfl)
theorem sfew_f (a b : List S75) : (scarfjointref18_Few.f a b = some true ∧ a.length ≤ 45 ∧ b.length ≤ 85) ∨ scarfjointref18_Few.f a b = some false := by
 unfold scarfjointref18_Few.f
 split
 · by_cases h : (b.length : Int) ≤ 85
   · left; rw [decide_eq_true h]; exact ⟨rfl, by omega, by omega⟩
   · right; rw [decide_eq_false h]
 · exact Or.inr rfl
theorem StatisticCounts_pure : ∀ (l0_0 : List S96) (l0_1 : List S101) (l1_0 : List S75) (l1_1 : List S75) (a2_0 : Int) (a2_1 : Int) (a2_2 : Int) (a2_3 : Int), (l0_0.length ≤ reachBytes ∧ ∀ x_ ∈ l0_0, good96 x_) → (l0_1.length ≤ reachBytes ∧ ∀ x_ ∈ l0_1, good101 x_) → (l1_0.length ≤ reachBytes ∧ ∀ x_ ∈ l1_0, good75 x_) → (l1_1.length ≤ reachBytes ∧ ∀ x_ ∈ l1_1, good75 x_) → (Lit.int .i64 a2_0).wf = true → (Lit.int .i64 a2_1).wf = true → (Lit.int .i64 a2_2).wf = true → (Lit.int .i64 a2_3).wf = true → ∃ k, scarfjointlaw18_StatisticCounts.f k l0_0 l0_1 l1_0 l1_1 a2_0 a2_1 a2_2 a2_3 = some true := by
 intro l l1 ns es p q r s hl hl1 _ _ _ _ _ _
 have no : Ev (fun k => scarfjointlaw18_StatisticCounts.j0 k true l l1 ns es p q r s) true := by
  refine Ev.step (fun k => by rw [scarfjointlaw18_StatisticCounts.j0]) ?_
  simp only [↓reduceIte]
  exact Ev.bind awake_ev1 (Ev.now _)
 refine Ev.rounds ?_
 unfold scarfjointlaw18_StatisticCounts.f
 refine Ev.bind awake_ev1 ?_
 simp only [↓reduceIte]
 obtain ⟨q0, hb, hQ⟩ := few_ev l l1 hl.2 hl.1 hl1.1
 refine Ev.bind hb ?_
 cases q0
 · simp only [Bool.false_eq_true, ↓reduceIte]; exact no
 · obtain ⟨hs, h30⟩ := hQ rfl
   simp only [↓reduceIte]
   rcases sfew_f ns es with ⟨e, hn, he⟩ | e
   · rw [e]
     simp only [Option.bind_some, Bool.not_true]
     refine Ev.step (fun k => by rw [scarfjointlaw18_StatisticCounts.j0]) ?_
     simp only [Bool.false_eq_true, ↓reduceIte, copied_f ns es (by omega) (by omega), Option.bind_some]
     refine Ev.bind (Nodes_ev l l1 hl.2 hs hl1.2 h30 ns es (by omega) (by omega) q) ?_
     refine Ev.bind (rNodes_ev l l1 hl.2 hs hl1.2 h30 ns es (by omega) (by omega) q) ?_
     refine Ev.bind (Edges_ev l l1 hl.2 hs hl1.2 h30 ns es (by omega) (by omega) p q r) ?_
     refine Ev.bind (rEdges_ev l l1 hl.2 hs hl1.2 h30 ns es (by omega) (by omega) p q r) ?_
     simp only [↓reduceIte, beq_self_eq_true]
     exact Ev.now _
   · rw [e]
     simp only [Option.bind_some, Bool.not_false]; exact no
end Go.Proofs.YtfpianecohobjaaGreat.P
