/- StatisticOf: a part of its proof. No condition. -/
import Derived.Test.YtfpianecohobjaaGreatYS
import Derived.Test.YtfpianecohobjaaGreatYH2
import Derived.Test.YtfpianecohobjaaGreatYPx46
import Derived.Test.YtfpianecohobjaaGreatYPx12
import Derived.Test.YtfpianecohobjaaGreatYPx14
import Derived.Test.YtfpianecohobjaaGreatYPx15
import Derived.Test.YtfpianecohobjaaGreatYPx16
import Derived.Test.YtfpianecohobjaaGreatYMd
import Derived.Test.YtfpianecohobjaaGreatYPx56
namespace Go.Proofs.YtfpianecohobjaaGreat.P
open Go.RowKit Go.Proofs.YtfpianecohobjaaGreatW.PrintWords Go.Proofs.YtfpianecohobjaaGreatW.PrintLast
set_option maxRecDepth 100000
set_option linter.unusedVariables false
set_option linter.unusedSimpArgs false
set_option linter.unusedSectionVars false
def kEq (a b : S75) : Prop := a.f0 = b.f0 ∧ a.f1 = b.f1 ∧ a.f2 = b.f2
def kIn (a : S75) : Prop := (0 ≤ a.f0 ∧ a.f0 ≤ 1000) ∧ (0 ≤ a.f1 ∧ a.f1 ≤ 1000) ∧ (0 ≤ a.f2 ∧ a.f2 ≤ 1000)
theorem cmp_eq {a b : S75} (ha : kIn a) (hb : kIn b) : cmpE a.f0 a.f1 a.f2 b.f0 b.f1 b.f2 = 0 ↔ kEq a b := by
 unfold kIn at ha hb
 unfold cmpE kEq
 rw [w64 (a.f0 - b.f0) (by omega) (by omega), w64 (a.f1 - b.f1) (by omega) (by omega), w64 (a.f2 - b.f2) (by omega) (by omega)]
 split
 · split <;> omega
 · omega
theorem rcmp_f (a b : S75) : scarfjointref18_compare.f a.f0 a.f1 a.f2 a.f3 b.f0 b.f1 b.f2 b.f3 = some (cmpE a.f0 a.f1 a.f2 b.f0 b.f1 b.f2) ∨ ¬ (kIn a ∧ kIn b) := by
 by_cases h : kIn a ∧ kIn b
 · left
   obtain ⟨ha, hb⟩ := h
   unfold kIn at ha hb
   unfold scarfjointref18_compare.f cmpE
   rw [w64 (a.f0 - b.f0) (by omega) (by omega), w64 (a.f1 - b.f1) (by omega) (by omega), w64 (a.f2 - b.f2) (by omega) (by omega)]
   by_cases h0 : a.f0 = b.f0
   · have e0 : a.f0 - b.f0 = 0 := by omega
     by_cases h1 : a.f1 = b.f1
     · have e1 : a.f1 - b.f1 = 0 := by omega
       simp only [h0, h1, e0, e1, ↓reduceIte]
       simp
     · have e1 : ¬ (a.f1 - b.f1 = 0) := by omega
       simp only [h1, e0, e1, ↓reduceIte, if_pos h0]
   · have e0 : ¬ (a.f0 - b.f0 = 0) := by omega
     simp only [h0, e0, ↓reduceIte]
 · exact Or.inr h
theorem rcmp_in {a b : S75} (ha : kIn a) (hb : kIn b) : scarfjointref18_compare.f a.f0 a.f1 a.f2 a.f3 b.f0 b.f1 b.f2 b.f3 = some (cmpE a.f0 a.f1 a.f2 b.f0 b.f1 b.f2) := by
 rcases rcmp_f a b with h | h
 · exact h
 · exact absurd ⟨ha, hb⟩ h
theorem rd75_nat (l : List S75) (i : Nat) (h : i < l.length) : rd_T75 l (i : Int) = l[i] := by unfold rd_T75; simp [h]
def sumE : List S75 → Int
 | [] => 0
 | y :: l => y.f3 + sumE l
theorem scan_succ (F : Nat → Int) (m i : Nat) : scan F (m + 1) i = if F i = 0 then scan F m (i + 1) else F i := rfl
section typed
variable (l : List S96) (l1 : List S101) (hg : Good l) (h : Small l) (h1g : ∀ x ∈ l1, good101 x) (h1l : l1.length ≤ 30) (g : List Int) (es : List S56)
include hg h h1g h1l
end typed
section of
variable (l : List S96) (l1 : List S101) (hg : Good l) (h : Small l) (h1g : ∀ x ∈ l1, good101 x) (h1l : l1.length ≤ 30) (g : List Int) (es : List S56)
include hg h h1g h1l
end of
def isIn (a n : Int) : Bool := decide (0 ≤ a) && decide (a < n)
theorem is_f (a n : Int) : statistic_is.f a n = some (isIn a n) := by
 unfold statistic_is.f isIn
 by_cases h : 0 ≤ a
 · rw [if_pos h]; simp [h]
 · rw [if_neg h]; simp [h]
def cmpAtE (l : List S75) (i : Nat) : Int := cmpE (rd_T75 l ((i : Int) - 1)).f0 (rd_T75 l ((i : Int) - 1)).f1 (rd_T75 l ((i : Int) - 1)).f2 (rd_T75 l (i : Int)).f0 (rd_T75 l (i : Int)).f1 (rd_T75 l (i : Int)).f2
def ordE (l : List S75) (i : Nat) : Int := if 0 < i then (if cmpAtE l i ≥ 0 then 12 else 0) else 0
def nBad (l : List S96) (c : S75) : Bool := !(isIn c.f0 (l.length : Int) && (decide (c.f1 = 0) && (decide (c.f2 = 0) && (decide (1 ≤ c.f3) && decide (c.f3 ≤ 40)))))
def sN (l : List S96) (ns : List S75) (i : Nat) : Int := if nBad l (rd_T75 ns (i : Int)) = true then 6 else ordE ns i
def eBad (l : List S96) (l1 : List S101) (c : S75) : Bool := !(isIn c.f0 (l1.length : Int) && (isIn c.f1 (l.length : Int) && (isIn c.f2 (l.length : Int) && (decide (1 ≤ c.f3) && decide (c.f3 ≤ 80)))))
def hasE (ns : List S75) (a : Int) : Bool := ns.any fun c => c.f0 == a
def sE (l : List S96) (l1 : List S101) (ns es : List S75) (i : Nat) : Int := if eBad l l1 (rd_T75 es (i : Int)) = true then 6 else if fitsE l l1 (rd_T75 es (i : Int)).f0 (rd_T75 es (i : Int)).f1 (rd_T75 es (i : Int)).f2 = true then (if (hasE ns (rd_T75 es (i : Int)).f1 && hasE ns (rd_T75 es (i : Int)).f2) = true then ordE es i else 10) else 13
def sumV (es : List S75) : Int := if sumE es > 80 then 3 else 0
def sEdgesV (l : List S96) (l1 : List S101) (ns es : List S75) : Int := if scan (sE l l1 ns es) es.length 0 = 0 then sumV es else scan (sE l l1 ns es) es.length 0
def sNodesV (l : List S96) (l1 : List S101) (ns es : List S75) : Int := if sumE ns > 40 then 3 else sEdgesV l l1 ns es
def sValidE (l : List S96) (l1 : List S101) (ns es : List S75) : Int := if (validE l l1).2 = 0 then (if scan (sN l ns) ns.length 0 = 0 then sNodesV l l1 ns es else scan (sN l ns) ns.length 0) else (validE l l1).2
theorem total_loop (l : List S75) (hl : l.length ≤ 1000) (hn : ∀ y ∈ l, 1 ≤ y.f3 ∧ y.f3 ≤ 80) : ∀ (m i : Nat) (a : Int), i + m = l.length → 0 ≤ a ∧ a ≤ 80 * (i : Int) → Ev (fun k => statistic_total.l0 k a l (l.length : Int) (i : Int)) (a + sumE (l.drop i))
 | 0, i, a, hi, ha => by
  refine Ev.step (fun k => by rw [statistic_total.l0]) ?_
  rw [List.drop_eq_nil_of_le (by omega)]
  simp only [show ¬ ((i : Int) < (l.length : Int)) by omega, ↓reduceIte, sumE, Int.add_zero]; exact Ev.now _
 | m + 1, i, a, hi, ha => by
  have hil : i < l.length := by omega
  have hy := hn _ (List.getElem_mem hil)
  refine Ev.step (fun k => by rw [statistic_total.l0]) ?_
  simp only [show ((i : Int) < (l.length : Int)) by omega, show (0 : Int) ≤ (i : Int) by omega, ↓reduceIte, rd75_nat l i hil]
  rw [w64 _ (by omega) (by omega), w64 _ (by omega) (by omega), List.drop_eq_getElem_cons hil, sumE, ← Int.add_assoc]
  exact total_loop l hl hn m (i + 1) _ (by omega) (by omega)
theorem total_ev (l : List S75) (hl : l.length ≤ 1000) (hn : ∀ y ∈ l, 1 ≤ y.f3 ∧ y.f3 ≤ 80) : Ev (fun k => statistic_total.f k l) (sumE l) := by
 have := total_loop l hl hn l.length 0 0 (by omega) (by omega)
 rw [Int.zero_add, List.drop_zero] at this
 exact this
theorem compare_ev (a0 a1 a2 a3 b0 b1 b2 b3 : Int) : Ev (fun k => statistic_compare.f k a0 a1 a2 a3 b0 b1 b2 b3) (cmpE a0 a1 a2 b0 b1 b2) := Ev.of (fun k => statistic_compare.mono _ _ _ _ _ _ _ _ k) (k := 5) (compare_f a0 a1 a2 a3 b0 b1 b2 b3)
section sval
variable (l : List S96) (l1 : List S101) (hg : Good l) (h : Small l) (h1g : ∀ x ∈ l1, good101 x) (h1l : l1.length ≤ 30) (ns es : List S75) (hn : ns.length ≤ 1000) (he : es.length ≤ 1000)
include hg h h1g h1l hn he
theorem sval_edges : ∀ (m i : Nat), i + m = es.length → (∀ j, j < i → sE l l1 ns es j = 0) → Ev (fun k => statistic_Valid.l1 k es (es.length : Int) (i : Int) l l1 ns es) (if scan (sE l l1 ns es) m i = 0 then sumV es else scan (sE l l1 ns es) m i)
 | 0, i, hi, hp => by
  refine Ev.step (fun k => by rw [statistic_Valid.l1]) ?_
  simp only [show ¬ ((i : Int) < (es.length : Int)) by omega, ↓reduceIte, scan]
  refine Ev.bind (total_ev es he (fun y hy => ?_)) ?_
  · obtain ⟨j, hj, rfl⟩ := List.getElem_of_mem hy
    have := hp j (by omega)
    unfold sE at this
    split at this
    · exact absurd this (by decide)
    · next hb =>
      rw [rd75_nat _ _ hj] at hb
      simp [eBad] at hb
      omega
  · unfold sumV
    by_cases hs : sumE es > 80
    · simp only [hs, ↓reduceIte]; exact Ev.now _
    · simp only [hs, ↓reduceIte]; exact Ev.now _
 | m + 1, i, hi, hp => by
  have next_ : sE l l1 ns es i = 0 → Ev (fun k => statistic_Valid.l1 k es (es.length : Int) (wrap64 ((i : Int) + 1)) l l1 ns es) (if scan (sE l l1 ns es) (m + 1) i = 0 then sumV es else scan (sE l l1 ns es) (m + 1) i) := fun h0 => by
   rw [scan_succ, if_pos h0, w64 _ (by omega) (by omega)]
   exact sval_edges m (i + 1) (by omega) (fun j hj => by
    rcases Nat.lt_or_eq_of_le (Nat.le_of_lt_succ hj) with h1 | rfl
    · exact hp j h1
    · exact h0)
  have stop_ : ∀ e : Int, sE l l1 ns es i = e → e ≠ 0 → (if scan (sE l l1 ns es) (m + 1) i = 0 then sumV es else scan (sE l l1 ns es) (m + 1) i) = e := fun e h1 h2 => by
   rw [scan_succ, h1, if_neg h2, if_neg h2]
  refine Ev.step (fun k => by rw [statistic_Valid.l1]) ?_
  simp only [show ((i : Int) < (es.length : Int)) by omega, show (0 : Int) ≤ (i : Int) by omega, ↓reduceIte, is_f, Option.bind_some]
  generalize hc : rd_T75 es (i : Int) = c
  have bad : eBad l l1 c = true → Ev (fun k => statistic_Valid.j3 k (i : Int) es (es.length : Int) (i : Int) true l l1 ns es c.f0 c.f1 c.f2 c.f3) (if scan (sE l l1 ns es) (m + 1) i = 0 then sumV es else scan (sE l l1 ns es) (m + 1) i) := fun hb => by
   rw [stop_ 6 (by unfold sE; rw [hc, if_pos hb]) (by decide)]
   refine Ev.step (fun k => by rw [statistic_Valid.j3]) ?_
   simp only [↓reduceIte]; exact Ev.now _
  have j4 : eBad l l1 c = false → fitsE l l1 c.f0 c.f1 c.f2 = true → ∀ b : Bool, b = !(hasE ns c.f1 && hasE ns c.f2) → Ev (fun k => statistic_Valid.j4 k (i : Int) es (es.length : Int) (i : Int) b l l1 ns es c.f0 c.f1 c.f2 c.f3) (if scan (sE l l1 ns es) (m + 1) i = 0 then sumV es else scan (sE l l1 ns es) (m + 1) i) := fun hb hf b hbb => by
   refine Ev.step (fun k => by rw [statistic_Valid.j4]) ?_
   cases hh : (hasE ns c.f1 && hasE ns c.f2)
   · rw [hh] at hbb
     rw [stop_ 10 (by unfold sE; rw [hc, if_neg (by simp [hb]), if_pos hf, if_neg (by simp [hh])]) (by decide), hbb]
     simp only [Bool.not_false, ↓reduceIte]; exact Ev.now _
   · rw [hh] at hbb
     have e0 : sE l l1 ns es i = ordE es i := by unfold sE; rw [hc, if_neg (by simp [hb]), if_pos hf, if_pos hh]
     rw [hbb]
     simp only [Bool.not_true, Bool.false_eq_true, ↓reduceIte]
     by_cases hi0 : 0 < i
     · rw [w64 ((i : Int) - 1) (by omega) (by omega)]
       simp only [show (i : Int) > 0 by omega, show (0 : Int) ≤ (i : Int) - 1 by omega, show (i : Int) - 1 < (es.length : Int) by omega, ↓reduceIte]
       refine Ev.bind (compare_ev _ _ _ _ _ _ _ _) ?_
       have e1 : ordE es i = if cmpE (rd_T75 es ((i : Int) - 1)).f0 (rd_T75 es ((i : Int) - 1)).f1 (rd_T75 es ((i : Int) - 1)).f2 c.f0 c.f1 c.f2 ≥ 0 then 12 else 0 := by
        unfold ordE cmpAtE; rw [if_pos hi0, hc]
       by_cases ho : cmpE (rd_T75 es ((i : Int) - 1)).f0 (rd_T75 es ((i : Int) - 1)).f1 (rd_T75 es ((i : Int) - 1)).f2 c.f0 c.f1 c.f2 ≥ 0
       · rw [if_pos ho] at e1
         rw [stop_ 12 (by rw [e0, e1]) (by decide)]
         simp only [ho, ↓reduceIte]; exact Ev.now _
       · rw [if_neg ho] at e1
         simp only [ho, ↓reduceIte]
         exact next_ (by rw [e0, e1])
     · simp only [show ¬ ((i : Int) > 0) by omega, ↓reduceIte]
       exact next_ (by rw [e0]; unfold ordE; rw [if_neg hi0])
  have good : eBad l l1 c = false → Ev (fun k => statistic_Valid.j3 k (i : Int) es (es.length : Int) (i : Int) false l l1 ns es c.f0 c.f1 c.f2 c.f3) (if scan (sE l l1 ns es) (m + 1) i = 0 then sumV es else scan (sE l l1 ns es) (m + 1) i) := fun hb => by
   refine Ev.step (fun k => by rw [statistic_Valid.j3]) ?_
   simp only [Bool.false_eq_true, ↓reduceIte]
   refine Ev.bind (Fits_ev l l1 hg h h1g h1l _ _ _) ?_
   cases hf : fitsE l l1 c.f0 c.f1 c.f2
   · rw [stop_ 13 (by unfold sE; rw [hc, if_neg (by simp [hb]), if_neg (by simp [hf])]) (by decide)]
     simp only [Bool.false_eq_true, ↓reduceIte]; exact Ev.now _
   · simp only [↓reduceIte, statistic_has.f, any_has.f, Option.bind_some]
     have j := j4 hb hf
     unfold hasE at j
     cases h1 : ns.any (fun m => m.f0 == c.f1)
     · simp only [Bool.false_eq_true, ↓reduceIte]; exact j true (by rw [h1]; rfl)
     · simp only [↓reduceIte]; exact j _ (by rw [h1]; rfl)
  cases h0 : isIn c.f0 (l1.length : Int)
  · simp only [Bool.false_eq_true, ↓reduceIte]; exact bad (by simp [eBad, h0])
  · simp only [↓reduceIte]
    cases h1 : isIn c.f1 (l.length : Int)
    · simp only [Bool.false_eq_true, ↓reduceIte]; exact bad (by simp [eBad, h1])
    · simp only [↓reduceIte]
      cases h2 : isIn c.f2 (l.length : Int)
      · simp only [Bool.false_eq_true, ↓reduceIte]; exact bad (by simp [eBad, h2])
      · simp only [↓reduceIte]
        by_cases h3 : c.f3 < 1
        · simp only [h3, ↓reduceIte]; exact bad (by simp [eBad]; omega)
        · simp only [h3, ↓reduceIte]
          by_cases h4 : c.f3 > 80
          · rw [decide_eq_true h4]; exact bad (by simp [eBad]; omega)
          · rw [decide_eq_false h4]; exact good (by simp [eBad, h0, h1, h2]; omega)
theorem sval_nodes : ∀ (m i : Nat), i + m = ns.length → (∀ j, j < i → sN l ns j = 0) → Ev (fun k => statistic_Valid.l0 k ns (ns.length : Int) (i : Int) l l1 ns es) (if scan (sN l ns) m i = 0 then sNodesV l l1 ns es else scan (sN l ns) m i)
 | 0, i, hi, hp => by
  refine Ev.step (fun k => by rw [statistic_Valid.l0]) ?_
  simp only [show ¬ ((i : Int) < (ns.length : Int)) by omega, ↓reduceIte, scan]
  refine Ev.bind (total_ev ns hn (fun y hy => ?_)) ?_
  · obtain ⟨j, hj, rfl⟩ := List.getElem_of_mem hy
    have := hp j (by omega)
    unfold sN at this
    split at this
    · exact absurd this (by decide)
    · next hb =>
      rw [rd75_nat _ _ hj] at hb
      simp [nBad] at hb
      omega
  · unfold sNodesV
    by_cases hs : sumE ns > 40
    · simp only [hs, ↓reduceIte]; exact Ev.now _
    · simp only [hs, ↓reduceIte]
      exact sval_edges l l1 hg h h1g h1l ns es hn he es.length 0 (by omega) (fun j hj => absurd hj (Nat.not_lt_zero _))
 | m + 1, i, hi, hp => by
  have next_ : sN l ns i = 0 → Ev (fun k => statistic_Valid.l0 k ns (ns.length : Int) (wrap64 ((i : Int) + 1)) l l1 ns es) (if scan (sN l ns) (m + 1) i = 0 then sNodesV l l1 ns es else scan (sN l ns) (m + 1) i) := fun h0 => by
   rw [scan_succ, if_pos h0, w64 _ (by omega) (by omega)]
   exact sval_nodes m (i + 1) (by omega) (fun j hj => by
    rcases Nat.lt_or_eq_of_le (Nat.le_of_lt_succ hj) with h1 | rfl
    · exact hp j h1
    · exact h0)
  have stop_ : ∀ e : Int, sN l ns i = e → e ≠ 0 → (if scan (sN l ns) (m + 1) i = 0 then sNodesV l l1 ns es else scan (sN l ns) (m + 1) i) = e := fun e h1 h2 => by
   rw [scan_succ, h1, if_neg h2, if_neg h2]
  refine Ev.step (fun k => by rw [statistic_Valid.l0]) ?_
  simp only [show ((i : Int) < (ns.length : Int)) by omega, show (0 : Int) ≤ (i : Int) by omega, ↓reduceIte, is_f, Option.bind_some]
  generalize hc : rd_T75 ns (i : Int) = c
  have bad : nBad l c = true → Ev (fun k => statistic_Valid.j1 k (i : Int) ns (ns.length : Int) (i : Int) true l l1 ns es c.f0 c.f1 c.f2 c.f3) (if scan (sN l ns) (m + 1) i = 0 then sNodesV l l1 ns es else scan (sN l ns) (m + 1) i) := fun hb => by
   rw [stop_ 6 (by unfold sN; rw [hc, if_pos hb]) (by decide)]
   refine Ev.step (fun k => by rw [statistic_Valid.j1]) ?_
   simp only [↓reduceIte]; exact Ev.now _
  have good : nBad l c = false → Ev (fun k => statistic_Valid.j1 k (i : Int) ns (ns.length : Int) (i : Int) false l l1 ns es c.f0 c.f1 c.f2 c.f3) (if scan (sN l ns) (m + 1) i = 0 then sNodesV l l1 ns es else scan (sN l ns) (m + 1) i) := fun hb => by
   have e0 : sN l ns i = ordE ns i := by unfold sN; rw [hc, if_neg (by simp [hb])]
   refine Ev.step (fun k => by rw [statistic_Valid.j1]) ?_
   simp only [Bool.false_eq_true, ↓reduceIte]
   by_cases hi0 : 0 < i
   · rw [w64 ((i : Int) - 1) (by omega) (by omega)]
     simp only [show (i : Int) > 0 by omega, show (0 : Int) ≤ (i : Int) - 1 by omega, show (i : Int) - 1 < (ns.length : Int) by omega, ↓reduceIte]
     refine Ev.bind (compare_ev _ _ _ _ _ _ _ _) ?_
     have e1 : ordE ns i = if cmpE (rd_T75 ns ((i : Int) - 1)).f0 (rd_T75 ns ((i : Int) - 1)).f1 (rd_T75 ns ((i : Int) - 1)).f2 c.f0 c.f1 c.f2 ≥ 0 then 12 else 0 := by
      unfold ordE cmpAtE; rw [if_pos hi0, hc]
     by_cases ho : cmpE (rd_T75 ns ((i : Int) - 1)).f0 (rd_T75 ns ((i : Int) - 1)).f1 (rd_T75 ns ((i : Int) - 1)).f2 c.f0 c.f1 c.f2 ≥ 0
     · rw [if_pos ho] at e1
       rw [stop_ 12 (by rw [e0, e1]) (by decide)]
       simp only [ho, ↓reduceIte]; exact Ev.now _
     · rw [if_neg ho] at e1
       simp only [ho, ↓reduceIte]
       exact next_ (by rw [e0, e1])
   · simp only [show ¬ ((i : Int) > 0) by omega, ↓reduceIte]
     exact next_ (by rw [e0]; unfold ordE; rw [if_neg hi0])
  cases h0 : isIn c.f0 (l.length : Int)
  · simp only [Bool.false_eq_true, ↓reduceIte]; exact bad (by simp [nBad, h0])
  · simp only [↓reduceIte]
    by_cases h1 : c.f1 = 0
    · simp only [h1, ↓reduceIte]
      rw [h1] at bad good
      by_cases h2 : c.f2 = 0
      · simp only [h2, ↓reduceIte]
        rw [h2] at bad good
        by_cases h3 : c.f3 < 1
        · simp only [h3, ↓reduceIte]; exact bad (by simp [nBad]; omega)
        · simp only [h3, ↓reduceIte]
          by_cases h4 : c.f3 > 40
          · rw [decide_eq_true h4]; exact bad (by simp [nBad]; omega)
          · rw [decide_eq_false h4]; exact good (by simp [nBad, h0, h1, h2]; omega)
      · simp only [h2, ↓reduceIte]; exact bad (by simp [nBad, h2])
    · simp only [h1, ↓reduceIte]; exact bad (by simp [nBad, h1])
theorem sval_ev : Ev (fun k => statistic_Valid.f k l l1 ns es) (sValidE l l1 ns es) := by
 unfold statistic_Valid.f sValidE
 refine Ev.bind (valid_ev l l1 hg h h1g h1l) ?_
 by_cases hv : (validE l l1).2 = 0
 · simp only [hv, ↓reduceIte]; exact sval_nodes l l1 hg h h1g h1l ns es hn he ns.length 0 (by omega) (fun j hj => absurd hj (Nat.not_lt_zero _))
 · simp only [hv, ↓reduceIte]; exact Ev.now _
end sval
theorem ris_f (a n : Int) : scarfjointref18_is.f a n = some (isIn a n) := by
 unfold scarfjointref18_is.f isIn
 by_cases h : 0 ≤ a
 · rw [if_pos h]; simp [h]
 · rw [if_neg h]; simp [h]
theorem rtotal_loop (l : List S75) (hl : l.length ≤ 1000) (hn : ∀ y ∈ l, 1 ≤ y.f3 ∧ y.f3 ≤ 80) : ∀ (m i : Nat) (a : Int), i + m = l.length → 0 ≤ a ∧ a ≤ 80 * (i : Int) → Ev (fun k => scarfjointref18_total.l0 k l a (i : Int)) (a + sumE (l.drop i))
 | 0, i, a, hi, ha => by
  refine Ev.step (fun k => by rw [scarfjointref18_total.l0]) ?_
  rw [List.drop_eq_nil_of_le (by omega)]
  simp only [show ¬ ((i : Int) < (l.length : Int)) by omega, ↓reduceIte, sumE, Int.add_zero]; exact Ev.now _
 | m + 1, i, a, hi, ha => by
  have hil : i < l.length := by omega
  have hy := hn _ (List.getElem_mem hil)
  refine Ev.step (fun k => by rw [scarfjointref18_total.l0]) ?_
  simp only [show ((i : Int) < (l.length : Int)) by omega, show (0 : Int) ≤ (i : Int) by omega, ↓reduceIte, rd75_nat l i hil]
  rw [w64 _ (by omega) (by omega), w64 _ (by omega) (by omega), List.drop_eq_getElem_cons hil, sumE, ← Int.add_assoc]
  exact rtotal_loop l hl hn m (i + 1) _ (by omega) (by omega)
theorem rtotal_ev (l : List S75) (hl : l.length ≤ 1000) (hn : ∀ y ∈ l, 1 ≤ y.f3 ∧ y.f3 ≤ 80) : Ev (fun k => scarfjointref18_total.f k l) (sumE l) := by
 have := rtotal_loop l hl hn l.length 0 0 (by omega) (by omega)
 rw [Int.zero_add, List.drop_zero] at this
 exact this
theorem n_kIn_of {l : List S96} {c : S75} (h : Small l) (hb : nBad l c = false) : kIn c := by
 have := h.1
 simp [nBad, isIn] at hb
 unfold kIn; omega
theorem n_kIn {l : List S96} {ns : List S75} {i : Nat} (h : Small l) (hz : sN l ns i = 0) : kIn (rd_T75 ns (i : Int)) := by
 unfold sN at hz
 split at hz
 · exact absurd hz (by decide)
 · next hb => exact n_kIn_of h (by simpa using hb)
theorem e_kIn_of {l : List S96} {l1 : List S101} {c : S75} (h : Small l) (h1l : l1.length ≤ 30) (hb : eBad l l1 c = false) : kIn c := by
 have := h.1
 simp [eBad, isIn] at hb
 unfold kIn; omega
theorem e_kIn {l : List S96} {l1 : List S101} {ns es : List S75} {i : Nat} (h : Small l) (h1l : l1.length ≤ 30) (hz : sE l l1 ns es i = 0) : kIn (rd_T75 es (i : Int)) := by
 unfold sE at hz
 split at hz
 · exact absurd hz (by decide)
 · next hb => exact e_kIn_of h h1l (by simpa using hb)
theorem n_facts {l : List S96} {ns : List S75} {i : Nat} (hz : sN l ns i = 0) : (rd_T75 ns (i : Int)).f1 = 0 ∧ (rd_T75 ns (i : Int)).f2 = 0 ∧ 1 ≤ (rd_T75 ns (i : Int)).f3 ∧ (rd_T75 ns (i : Int)).f3 ≤ 40 := by
 unfold sN at hz
 split at hz
 · exact absurd hz (by decide)
 · next hb => simp [nBad] at hb; omega
theorem number_loop {l : List S96} (h : Small l) (ns : List S75) (hn : ns.length ≤ 1000) (hok : ∀ j, j < ns.length → sN l ns j = 0) (a : Int) (ha : 0 ≤ a ∧ a ≤ 1000) : ∀ (m i : Nat), i + m = ns.length →
 ∃ r, Ev (fun k => scarfjointref18_number.l0 k ns (i : Int) a 0 0 0) r ∧ (r = 0 → (ns.drop i).any (fun c => c.f0 == a) = false) ∧ ((ns.drop i).any (fun c => c.f0 == a) = false → r = 0)
 | 0, i, hi => ⟨0, by
  refine Ev.step (fun k => by rw [scarfjointref18_number.l0]) ?_
  simp only [show ¬ ((i : Int) < (ns.length : Int)) by omega, ↓reduceIte]; exact Ev.now _, fun _ => by rw [List.drop_eq_nil_of_le (by omega)]; rfl, fun _ => rfl⟩
 | m + 1, i, hi => by
  have hil : i < ns.length := by omega
  have hz := hok i hil
  have hk := n_kIn h hz
  have hf := n_facts hz
  rw [rd75_nat ns i hil] at hk hf
  have hb : kIn (⟨a, 0, 0, 0⟩ : S75) := ⟨ha, ⟨(by decide : (0 : Int) ≤ 0), (by decide : (0 : Int) ≤ 1000)⟩, ⟨(by decide : (0 : Int) ≤ 0), (by decide : (0 : Int) ≤ 1000)⟩⟩
  have hc := rcmp_in hk hb
  have he := cmp_eq hk hb
  simp only at hc he
  rw [List.drop_eq_getElem_cons hil, List.any_cons]
  by_cases hq : ns[i].f0 = a
  · have h0 := he.2 ⟨hq, hf.1, hf.2.1⟩
    refine ⟨ns[i].f3, Ev.step (fun k => by rw [scarfjointref18_number.l0]) ?_, fun hh => by omega, fun hh => by simp [hq] at hh⟩
    simp only [show ((i : Int) < (ns.length : Int)) by omega, show (0 : Int) ≤ (i : Int) by omega, ↓reduceIte, rd75_nat ns i hil]
    rw [hc, h0]
    simp only [Option.bind_some, ↓reduceIte]; exact Ev.now _
  · have h0 : ¬ (cmpE ns[i].f0 ns[i].f1 ns[i].f2 a 0 0 = 0) := fun hh => hq (he.1 hh).1
    obtain ⟨r, hr, e1, e2⟩ := number_loop h ns hn hok a ha m (i + 1) (by omega)
    refine ⟨r, Ev.step (fun k => by rw [scarfjointref18_number.l0]) ?_, fun hh => by rw [e1 hh]; simp [hq], fun hh => e2 (by simp [hq] at hh; simpa using hh)⟩
    simp only [show ((i : Int) < (ns.length : Int)) by omega, show (0 : Int) ≤ (i : Int) by omega, ↓reduceIte, rd75_nat ns i hil]
    rw [hc]
    simp only [Option.bind_some, h0, ↓reduceIte]
    rw [w64 _ (by omega) (by omega)]
    exact hr
theorem number_ev {l : List S96} (h : Small l) (ns : List S75) (hn : ns.length ≤ 1000) (hok : ∀ j, j < ns.length → sN l ns j = 0) (a : Int) (ha : 0 ≤ a ∧ a ≤ 1000) :
 ∃ r, Ev (fun k => scarfjointref18_number.f k ns a 0 0 0) r ∧ (r = 0 → hasE ns a = false) ∧ (hasE ns a = false → r = 0) := by
 obtain ⟨r, h1, h2, h3⟩ := number_loop h ns hn hok a ha ns.length 0 (by omega)
 exact ⟨r, h1, h2, h3⟩
section sval
variable (l : List S96) (l1 : List S101) (hg : Good l) (h : Small l) (h1g : ∀ x ∈ l1, good101 x) (h1l : l1.length ≤ 30) (ns es : List S75) (hn : ns.length ≤ 1000) (he : es.length ≤ 1000)
include hg h h1g h1l hn he
theorem rsval_edges (hok : ∀ j, j < ns.length → sN l ns j = 0) : ∀ (m i : Nat), i + m = es.length → (∀ j, j < i → sE l l1 ns es j = 0) → Ev (fun k => scarfjointref18_Valid.l1 k (i : Int) l l1 ns es) (if scan (sE l l1 ns es) m i = 0 then sumV es else scan (sE l l1 ns es) m i)
 | 0, i, hi, hp => by
  refine Ev.step (fun k => by rw [scarfjointref18_Valid.l1]) ?_
  simp only [show ¬ ((i : Int) < (es.length : Int)) by omega, ↓reduceIte, scan]
  refine Ev.bind (rtotal_ev es he (fun y hy => ?_)) ?_
  · obtain ⟨j, hj, rfl⟩ := List.getElem_of_mem hy
    have := hp j (by omega)
    unfold sE at this
    split at this
    · exact absurd this (by decide)
    · next hb =>
      rw [rd75_nat _ _ hj] at hb
      simp [eBad] at hb
      omega
  · unfold sumV
    by_cases hs : sumE es > 80
    · simp only [hs, ↓reduceIte]; exact Ev.now _
    · simp only [hs, ↓reduceIte]; exact Ev.now _
 | m + 1, i, hi, hp => by
  have next_ : sE l l1 ns es i = 0 → Ev (fun k => scarfjointref18_Valid.l1 k (wrap64 ((i : Int) + 1)) l l1 ns es) (if scan (sE l l1 ns es) (m + 1) i = 0 then sumV es else scan (sE l l1 ns es) (m + 1) i) := fun h0 => by
   rw [scan_succ, if_pos h0, w64 _ (by omega) (by omega)]
   exact rsval_edges hok m (i + 1) (by omega) (fun j hj => by
    rcases Nat.lt_or_eq_of_le (Nat.le_of_lt_succ hj) with h1 | rfl
    · exact hp j h1
    · exact h0)
  have stop_ : ∀ e : Int, sE l l1 ns es i = e → e ≠ 0 → (if scan (sE l l1 ns es) (m + 1) i = 0 then sumV es else scan (sE l l1 ns es) (m + 1) i) = e := fun e h1 h2 => by
   rw [scan_succ, h1, if_neg h2, if_neg h2]
  refine Ev.step (fun k => by rw [scarfjointref18_Valid.l1]) ?_
  simp only [show ((i : Int) < (es.length : Int)) by omega, show (0 : Int) ≤ (i : Int) by omega, ↓reduceIte, ris_f, Option.bind_some]
  generalize hc : rd_T75 es (i : Int) = c
  have bad : eBad l l1 c = true → Ev (fun k => scarfjointref18_Valid.j3 k (i : Int) true l l1 ns es c.f0 c.f1 c.f2 c.f3) (if scan (sE l l1 ns es) (m + 1) i = 0 then sumV es else scan (sE l l1 ns es) (m + 1) i) := fun hb => by
   rw [stop_ 6 (by unfold sE; rw [hc, if_pos hb]) (by decide)]
   refine Ev.step (fun k => by rw [scarfjointref18_Valid.j3]) ?_
   simp only [↓reduceIte]; exact Ev.now _
  have j4 : eBad l l1 c = false → fitsE l l1 c.f0 c.f1 c.f2 = true → ∀ b : Bool, b = !(hasE ns c.f1 && hasE ns c.f2) → Ev (fun k => scarfjointref18_Valid.j4 k (i : Int) b l l1 ns es c.f0 c.f1 c.f2 c.f3) (if scan (sE l l1 ns es) (m + 1) i = 0 then sumV es else scan (sE l l1 ns es) (m + 1) i) := fun hb hf b hbb => by
   refine Ev.step (fun k => by rw [scarfjointref18_Valid.j4]) ?_
   cases hh : (hasE ns c.f1 && hasE ns c.f2)
   · rw [hh] at hbb
     rw [stop_ 10 (by unfold sE; rw [hc, if_neg (by simp [hb]), if_pos hf, if_neg (by simp [hh])]) (by decide), hbb]
     simp only [Bool.not_false, ↓reduceIte]; exact Ev.now _
   · rw [hh] at hbb
     have e0 : sE l l1 ns es i = ordE es i := by unfold sE; rw [hc, if_neg (by simp [hb]), if_pos hf, if_pos hh]
     rw [hbb]
     simp only [Bool.not_true, Bool.false_eq_true, ↓reduceIte]
     by_cases hi0 : 0 < i
     · rw [w64 ((i : Int) - 1) (by omega) (by omega)]
       simp only [show (i : Int) > 0 by omega, show (0 : Int) ≤ (i : Int) - 1 by omega, show (i : Int) - 1 < (es.length : Int) by omega, ↓reduceIte]
       have hci := rcmp_in (a := rd_T75 es ((i : Int) - 1)) (b := c) (by rw [show ((i : Int) - 1) = ((i - 1 : Nat) : Int) by omega]; exact e_kIn h h1l (hp (i - 1) (by omega))) (e_kIn_of h h1l hb)
       rw [hci]
       simp only [Option.bind_some]
       have e1 : ordE es i = if cmpE (rd_T75 es ((i : Int) - 1)).f0 (rd_T75 es ((i : Int) - 1)).f1 (rd_T75 es ((i : Int) - 1)).f2 c.f0 c.f1 c.f2 ≥ 0 then 12 else 0 := by
        unfold ordE cmpAtE; rw [if_pos hi0, hc]
       by_cases ho : cmpE (rd_T75 es ((i : Int) - 1)).f0 (rd_T75 es ((i : Int) - 1)).f1 (rd_T75 es ((i : Int) - 1)).f2 c.f0 c.f1 c.f2 ≥ 0
       · rw [if_pos ho] at e1
         rw [stop_ 12 (by rw [e0, e1]) (by decide)]
         simp only [ho, ↓reduceIte]; exact Ev.now _
       · rw [if_neg ho] at e1
         simp only [ho, ↓reduceIte]
         exact next_ (by rw [e0, e1])
     · simp only [show ¬ ((i : Int) > 0) by omega, ↓reduceIte]
       exact next_ (by rw [e0]; unfold ordE; rw [if_neg hi0])
  have good : eBad l l1 c = false → Ev (fun k => scarfjointref18_Valid.j3 k (i : Int) false l l1 ns es c.f0 c.f1 c.f2 c.f3) (if scan (sE l l1 ns es) (m + 1) i = 0 then sumV es else scan (sE l l1 ns es) (m + 1) i) := fun hb => by
   refine Ev.step (fun k => by rw [scarfjointref18_Valid.j3]) ?_
   simp only [Bool.false_eq_true, ↓reduceIte]
   refine Ev.bind (rFits_ev l l1 hg h h1g h1l _ _ _) ?_
   cases hf : fitsE l l1 c.f0 c.f1 c.f2
   · rw [stop_ 13 (by unfold sE; rw [hc, if_neg (by simp [hb]), if_neg (by simp [hf])]) (by decide)]
     simp only [Bool.false_eq_true, ↓reduceIte]; exact Ev.now _
   · simp only [↓reduceIte]
     have j := j4 hb hf
     have hk := e_kIn_of h h1l hb
     obtain ⟨r1, hr1, e1⟩ := number_ev h ns hn hok c.f1 hk.2.1
     obtain ⟨r2, hr2, e2⟩ := number_ev h ns hn hok c.f2 hk.2.2
     refine Ev.bind hr1 ?_
     by_cases z1 : r1 = 0
     · simp only [z1, ↓reduceIte]
       exact j true (by rw [e1.1 z1]; rfl)
     · simp only [z1, ↓reduceIte]
       refine Ev.bind hr2 ?_
       have f1 : hasE ns c.f1 = true := by
        cases hh : hasE ns c.f1
        · exact absurd (e1.2 hh) z1
        · rfl
       by_cases z2 : r2 = 0
       · exact j (r2 == 0) (by rw [f1, e2.1 z2, z2]; rfl)
       · have f2 : hasE ns c.f2 = true := by
          cases hh : hasE ns c.f2
          · exact absurd (e2.2 hh) z2
          · rfl
         exact j (r2 == 0) (by rw [f1, f2]; simp [z2])
  cases h0 : isIn c.f0 (l1.length : Int)
  · simp only [Bool.false_eq_true, ↓reduceIte]; exact bad (by simp [eBad, h0])
  · simp only [↓reduceIte]
    cases h1 : isIn c.f1 (l.length : Int)
    · simp only [Bool.false_eq_true, ↓reduceIte]; exact bad (by simp [eBad, h1])
    · simp only [↓reduceIte]
      cases h2 : isIn c.f2 (l.length : Int)
      · simp only [Bool.false_eq_true, ↓reduceIte]; exact bad (by simp [eBad, h2])
      · simp only [↓reduceIte]
        by_cases h3 : c.f3 < 1
        · simp only [h3, ↓reduceIte]; exact bad (by simp [eBad]; omega)
        · simp only [h3, ↓reduceIte]
          by_cases h4 : c.f3 > 80
          · rw [decide_eq_true h4]; exact bad (by simp [eBad]; omega)
          · rw [decide_eq_false h4]; exact good (by simp [eBad, h0, h1, h2]; omega)
theorem rsval_nodes : ∀ (m i : Nat), i + m = ns.length → (∀ j, j < i → sN l ns j = 0) → Ev (fun k => scarfjointref18_Valid.l0 k (i : Int) l l1 ns es) (if scan (sN l ns) m i = 0 then sNodesV l l1 ns es else scan (sN l ns) m i)
 | 0, i, hi, hp => by
  refine Ev.step (fun k => by rw [scarfjointref18_Valid.l0]) ?_
  simp only [show ¬ ((i : Int) < (ns.length : Int)) by omega, ↓reduceIte, scan]
  refine Ev.bind (rtotal_ev ns hn (fun y hy => ?_)) ?_
  · obtain ⟨j, hj, rfl⟩ := List.getElem_of_mem hy
    have := hp j (by omega)
    unfold sN at this
    split at this
    · exact absurd this (by decide)
    · next hb =>
      rw [rd75_nat _ _ hj] at hb
      simp [nBad] at hb
      omega
  · unfold sNodesV
    by_cases hs : sumE ns > 40
    · simp only [hs, ↓reduceIte]; exact Ev.now _
    · simp only [hs, ↓reduceIte]
      exact rsval_edges l l1 hg h h1g h1l ns es hn he (fun j hj => hp j (by omega)) es.length 0 (by omega) (fun j hj => absurd hj (Nat.not_lt_zero _))
 | m + 1, i, hi, hp => by
  have next_ : sN l ns i = 0 → Ev (fun k => scarfjointref18_Valid.l0 k (wrap64 ((i : Int) + 1)) l l1 ns es) (if scan (sN l ns) (m + 1) i = 0 then sNodesV l l1 ns es else scan (sN l ns) (m + 1) i) := fun h0 => by
   rw [scan_succ, if_pos h0, w64 _ (by omega) (by omega)]
   exact rsval_nodes m (i + 1) (by omega) (fun j hj => by
    rcases Nat.lt_or_eq_of_le (Nat.le_of_lt_succ hj) with h1 | rfl
    · exact hp j h1
    · exact h0)
  have stop_ : ∀ e : Int, sN l ns i = e → e ≠ 0 → (if scan (sN l ns) (m + 1) i = 0 then sNodesV l l1 ns es else scan (sN l ns) (m + 1) i) = e := fun e h1 h2 => by
   rw [scan_succ, h1, if_neg h2, if_neg h2]
  refine Ev.step (fun k => by rw [scarfjointref18_Valid.l0]) ?_
  simp only [show ((i : Int) < (ns.length : Int)) by omega, show (0 : Int) ≤ (i : Int) by omega, ↓reduceIte, ris_f, Option.bind_some]
  generalize hc : rd_T75 ns (i : Int) = c
  have bad : nBad l c = true → Ev (fun k => scarfjointref18_Valid.j1 k (i : Int) true l l1 ns es c.f0 c.f1 c.f2 c.f3) (if scan (sN l ns) (m + 1) i = 0 then sNodesV l l1 ns es else scan (sN l ns) (m + 1) i) := fun hb => by
   rw [stop_ 6 (by unfold sN; rw [hc, if_pos hb]) (by decide)]
   refine Ev.step (fun k => by rw [scarfjointref18_Valid.j1]) ?_
   simp only [↓reduceIte]; exact Ev.now _
  have good : nBad l c = false → Ev (fun k => scarfjointref18_Valid.j1 k (i : Int) false l l1 ns es c.f0 c.f1 c.f2 c.f3) (if scan (sN l ns) (m + 1) i = 0 then sNodesV l l1 ns es else scan (sN l ns) (m + 1) i) := fun hb => by
   have e0 : sN l ns i = ordE ns i := by unfold sN; rw [hc, if_neg (by simp [hb])]
   refine Ev.step (fun k => by rw [scarfjointref18_Valid.j1]) ?_
   simp only [Bool.false_eq_true, ↓reduceIte]
   by_cases hi0 : 0 < i
   · rw [w64 ((i : Int) - 1) (by omega) (by omega)]
     simp only [show (i : Int) > 0 by omega, show (0 : Int) ≤ (i : Int) - 1 by omega, show (i : Int) - 1 < (ns.length : Int) by omega, ↓reduceIte]
     have hci := rcmp_in (a := rd_T75 ns ((i : Int) - 1)) (b := c) (by rw [show ((i : Int) - 1) = ((i - 1 : Nat) : Int) by omega]; exact n_kIn h (hp (i - 1) (by omega))) (n_kIn_of h hb)
     rw [hci]
     simp only [Option.bind_some]
     have e1 : ordE ns i = if cmpE (rd_T75 ns ((i : Int) - 1)).f0 (rd_T75 ns ((i : Int) - 1)).f1 (rd_T75 ns ((i : Int) - 1)).f2 c.f0 c.f1 c.f2 ≥ 0 then 12 else 0 := by
      unfold ordE cmpAtE; rw [if_pos hi0, hc]
     by_cases ho : cmpE (rd_T75 ns ((i : Int) - 1)).f0 (rd_T75 ns ((i : Int) - 1)).f1 (rd_T75 ns ((i : Int) - 1)).f2 c.f0 c.f1 c.f2 ≥ 0
     · rw [if_pos ho] at e1
       rw [stop_ 12 (by rw [e0, e1]) (by decide)]
       simp only [ho, ↓reduceIte]; exact Ev.now _
     · rw [if_neg ho] at e1
       simp only [ho, ↓reduceIte]
       exact next_ (by rw [e0, e1])
   · simp only [show ¬ ((i : Int) > 0) by omega, ↓reduceIte]
     exact next_ (by rw [e0]; unfold ordE; rw [if_neg hi0])
  cases h0 : isIn c.f0 (l.length : Int)
  · simp only [Bool.false_eq_true, ↓reduceIte]; exact bad (by simp [nBad, h0])
  · simp only [↓reduceIte]
    by_cases h1 : c.f1 = 0
    · simp only [h1, ↓reduceIte]
      rw [h1] at bad good
      by_cases h2 : c.f2 = 0
      · simp only [h2, ↓reduceIte]
        rw [h2] at bad good
        by_cases h3 : c.f3 < 1
        · simp only [h3, ↓reduceIte]; exact bad (by simp [nBad]; omega)
        · simp only [h3, ↓reduceIte]
          by_cases h4 : c.f3 > 40
          · rw [decide_eq_true h4]; exact bad (by simp [nBad]; omega)
          · rw [decide_eq_false h4]; exact good (by simp [nBad, h0, h1, h2]; omega)
      · simp only [h2, ↓reduceIte]; exact bad (by simp [nBad, h2])
    · simp only [h1, ↓reduceIte]; exact bad (by simp [nBad, h1])
theorem rsval_ev : Ev (fun k => scarfjointref18_Valid.f k l l1 ns es) (sValidE l l1 ns es) := by
 unfold scarfjointref18_Valid.f sValidE
 refine Ev.bind (rvalid_ev l l1 hg h h1g h1l) ?_
 by_cases hv : (validE l l1).2 = 0
 · simp only [hv, ↓reduceIte]; exact rsval_nodes l l1 hg h h1g h1l ns es hn he ns.length 0 (by omega) (fun j hj => absurd hj (Nat.not_lt_zero _))
 · simp only [hv, ↓reduceIte]; exact Ev.now _
end sval
theorem copied_f (a b : List S75) (ha : a.length ≤ 1000) (hb : b.length ≤ 1000) : scarfjointref18_Copied.f a b = some (a, b) := by
 unfold scarfjointref18_Copied.f
 simp only [Option.bind_some, List.length_nil, List.nil_append]
 rw [if_pos (by omega), if_pos (by omega)]
theorem awake_ev2 : Ev (fun k => scarfjointlaw18_awake.f k) true := Ev.of (fun k => scarfjointlaw18_awake.mono k) (k := 60) (by kernel_rfl)
theorem sfew_f2 (a b : List S75) : (scarfjointref18_Few.f a b = some true ∧ a.length ≤ 45 ∧ b.length ≤ 85) ∨ scarfjointref18_Few.f a b = some false := by
 unfold scarfjointref18_Few.f
 split
 · by_cases h : (b.length : Int) ≤ 85
   · left; rw [decide_eq_true h]; exact ⟨rfl, by omega, by omega⟩
   · right; rw [decide_eq_false h]
 · exact Or.inr rfl
def neAt (a b : List S75) (i : Nat) : Bool := !((rd_T75 a (i : Int)).f0 == (rd_T75 b (i : Int)).f0) || (!((rd_T75 a (i : Int)).f1 == (rd_T75 b (i : Int)).f1) || (!((rd_T75 a (i : Int)).f2 == (rd_T75 b (i : Int)).f2) || (!((rd_T75 a (i : Int)).f3 == (rd_T75 b (i : Int)).f3))))
def smE (a b : List S75) : Nat → Nat → Bool
 | 0, _ => true
 | m + 1, i => if neAt a b i = true then false else smE a b m (i + 1)
theorem smE_succ (a b : List S75) (m i : Nat) : smE a b (m + 1) i = if neAt a b i = true then false else smE a b m (i + 1) := rfl
def sameL (a b : List S75) : Bool := if (a.length : Int) = (b.length : Int) then smE a b a.length 0 else false
theorem cnt_loop (a b : List S75) (ha : a.length ≤ 1000) (hab : a.length = b.length) : ∀ (m i : Nat), i + m = a.length → Ev (fun k => api_Count_67.l0 k a b (a.length : Int) (i : Int)) (smE a b m i)
 | 0, i, hi => by
  refine Ev.step (fun k => by rw [api_Count_67.l0]) ?_
  simp only [show ¬ ((i : Int) < (a.length : Int)) by omega, ↓reduceIte]; exact Ev.now _
 | m + 1, i, hi => by
  refine Ev.step (fun k => by rw [api_Count_67.l0]) ?_
  have e : neAt a b i = (!((rd_T75 a (i : Int)).f0 == (rd_T75 b (i : Int)).f0) || (!((rd_T75 a (i : Int)).f1 == (rd_T75 b (i : Int)).f1) || (!((rd_T75 a (i : Int)).f2 == (rd_T75 b (i : Int)).f2) || (!((rd_T75 a (i : Int)).f3 == (rd_T75 b (i : Int)).f3))))) := rfl
  simp only [show ((i : Int) < (a.length : Int)) by omega, show ((i : Int) < (b.length : Int)) by omega, show (0 : Int) ≤ (i : Int) by omega, ↓reduceIte]
  rw [← e, smE_succ]
  cases neAt a b i
  · simp only [Bool.false_eq_true, ↓reduceIte]
    rw [w64 _ (by omega) (by omega)]
    exact cnt_loop a b ha hab m (i + 1) (by omega)
  · simp only [↓reduceIte]; exact Ev.now _
theorem rcnt_loop (a b : List S75) (ha : a.length ≤ 1000) (hab : a.length = b.length) : ∀ (m i : Nat), i + m = a.length → Ev (fun k => scarfjointref18_SameCounts.l0 k a b (i : Int)) (smE a b m i)
 | 0, i, hi => by
  refine Ev.step (fun k => by rw [scarfjointref18_SameCounts.l0]) ?_
  simp only [show ¬ ((i : Int) < (a.length : Int)) by omega, ↓reduceIte]; exact Ev.now _
 | m + 1, i, hi => by
  refine Ev.step (fun k => by rw [scarfjointref18_SameCounts.l0]) ?_
  have e : neAt a b i = (!((rd_T75 a (i : Int)).f0 == (rd_T75 b (i : Int)).f0) || (!((rd_T75 a (i : Int)).f1 == (rd_T75 b (i : Int)).f1) || (!((rd_T75 a (i : Int)).f2 == (rd_T75 b (i : Int)).f2) || (!((rd_T75 a (i : Int)).f3 == (rd_T75 b (i : Int)).f3))))) := rfl
  simp only [show ((i : Int) < (a.length : Int)) by omega, show ((i : Int) < (b.length : Int)) by omega, show (0 : Int) ≤ (i : Int) by omega, ↓reduceIte]
  rw [← e, smE_succ]
  cases neAt a b i
  · simp only [Bool.false_eq_true, ↓reduceIte]
    rw [w64 _ (by omega) (by omega)]
    exact rcnt_loop a b ha hab m (i + 1) (by omega)
  · simp only [↓reduceIte]; exact Ev.now _
theorem cnt_ev (a b : List S75) (ha : a.length ≤ 1000) : Ev (fun k => api_Count_67.f k a b) (sameL a b) := by
 unfold api_Count_67.f sameL
 by_cases h : (a.length : Int) = (b.length : Int)
 · simp only [if_pos h]; exact cnt_loop a b ha (by omega) a.length 0 (by omega)
 · simp only [if_neg h]; exact Ev.now _
theorem rcnt_ev (a b : List S75) (ha : a.length ≤ 1000) : Ev (fun k => scarfjointref18_SameCounts.f k a b) (sameL a b) := by
 unfold scarfjointref18_SameCounts.f sameL
 by_cases h : (a.length : Int) = (b.length : Int)
 · simp only [if_pos h]; exact rcnt_loop a b ha (by omega) a.length 0 (by omega)
 · simp only [if_neg h]; exact Ev.now _
theorem sm_self (a : List S75) : ∀ m i, smE a a m i = true
 | 0, _ => rfl
 | m + 1, i => by rw [smE_succ, if_neg (by simp [neAt]), sm_self a m (i + 1)]
theorem same_self (a : List S75) : sameL a a = true := by unfold sameL; rw [if_pos rfl, sm_self]
def sameS (a b c d : List S75) : Bool := if sameL a c = true then sameL b d else false
theorem Same_ev (a b c d : List S75) (ha : a.length ≤ 1000) (hb : b.length ≤ 1000) : Ev (fun k => statistic_Same.f k a b c d) (sameS a b c d) := by
 unfold statistic_Same.f sameS
 refine Ev.bind (cnt_ev a c ha) ?_
 cases sameL a c
 · simp only [Bool.false_eq_true, ↓reduceIte]; exact Ev.now _
 · simp only [↓reduceIte]; exact Ev.bind (cnt_ev b d hb) (Ev.now _)
theorem rSame_ev (a b c d : List S75) (ha : a.length ≤ 1000) (hb : b.length ≤ 1000) : Ev (fun k => scarfjointref18_Same.f k a b c d) (sameS a b c d) := by
 unfold scarfjointref18_Same.f sameS
 refine Ev.bind (rcnt_ev a c ha) ?_
 cases sameL a c
 · simp only [Bool.false_eq_true, ↓reduceIte]; exact Ev.now _
 · simp only [↓reduceIte]; exact Ev.bind (rcnt_ev b d hb) (Ev.now _)
theorem StatisticValid_pure : ∀ (l0_0 : List S96) (l0_1 : List S101) (l1_0 : List S75) (l1_1 : List S75) (l2_0 : List S75) (l2_1 : List S75), (l0_0.length ≤ reachBytes ∧ ∀ x_ ∈ l0_0, good96 x_) → (l0_1.length ≤ reachBytes ∧ ∀ x_ ∈ l0_1, good101 x_) → (l1_0.length ≤ reachBytes ∧ ∀ x_ ∈ l1_0, good75 x_) → (l1_1.length ≤ reachBytes ∧ ∀ x_ ∈ l1_1, good75 x_) → (l2_0.length ≤ reachBytes ∧ ∀ x_ ∈ l2_0, good75 x_) → (l2_1.length ≤ reachBytes ∧ ∀ x_ ∈ l2_1, good75 x_) → ∃ k, scarfjointlaw18_StatisticValid.f k l0_0 l0_1 l1_0 l1_1 l2_0 l2_1 = some true := by
 intro l l1 ns es ms fs hl hl1 _ _ _ _
 have no : Ev (fun k => scarfjointlaw18_StatisticValid.j0 k true l l1 ns es ms fs) true := by
  refine Ev.step (fun k => by rw [scarfjointlaw18_StatisticValid.j0]) ?_
  simp only [↓reduceIte]
  exact Ev.bind awake_ev2 (Ev.now _)
 refine Ev.rounds ?_
 unfold scarfjointlaw18_StatisticValid.f
 refine Ev.bind awake_ev2 ?_
 simp only [↓reduceIte]
 obtain ⟨q0, hb, hQ⟩ := few_ev l l1 hl.2 hl.1 hl1.1
 refine Ev.bind hb ?_
 cases q0
 · simp only [Bool.false_eq_true, ↓reduceIte]; exact no
 · obtain ⟨hs, h30⟩ := hQ rfl
   simp only [↓reduceIte]
   rcases sfew_f2 ns es with ⟨e, hn, he⟩ | e
   · rw [e]
     simp only [Option.bind_some, ↓reduceIte]
     rcases sfew_f2 ms fs with ⟨e2, _, _⟩ | e2
     · rw [e2]
       simp only [Option.bind_some, Bool.not_true]
       refine Ev.step (fun k => by rw [scarfjointlaw18_StatisticValid.j0]) ?_
       simp only [Bool.false_eq_true, ↓reduceIte, copied_f ns es (by omega) (by omega), Option.bind_some]
       refine Ev.bind (sval_ev l l1 hl.2 hs hl1.2 h30 ns es (by omega) (by omega)) ?_
       refine Ev.bind (rsval_ev l l1 hl.2 hs hl1.2 h30 ns es (by omega) (by omega)) ?_
       simp only [↓reduceIte]
       refine Ev.bind (Same_ev ns es ms fs (by omega) (by omega)) ?_
       refine Ev.bind (rSame_ev ns es ms fs (by omega) (by omega)) ?_
       simp only [beq_self_eq_true, ↓reduceIte]
       refine Ev.bind (Same_ev ns es ns es (by omega) (by omega)) ?_
       have : sameS ns es ns es = true := by unfold sameS; rw [same_self, if_pos rfl, same_self]
       rw [this]
       exact Ev.now _
     · rw [e2]
       simp only [Option.bind_some, Bool.not_false]; exact no
   · rw [e]
     simp only [Option.bind_some, Bool.false_eq_true, ↓reduceIte]; exact no
end Go.Proofs.YtfpianecohobjaaGreat.P
