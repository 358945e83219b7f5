/- StatisticOf: a part of its proof. No condition. -/
import Derived.Test.YtfpianecohobjaaGreatZS
import Derived.Test.YtfpianecohobjaaGreatZH2
import Derived.Test.YtfpianecohobjaaGreatZPx46
import Derived.Test.YtfpianecohobjaaGreatZPx12
import Derived.Test.YtfpianecohobjaaGreatZPx14
import Derived.Test.YtfpianecohobjaaGreatZPx44
import Derived.Test.YtfpianecohobjaaGreatZPx45
import Derived.Test.YtfpianecohobjaaGreatZPx47
import Derived.Test.YtfpianecohobjaaGreatZPx15
import Derived.Test.YtfpianecohobjaaGreatZPx16
import Derived.Test.YtfpianecohobjaaGreatZPx48
namespace Go.Proofs.YtfpianecohobjaaGreat.P
open Go.RowKit Go.Proofs.YtfpianecohobjaaGreatW.PrintWords Go.Proofs.YtfpianecohobjaaGreatW.PrintLast
set_option maxRecDepth 100000
set_option linter.unusedVariables false
set_option linter.unusedSimpArgs false
set_option linter.unusedSectionVars false
def kLt (a b : S75) : Prop := a.f0 < b.f0 ∨ (a.f0 = b.f0 ∧ (a.f1 < b.f1 ∨ (a.f1 = b.f1 ∧ a.f2 < b.f2)))
def kEq (a b : S75) : Prop := a.f0 = b.f0 ∧ a.f1 = b.f1 ∧ a.f2 = b.f2
instance (a b : S75) : Decidable (kLt a b) := by unfold kLt; exact inferInstance
instance (a b : S75) : Decidable (kEq a b) := by unfold kEq; exact inferInstance
def kIn (a : S75) : Prop := (0 ≤ a.f0 ∧ a.f0 ≤ 1000) ∧ (0 ≤ a.f1 ∧ a.f1 ≤ 1000) ∧ (0 ≤ a.f2 ∧ a.f2 ≤ 1000)
theorem cmp_lt {a b : S75} (ha : kIn a) (hb : kIn b) : cmpE a.f0 a.f1 a.f2 b.f0 b.f1 b.f2 < 0 ↔ kLt a b := by
 unfold kIn at ha hb
 unfold cmpE kLt
 rw [w64 (a.f0 - b.f0) (by omega) (by omega), w64 (a.f1 - b.f1) (by omega) (by omega), w64 (a.f2 - b.f2) (by omega) (by omega)]
 split
 · split <;> omega
 · omega
theorem cmp_eq {a b : S75} (ha : kIn a) (hb : kIn b) : cmpE a.f0 a.f1 a.f2 b.f0 b.f1 b.f2 = 0 ↔ kEq a b := by
 unfold kIn at ha hb
 unfold cmpE kEq
 rw [w64 (a.f0 - b.f0) (by omega) (by omega), w64 (a.f1 - b.f1) (by omega) (by omega), w64 (a.f2 - b.f2) (by omega) (by omega)]
 split
 · split <;> omega
 · omega
theorem rcmp_f (a b : S75) : scarfjointref18_compare.f a.f0 a.f1 a.f2 a.f3 b.f0 b.f1 b.f2 b.f3 = some (cmpE a.f0 a.f1 a.f2 b.f0 b.f1 b.f2) ∨ ¬ (kIn a ∧ kIn b) := by
 by_cases h : kIn a ∧ kIn b
 · left
   obtain ⟨ha, hb⟩ := h
   unfold kIn at ha hb
   unfold scarfjointref18_compare.f cmpE
   rw [w64 (a.f0 - b.f0) (by omega) (by omega), w64 (a.f1 - b.f1) (by omega) (by omega), w64 (a.f2 - b.f2) (by omega) (by omega)]
   by_cases h0 : a.f0 = b.f0
   · have e0 : a.f0 - b.f0 = 0 := by omega
     by_cases h1 : a.f1 = b.f1
     · have e1 : a.f1 - b.f1 = 0 := by omega
       simp only [h0, h1, e0, e1, ↓reduceIte]
       simp
     · have e1 : ¬ (a.f1 - b.f1 = 0) := by omega
       simp only [h1, e0, e1, ↓reduceIte, if_pos h0]
   · have e0 : ¬ (a.f0 - b.f0 = 0) := by omega
     simp only [h0, e0, ↓reduceIte]
 · exact Or.inr h
theorem rcmp_in {a b : S75} (ha : kIn a) (hb : kIn b) : scarfjointref18_compare.f a.f0 a.f1 a.f2 a.f3 b.f0 b.f1 b.f2 b.f3 = some (cmpE a.f0 a.f1 a.f2 b.f0 b.f1 b.f2) := by
 rcases rcmp_f a b with h | h
 · exact h
 · exact absurd ⟨ha, hb⟩ h
theorem k_tri (a b : S75) : kLt a b ∨ kEq a b ∨ kLt b a := by unfold kLt kEq; omega
theorem k_lt_as {a b : S75} (h : kLt a b) : ¬ kLt b a := by unfold kLt at *; omega
theorem k_trans {a b c : S75} (h : kLt a b) (h' : kLt b c) : kLt a c := by unfold kLt at *; omega
theorem k_eq_lt {a b c : S75} (h : kEq a b) (h' : kLt a c) : kLt b c := by unfold kEq kLt at *; omega
structure Cnt (B : Int) (l : List S75) : Prop where
 srt : l.Pairwise kLt
 key : ∀ y ∈ l, kIn y
 num : ∀ y ∈ l, 1 ≤ y.f3 ∧ y.f3 ≤ B
theorem Cnt.nil (B : Int) : Cnt B [] := { srt := List.Pairwise.nil, key := fun y h => (List.not_mem_nil h).elim, num := fun y h => (List.not_mem_nil h).elim }
theorem Cnt.tail {B : Int} {y : S75} {l : List S75} (h : Cnt B (y :: l)) : Cnt B l :=
 ⟨(List.pairwise_cons.1 h.srt).2, fun z hz => h.key z (List.mem_cons_of_mem _ hz), fun z hz => h.num z (List.mem_cons_of_mem _ hz)⟩
def addE : List S75 → S75 → List S75
 | [], x => [x]
 | y :: l, x => if kLt y x then y :: addE l x else if kEq y x then (if y.f3 + x.f3 = 0 then l else ⟨y.f0, y.f1, y.f2, y.f3 + x.f3⟩ :: l) else x :: y :: l
def posE : List S75 → S75 → Nat
 | [], _ => 0
 | y :: l, x => if kLt y x then posE l x + 1 else 0
theorem posE_le : ∀ (l : List S75) (x : S75), posE l x ≤ l.length
 | [], _ => Nat.le_refl _
 | y :: l, x => by
  unfold posE
  split
  · exact Nat.succ_le_succ (posE_le l x)
  · exact Nat.zero_le _
theorem rd75_nat (l : List S75) (i : Nat) (h : i < l.length) : rd_T75 l (i : Int) = l[i] := by unfold rd_T75; simp [h]
theorem pos_below : ∀ (l : List S75) (x : S75) (h : Nat), h < posE l x → (hl : h < l.length) → kLt l[h] x
 | [], x, h, hp, hl => by cases hl
 | y :: l, x, h, hp, hl => by
  unfold posE at hp
  split at hp
  · next hy =>
    cases h with
    | zero => exact hy
    | succ h => exact pos_below l x h (by omega) (by simpa using hl)
  · omega
theorem pos_above {B : Int} : ∀ (l : List S75) (x : S75), Cnt B l → ∀ (h : Nat), posE l x ≤ h → (hl : h < l.length) → ¬ kLt l[h] x
 | [], x, _, h, hp, hl => by cases hl
 | y :: l, x, hc, h, hp, hl => by
  unfold posE at hp
  split at hp
  · next hy =>
    cases h with
    | zero => omega
    | succ h => exact pos_above l x hc.tail h (by omega) (by simpa using hl)
  · next hy =>
    cases h with
    | zero => exact hy
    | succ h =>
     intro hk
     have hl' : h < l.length := by simpa using hl
     have := (List.pairwise_cons.1 hc.srt).1 l[h] (List.getElem_mem hl')
     exact hy (k_trans this hk)
theorem bsE_at (p : Nat → Bool) (m : Nat) : ∀ (n i j : Nat), j - i ≤ n → i ≤ m → m ≤ j → (∀ h, i ≤ h → h < m → p h = true) → (∀ h, m ≤ h → h < j → p h = false) → bsE p n i j = m
 | 0, i, j, hn, hi, hj, _, _ => by rw [bsE]; omega
 | n + 1, i, j, hn, hi, hj, h1, h2 => by
  rw [bsE]
  split
  · next hlt =>
    by_cases hm : (i + j) / 2 < m
    · rw [if_pos (h1 _ (by omega) hm)]
      exact bsE_at p m n _ _ (by omega) (by omega) hj (fun h ha hb => h1 h (by omega) hb) h2
    · rw [if_neg (by rw [h2 _ (by omega) (by omega)]; simp)]
      exact bsE_at p m n _ _ (by omega) hi (by omega) h1 (fun h ha hb => h2 h ha (by omega))
  · omega
theorem search_pos {B : Int} {l : List S75} {x : S75} (hc : Cnt B l) (hx : kIn x) : searchAt l x.f0 x.f1 x.f2 = posE l x := by
 unfold searchAt
 refine bsE_at _ _ _ _ _ (by omega) (Nat.zero_le _) (posE_le l x) (fun h _ hh => ?_) (fun h hh hl => ?_)
 · have hl : h < l.length := Nat.lt_of_lt_of_le hh (posE_le l x)
   refine decide_eq_true ?_
   unfold cmpAt
   rw [rd75_nat _ _ hl]
   exact (cmp_lt (hc.key _ (List.getElem_mem hl)) hx).2 (pos_below l x h hh hl)
 · refine decide_eq_false ?_
   unfold cmpAt
   rw [rd75_nat _ _ hl]
   exact fun h' => pos_above l x hc h hh hl ((cmp_lt (hc.key _ (List.getElem_mem hl)) hx).1 h')
theorem add_found : ∀ (l : List S75) (x : S75) (h : posE l x < l.length), kEq l[posE l x] x → l[posE l x].f3 + x.f3 ≠ 0 → addE l x = l.set (posE l x) ⟨l[posE l x].f0, l[posE l x].f1, l[posE l x].f2, l[posE l x].f3 + x.f3⟩
 | [], x, h, _, _ => by cases h
 | y :: l, x, h, he, hz => by
  by_cases hy : kLt y x
  · have hp : posE (y :: l) x = posE l x + 1 := by rw [posE, if_pos hy]
    simp only [hp, List.getElem_cons_succ] at he hz ⊢
    rw [addE, if_pos hy, List.set_cons_succ, add_found l x (by rw [hp] at h; simpa using h) he hz]
  · have hp : posE (y :: l) x = 0 := by rw [posE, if_neg hy]
    simp only [hp, List.getElem_cons_zero] at he hz ⊢
    rw [addE, if_neg hy, if_pos he, if_neg hz]; rfl
theorem add_new : ∀ (l : List S75) (x : S75), (∀ h : posE l x < l.length, ¬ kEq l[posE l x] x) → addE l x = l.take (posE l x) ++ x :: l.drop (posE l x)
 | [], x, _ => rfl
 | y :: l, x, hn => by
  by_cases hy : kLt y x
  · have hp : posE (y :: l) x = posE l x + 1 := by rw [posE, if_pos hy]
    rw [addE, if_pos hy, hp, List.take_succ_cons, List.drop_succ_cons, List.cons_append, add_new l x (fun h => by
     have := hn (by rw [hp]; simpa using h)
     simpa only [hp, List.getElem_cons_succ] using this)]
  · have hp : posE (y :: l) x = 0 := by rw [posE, if_neg hy]
    have := hn (by rw [hp]; simp)
    simp only [hp, List.getElem_cons_zero] at this
    rw [addE, if_neg hy, if_neg this, hp]; rfl
theorem counted_ev {B : Int} {l : List S75} {x : S75} (hc : Cnt B l) (hx : kIn x) (hB : B ≤ 1000) (hx3 : 1 ≤ x.f3 ∧ x.f3 ≤ 1000) (hl : l.length ≤ 1000) : statistic_counted.f l x.f0 x.f1 x.f2 x.f3 = some (addE l x) := by
 unfold statistic_counted.f
 rw [if_pos (by omega)]
 unfold foundAt
 rw [search_pos hc hx]
 have hple := posE_le l x
 by_cases hlt : posE l x < l.length
 · have hk := hc.key _ (List.getElem_mem hlt)
   have hn := hc.num _ (List.getElem_mem hlt)
   have hcm : cmpAt l x.f0 x.f1 x.f2 (posE l x) = 0 ↔ kEq l[posE l x] x := by
    unfold cmpAt
    rw [rd75_nat _ _ hlt]
    exact cmp_eq hk hx
   rw [rd75_nat _ _ hlt, w64 _ (by omega) (by omega)]
   by_cases he : kEq l[posE l x] x
   · rw [decide_eq_true hlt, decide_eq_true (hcm.2 he), if_pos (by rfl), if_neg (by omega), add_found l x hlt he (by omega)]
   · rw [decide_eq_true hlt, decide_eq_false (fun h => he (hcm.1 h)), if_neg (by simp), add_new l x (fun _ => he)]
 · rw [decide_eq_false hlt, if_neg (by simp), add_new l x (fun h => absurd h hlt)]
theorem change_done {l : List S75} {x : S75} (hx : kIn x) (hk : ∀ y ∈ l, kIn y) (h3 : ∀ y ∈ l, 1 ≤ y.f3 ∧ y.f3 ≤ 1000) (z : Int) (hl : l.length ≤ 1000) : ∀ (m i : Nat) (acc : List S75), i + m = l.length → acc.length ≤ 2 * i + 2 → (∀ h, i ≤ h → (hh : h < l.length) → kLt x l[h]) →
 Ev (fun k => scarfjointref18_change.l0 k l x.f3 acc true (i : Int) x.f0 x.f1 x.f2 z) (acc ++ l.drop i)
 | 0, i, acc, hi, ha, _ => by
  refine Ev.step (fun k => by rw [scarfjointref18_change.l0]) ?_
  rw [List.drop_eq_nil_of_le (by omega), List.append_nil]
  simp only [show ¬ ((i : Int) < (l.length : Int)) by omega, ↓reduceIte]; exact Ev.now _
 | m + 1, i, acc, hi, ha, hg => by
  have hil : i < l.length := by omega
  have hki := hk _ (List.getElem_mem hil)
  have h3i := h3 _ (List.getElem_mem hil)
  have hgt := hg i (Nat.le_refl _) hil
  have hc := cmp_lt hki hx
  have hce := cmp_eq hki hx
  have hcp : cmpE l[i].f0 l[i].f1 l[i].f2 x.f0 x.f1 x.f2 > 0 := by
   rcases Int.lt_trichotomy (cmpE l[i].f0 l[i].f1 l[i].f2 x.f0 x.f1 x.f2) 0 with h | h | h
   · exact absurd (hc.1 h) (k_lt_as hgt)
   · exact absurd (hce.1 h) (fun h => by unfold kLt kEq at *; omega)
   · exact h
  refine Ev.step (fun k => by rw [scarfjointref18_change.l0]) ?_
  have hrc := rcmp_in hki (b := ⟨x.f0, x.f1, x.f2, z⟩) hx
  simp only [show ((i : Int) < (l.length : Int)) by omega, show (0 : Int) ≤ (i : Int) by omega, ↓reduceIte, rd75_nat l i hil]
  simp only at hrc
  rw [hrc]
  simp only [Option.bind_some, hcp, ↓reduceIte]
  refine Ev.step (fun k => by rw [scarfjointref18_change.j1]) ?_
  simp only [Bool.not_true, Bool.false_eq_true, ↓reduceIte]
  refine Ev.step (fun k => by rw [scarfjointref18_change.j2]) ?_
  simp only [show ((i : Int) < (l.length : Int)) by omega, show (0 : Int) ≤ (i : Int) by omega, show ¬ (cmpE l[i].f0 l[i].f1 l[i].f2 x.f0 x.f1 x.f2 = 0) by omega, rd75_nat l i hil, show l[i].f3 > 0 by omega, show acc.length < 4398046511104 by omega, ↓reduceIte]
  rw [w64 _ (by omega) (by omega), List.drop_eq_getElem_cons hil]
  have := change_done hx hk h3 z hl m (i + 1) (acc ++ [l[i]]) (by omega) (by simp; omega) (fun h h1 h2 => hg h (by omega) h2)
  rw [List.append_assoc] at this
  exact this
theorem change_loop {B : Int} {l : List S75} {x : S75} (hc : Cnt B l) (hB : B ≤ 1000) (hx : kIn x) (hx3 : -1 ≤ x.f3 ∧ x.f3 ≤ 1000) (z : Int) (hl : l.length ≤ 1000) (hne : x.f3 = -1 → (∃ y ∈ l, kEq y x)) : ∀ (m i : Nat) (acc : List S75), i + m = l.length → acc.length = i → (∀ h, (hh : h < i) → (hl : h < l.length) → kLt l[h] x) →
 Ev (fun k => scarfjointref18_change.l0 k l x.f3 acc false (i : Int) x.f0 x.f1 x.f2 z) (acc ++ addE (l.drop i) x)
 | 0, i, acc, hi, ha, _ => by
  refine Ev.step (fun k => by rw [scarfjointref18_change.l0]) ?_
  rw [List.drop_eq_nil_of_le (by omega)]
  simp only [show ¬ ((i : Int) < (l.length : Int)) by omega, Bool.false_eq_true, show acc.length < 4398046511104 by omega, ↓reduceIte]; exact Ev.now _
 | m + 1, i, acc, hi, ha, hb => by
  have hil : i < l.length := by omega
  have hki := hc.key _ (List.getElem_mem hil)
  have h3i := hc.num _ (List.getElem_mem hil)
  have hcl := cmp_lt hki hx
  have hce := cmp_eq hki hx
  have h3 : ∀ y ∈ l, 1 ≤ y.f3 ∧ y.f3 ≤ 1000 := fun y hy => by have := hc.num y hy; omega
  refine Ev.step (fun k => by rw [scarfjointref18_change.l0]) ?_
  have hrc := rcmp_in hki (b := ⟨x.f0, x.f1, x.f2, z⟩) hx
  simp only [show ((i : Int) < (l.length : Int)) by omega, show (0 : Int) ≤ (i : Int) by omega, ↓reduceIte, rd75_nat l i hil]
  simp only at hrc
  rw [hrc]
  simp only [Option.bind_some]
  rw [List.drop_eq_getElem_cons hil]
  have later : ∀ h, i < h → (hh : h < l.length) → kLt l[i] l[h] := fun h h1 h2 => List.pairwise_iff_getElem.1 hc.srt i h hil h2 h1
  generalize hcv : cmpE l[i].f0 l[i].f1 l[i].f2 x.f0 x.f1 x.f2 = c at hcl hce
  by_cases hlt : kLt l[i] x
  · have hc0 := hcl.2 hlt
    simp only [show ¬ (c > 0) by omega, ↓reduceIte]
    refine Ev.step (fun k => by rw [scarfjointref18_change.j1]) ?_
    simp only [Bool.false_eq_true, ↓reduceIte]
    refine Ev.step (fun k => by rw [scarfjointref18_change.j2]) ?_
    simp only [show ((i : Int) < (l.length : Int)) by omega, show (0 : Int) ≤ (i : Int) by omega, show ¬ (c = 0) by omega, rd75_nat l i hil, show l[i].f3 > 0 by omega, show acc.length < 4398046511104 by omega, ↓reduceIte]
    rw [w64 _ (by omega) (by omega), addE, if_pos hlt]
    have := change_loop hc hB hx hx3 z hl hne m (i + 1) (acc ++ [l[i]]) (by omega) (by simp [ha]) (fun h h1 h2 => by
     rcases Nat.lt_or_eq_of_le (Nat.le_of_lt_succ h1) with h3 | rfl
     · exact hb h h3 h2
     · exact hlt)
    rw [List.append_assoc] at this
    exact this
  · rw [addE, if_neg hlt]
    by_cases heq : kEq l[i] x
    · have hc0 := hce.2 heq
      rw [if_pos heq]
      simp only [hc0, show ¬ ((0 : Int) > 0) by omega, ↓reduceIte]
      refine Ev.step (fun k => by rw [scarfjointref18_change.j1]) ?_
      simp only [Bool.false_eq_true, ↓reduceIte]
      refine Ev.step (fun k => by rw [scarfjointref18_change.j2]) ?_
      simp only [show ((i : Int) < (l.length : Int)) by omega, show (0 : Int) ≤ (i : Int) by omega, rd75_nat l i hil, show acc.length < 4398046511104 by omega, ↓reduceIte]
      rw [w64 (l[i].f3 + x.f3) (by omega) (by omega), w64 _ (by omega) (by omega)]
      have dn := fun acc' ha' => change_done hx hc.key h3 z hl m (i + 1) acc' (by omega) ha' (fun h h1 h2 => k_eq_lt heq (later h (by omega) h2))
      by_cases hz : l[i].f3 + x.f3 = 0
      · simp only [hz, show ¬ ((0 : Int) > 0) by omega, ↓reduceIte]
        exact dn acc (by omega)
      · simp only [show l[i].f3 + x.f3 > 0 by omega, hz, ↓reduceIte]
        have := dn (acc ++ [⟨l[i].f0, l[i].f1, l[i].f2, l[i].f3 + x.f3⟩]) (by simp; omega)
        rw [List.append_assoc] at this
        exact this
    · have hgt : kLt x l[i] := by
       rcases k_tri l[i] x with h | h | h
       · exact absurd h hlt
       · exact absurd h heq
       · exact h
      have hc0 : c > 0 := by
       rcases Int.lt_trichotomy c 0 with h | h | h
       · exact absurd (hcl.1 h) hlt
       · exact absurd (hce.1 h) heq
       · exact h
      rw [if_neg heq]
      simp only [hc0, Bool.not_false, ↓reduceIte]
      refine Ev.step (fun k => by rw [scarfjointref18_change.j1]) ?_
      simp only [show acc.length < 4398046511104 by omega, ↓reduceIte]
      refine Ev.step (fun k => by rw [scarfjointref18_change.j2]) ?_
      simp only [show ((i : Int) < (l.length : Int)) by omega, show (0 : Int) ≤ (i : Int) by omega, show ¬ (c = 0) by omega, rd75_nat l i hil, show l[i].f3 > 0 by omega, show (acc ++ [(⟨x.f0, x.f1, x.f2, x.f3⟩ : S75)]).length < 4398046511104 by simp; omega, ↓reduceIte]
      rw [w64 _ (by omega) (by omega)]
      have := change_done hx hc.key h3 z hl m (i + 1) (acc ++ [x] ++ [l[i]]) (by omega) (by simp; omega) (fun h h1 h2 => k_trans hgt (later h (by omega) h2))
      simp only [List.append_assoc] at this
      simp only [List.append_assoc]
      exact this
theorem change_ev {B : Int} {l : List S75} {x : S75} (hc : Cnt B l) (hB : B ≤ 1000) (hx : kIn x) (hx3 : -1 ≤ x.f3 ∧ x.f3 ≤ 1000) (z : Int) (hl : l.length ≤ 1000) (hne : x.f3 = -1 → (∃ y ∈ l, kEq y x)) :
 Ev (fun k => scarfjointref18_change.f k l x.f0 x.f1 x.f2 z x.f3) (addE l x) := by
 have := change_loop hc hB hx hx3 z hl hne l.length 0 [] (by omega) rfl (fun h h1 => absurd h1 (Nat.not_lt_zero _))
 exact this
theorem add_mem : ∀ {l : List S75} {x y : S75}, y ∈ addE l x → (kEq y x ∨ y ∈ l)
 | [], x, y, h => by
  obtain rfl : y = x := by simpa [addE] using h
  exact Or.inl ⟨rfl, rfl, rfl⟩
 | w :: l, x, y, h => by
  unfold addE at h
  split at h
  · rcases List.mem_cons.1 h with rfl | h
    · exact Or.inr List.mem_cons_self
    · rcases add_mem h with h | h
      · exact Or.inl h
      · exact Or.inr (List.mem_cons_of_mem _ h)
  · split at h
    · next he =>
      split at h
      · exact Or.inr (List.mem_cons_of_mem _ h)
      · rcases List.mem_cons.1 h with rfl | h
        · exact Or.inl he
        · exact Or.inr (List.mem_cons_of_mem _ h)
    · rcases List.mem_cons.1 h with rfl | h
      · exact Or.inl ⟨rfl, rfl, rfl⟩
      · exact Or.inr h
theorem add_Cnt {B : Int} : ∀ {l : List S75} {x : S75}, Cnt B l → kIn x → 1 ≤ x.f3 → 0 ≤ B → Cnt (B + x.f3) (addE l x)
 | [], x, hc, hx, h1, hB => by
  refine { srt := List.pairwise_singleton _ _, key := fun y hy => ?_, num := fun y hy => ?_ }
  · obtain rfl : y = x := by simpa [addE] using hy
    exact hx
  · obtain rfl : y = x := by simpa [addE] using hy
    omega
 | w :: l, x, hc, hx, h1, hB => by
  have hw := hc.num w List.mem_cons_self
  have hkw := hc.key w List.mem_cons_self
  have hs := List.pairwise_cons.1 hc.srt
  unfold addE
  split
  · next hlt =>
    have ih := add_Cnt hc.tail hx h1 hB
    refine { srt := List.pairwise_cons.2 ⟨fun z hz => ?_, ih.srt⟩, key := fun y hy => ?_, num := fun y hy => ?_ }
    · rcases add_mem hz with h | h
      · unfold kLt kEq at *; omega
      · exact hs.1 z h
    · rcases List.mem_cons.1 hy with rfl | hy
      · exact hkw
      · exact ih.key y hy
    · rcases List.mem_cons.1 hy with rfl | hy
      · omega
      · exact ih.num y hy
  · next hlt =>
    split
    · next he =>
      rw [if_neg (by omega)]
      refine { srt := List.pairwise_cons.2 ⟨fun z hz => hs.1 z hz, hs.2⟩, key := fun y hy => ?_, num := fun y hy => ?_ }
      · rcases List.mem_cons.1 hy with rfl | hy
        · exact hkw
        · exact hc.key y (List.mem_cons_of_mem _ hy)
      · rcases List.mem_cons.1 hy with rfl | hy
        · show 1 ≤ w.f3 + x.f3 ∧ w.f3 + x.f3 ≤ _; omega
        · have := hc.num y (List.mem_cons_of_mem _ hy); omega
    · next he =>
      have hgt : kLt x w := by
       rcases k_tri w x with h | h | h
       · exact absurd h hlt
       · exact absurd h he
       · exact h
      refine { srt := List.pairwise_cons.2 ⟨fun z hz => ?_, hc.srt⟩, key := fun y hy => ?_, num := fun y hy => ?_ }
      · rcases List.mem_cons.1 hz with rfl | hz
        · exact hgt
        · exact k_trans hgt (hs.1 z hz)
      · rcases List.mem_cons.1 hy with rfl | hy
        · exact hx
        · exact hc.key y hy
      · rcases List.mem_cons.1 hy with rfl | hy
        · omega
        · have := hc.num y hy; omega
def sumE : List S75 → Int
 | [] => 0
 | y :: l => y.f3 + sumE l
theorem add_sum : ∀ (l : List S75) (x : S75), sumE (addE l x) = sumE l + x.f3
 | [], x => by simp [addE, sumE]
 | w :: l, x => by
  unfold addE
  split
  · rw [sumE, add_sum l x, sumE]; omega
  · split
    · split
      · next hz => rw [sumE]; omega
      · rw [sumE, sumE]; show w.f3 + x.f3 + _ = _; omega
    · rw [sumE]; omega
theorem add_len (l : List S75) (x : S75) : (addE l x).length ≤ l.length + 1 := by
 induction l with
 | nil => simp [addE]
 | cons w l ih =>
  unfold addE
  split
  · simpa using ih
  · split
    · split <;> simp <;> omega
    · simp
theorem add_has : ∀ {l : List S75} {x : S75}, 1 ≤ x.f3 → (∀ y ∈ l, 1 ≤ y.f3) → ∃ y ∈ addE l x, kEq y x
 | [], x, _, _ => ⟨x, by simp [addE], rfl, rfl, rfl⟩
 | w :: l, x, h1, hn => by
  unfold addE
  split
  · obtain ⟨y, hy, he⟩ := add_has (l := l) h1 (fun y hy => hn y (List.mem_cons_of_mem _ hy))
    exact ⟨y, List.mem_cons_of_mem _ hy, he⟩
  · split
    · next he =>
      have := hn w List.mem_cons_self
      rw [if_neg (by omega)]
      exact ⟨_, List.mem_cons_self, he⟩
    · exact ⟨x, List.mem_cons_self, rfl, rfl, rfl⟩
theorem add_keep : ∀ {l : List S75} {x z : S75}, 1 ≤ x.f3 → (∀ y ∈ l, 1 ≤ y.f3) → z ∈ l → ∃ y ∈ addE l x, kEq y z
 | [], x, z, _, _, h => by cases h
 | w :: l, x, z, h1, hn, h => by
  unfold addE
  split
  · rcases List.mem_cons.1 h with rfl | h
    · exact ⟨_, List.mem_cons_self, rfl, rfl, rfl⟩
    · obtain ⟨y, hy, he⟩ := add_keep h1 (fun y hy => hn y (List.mem_cons_of_mem _ hy)) h
      exact ⟨y, List.mem_cons_of_mem _ hy, he⟩
  · split
    · have := hn w List.mem_cons_self
      rw [if_neg (by omega)]
      rcases List.mem_cons.1 h with rfl | h
      · exact ⟨_, List.mem_cons_self, rfl, rfl, rfl⟩
      · exact ⟨z, List.mem_cons_of_mem _ h, rfl, rfl, rfl⟩
    · exact ⟨z, List.mem_cons_of_mem _ h, rfl, rfl, rfl⟩
theorem sum_ge : ∀ {l : List S75}, (∀ y ∈ l, 1 ≤ y.f3) → ∀ y ∈ l, y.f3 ≤ sumE l
 | [], _, y, h => by cases h
 | w :: l, hn, y, h => by
  have hw := hn w List.mem_cons_self
  have ih := fun z hz => sum_ge (l := l) (fun y hy => hn y (List.mem_cons_of_mem _ hy)) z hz
  have h0 : 0 ≤ sumE l := by
   clear h ih
   have : ∀ l : List S75, (∀ y ∈ l, 1 ≤ y.f3) → 0 ≤ sumE l := fun l => by
    induction l with
    | nil => intro _; exact Int.le_refl _
    | cons a l ih => intro h; have := h a List.mem_cons_self; have := ih (fun y hy => h y (List.mem_cons_of_mem _ hy)); rw [sumE]; omega
   exact this l (fun y hy => hn y (List.mem_cons_of_mem _ hy))
  rw [sumE]
  rcases List.mem_cons.1 h with rfl | h
  · omega
  · have := ih y h; omega
def graphE (g : List Int) (es : List S56) : Int := if (g.length : Int) > 40 ∨ (es.length : Int) > 80 then 3 else if g.any (fun t => !withinB t 99) = true then 6 else if es.any (fun e => !fitsB e.f0 e.f1 e.f2 (g.length : Int)) = true then 6 else 0
theorem graph_ev (g : List Int) (es : List S56) : Ev (fun k => graph_Valid.f k g es) (graphE g es) := by
 have fin : Ev (fun k => graph_Valid.j0 k false g es) (if g.any (fun t => !withinB t 99) = true then 6 else if es.any (fun e => !fitsB e.f0 e.f1 e.f2 (g.length : Int)) = true then 6 else 0) := by
  refine Ev.step (fun k => by rw [graph_Valid.j0]) ?_
  simp only [Bool.false_eq_true, ↓reduceIte, any_graph1.f, any_graph2.f, Option.bind_some]
  cases g.any (fun t => !withinB t 99)
  · cases es.any (fun e => !fitsB e.f0 e.f1 e.f2 (g.length : Int)) <;> exact Ev.now _
  · exact Ev.now _
 have big : Ev (fun k => graph_Valid.j0 k true g es) 3 := by
  refine Ev.step (fun k => by rw [graph_Valid.j0]) ?_
  simp only [↓reduceIte]; exact Ev.now _
 unfold graph_Valid.f graphE
 by_cases h1 : (g.length : Int) > 40
 · simp only [h1, true_or, ↓reduceIte]; exact big
 · by_cases h2 : (es.length : Int) > 80
   · simp only [h1, h2, or_true, ↓reduceIte, decide_true]; exact big
   · simp only [h1, h2, or_self, ↓reduceIte, decide_false]; exact fin
theorem kind_f (x : Int) : q5_kind.f x = some (withinB x 99) := by
 unfold q5_kind.f withinB
 by_cases h : 0 ≤ x
 · rw [if_pos h]; simp [h]
 · rw [if_neg h]; simp [h]
theorem right_f (a b c n : Int) (h0 : 0 ≤ n) (h1 : n ≤ 1000) : q5_right.f a b c n = some (fitsB a b c n) := by
 unfold q5_right.f fitsB
 rw [kind_f, w64 (n - 1) (by omega) (by omega)]
 simp only [Option.bind_some]
 cases withinB a 99
 · rfl
 · simp only [↓reduceIte, Bool.true_and]
   by_cases hb : b ≥ 0 <;> by_cases hb2 : b < n <;> by_cases hc : c ≥ 0 <;> by_cases hc2 : c < n <;> simp only [hb, hb2, hc, hc2, ↓reduceIte, decide_true, decide_false] <;> simp [withinB] <;> omega
theorem rd56_nat (l : List S56) (i : Nat) (h : i < l.length) : rd_T56 l (i : Int) = l[i] := by unfold rd_T56; simp [h]
theorem rgraph_edges (g : List Int) (es : List S56) (hg : g.length ≤ 40) (he : es.length ≤ 80) : ∀ (m i : Nat), i + m = es.length → Ev (fun k => q5_Valid.l1 k (i : Int) g es) (if (es.drop i).any (fun e => !fitsB e.f0 e.f1 e.f2 (g.length : Int)) = true then 6 else 0)
 | 0, i, hi => by
  refine Ev.step (fun k => by rw [q5_Valid.l1]) ?_
  rw [List.drop_eq_nil_of_le (by omega)]
  simp only [show ¬ ((i : Int) < (es.length : Int)) by omega, ↓reduceIte, List.any_nil, Bool.false_eq_true]; exact Ev.now _
 | m + 1, i, hi => by
  have hil : i < es.length := by omega
  refine Ev.step (fun k => by rw [q5_Valid.l1]) ?_
  simp only [show ((i : Int) < (es.length : Int)) by omega, show (0 : Int) ≤ (i : Int) by omega, ↓reduceIte, rd56_nat es i hil, right_f _ _ _ (g.length : Int) (by omega) (by omega), Option.bind_some]
  rw [List.drop_eq_getElem_cons hil, List.any_cons, w64 _ (by omega) (by omega)]
  cases fitsB es[i].f0 es[i].f1 es[i].f2 (g.length : Int)
  · simp only [Bool.false_eq_true, ↓reduceIte, Bool.not_false, Bool.true_or]; exact Ev.now _
  · simp only [↓reduceIte, Bool.not_true, Bool.false_or]; exact rgraph_edges g es hg he m (i + 1) (by omega)
theorem rgraph_nodes (g : List Int) (es : List S56) (hg : g.length ≤ 40) (he : es.length ≤ 80) : ∀ (m i : Nat), i + m = g.length → Ev (fun k => q5_Valid.l0 k (i : Int) g es) (if (g.drop i).any (fun t => !withinB t 99) = true then 6 else if es.any (fun e => !fitsB e.f0 e.f1 e.f2 (g.length : Int)) = true then 6 else 0)
 | 0, i, hi => by
  refine Ev.step (fun k => by rw [q5_Valid.l0]) ?_
  rw [List.drop_eq_nil_of_le (by omega)]
  simp only [show ¬ ((i : Int) < (g.length : Int)) by omega, ↓reduceIte, List.any_nil, Bool.false_eq_true]
  exact rgraph_edges g es hg he es.length 0 (by omega)
 | m + 1, i, hi => by
  have hil : i < g.length := by omega
  refine Ev.step (fun k => by rw [q5_Valid.l0]) ?_
  simp only [show ((i : Int) < (g.length : Int)) by omega, show (0 : Int) ≤ (i : Int) by omega, ↓reduceIte, rd_nat g i hil, kind_f, Option.bind_some]
  rw [List.drop_eq_getElem_cons hil, List.any_cons, w64 _ (by omega) (by omega)]
  cases withinB g[i] 99
  · simp only [Bool.false_eq_true, ↓reduceIte, Bool.not_false, Bool.true_or]; exact Ev.now _
  · simp only [↓reduceIte, Bool.not_true, Bool.false_or]; exact rgraph_nodes g es hg he m (i + 1) (by omega)
theorem rgraph_ev (g : List Int) (es : List S56) : Ev (fun k => q5_Valid.f k g es) (graphE g es) := by
 have big : Ev (fun k => q5_Valid.j0 k true g es) 3 := by
  refine Ev.step (fun k => by rw [q5_Valid.j0]) ?_
  simp only [↓reduceIte]; exact Ev.now _
 unfold q5_Valid.f graphE
 by_cases h1 : (g.length : Int) > 40
 · simp only [h1, true_or, ↓reduceIte]; exact big
 · by_cases h2 : (es.length : Int) > 80
   · simp only [h1, h2, or_true, ↓reduceIte, decide_true]; exact big
   · simp only [h1, h2, or_self, ↓reduceIte, decide_false]
     refine Ev.step (fun k => by rw [q5_Valid.j0]) ?_
     simp only [Bool.false_eq_true, ↓reduceIte]
     exact rgraph_nodes g es (by omega) (by omega) g.length 0 (by omega)
theorem graph_facts {g : List Int} {es : List S56} (h : graphE g es = 0) : g.length ≤ 40 ∧ es.length ≤ 80 ∧ (∀ i : Nat, i < g.length → 0 ≤ rd g (i : Int) ∧ rd g (i : Int) ≤ 99) ∧
 ∀ j : Nat, j < es.length → (0 ≤ (rd_T56 es (j : Int)).f0 ∧ (rd_T56 es (j : Int)).f0 ≤ 99) ∧ (0 ≤ (rd_T56 es (j : Int)).f1 ∧ (rd_T56 es (j : Int)).f1 < (g.length : Int)) ∧ (0 ≤ (rd_T56 es (j : Int)).f2 ∧ (rd_T56 es (j : Int)).f2 < (g.length : Int)) := by
 unfold graphE at h
 split at h
 · exact absurd h (by decide)
 · next h1 =>
   split at h
   · exact absurd h (by decide)
   · next h2 =>
     split at h
     · exact absurd h (by decide)
     · next h3 =>
       rw [Bool.not_eq_true, List.any_eq_false] at h2 h3
       refine ⟨by omega, by omega, fun i hi => ?_, fun j hj => ?_⟩
       · have := h2 _ (List.getElem_mem hi)
         rw [rd_nat _ _ hi]
         simp [withinB] at this
         omega
       · have := h3 _ (List.getElem_mem hj)
         rw [rd56_nat _ _ hj]
         simp only [fitsB, withinB] at this
         rw [w64 _ (by omega) (by omega)] at this
         simp at this
         omega
theorem scan_succ (F : Nat → Int) (m i : Nat) : scan F (m + 1) i = if F i = 0 then scan F m (i + 1) else F i := rfl
def nodeF (l : List S96) (g : List Int) (i : Nat) : Int := if rd g (i : Int) ≥ (l.length : Int) then 6 else 0
def edgeF (l : List S96) (l1 : List S101) (g : List Int) (es : List S56) (j : Nat) : Int := if (rd_T56 es (j : Int)).f0 ≥ (l1.length : Int) then 6 else if fitsE l l1 (rd_T56 es (j : Int)).f0 (rd g (rd_T56 es (j : Int)).f1) (rd g (rd_T56 es (j : Int)).f2) = true then 0 else 13
def typedE (l : List S96) (l1 : List S101) (g : List Int) (es : List S56) : Int := if (validE l l1).2 = 0 then (if graphE g es = 0 then (if scan (nodeF l g) g.length 0 = 0 then scan (edgeF l l1 g es) es.length 0 else scan (nodeF l g) g.length 0) else graphE g es) else (validE l l1).2
theorem scan_zero {F : Nat → Int} : ∀ (m i : Nat), scan F m i = 0 → ∀ j, i ≤ j → j < i + m → F j = 0
 | 0, i, h, j, h1, h2 => by omega
 | m + 1, i, h, j, h1, h2 => by
  unfold scan at h
  split at h
  · next h0 =>
    rcases Nat.lt_or_eq_of_le h1 with h3 | rfl
    · exact scan_zero m (i + 1) h j h3 (by omega)
    · exact h0
  · next h0 => exact absurd h h0
theorem scan_all {F : Nat → Int} : ∀ (m i : Nat), (∀ j, i ≤ j → j < i + m → F j = 0) → scan F m i = 0
 | 0, i, _ => rfl
 | m + 1, i, h => by
  unfold scan
  rw [if_pos (h i (Nat.le_refl _) (by omega))]
  exact scan_all m (i + 1) (fun j h1 h2 => h j (by omega) (by omega))
section typed
variable (l : List S96) (l1 : List S101) (hg : Good l) (h : Small l) (h1g : ∀ x ∈ l1, good101 x) (h1l : l1.length ≤ 30) (g : List Int) (es : List S56)
include hg h h1g h1l
theorem typed_edges (hG : graphE g es = 0) : ∀ (m i : Nat), i + m = es.length → Ev (fun k => statistic_typed.l1 k es (es.length : Int) (i : Int) l l1 g es) (scan (edgeF l l1 g es) m i)
 | 0, i, hi => by
  refine Ev.step (fun k => by rw [statistic_typed.l1]) ?_
  simp only [show ¬ ((i : Int) < (es.length : Int)) by omega, ↓reduceIte]; exact Ev.now _
 | m + 1, i, hi => by
  obtain ⟨f1, f2, f3, f4⟩ := graph_facts hG
  obtain ⟨e0, e1, e2⟩ := f4 i (by omega)
  refine Ev.step (fun k => by rw [statistic_typed.l1]) ?_
  simp only [show ((i : Int) < (es.length : Int)) by omega, show (0 : Int) ≤ (i : Int) by omega, e1.1, e1.2, e2.1, e2.2, ↓reduceIte]
  unfold scan
  by_cases hr : (rd_T56 es (i : Int)).f0 ≥ (l1.length : Int)
  · have : edgeF l l1 g es i = 6 := by unfold edgeF; rw [if_pos hr]
    simp only [hr, ↓reduceIte, this, show ¬ ((6 : Int) = 0) by omega]; exact Ev.now _
  · simp only [hr, ↓reduceIte]
    refine Ev.bind (Fits_ev l l1 hg h h1g h1l _ _ _) ?_
    cases hf : fitsE l l1 (rd_T56 es (i : Int)).f0 (rd g (rd_T56 es (i : Int)).f1) (rd g (rd_T56 es (i : Int)).f2)
    · have : edgeF l l1 g es i = 13 := by unfold edgeF; rw [if_neg hr, hf]; rfl
      simp only [Bool.false_eq_true, ↓reduceIte, this, show ¬ ((13 : Int) = 0) by omega]; exact Ev.now _
    · have : edgeF l l1 g es i = 0 := by unfold edgeF; rw [if_neg hr, hf]; rfl
      simp only [↓reduceIte, this]
      rw [w64 _ (by omega) (by omega)]
      exact typed_edges hG m (i + 1) (by omega)
theorem rtyped_edges (hG : graphE g es = 0) : ∀ (m i : Nat), i + m = es.length → Ev (fun k => scarfjointref18_Typed.l1 k (i : Int) l l1 g es) (scan (edgeF l l1 g es) m i)
 | 0, i, hi => by
  refine Ev.step (fun k => by rw [scarfjointref18_Typed.l1]) ?_
  simp only [show ¬ ((i : Int) < (es.length : Int)) by omega, ↓reduceIte]; exact Ev.now _
 | m + 1, i, hi => by
  obtain ⟨f1, f2, f3, f4⟩ := graph_facts hG
  obtain ⟨e0, e1, e2⟩ := f4 i (by omega)
  refine Ev.step (fun k => by rw [scarfjointref18_Typed.l1]) ?_
  simp only [show ((i : Int) < (es.length : Int)) by omega, show (0 : Int) ≤ (i : Int) by omega, e1.1, e1.2, e2.1, e2.2, ↓reduceIte]
  unfold scan
  by_cases hr : (rd_T56 es (i : Int)).f0 ≥ (l1.length : Int)
  · have : edgeF l l1 g es i = 6 := by unfold edgeF; rw [if_pos hr]
    simp only [hr, ↓reduceIte, this, show ¬ ((6 : Int) = 0) by omega]; exact Ev.now _
  · simp only [hr, ↓reduceIte]
    refine Ev.bind (rFits_ev l l1 hg h h1g h1l _ _ _) ?_
    cases hf : fitsE l l1 (rd_T56 es (i : Int)).f0 (rd g (rd_T56 es (i : Int)).f1) (rd g (rd_T56 es (i : Int)).f2)
    · have : edgeF l l1 g es i = 13 := by unfold edgeF; rw [if_neg hr, hf]; rfl
      simp only [Bool.false_eq_true, ↓reduceIte, this, show ¬ ((13 : Int) = 0) by omega]; exact Ev.now _
    · have : edgeF l l1 g es i = 0 := by unfold edgeF; rw [if_neg hr, hf]; rfl
      simp only [↓reduceIte, this]
      rw [w64 _ (by omega) (by omega)]
      exact rtyped_edges hG m (i + 1) (by omega)
theorem typed_nodes (hG : graphE g es = 0) : ∀ (m i : Nat), i + m = g.length → Ev (fun k => statistic_typed.l0 k g (g.length : Int) (i : Int) l l1 g es) (if scan (nodeF l g) m i = 0 then scan (edgeF l l1 g es) es.length 0 else scan (nodeF l g) m i)
 | 0, i, hi => by
  refine Ev.step (fun k => by rw [statistic_typed.l0]) ?_
  simp only [show ¬ ((i : Int) < (g.length : Int)) by omega, ↓reduceIte, scan]; exact typed_edges l l1 hg h h1g h1l g es hG es.length 0 (by omega)
 | m + 1, i, hi => by
  have f1 := (graph_facts hG).1
  refine Ev.step (fun k => by rw [statistic_typed.l0]) ?_
  simp only [show ((i : Int) < (g.length : Int)) by omega, show (0 : Int) ≤ (i : Int) by omega, ↓reduceIte]
  rw [scan_succ]
  by_cases hr : rd g (i : Int) ≥ (l.length : Int)
  · have : nodeF l g i = 6 := by unfold nodeF; rw [if_pos hr]
    simp only [hr, ↓reduceIte, this, show ¬ ((6 : Int) = 0) by omega]; exact Ev.now _
  · have : nodeF l g i = 0 := by unfold nodeF; rw [if_neg hr]
    simp only [hr, ↓reduceIte, this]
    rw [w64 _ (by omega) (by omega)]
    exact typed_nodes hG m (i + 1) (by omega)
theorem rtyped_nodes (hG : graphE g es = 0) : ∀ (m i : Nat), i + m = g.length → Ev (fun k => scarfjointref18_Typed.l0 k (i : Int) l l1 g es) (if scan (nodeF l g) m i = 0 then scan (edgeF l l1 g es) es.length 0 else scan (nodeF l g) m i)
 | 0, i, hi => by
  refine Ev.step (fun k => by rw [scarfjointref18_Typed.l0]) ?_
  simp only [show ¬ ((i : Int) < (g.length : Int)) by omega, ↓reduceIte, scan]; exact rtyped_edges l l1 hg h h1g h1l g es hG es.length 0 (by omega)
 | m + 1, i, hi => by
  have f1 := (graph_facts hG).1
  refine Ev.step (fun k => by rw [scarfjointref18_Typed.l0]) ?_
  simp only [show ((i : Int) < (g.length : Int)) by omega, show (0 : Int) ≤ (i : Int) by omega, ↓reduceIte]
  rw [scan_succ]
  by_cases hr : rd g (i : Int) ≥ (l.length : Int)
  · have : nodeF l g i = 6 := by unfold nodeF; rw [if_pos hr]
    simp only [hr, ↓reduceIte, this, show ¬ ((6 : Int) = 0) by omega]; exact Ev.now _
  · have : nodeF l g i = 0 := by unfold nodeF; rw [if_neg hr]
    simp only [hr, ↓reduceIte, this]
    rw [w64 _ (by omega) (by omega)]
    exact rtyped_nodes hG m (i + 1) (by omega)
theorem typed_ev : Ev (fun k => statistic_typed.f k l l1 g es) (typedE l l1 g es) := by
 unfold statistic_typed.f typedE
 refine Ev.bind (valid_ev l l1 hg h h1g h1l) ?_
 by_cases hv : (validE l l1).2 = 0
 · simp only [hv, ↓reduceIte]
   refine Ev.bind (graph_ev g es) ?_
   by_cases hG : graphE g es = 0
   · simp only [hG, ↓reduceIte]; exact typed_nodes l l1 hg h h1g h1l g es hG g.length 0 (by omega)
   · simp only [hG, ↓reduceIte]; exact Ev.now _
 · simp only [hv, ↓reduceIte]; exact Ev.now _
theorem rtyped_ev : Ev (fun k => scarfjointref18_Typed.f k l l1 g es) (typedE l l1 g es) := by
 unfold scarfjointref18_Typed.f typedE
 refine Ev.bind (rvalid_ev l l1 hg h h1g h1l) ?_
 by_cases hv : (validE l l1).2 = 0
 · simp only [hv, ↓reduceIte]
   refine Ev.bind (rgraph_ev g es) ?_
   by_cases hG : graphE g es = 0
   · simp only [hG, ↓reduceIte]; exact rtyped_nodes l l1 hg h h1g h1l g es hG g.length 0 (by omega)
   · simp only [hG, ↓reduceIte]; exact Ev.now _
 · simp only [hv, ↓reduceIte]; exact Ev.now _
end typed
theorem typed_facts {l : List S96} {l1 : List S101} {g : List Int} {es : List S56} (h : typedE l l1 g es = 0) : (validE l l1).2 = 0 ∧ graphE g es = 0 ∧ (∀ i : Nat, i < g.length → rd g (i : Int) < (l.length : Int)) ∧
 ∀ j : Nat, j < es.length → (rd_T56 es (j : Int)).f0 < (l1.length : Int) ∧ fitsE l l1 (rd_T56 es (j : Int)).f0 (rd g (rd_T56 es (j : Int)).f1) (rd g (rd_T56 es (j : Int)).f2) = true := by
 unfold typedE at h
 split at h
 · next hv =>
   split at h
   · next hG =>
     split at h
     · next hn =>
       refine ⟨hv, hG, fun i hi => ?_, fun j hj => ?_⟩
       · have := scan_zero _ _ hn i (Nat.zero_le _) (by omega)
         unfold nodeF at this
         split at this
         · exact absurd this (by decide)
         · omega
       · have := scan_zero _ _ h j (Nat.zero_le _) (by omega)
         unfold edgeF at this
         split at this
         · exact absurd this (by decide)
         · split at this
           · next hf => exact ⟨by omega, hf⟩
           · exact absurd this (by decide)
     · next hn => exact absurd h hn
   · next hG => exact absurd h hG
 · next hv => exact absurd h hv
def nkey (g : List Int) (i : Nat) : S75 := ⟨rd g (i : Int), 0, 0, 1⟩
def ekey (g : List Int) (es : List S56) (j : Nat) : S75 := ⟨(rd_T56 es (j : Int)).f0, rd g (rd_T56 es (j : Int)).f1, rd g (rd_T56 es (j : Int)).f2, 1⟩
def accE (K : Nat → S75) : Nat → Nat → List S75 → List S75
 | 0, _, acc => acc
 | m + 1, i, acc => accE K m (i + 1) (addE acc (K i))
theorem acc_succ (K : Nat → S75) (m i : Nat) (acc : List S75) : accE K (m + 1) i acc = accE K m (i + 1) (addE acc (K i)) := rfl
structure Acc (K : Nat → S75) (i : Nat) (acc : List S75) : Prop where
 cnt : Cnt (i : Int) acc
 len : acc.length ≤ i
 sum : sumE acc = (i : Int)
 of : ∀ y ∈ acc, ∃ j, j < i ∧ kEq y (K j)
 has : ∀ j, j < i → ∃ y ∈ acc, kEq y (K j)
theorem Acc.zero (K : Nat → S75) : Acc K 0 [] := { cnt := Cnt.nil _, len := Nat.le_refl _, sum := rfl, of := fun y h => (List.not_mem_nil h).elim, has := fun j h => absurd h (Nat.not_lt_zero _) }
theorem k_eq_tr {a b c : S75} (h : kEq a b) (h' : kEq b c) : kEq a c := by unfold kEq at *; omega
theorem Acc.step {K : Nat → S75} {i : Nat} {acc : List S75} (h : Acc K i acc) (hk : kIn (K i)) (h1 : (K i).f3 = 1) : Acc K (i + 1) (addE acc (K i)) := by
 have hn : ∀ y ∈ acc, 1 ≤ y.f3 := fun y hy => (h.cnt.num y hy).1
 have c := add_Cnt h.cnt hk (by omega) (by omega)
 rw [h1] at c
 refine { cnt := ?_, len := Nat.le_trans (add_len _ _) (Nat.succ_le_succ h.len), sum := by rw [add_sum, h.sum, h1]; omega, of := fun y hy => ?_, has := fun j hj => ?_ }
 · rw [show ((i + 1 : Nat) : Int) = (i : Int) + 1 by omega]; exact c
 · rcases add_mem hy with he | hm
   · exact ⟨i, by omega, he⟩
   · obtain ⟨j, hj, he⟩ := h.of y hm
     exact ⟨j, by omega, he⟩
 · rcases Nat.lt_or_eq_of_le (Nat.le_of_lt_succ hj) with hlt | rfl
   · obtain ⟨y, hy, he⟩ := h.has j hlt
     obtain ⟨z, hz, hze⟩ := add_keep (x := K i) (by omega) hn hy
     exact ⟨z, hz, k_eq_tr hze he⟩
   · exact add_has (by omega) hn
theorem Acc.all {K : Nat → S75} (hk : ∀ n : Nat, n < n + 1 → True) : ∀ (m i : Nat) (acc : List S75), Acc K i acc → (∀ j, i ≤ j → j < i + m → kIn (K j) ∧ (K j).f3 = 1) → Acc K (i + m) (accE K m i acc)
 | 0, i, acc, h, _ => h
 | m + 1, i, acc, h, hj => by
  have h0 := hj i (Nat.le_refl _) (by omega)
  have := Acc.all hk m (i + 1) _ (h.step h0.1 h0.2) (fun j h1 h2 => hj j (by omega) (by omega))
  rw [acc_succ, show i + (m + 1) = i + 1 + m by omega]; exact this
section of
variable (l : List S96) (l1 : List S101) (hg : Good l) (h : Small l) (h1g : ∀ x ∈ l1, good101 x) (h1l : l1.length ≤ 30) (g : List Int) (es : List S56)
def nsE (g : List Int) : List S75 := accE (nkey g) g.length 0 []
def esE (g : List Int) (es : List S56) : List S75 := accE (ekey g es) es.length 0 []
theorem nkey_in {g : List Int} {es : List S56} (hG : graphE g es = 0) (i : Nat) (hi : i < g.length) : kIn (nkey g i) := by
 have := (graph_facts hG).2.2.1 i hi
 unfold kIn nkey
 exact ⟨⟨this.1, by show rd g (i : Int) ≤ 1000; omega⟩, ⟨(by decide : (0 : Int) ≤ 0), (by decide : (0 : Int) ≤ 1000)⟩, ⟨(by decide : (0 : Int) ≤ 0), (by decide : (0 : Int) ≤ 1000)⟩⟩
theorem rd_at {g : List Int} {es : List S56} (hG : graphE g es = 0) (x : Int) (h0 : 0 ≤ x) (h1 : x < (g.length : Int)) : 0 ≤ rd g x ∧ rd g x ≤ 99 := by
 have := (graph_facts hG).2.2.1 x.toNat (by omega)
 rwa [Int.toNat_of_nonneg h0] at this
theorem ekey_in {g : List Int} {es : List S56} (hG : graphE g es = 0) (j : Nat) (hj : j < es.length) : kIn (ekey g es j) := by
 obtain ⟨e0, e1, e2⟩ := (graph_facts hG).2.2.2 j hj
 have h1 := rd_at hG _ e1.1 e1.2
 have h2 := rd_at hG _ e2.1 e2.2
 unfold kIn ekey
 exact ⟨⟨e0.1, by show (rd_T56 es (j : Int)).f0 ≤ 1000; omega⟩, ⟨h1.1, by show rd g (rd_T56 es (j : Int)).f1 ≤ 1000; omega⟩, ⟨h2.1, by show rd g (rd_T56 es (j : Int)).f2 ≤ 1000; omega⟩⟩
theorem of_edges (hG : graphE g es = 0) (ns : List S75) : ∀ (m j : Nat) (acc : List S75), j + m = es.length → Acc (ekey g es) j acc →
 Ev (fun k => statistic_Of.l1 k es (es.length : Int) (j : Int) g es ns acc) (ns, accE (ekey g es) m j acc, 0)
 | 0, j, acc, hj, _ => by
  refine Ev.step (fun k => by rw [statistic_Of.l1]) ?_
  simp only [show ¬ ((j : Int) < (es.length : Int)) by omega, ↓reduceIte]; exact Ev.now _
 | m + 1, j, acc, hj, ha => by
  obtain ⟨f1, f2, f3, f4⟩ := graph_facts hG
  obtain ⟨e0, e1, e2⟩ := f4 j (by omega)
  have hl := ha.len
  have hk := ekey_in hG j (by omega)
  have hc := counted_ev (x := ekey g es j) ha.cnt hk (by omega) (by show (1 : Int) ≤ 1 ∧ (1 : Int) ≤ 1000; decide) (by omega)
  refine Ev.step (fun k => by rw [statistic_Of.l1]) ?_
  simp only [show ((j : Int) < (es.length : Int)) by omega, show (0 : Int) ≤ (j : Int) by omega, e1.1, e1.2, e2.1, e2.2, ↓reduceIte]
  unfold ekey at hc
  simp only at hc
  rw [hc, w64 _ (by omega) (by omega), acc_succ]
  simp only [Option.bind_some]
  exact of_edges hG ns m (j + 1) _ (by omega) (ha.step hk rfl)
theorem of_nodes (hG : graphE g es = 0) : ∀ (m i : Nat) (acc : List S75), i + m = g.length → Acc (nkey g) i acc →
 Ev (fun k => statistic_Of.l0 k g (g.length : Int) (i : Int) g es acc) (accE (nkey g) m i acc, esE g es, 0)
 | 0, i, acc, hi, _ => by
  refine Ev.step (fun k => by rw [statistic_Of.l0]) ?_
  simp only [show ¬ ((i : Int) < (g.length : Int)) by omega, ↓reduceIte]
  exact of_edges g es hG acc es.length 0 [] (by omega) (Acc.zero _)
 | m + 1, i, acc, hi, ha => by
  have f1 := (graph_facts hG).1
  have hl := ha.len
  have hk := nkey_in hG i (by omega)
  have hc := counted_ev (x := nkey g i) ha.cnt hk (by omega) (by show (1 : Int) ≤ 1 ∧ (1 : Int) ≤ 1000; decide) (by omega)
  refine Ev.step (fun k => by rw [statistic_Of.l0]) ?_
  simp only [show ((i : Int) < (g.length : Int)) by omega, show (0 : Int) ≤ (i : Int) by omega, ↓reduceIte]
  unfold nkey at hc
  simp only at hc
  rw [hc, w64 _ (by omega) (by omega), acc_succ]
  simp only [Option.bind_some]
  exact of_nodes hG m (i + 1) _ (by omega) (ha.step hk rfl)
theorem rof_edges (hG : graphE g es = 0) (ns : List S75) : ∀ (m j : Nat) (acc : List S75), j + m = es.length → Acc (ekey g es) j acc →
 Ev (fun k => scarfjointref18_Of.l1 k (j : Int) g es ns acc) (ns, accE (ekey g es) m j acc, 0)
 | 0, j, acc, hj, _ => by
  refine Ev.step (fun k => by rw [scarfjointref18_Of.l1]) ?_
  simp only [show ¬ ((j : Int) < (es.length : Int)) by omega, ↓reduceIte]; exact Ev.now _
 | m + 1, j, acc, hj, ha => by
  obtain ⟨f1, f2, f3, f4⟩ := graph_facts hG
  obtain ⟨e0, e1, e2⟩ := f4 j (by omega)
  have hl := ha.len
  have hk := ekey_in hG j (by omega)
  have hc := change_ev (x := ekey g es j) ha.cnt (by omega) hk (by show (-1 : Int) ≤ 1 ∧ (1 : Int) ≤ 1000; decide) 0 (by omega) (fun hh => absurd hh (by show ¬ ((1 : Int) = -1); decide))
  refine Ev.step (fun k => by rw [scarfjointref18_Of.l1]) ?_
  simp only [show ((j : Int) < (es.length : Int)) by omega, show (0 : Int) ≤ (j : Int) by omega, e1.1, e1.2, e2.1, e2.2, ↓reduceIte]
  unfold ekey at hc
  simp only at hc
  refine Ev.bind hc ?_
  rw [w64 _ (by omega) (by omega), acc_succ]
  exact rof_edges hG ns m (j + 1) _ (by omega) (ha.step hk rfl)
theorem rof_nodes (hG : graphE g es = 0) : ∀ (m i : Nat) (acc : List S75), i + m = g.length → Acc (nkey g) i acc →
 Ev (fun k => scarfjointref18_Of.l0 k (i : Int) g es acc) (accE (nkey g) m i acc, esE g es, 0)
 | 0, i, acc, hi, _ => by
  refine Ev.step (fun k => by rw [scarfjointref18_Of.l0]) ?_
  simp only [show ¬ ((i : Int) < (g.length : Int)) by omega, ↓reduceIte]
  exact rof_edges g es hG acc es.length 0 [] (by omega) (Acc.zero _)
 | m + 1, i, acc, hi, ha => by
  have f1 := (graph_facts hG).1
  have hl := ha.len
  have hk := nkey_in hG i (by omega)
  have hc := change_ev (x := nkey g i) ha.cnt (by omega) hk (by show (-1 : Int) ≤ 1 ∧ (1 : Int) ≤ 1000; decide) 0 (by omega) (fun hh => absurd hh (by show ¬ ((1 : Int) = -1); decide))
  refine Ev.step (fun k => by rw [scarfjointref18_Of.l0]) ?_
  simp only [show ((i : Int) < (g.length : Int)) by omega, show (0 : Int) ≤ (i : Int) by omega, ↓reduceIte]
  unfold nkey at hc
  simp only at hc
  refine Ev.bind hc ?_
  rw [w64 _ (by omega) (by omega), acc_succ]
  exact rof_nodes hG m (i + 1) _ (by omega) (ha.step hk rfl)
def ofE (l : List S96) (l1 : List S101) (g : List Int) (es : List S56) : List S75 × List S75 × Int := if typedE l l1 g es = 0 then (nsE g, esE g es, 0) else ([], [], typedE l l1 g es)
include hg h h1g h1l
theorem of_ev : Ev (fun k => statistic_Of.f k l l1 g es) (ofE l l1 g es) := by
 unfold statistic_Of.f ofE
 refine Ev.bind (typed_ev l l1 hg h h1g h1l g es) ?_
 by_cases h0 : typedE l l1 g es = 0
 · simp only [h0, ↓reduceIte]
   exact of_nodes g es (typed_facts h0).2.1 g.length 0 [] (by omega) (Acc.zero _)
 · simp only [h0, ↓reduceIte]; exact Ev.now _
theorem rof_ev : Ev (fun k => scarfjointref18_Of.f k l l1 g es) (ofE l l1 g es) := by
 unfold scarfjointref18_Of.f ofE
 refine Ev.bind (rtyped_ev l l1 hg h h1g h1l g es) ?_
 by_cases h0 : typedE l l1 g es = 0
 · simp only [h0, ↓reduceIte]
   exact rof_nodes g es (typed_facts h0).2.1 g.length 0 [] (by omega) (Acc.zero _)
 · simp only [h0, ↓reduceIte]; exact Ev.now _
end of
theorem same_loop (a : List S75) (ha : a.length ≤ 1000) : ∀ (m i : Nat), i + m = a.length → Ev (fun k => scarfjointref18_SameCounts.l0 k a a (i : Int)) true
 | 0, i, hi => by
  refine Ev.step (fun k => by rw [scarfjointref18_SameCounts.l0]) ?_
  simp only [show ¬ ((i : Int) < (a.length : Int)) by omega, ↓reduceIte]; exact Ev.now _
 | m + 1, i, hi => by
  refine Ev.step (fun k => by rw [scarfjointref18_SameCounts.l0]) ?_
  simp only [show ((i : Int) < (a.length : Int)) by omega, show (0 : Int) ≤ (i : Int) by omega, beq_self_eq_true, Bool.not_true, Bool.or_self, Bool.false_eq_true, ↓reduceIte]
  rw [w64 _ (by omega) (by omega)]
  exact same_loop a ha m (i + 1) (by omega)
theorem same_ev (a b : List S75) (ha : a.length ≤ 1000) (hb : b.length ≤ 1000) : Ev (fun k => scarfjointref18_Same.f k a b a b) true := by
 unfold scarfjointref18_Same.f scarfjointref18_SameCounts.f
 simp only [↓reduceIte]
 refine Ev.bind (same_loop a ha a.length 0 (by omega)) ?_
 simp only [↓reduceIte]
 refine Ev.bind (same_loop b hb b.length 0 (by omega)) ?_
 exact Ev.now _
theorem ns_acc {g : List Int} {es : List S56} (hG : graphE g es = 0) : Acc (nkey g) g.length (nsE g) := by
 have := Acc.all (K := nkey g) (fun _ _ => trivial) g.length 0 [] (Acc.zero _) (fun j _ hj => ⟨nkey_in hG j (by omega), rfl⟩)
 rwa [Nat.zero_add] at this
theorem es_acc {g : List Int} {es : List S56} (hG : graphE g es = 0) : Acc (ekey g es) es.length (esE g es) := by
 have := Acc.all (K := ekey g es) (fun _ _ => trivial) es.length 0 [] (Acc.zero _) (fun j _ hj => ⟨ekey_in hG j (by omega), rfl⟩)
 rwa [Nat.zero_add] at this
def isIn (a n : Int) : Bool := decide (0 ≤ a) && decide (a < n)
theorem is_f (a n : Int) : statistic_is.f a n = some (isIn a n) := by
 unfold statistic_is.f isIn
 by_cases h : 0 ≤ a
 · rw [if_pos h]; simp [h]
 · rw [if_neg h]; simp [h]
def cmpAtE (l : List S75) (i : Nat) : Int := cmpE (rd_T75 l ((i : Int) - 1)).f0 (rd_T75 l ((i : Int) - 1)).f1 (rd_T75 l ((i : Int) - 1)).f2 (rd_T75 l (i : Int)).f0 (rd_T75 l (i : Int)).f1 (rd_T75 l (i : Int)).f2
def ordE (l : List S75) (i : Nat) : Int := if 0 < i then (if cmpAtE l i ≥ 0 then 12 else 0) else 0
def nBad (l : List S96) (c : S75) : Bool := !(isIn c.f0 (l.length : Int) && (decide (c.f1 = 0) && (decide (c.f2 = 0) && (decide (1 ≤ c.f3) && decide (c.f3 ≤ 40)))))
def sN (l : List S96) (ns : List S75) (i : Nat) : Int := if nBad l (rd_T75 ns (i : Int)) = true then 6 else ordE ns i
def eBad (l : List S96) (l1 : List S101) (c : S75) : Bool := !(isIn c.f0 (l1.length : Int) && (isIn c.f1 (l.length : Int) && (isIn c.f2 (l.length : Int) && (decide (1 ≤ c.f3) && decide (c.f3 ≤ 80)))))
def hasE (ns : List S75) (a : Int) : Bool := ns.any fun c => c.f0 == a
def sE (l : List S96) (l1 : List S101) (ns es : List S75) (i : Nat) : Int := if eBad l l1 (rd_T75 es (i : Int)) = true then 6 else if fitsE l l1 (rd_T75 es (i : Int)).f0 (rd_T75 es (i : Int)).f1 (rd_T75 es (i : Int)).f2 = true then (if (hasE ns (rd_T75 es (i : Int)).f1 && hasE ns (rd_T75 es (i : Int)).f2) = true then ordE es i else 10) else 13
def sumV (es : List S75) : Int := if sumE es > 80 then 3 else 0
def sEdgesV (l : List S96) (l1 : List S101) (ns es : List S75) : Int := if scan (sE l l1 ns es) es.length 0 = 0 then sumV es else scan (sE l l1 ns es) es.length 0
def sNodesV (l : List S96) (l1 : List S101) (ns es : List S75) : Int := if sumE ns > 40 then 3 else sEdgesV l l1 ns es
def sValidE (l : List S96) (l1 : List S101) (ns es : List S75) : Int := if (validE l l1).2 = 0 then (if scan (sN l ns) ns.length 0 = 0 then sNodesV l l1 ns es else scan (sN l ns) ns.length 0) else (validE l l1).2
theorem total_loop (l : List S75) (hl : l.length ≤ 1000) (hn : ∀ y ∈ l, 1 ≤ y.f3 ∧ y.f3 ≤ 80) : ∀ (m i : Nat) (a : Int), i + m = l.length → 0 ≤ a ∧ a ≤ 80 * (i : Int) → Ev (fun k => statistic_total.l0 k a l (l.length : Int) (i : Int)) (a + sumE (l.drop i))
 | 0, i, a, hi, ha => by
  refine Ev.step (fun k => by rw [statistic_total.l0]) ?_
  rw [List.drop_eq_nil_of_le (by omega)]
  simp only [show ¬ ((i : Int) < (l.length : Int)) by omega, ↓reduceIte, sumE, Int.add_zero]; exact Ev.now _
 | m + 1, i, a, hi, ha => by
  have hil : i < l.length := by omega
  have hy := hn _ (List.getElem_mem hil)
  refine Ev.step (fun k => by rw [statistic_total.l0]) ?_
  simp only [show ((i : Int) < (l.length : Int)) by omega, show (0 : Int) ≤ (i : Int) by omega, ↓reduceIte, rd75_nat l i hil]
  rw [w64 _ (by omega) (by omega), w64 _ (by omega) (by omega), List.drop_eq_getElem_cons hil, sumE, ← Int.add_assoc]
  exact total_loop l hl hn m (i + 1) _ (by omega) (by omega)
theorem total_ev (l : List S75) (hl : l.length ≤ 1000) (hn : ∀ y ∈ l, 1 ≤ y.f3 ∧ y.f3 ≤ 80) : Ev (fun k => statistic_total.f k l) (sumE l) := by
 have := total_loop l hl hn l.length 0 0 (by omega) (by omega)
 rw [Int.zero_add, List.drop_zero] at this
 exact this
theorem compare_ev (a0 a1 a2 a3 b0 b1 b2 b3 : Int) : Ev (fun k => statistic_compare.f k a0 a1 a2 a3 b0 b1 b2 b3) (cmpE a0 a1 a2 b0 b1 b2) := Ev.of (fun k => statistic_compare.mono _ _ _ _ _ _ _ _ k) (k := 5) (compare_f a0 a1 a2 a3 b0 b1 b2 b3)
section sval
variable (l : List S96) (l1 : List S101) (hg : Good l) (h : Small l) (h1g : ∀ x ∈ l1, good101 x) (h1l : l1.length ≤ 30) (ns es : List S75) (hn : ns.length ≤ 1000) (he : es.length ≤ 1000)
include hg h h1g h1l hn he
theorem sval_edges : ∀ (m i : Nat), i + m = es.length → (∀ j, j < i → sE l l1 ns es j = 0) → Ev (fun k => statistic_Valid.l1 k es (es.length : Int) (i : Int) l l1 ns es) (if scan (sE l l1 ns es) m i = 0 then sumV es else scan (sE l l1 ns es) m i)
 | 0, i, hi, hp => by
  refine Ev.step (fun k => by rw [statistic_Valid.l1]) ?_
  simp only [show ¬ ((i : Int) < (es.length : Int)) by omega, ↓reduceIte, scan]
  refine Ev.bind (total_ev es he (fun y hy => ?_)) ?_
  · obtain ⟨j, hj, rfl⟩ := List.getElem_of_mem hy
    have := hp j (by omega)
    unfold sE at this
    split at this
    · exact absurd this (by decide)
    · next hb =>
      rw [rd75_nat _ _ hj] at hb
      simp [eBad] at hb
      omega
  · unfold sumV
    by_cases hs : sumE es > 80
    · simp only [hs, ↓reduceIte]; exact Ev.now _
    · simp only [hs, ↓reduceIte]; exact Ev.now _
 | m + 1, i, hi, hp => by
  have next_ : sE l l1 ns es i = 0 → Ev (fun k => statistic_Valid.l1 k es (es.length : Int) (wrap64 ((i : Int) + 1)) l l1 ns es) (if scan (sE l l1 ns es) (m + 1) i = 0 then sumV es else scan (sE l l1 ns es) (m + 1) i) := fun h0 => by
   rw [scan_succ, if_pos h0, w64 _ (by omega) (by omega)]
   exact sval_edges m (i + 1) (by omega) (fun j hj => by
    rcases Nat.lt_or_eq_of_le (Nat.le_of_lt_succ hj) with h1 | rfl
    · exact hp j h1
    · exact h0)
  have stop_ : ∀ e : Int, sE l l1 ns es i = e → e ≠ 0 → (if scan (sE l l1 ns es) (m + 1) i = 0 then sumV es else scan (sE l l1 ns es) (m + 1) i) = e := fun e h1 h2 => by
   rw [scan_succ, h1, if_neg h2, if_neg h2]
  refine Ev.step (fun k => by rw [statistic_Valid.l1]) ?_
  simp only [show ((i : Int) < (es.length : Int)) by omega, show (0 : Int) ≤ (i : Int) by omega, ↓reduceIte, is_f, Option.bind_some]
  generalize hc : rd_T75 es (i : Int) = c
  have bad : eBad l l1 c = true → Ev (fun k => statistic_Valid.j3 k (i : Int) es (es.length : Int) (i : Int) true l l1 ns es c.f0 c.f1 c.f2 c.f3) (if scan (sE l l1 ns es) (m + 1) i = 0 then sumV es else scan (sE l l1 ns es) (m + 1) i) := fun hb => by
   rw [stop_ 6 (by unfold sE; rw [hc, if_pos hb]) (by decide)]
   refine Ev.step (fun k => by rw [statistic_Valid.j3]) ?_
   simp only [↓reduceIte]; exact Ev.now _
  have j4 : eBad l l1 c = false → fitsE l l1 c.f0 c.f1 c.f2 = true → ∀ b : Bool, b = !(hasE ns c.f1 && hasE ns c.f2) → Ev (fun k => statistic_Valid.j4 k (i : Int) es (es.length : Int) (i : Int) b l l1 ns es c.f0 c.f1 c.f2 c.f3) (if scan (sE l l1 ns es) (m + 1) i = 0 then sumV es else scan (sE l l1 ns es) (m + 1) i) := fun hb hf b hbb => by
   refine Ev.step (fun k => by rw [statistic_Valid.j4]) ?_
   cases hh : (hasE ns c.f1 && hasE ns c.f2)
   · rw [hh] at hbb
     rw [stop_ 10 (by unfold sE; rw [hc, if_neg (by simp [hb]), if_pos hf, if_neg (by simp [hh])]) (by decide), hbb]
     simp only [Bool.not_false, ↓reduceIte]; exact Ev.now _
   · rw [hh] at hbb
     have e0 : sE l l1 ns es i = ordE es i := by unfold sE; rw [hc, if_neg (by simp [hb]), if_pos hf, if_pos hh]
     rw [hbb]
     simp only [Bool.not_true, Bool.false_eq_true, ↓reduceIte]
     by_cases hi0 : 0 < i
     · rw [w64 ((i : Int) - 1) (by omega) (by omega)]
       simp only [show (i : Int) > 0 by omega, show (0 : Int) ≤ (i : Int) - 1 by omega, show (i : Int) - 1 < (es.length : Int) by omega, ↓reduceIte]
       refine Ev.bind (compare_ev _ _ _ _ _ _ _ _) ?_
       have e1 : ordE es i = if cmpE (rd_T75 es ((i : Int) - 1)).f0 (rd_T75 es ((i : Int) - 1)).f1 (rd_T75 es ((i : Int) - 1)).f2 c.f0 c.f1 c.f2 ≥ 0 then 12 else 0 := by
        unfold ordE cmpAtE; rw [if_pos hi0, hc]
       by_cases ho : cmpE (rd_T75 es ((i : Int) - 1)).f0 (rd_T75 es ((i : Int) - 1)).f1 (rd_T75 es ((i : Int) - 1)).f2 c.f0 c.f1 c.f2 ≥ 0
       · rw [if_pos ho] at e1
         rw [stop_ 12 (by rw [e0, e1]) (by decide)]
         simp only [ho, ↓reduceIte]; exact Ev.now _
       · rw [if_neg ho] at e1
         simp only [ho, ↓reduceIte]
         exact next_ (by rw [e0, e1])
     · simp only [show ¬ ((i : Int) > 0) by omega, ↓reduceIte]
       exact next_ (by rw [e0]; unfold ordE; rw [if_neg hi0])
  have good : eBad l l1 c = false → Ev (fun k => statistic_Valid.j3 k (i : Int) es (es.length : Int) (i : Int) false l l1 ns es c.f0 c.f1 c.f2 c.f3) (if scan (sE l l1 ns es) (m + 1) i = 0 then sumV es else scan (sE l l1 ns es) (m + 1) i) := fun hb => by
   refine Ev.step (fun k => by rw [statistic_Valid.j3]) ?_
   simp only [Bool.false_eq_true, ↓reduceIte]
   refine Ev.bind (Fits_ev l l1 hg h h1g h1l _ _ _) ?_
   cases hf : fitsE l l1 c.f0 c.f1 c.f2
   · rw [stop_ 13 (by unfold sE; rw [hc, if_neg (by simp [hb]), if_neg (by simp [hf])]) (by decide)]
     simp only [Bool.false_eq_true, ↓reduceIte]; exact Ev.now _
   · simp only [↓reduceIte, statistic_has.f, any_has.f, Option.bind_some]
     have j := j4 hb hf
     unfold hasE at j
     cases h1 : ns.any (fun m => m.f0 == c.f1)
     · simp only [Bool.false_eq_true, ↓reduceIte]; exact j true (by rw [h1]; rfl)
     · simp only [↓reduceIte]; exact j _ (by rw [h1]; rfl)
  cases h0 : isIn c.f0 (l1.length : Int)
  · simp only [Bool.false_eq_true, ↓reduceIte]; exact bad (by simp [eBad, h0])
  · simp only [↓reduceIte]
    cases h1 : isIn c.f1 (l.length : Int)
    · simp only [Bool.false_eq_true, ↓reduceIte]; exact bad (by simp [eBad, h1])
    · simp only [↓reduceIte]
      cases h2 : isIn c.f2 (l.length : Int)
      · simp only [Bool.false_eq_true, ↓reduceIte]; exact bad (by simp [eBad, h2])
      · simp only [↓reduceIte]
        by_cases h3 : c.f3 < 1
        · simp only [h3, ↓reduceIte]; exact bad (by simp [eBad]; omega)
        · simp only [h3, ↓reduceIte]
          by_cases h4 : c.f3 > 80
          · rw [decide_eq_true h4]; exact bad (by simp [eBad]; omega)
          · rw [decide_eq_false h4]; exact good (by simp [eBad, h0, h1, h2]; omega)
theorem sval_nodes : ∀ (m i : Nat), i + m = ns.length → (∀ j, j < i → sN l ns j = 0) → Ev (fun k => statistic_Valid.l0 k ns (ns.length : Int) (i : Int) l l1 ns es) (if scan (sN l ns) m i = 0 then sNodesV l l1 ns es else scan (sN l ns) m i)
 | 0, i, hi, hp => by
  refine Ev.step (fun k => by rw [statistic_Valid.l0]) ?_
  simp only [show ¬ ((i : Int) < (ns.length : Int)) by omega, ↓reduceIte, scan]
  refine Ev.bind (total_ev ns hn (fun y hy => ?_)) ?_
  · obtain ⟨j, hj, rfl⟩ := List.getElem_of_mem hy
    have := hp j (by omega)
    unfold sN at this
    split at this
    · exact absurd this (by decide)
    · next hb =>
      rw [rd75_nat _ _ hj] at hb
      simp [nBad] at hb
      omega
  · unfold sNodesV
    by_cases hs : sumE ns > 40
    · simp only [hs, ↓reduceIte]; exact Ev.now _
    · simp only [hs, ↓reduceIte]
      exact sval_edges l l1 hg h h1g h1l ns es hn he es.length 0 (by omega) (fun j hj => absurd hj (Nat.not_lt_zero _))
 | m + 1, i, hi, hp => by
  have next_ : sN l ns i = 0 → Ev (fun k => statistic_Valid.l0 k ns (ns.length : Int) (wrap64 ((i : Int) + 1)) l l1 ns es) (if scan (sN l ns) (m + 1) i = 0 then sNodesV l l1 ns es else scan (sN l ns) (m + 1) i) := fun h0 => by
   rw [scan_succ, if_pos h0, w64 _ (by omega) (by omega)]
   exact sval_nodes m (i + 1) (by omega) (fun j hj => by
    rcases Nat.lt_or_eq_of_le (Nat.le_of_lt_succ hj) with h1 | rfl
    · exact hp j h1
    · exact h0)
  have stop_ : ∀ e : Int, sN l ns i = e → e ≠ 0 → (if scan (sN l ns) (m + 1) i = 0 then sNodesV l l1 ns es else scan (sN l ns) (m + 1) i) = e := fun e h1 h2 => by
   rw [scan_succ, h1, if_neg h2, if_neg h2]
  refine Ev.step (fun k => by rw [statistic_Valid.l0]) ?_
  simp only [show ((i : Int) < (ns.length : Int)) by omega, show (0 : Int) ≤ (i : Int) by omega, ↓reduceIte, is_f, Option.bind_some]
  generalize hc : rd_T75 ns (i : Int) = c
  have bad : nBad l c = true → Ev (fun k => statistic_Valid.j1 k (i : Int) ns (ns.length : Int) (i : Int) true l l1 ns es c.f0 c.f1 c.f2 c.f3) (if scan (sN l ns) (m + 1) i = 0 then sNodesV l l1 ns es else scan (sN l ns) (m + 1) i) := fun hb => by
   rw [stop_ 6 (by unfold sN; rw [hc, if_pos hb]) (by decide)]
   refine Ev.step (fun k => by rw [statistic_Valid.j1]) ?_
   simp only [↓reduceIte]; exact Ev.now _
  have good : nBad l c = false → Ev (fun k => statistic_Valid.j1 k (i : Int) ns (ns.length : Int) (i : Int) false l l1 ns es c.f0 c.f1 c.f2 c.f3) (if scan (sN l ns) (m + 1) i = 0 then sNodesV l l1 ns es else scan (sN l ns) (m + 1) i) := fun hb => by
   have e0 : sN l ns i = ordE ns i := by unfold sN; rw [hc, if_neg (by simp [hb])]
   refine Ev.step (fun k => by rw [statistic_Valid.j1]) ?_
   simp only [Bool.false_eq_true, ↓reduceIte]
   by_cases hi0 : 0 < i
   · rw [w64 ((i : Int) - 1) (by omega) (by omega)]
     simp only [show (i : Int) > 0 by omega, show (0 : Int) ≤ (i : Int) - 1 by omega, show (i : Int) - 1 < (ns.length : Int) by omega, ↓reduceIte]
     refine Ev.bind (compare_ev _ _ _ _ _ _ _ _) ?_
     have e1 : ordE ns i = if cmpE (rd_T75 ns ((i : Int) - 1)).f0 (rd_T75 ns ((i : Int) - 1)).f1 (rd_T75 ns ((i : Int) - 1)).f2 c.f0 c.f1 c.f2 ≥ 0 then 12 else 0 := by
      unfold ordE cmpAtE; rw [if_pos hi0, hc]
     by_cases ho : cmpE (rd_T75 ns ((i : Int) - 1)).f0 (rd_T75 ns ((i : Int) - 1)).f1 (rd_T75 ns ((i : Int) - 1)).f2 c.f0 c.f1 c.f2 ≥ 0
     · rw [if_pos ho] at e1
       rw [stop_ 12 (by rw [e0, e1]) (by decide)]
       simp only [ho, ↓reduceIte]; exact Ev.now _
     · rw [if_neg ho] at e1
       simp only [ho, ↓reduceIte]
       exact next_ (by rw [e0, e1])
   · simp only [show ¬ ((i : Int) > 0) by omega, ↓reduceIte]
     exact next_ (by rw [e0]; unfold ordE; rw [if_neg hi0])
  cases h0 : isIn c.f0 (l.length : Int)
  · simp only [Bool.false_eq_true, ↓reduceIte]; exact bad (by simp [nBad, h0])
  · simp only [↓reduceIte]
    by_cases h1 : c.f1 = 0
    · simp only [h1, ↓reduceIte]
      rw [h1] at bad good
      by_cases h2 : c.f2 = 0
      · simp only [h2, ↓reduceIte]
        rw [h2] at bad good
        by_cases h3 : c.f3 < 1
        · simp only [h3, ↓reduceIte]; exact bad (by simp [nBad]; omega)
        · simp only [h3, ↓reduceIte]
          by_cases h4 : c.f3 > 40
          · rw [decide_eq_true h4]; exact bad (by simp [nBad]; omega)
          · rw [decide_eq_false h4]; exact good (by simp [nBad, h0, h1, h2]; omega)
      · simp only [h2, ↓reduceIte]; exact bad (by simp [nBad, h2])
    · simp only [h1, ↓reduceIte]; exact bad (by simp [nBad, h1])
theorem sval_ev : Ev (fun k => statistic_Valid.f k l l1 ns es) (sValidE l l1 ns es) := by
 unfold statistic_Valid.f sValidE
 refine Ev.bind (valid_ev l l1 hg h h1g h1l) ?_
 by_cases hv : (validE l l1).2 = 0
 · simp only [hv, ↓reduceIte]; exact sval_nodes l l1 hg h h1g h1l ns es hn he ns.length 0 (by omega) (fun j hj => absurd hj (Nat.not_lt_zero _))
 · simp only [hv, ↓reduceIte]; exact Ev.now _
end sval
theorem ord_ok {B : Int} {l : List S75} (hc : Cnt B l) (i : Nat) (hi : i < l.length) : ordE l i = 0 := by
 unfold ordE
 by_cases h0 : 0 < i
 · have hk : kLt l[i - 1] l[i] := List.pairwise_iff_getElem.1 hc.srt (i - 1) i (by omega) hi (by omega)
   have := (cmp_lt (hc.key _ (List.getElem_mem (by omega : i - 1 < l.length))) (hc.key _ (List.getElem_mem hi))).2 hk
   rw [if_pos h0, if_neg]
   unfold cmpAtE
   rw [show ((i : Int) - 1) = ((i - 1 : Nat) : Int) by omega, rd75_nat _ _ (by omega), rd75_nat _ _ hi]
   omega
 · rw [if_neg h0]
theorem of_valid {l : List S96} {l1 : List S101} {g : List Int} {es : List S56} (h : typedE l l1 g es = 0) : sValidE l l1 (nsE g) (esE g es) = 0 := by
 obtain ⟨hv, hG, hr, he⟩ := typed_facts h
 obtain ⟨f1, f2, f3, f4⟩ := graph_facts hG
 have an := ns_acc hG
 have ae := es_acc hG
 have sn := sum_ge (fun y hy => (an.cnt.num y hy).1)
 have se := sum_ge (fun y hy => (ae.cnt.num y hy).1)
 rw [an.sum] at sn
 rw [ae.sum] at se
 have inn : ∀ a : Int, 0 ≤ a → a < (l.length : Int) → isIn a (l.length : Int) = true := fun a h0 h1 => by simp [isIn, h0, h1]
 have at_ : ∀ x : Int, 0 ≤ x → x < (g.length : Int) → 0 ≤ rd g x ∧ rd g x < (l.length : Int) ∧ hasE (nsE g) (rd g x) = true := fun x h0 h1 => by
  have hx : ((x.toNat : Nat) : Int) = x := Int.toNat_of_nonneg h0
  have a1 := rd_at hG x h0 h1
  have a2 := hr x.toNat (by omega)
  rw [hx] at a2
  refine ⟨a1.1, a2, ?_⟩
  obtain ⟨y, hy, hk⟩ := an.has x.toNat (by omega)
  unfold hasE
  rw [List.any_eq_true]
  refine ⟨y, hy, ?_⟩
  have := hk.1
  unfold nkey at this
  rw [hx] at this
  simpa using this
 unfold sValidE
 rw [if_pos hv, if_pos]
 · unfold sNodesV
   rw [if_neg (by rw [an.sum]; omega)]
   unfold sEdgesV
   rw [if_pos]
   · unfold sumV; rw [if_neg (by rw [ae.sum]; omega)]
   · refine scan_all _ _ (fun j _ hj => ?_)
     have hjl : j < (esE g es).length := by omega
     have hm := List.getElem_mem hjl
     obtain ⟨q, hq, hk⟩ := ae.of _ hm
     have hnum := ae.cnt.num _ hm
     have hse := se _ hm
     obtain ⟨e0, e1, e2⟩ := f4 q hq
     obtain ⟨t0, t1⟩ := he q hq
     have a1 := at_ _ e1.1 e1.2
     have a2 := at_ _ e2.1 e2.2
     obtain ⟨k0, k1, k2⟩ := hk
     unfold ekey at k0 k1 k2
     simp only at k0 k1 k2
     unfold sE
     rw [rd75_nat _ _ hjl, k0, k1, k2]
     rw [if_neg, if_pos t1, if_pos (by rw [a1.2.2, a2.2.2]; rfl), ord_ok ae.cnt j hjl]
     unfold eBad
     rw [k0, k1, k2, inn _ a1.1 a1.2.1, inn _ a2.1 a2.2.1]
     simp [isIn, e0.1, t0]
     omega
 · refine scan_all _ _ (fun i _ hi => ?_)
   have hil : i < (nsE g).length := by omega
   have hm := List.getElem_mem hil
   obtain ⟨q, hq, hk⟩ := an.of _ hm
   have hnum := an.cnt.num _ hm
   have hsn := sn _ hm
   have h3 := f3 q hq
   have hrq := hr q hq
   obtain ⟨k0, k1, k2⟩ := hk
   unfold nkey at k0 k1 k2
   simp only at k0 k1 k2
   unfold sN
   rw [rd75_nat _ _ hil, if_neg, ord_ok an.cnt i hil]
   unfold nBad
   rw [k0, k1, k2, inn _ h3.1 hrq]
   simp
   omega
theorem awake_ev : Ev (fun k => scarfjointlaw18_awake.f k) true := Ev.of (fun k => scarfjointlaw18_awake.mono k) (k := 60) (by kernel_rfl)
theorem StatisticOf_pure : ∀ (l0_0 : List S96) (l0_1 : List S101) (l1_0 : List Int) (l1_1 : List S56), (l0_0.length ≤ reachBytes ∧ ∀ x_ ∈ l0_0, good96 x_) → (l0_1.length ≤ reachBytes ∧ ∀ x_ ∈ l0_1, good101 x_) → (l1_0.length ≤ reachBytes ∧ ∀ x_ ∈ l1_0, (Lit.int .i64 x_).wf = true) → (l1_1.length ≤ reachBytes ∧ ∀ x_ ∈ l1_1, good56 x_) → ∃ k, scarfjointlaw18_StatisticOf.f k l0_0 l0_1 l1_0 l1_1 = some true := by
 intro l l1 g es hl hl1 _ _
 have no : Ev (fun k => scarfjointlaw18_StatisticOf.j0 k true l l1 g es) true := by
  refine Ev.step (fun k => by rw [scarfjointlaw18_StatisticOf.j0]) ?_
  simp only [↓reduceIte]
  exact Ev.bind awake_ev (Ev.now _)
 refine Ev.rounds ?_
 unfold scarfjointlaw18_StatisticOf.f
 refine Ev.bind awake_ev ?_
 simp only [↓reduceIte]
 obtain ⟨q0, hb, hQ⟩ := few_ev l l1 hl.2 hl.1 hl1.1
 refine Ev.bind hb ?_
 cases q0
 · simp only [Bool.false_eq_true, ↓reduceIte]; exact no
 · obtain ⟨hs, h30⟩ := hQ rfl
   simp only [↓reduceIte]
   have yes : Ev (fun k => scarfjointlaw18_StatisticOf.j0 k false l l1 g es) true := by
    refine Ev.step (fun k => by rw [scarfjointlaw18_StatisticOf.j0]) ?_
    simp only [Bool.false_eq_true, ↓reduceIte]
    refine Ev.bind (of_ev l l1 hl.2 hs hl1.2 h30 g es) ?_
    refine Ev.bind (rof_ev l l1 hl.2 hs hl1.2 h30 g es) ?_
    simp only [↓reduceIte]
    have hlen : (ofE l l1 g es).1.length ≤ 1000 ∧ (ofE l l1 g es).2.1.length ≤ 1000 := by
     unfold ofE
     split
     · next h0 =>
       obtain ⟨_, hG, _, _⟩ := typed_facts h0
       obtain ⟨f1, f2, _, _⟩ := graph_facts hG
       have a1 := (ns_acc hG).len
       have a2 := (es_acc hG).len
       exact ⟨by show (nsE g).length ≤ 1000; omega, by show (esE g es).length ≤ 1000; omega⟩
     · exact ⟨Nat.zero_le _, Nat.zero_le _⟩
    refine Ev.bind (same_ev _ _ hlen.1 hlen.2) ?_
    simp only [↓reduceIte]
    by_cases h0 : typedE l l1 g es = 0
    · have e : ofE l l1 g es = (nsE g, esE g es, 0) := by unfold ofE; rw [if_pos h0]
      rw [e] at hlen ⊢
      simp only [↓reduceIte]
      refine Ev.bind (sval_ev l l1 hl.2 hs hl1.2 h30 _ _ hlen.1 hlen.2) ?_
      rw [of_valid h0]
      exact Ev.now _
    · have e : ofE l l1 g es = ([], [], typedE l l1 g es) := by unfold ofE; rw [if_neg h0]
      rw [e]
      simp only [h0, ↓reduceIte]; exact Ev.now _
   have few : q5_Few.f g es = some true ∨ q5_Few.f g es = some false := by
    unfold q5_Few.f
    split
    · cases decide ((es.length : Int) ≤ 90)
      · exact Or.inr rfl
      · exact Or.inl rfl
    · exact Or.inr rfl
   rcases few with e | e
   · rw [e]; simp only [Option.bind_some, Bool.not_true]; exact yes
   · rw [e]; simp only [Option.bind_some, Bool.not_false]; exact no
end Go.Proofs.YtfpianecohobjaaGreat.P
